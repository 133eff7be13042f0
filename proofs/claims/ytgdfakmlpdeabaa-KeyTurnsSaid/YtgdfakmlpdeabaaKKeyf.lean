-- Written by wip/pack.py of this repo: texts of this claim, put together.
import Derived.DataReads
import Derived.OpenShut
import Derived.ChangeArms
import Derived.Test.YtgdfakmlpdeabaaKKeye
namespace Go.Proofs.Ytgdfakmlpdeabaa.XKey
open Go.RowKit Go.Proofs.YtgdfakmlpdeabaaW.PrintWords Go.Proofs.YtgdfakmlpdeabaaW.PrintLast Go.Proofs.YtgdfakmlpdeabaaW.PrintMore
attribute [local go_sem] max2_int min2_int max_two min_two max_three min_three max_four min_four   -- for this text's walks alone
set_option linter.unusedVariables false
set_option linter.unusedSimpArgs false
/-! ### dropperref06_IsPlay: function 46 -/
def dropperref06_IsPlay.f (k : Nat) (a0_0 : Int) (l0_1 : List (S64)) (l1 : List Int) (l2 : List Int) : Option (Bool × Int) := (dropperref06_After.f k a0_0 l0_1 l1 l2).bind fun bt551 => (if bt551.2 = 5 then (some (false, 0)) else (some ((bt551.2 == 0), bt551.2)))
set_option maxHeartbeats 8000000 in
set_option maxRecDepth 100000 in
theorem dropperref06_IsPlay.calls (k : Nat) (a0_0 : Int) (A0_1 : Option Addr) (c0_1 : Nat) (l0_1 : List (S64)) (A1 : Option Addr) (c1 : Nat) (l1 : List Int) (A2 : Option Addr) (c2 : Nat) (l2 : List Int) (r1 : Bool) (r2 : Int) (w : World) (hr0_1 : Kd.C k64 w A0_1 l0_1.length l0_1) (hc0_1 : l0_1.length ≤ c0_1) (hr1 : Kd.C (Kd.int .i64) w A1 l1.length l1) (hc1 : l1.length ≤ c1) (hr2 : Kd.C (Kd.int .i64) w A2 l2.length l2) (hc2 : l2.length ≤ c2) (h : dropperref06_IsPlay.f k a0_0 l0_1 l1 l2 = some (r1, r2)) :
  Calls Try.prog 46 #[.agg #[.int .i64 a0_0, .slice A0_1 l0_1.length c0_1], .slice A1 l1.length c1, .slice A2 l2.length c2] w fun e w' => e = .returned (.tuple #[.bool r1, .int .i64 r2]) ∧ Below w.heap.size w w' := by
 have hu24 := Try.underlying24
 have HR0_1 := Aside0.mk hr0_1
 have HC0_1 := Aside0.mk hc0_1
 clear hr0_1 hc0_1
 have HR1 := Aside0.mk hr1
 have HC1 := Aside0.mk hc1
 clear hr1 hc1
 have HR2 := Aside0.mk hr2
 have HC2 := Aside0.mk hc2
 clear hr2 hc2
 have HB := Aside0.mk (Below.refl w.heap.size w)
 have H : ((dropperref06_After.f k a0_0 l0_1 l1 l2).bind fun bt551 => (if bt551.2 = 5 then (some (false, 0)) else (some ((bt551.2 == 0), bt551.2)))) = some (r1, r2) := h
 clear h
 replace H := Option.bind_eq_some_iff.mp H
 obtain ⟨⟨t551, t554⟩, A40, H⟩ := H
 try dsimp only at H
 have A4 := Aside0.mk A40
 clear A40
 by_cases c5 : t554 = 5
 ·
  rw [if_pos c5] at H
  have c5b0 : (t554 == 5) = true := beq_iff_eq.mpr c5
  have c5b1 : (t554 != 5) = false := bne_eq_false_iff_eq.mpr c5
  clear c5
  simp only [Option.some.injEq, Prod.mk.injEq] at H
  obtain ⟨rfl, rfl⟩ := H
  go_enter Try.func46, Try.ntmps46
  go_wp2_with (first | ((with_reducible refine gate_dst (N := 3) rfl ?_); refine box_event ?hg (N := 3) ?hd (cs := #[.int .i64 a0_0, .slice A0_1 l0_1.length c0_1]) (t := 24) ?hr ?_; (case hd => rfl); (case hg => rfl); (case hr => first | (go_simp; done) | (go_simp; rfl)); intro gb550 hg w6 hbox hb; have BK550 := Aside0.mk (hbox); have GW550 := bsz (w := w) hg; have GE550 := GW550; replace HB := Aside0.mk (below_step bel hb); clear hb hbox hg; obtain ⟨hcz7_0, hcz7_1⟩ := bc2 BK550.out) | ((with_reducible refine gate_callee (f := 44) rfl ?_); refine goesL_ (some 14) rfl rfl Try.func44 (by kernel_rfl) rfl #[.agg #[.int .i64 a0_0, .slice A0_1 l0_1.length c0_1], .slice A1 l1.length c1, .slice A2 l2.length c2] rfl mapz ?_; (with_reducible refine (dropperref06_After.calls k a0_0 _ _ l0_1 (fun k_ => k_ < w.heap.size) _ _ l1 _ _ l2 t551 t554 _ (cbz HR0_1) HC0_1.out ?side3 (cbz HR2) HC2.out A4.out).mono ?_); (case side3 => exact Kd.V_mk HC1.out (Kd.F_below (Kd.C_F (Kd.heap_int .i64) HR1.out) bel)); rintro e w8 ⟨v552, rfl, ho0, hb⟩; refine ⟨_, rfl, ?_⟩; have HO553 := Aside0.mk (Kd.R_lower (Kd.R_mono (ok' := fun k_ => True) ho0 (fun _ hk_ => trivial)) (below_size bel)); replace BK550 := Aside0.mk (blk_below (g := gb550) blkz hb); replace HB := Aside0.mk (below_step bel hb); (try clear hb); (try clear hb2); (try clear hk); (try clear hi); (try clear ho0)))
  go_ret2
  exact ⟨ezz, bel⟩
 ·
  rw [if_neg c5] at H
  have c5b0 : (t554 == 5) = false := beq_eq_false_iff_ne.mpr c5
  have c5b1 : (t554 != 5) = true := bne_iff_ne.mpr c5
  simp only [Option.some.injEq, Prod.mk.injEq] at H
  obtain ⟨rfl, rfl⟩ := H
  go_enter Try.func46, Try.ntmps46
  go_wp2_with (first | ((with_reducible refine gate_dst (N := 3) rfl ?_); refine box_event ?hg (N := 3) ?hd (cs := #[.int .i64 a0_0, .slice A0_1 l0_1.length c0_1]) (t := 24) ?hr ?_; (case hd => rfl); (case hg => rfl); (case hr => first | (go_simp; done) | (go_simp; rfl)); intro gb550 hg w9 hbox hb; have BK550 := Aside0.mk (hbox); have GW550 := bsz (w := w) hg; have GE550 := GW550; replace HB := Aside0.mk (below_step bel hb); clear hb hbox hg; obtain ⟨hcz10_0, hcz10_1⟩ := bc2 BK550.out) | ((with_reducible refine gate_callee (f := 44) rfl ?_); refine goesL_ (some 14) rfl rfl Try.func44 (by kernel_rfl) rfl #[.agg #[.int .i64 a0_0, .slice A0_1 l0_1.length c0_1], .slice A1 l1.length c1, .slice A2 l2.length c2] rfl mapz ?_; (with_reducible refine (dropperref06_After.calls k a0_0 _ _ l0_1 (fun k_ => k_ < w.heap.size) _ _ l1 _ _ l2 t551 t554 _ (cbz HR0_1) HC0_1.out ?side3 (cbz HR2) HC2.out A4.out).mono ?_); (case side3 => exact Kd.V_mk HC1.out (Kd.F_below (Kd.C_F (Kd.heap_int .i64) HR1.out) bel)); rintro e w11 ⟨v552, rfl, ho0, hb⟩; refine ⟨_, rfl, ?_⟩; have HO553 := Aside0.mk (Kd.R_lower (Kd.R_mono (ok' := fun k_ => True) ho0 (fun _ hk_ => trivial)) (below_size bel)); replace BK550 := Aside0.mk (blk_below (g := gb550) blkz hb); replace HB := Aside0.mk (below_step bel hb); (try clear hb); (try clear hb2); (try clear hk); (try clear hi); (try clear ho0)))
  go_ret2
  exact ⟨ezz, bel⟩

end Go.Proofs.Ytgdfakmlpdeabaa.XKey
/- The laws of the keys: what is common. -/
namespace Go.Proofs.Ytgdfakmlpdeabaa.Keys
set_option linter.unusedVariables false
set_option linter.unusedSimpArgs false
open Go.RowKit Go.Proofs.Ytgdfakmlpdeabaa.XKey Go.Proofs.YtgdfakmlpdeabaaW.PrintWords Go.Proofs.YtgdfakmlpdeabaaW.PrintLast Go.Proofs.YtgdfakmlpdeabaaW.PrintMore
theorem ev_const {α : Type} {o : Option α} {r : α} (h : o = some r) : Ev (fun _ => o) r := ⟨0, fun _ _ => h⟩
theorem ev_pos {α : Type} {c : Prop} [Decidable c] {a b : Nat → Option α} {r : α} (hc : c) (h : Ev a r) : Ev (fun k => if c then a k else b k) r :=
 Ev.congr (fun k => if_pos hc) h
theorem ev_neg {α : Type} {c : Prop} [Decidable c] {a b : Nat → Option α} {r : α} (hc : ¬ c) (h : Ev b r) : Ev (fun k => if c then a k else b k) r :=
 Ev.congr (fun k => if_neg hc) h
theorem ev_some {α β : Type} {a : α} {f : Nat → α → Option β} {r : β} (h : Ev (fun k => f k a) r) : Ev (fun k => (some a).bind (f k)) r := h
theorem ev_bind1 {α β : Type} {g : Nat → Option α} {f : Nat → α → Option β} {a : α} {r : β} (h : Ev g a) (k : Ev (fun n => f n a) r) : Ev (fun n => (g n).bind (f n)) r := Ev.bind h k
theorem ev_val {α β : Type} {g : Option α} {f : Nat → α → Option β} {a : α} {r : β} (h : g = some a) (k : Ev (fun n => f n a) r) : Ev (fun n => g.bind (f n)) r := by subst h; exact k
theorem wrap_id {x : Int} (h0 : -9223372036854775808 ≤ x) (h1 : x ≤ 9223372036854775807) : wrap64 x = x := by unfold wrap64; omega
theorem wrap_succ {l : Nat} (n : Nat) (h : n < l) (hl : l ≤ 9223372036854775807) : wrap64 ((n : Int) + 1) = ((n + 1 : Nat) : Int) := by rw [wrap_id] <;> omega
theorem rd_at (xs : List Int) (i : Nat) (h : i < xs.length) : rd xs (i : Int) = xs[i] := by simp [rd, List.getD_eq_getElem?_getD, h]
theorem rd_L (xs : List (List Int)) (i : Nat) (h : i < xs.length) : rd_L1 xs (i : Int) = xs[i] := by simp [rd_L1, List.getD_eq_getElem?_getD, h]
theorem rd_S (xs : List S64) (i : Nat) (h : i < xs.length) : rd_T64 xs (i : Int) = xs[i] := by simp [rd_T64, List.getD_eq_getElem?_getD, h]
theorem ev_loop {α β : Type} {l : List α} (hl : l.length ≤ 9223372036854775807) {F : Nat → Int → Option β} (g : List α → β)
  (hend : Ev (fun k => F k (l.length : Int)) (g []))
  (hstep : ∀ i (h : i < l.length), wrap64 ((i : Int) + 1) = ((i + 1 : Nat) : Int) → Ev (fun k => F k ((i + 1 : Nat) : Int)) (g (l.drop (i + 1))) → Ev (fun k => F k (i : Int)) (g (l[i] :: l.drop (i + 1)))) : Ev (fun k => F k 0) (g l) := by
 have H : ∀ (d i : Nat), i + d = l.length → Ev (fun k => F k (i : Int)) (g (l.drop i)) := by
  intro d
  induction d with
  | zero =>
   intro i hi
   have e : i = l.length := by omega
   subst e
   rw [List.drop_length]
   exact hend
  | succ d ih =>
   intro i hi
   rw [List.drop_eq_getElem_cons (by omega)]
   exact hstep i (by omega) (wrap_succ i (by omega) hl) (ih (i + 1) (by omega))
 exact H l.length 0 (by omega)
/-! ### lists of numbers -/
theorem same_refl (l : List Int) (hl : l.length ≤ 9223372036854775807) : Ev (fun k => dropperlaw06_SameInts.f k l l) true := by
 unfold dropperlaw06_SameInts.f
 refine ev_pos rfl ?_
 refine ev_loop (l := l) hl (F := fun k i => dropperlaw06_SameInts.l0 k l l i) (fun _ => true) ?_ ?_
 ·
  refine Ev.step (fun k => by rw [dropperlaw06_SameInts.l0]) (ev_neg (by omega) ?_); exact Ev.now _
 ·
  intro i h hw ih
  refine Ev.step (fun k => by rw [dropperlaw06_SameInts.l0]) (ev_pos (by omega) (ev_pos (by omega) (ev_pos (by omega) (ev_pos rfl ?_))))
  rw [hw]; exact ih
theorem large_ev (n : Int) (ts : List S64) (ls : List (List Int)) (h1 : ts.length ≤ 9223372036854775807) (h2 : ls.length ≤ 9223372036854775807) : ∃ b, Ev (fun k => dropperlaw06_Large.f k n ts ls) b := by
 unfold dropperlaw06_Large.f
 have H2 : Ev (fun k => dropperlaw06_Large.l1 k ls 0 n ts) (ls.any (fun l => decide ((l.length : Int) > 20)) || decide ((ts.length : Int) > 20)) := by
  refine ev_loop (l := ls) h2 (F := fun k i => dropperlaw06_Large.l1 k ls i n ts) (fun r => r.any (fun l => decide ((l.length : Int) > 20)) || decide ((ts.length : Int) > 20)) ?_ ?_
  ·
   refine Ev.step (fun k => by rw [dropperlaw06_Large.l1]) (ev_neg (by omega) ?_); exact Ev.now _
  ·
   intro i h hw ih
   refine Ev.step (fun k => by rw [dropperlaw06_Large.l1]) (ev_pos (by omega) (ev_pos (by omega) ?_))
   rw [rd_L ls i h, List.any_cons]
   by_cases hc : (ls[i].length : Int) > 20
   ·
    rw [decide_eq_true hc]; exact ev_pos hc (Ev.now _)
   ·
    rw [decide_eq_false hc, Bool.false_or]; refine ev_neg hc ?_; rw [hw]; exact ih
 refine ⟨_, ev_loop (l := ts) h1 (F := fun k i => dropperlaw06_Large.l0 k ls i n ts) (fun r => r.any (fun t => decide ((t.f0.length : Int) > 20) || decide ((t.f1.length : Int) > 20)) || (ls.any (fun l => decide ((l.length : Int) > 20)) || decide ((ts.length : Int) > 20))) ?_ ?_⟩
 ·
  refine Ev.step (fun k => by rw [dropperlaw06_Large.l0]) (ev_neg (by omega) ?_)
  exact H2
 ·
  intro i h hw ih
  refine Ev.step (fun k => by rw [dropperlaw06_Large.l0]) (ev_pos (by omega) (ev_pos (by omega) ?_))
  rw [rd_S ts i h, List.any_cons]
  by_cases hc : (ts[i].f0.length : Int) > 20
  ·
   rw [decide_eq_true hc]; exact ev_pos hc (Ev.now _)
  ·
   rw [decide_eq_false hc, Bool.false_or]; refine ev_neg hc ?_
   by_cases hd : (ts[i].f1.length : Int) > 20
   ·
    rw [decide_eq_true hd]; exact ev_pos hd (Ev.now _)
   ·
    rw [decide_eq_false hd, Bool.false_or]; refine ev_neg hd ?_; rw [hw]; exact ih
def okL (n lo hi : Int) (l : List Int) : Bool := decide ((l.length : Int) = n) && !(l.any (key_isList.bad lo hi))
theorem from_val (a b c : Int) : dropperref06_from.f a b c = some (decide (a ≤ b) && decide (b ≤ c)) := by
 unfold dropperref06_from.f
 by_cases h : a ≤ b
 ·
  rw [if_pos h, decide_eq_true h, Bool.true_and]
 ·
  rw [if_neg h, decide_eq_false h, Bool.false_and]
theorem rlist_ev (l : List Int) (n lo hi : Int) (hl : l.length ≤ 9223372036854775807) : Ev (fun k => dropperref06_list.f k l n lo hi) (okL n lo hi l) := by
 unfold dropperref06_list.f okL
 refine ev_loop (l := l) hl (F := fun k i => dropperref06_list.l0 k l n lo hi i) (fun r => decide ((l.length : Int) = n) && !(r.any (key_isList.bad lo hi))) ?_ ?_
 ·
  refine Ev.step (fun k => by rw [dropperref06_list.l0]) (ev_neg (by omega) ?_)
  refine ev_const (congrArg some ?_)
  simp only [List.any_nil, Bool.not_false, Bool.and_true]
  by_cases h : (l.length : Int) = n
  ·
   rw [decide_eq_true h]; simp [h]
  ·
   rw [decide_eq_false h]; simpa using h
 ·
  intro i h hw ih
  refine Ev.step (fun k => by rw [dropperref06_list.l0]) (ev_pos (by omega) (ev_pos (by omega) (ev_val (from_val _ _ _) ?_)))
  rw [rd_at l i h, List.any_cons, key_isList.bad]
  cases hb : (decide (lo ≤ l[i]) && decide (l[i] ≤ hi)) with
  | true => refine ev_pos rfl ?_; rw [Bool.not_true, Bool.false_or, hw]; exact ih
  | false => refine ev_neg (by decide) ?_; rw [Bool.not_false, Bool.true_or, Bool.not_true, Bool.and_false]; exact Ev.now _
theorem okL_iff (n lo hi : Int) (l : List Int) : okL n lo hi l = true ↔ (l.length : Int) = n ∧ ∀ x ∈ l, lo ≤ x ∧ x ≤ hi := by
 simp [okL, key_isList.bad]
/-! ### boards -/
def okT (n : Int) (t : S64) : Bool := okL n 0 3 t.f0 && okL n 0 3 t.f1
def okB (n : Int) (ts : List S64) : Bool := ((decide (1 ≤ n) && decide (n ≤ 6)) && decide ((ts.length : Int) ≤ 8)) && ts.all (okT n)
theorem bad_eq (n : Int) (t : S64) : key_Valid.bad n t = !(okT n t) := by simp [key_Valid.bad, okT, okL]
theorem Valid_val (n : Int) (ts : List S64) : key_Valid.f n ts = some (okB n ts) := by
 unfold key_Valid.f okB
 rw [show key_Valid.bad n = fun t => !(okT n t) from funext (bad_eq n)]
 simp [List.all_eq_not_any_not]
def Fits (ts : List S64) : Prop := ts.length ≤ 9223372036854775807 ∧ ∀ t ∈ ts, t.f0.length ≤ 9223372036854775807 ∧ t.f1.length ≤ 9223372036854775807
theorem rValid_ev (n : Int) (ts : List S64) (hf : Fits ts) : Ev (fun k => dropperref06_Valid.f k n ts) (okB n ts) := by
 unfold dropperref06_Valid.f okB
 refine ev_val (from_val _ _ _) ?_
 have HJ : Ev (fun k => dropperref06_Valid.j0 k true n ts) false := Ev.step (fun k => by rw [dropperref06_Valid.j0]) (ev_pos rfl (Ev.now _))
 cases hb : (decide (1 ≤ n) && decide (n ≤ 6)) with
 | false => refine ev_neg (by decide) ?_; simpa using HJ
 | true =>
  refine ev_pos rfl ?_
  by_cases hl : (ts.length : Int) ≤ 8
  ·
   rw [decide_eq_true hl, decide_eq_false (show ¬ (ts.length : Int) > 8 by omega)]
   refine Ev.step (fun k => by rw [dropperref06_Valid.j0]) (ev_neg (by decide) ?_)
   simp only [Bool.true_and]
   refine ev_loop (l := ts) hf.1 (F := fun k i => dropperref06_Valid.l0 k i n ts) (fun r => r.all (okT n)) ?_ ?_
   ·
    refine Ev.step (fun k => by rw [dropperref06_Valid.l0]) (ev_neg (by omega) ?_); exact Ev.now _
   ·
    intro i h hw ih
    have hfi := hf.2 ts[i] (List.getElem_mem h)
    refine Ev.step (fun k => by rw [dropperref06_Valid.l0]) (ev_pos (by omega) (ev_pos (by omega) ?_))
    rw [rd_S ts i h, List.all_cons]
    refine ev_bind1 (rlist_ev _ _ _ _ hfi.1) ?_
    cases h0 : okL n 0 3 ts[i].f0 with
    | false => refine ev_neg (by decide) ?_; rw [okT, h0]; exact Ev.now _
    | true =>
     refine ev_pos rfl (ev_bind1 (rlist_ev _ _ _ _ hfi.2) ?_)
     cases h1 : okL n 0 3 ts[i].f1 with
     | false => refine ev_neg (by decide) ?_; rw [okT, h0, h1]; exact Ev.now _
     | true => refine ev_pos rfl ?_; rw [okT, h0, h1, hw]; exact ih
  ·
   rw [decide_eq_false hl, decide_eq_true (show (ts.length : Int) > 8 by omega)]
   simpa using HJ
end Go.Proofs.Ytgdfakmlpdeabaa.Keys

/- Moves: program and reference reckon alike. -/
namespace Go.Proofs.Ytgdfakmlpdeabaa.Keys
set_option linter.unusedVariables false
set_option linter.unusedSimpArgs false
open Go.RowKit Go.Proofs.Ytgdfakmlpdeabaa.XKey Go.Proofs.YtgdfakmlpdeabaaW.PrintWords Go.Proofs.YtgdfakmlpdeabaaW.PrintLast Go.Proofs.YtgdfakmlpdeabaaW.PrintMore
def asks (n : Int) (ts : List S64) (ls : List (List Int)) : Int := if okB n ts = true then (if ls.all (okL n 0 100) = true then 0 else 61) else 60
theorem open_val (n : Int) (ts : List S64) (ls : List (List Int)) : key_open.f n ts ls = some (asks n ts ls) := by
 unfold key_open.f asks
 rw [Valid_val, Option.bind_some]
 have h : ls.any (key_open.bad n) = !(ls.all (okL n 0 100)) := by
  rw [show key_open.bad n = fun l => !(okL n 0 100 l) from rfl]
  simp [List.all_eq_not_any_not]
 cases okB n ts with
 | false => rw [if_neg (by decide), if_neg (by decide)]
 | true =>
  rw [if_pos rfl, if_pos rfl, h]
  cases ls.all (okL n 0 100) <;> rfl
theorem Keys_ev (n : Int) (ts : List S64) (l : List Int) (hl : l.length ≤ 9223372036854775807) : Ev (fun k => dropperref06_Keys.f k n ts l) (okL n 0 100 l) := by
 unfold dropperref06_Keys.f
 exact ev_bind1 (rlist_ev l n 0 100 hl) (Ev.now _)
theorem asked_ev (n : Int) (ts : List S64) (ls : List (List Int)) (hf : Fits ts) (h1 : ls.length ≤ 9223372036854775807) (h2 : ∀ l ∈ ls, l.length ≤ 9223372036854775807) : Ev (fun k => dropperref06_asked.f k n ts ls) (asks n ts ls) := by
 unfold dropperref06_asked.f asks
 refine ev_bind1 (rValid_ev n ts hf) ?_
 cases okB n ts with
 | false => exact ev_neg (by decide) (Ev.now _)
 | true =>
  refine ev_pos rfl ?_
  rw [if_pos rfl]
  refine ev_loop (l := ls) h1 (F := fun k i => dropperref06_asked.l0 k ls i n ts) (fun r => if r.all (okL n 0 100) = true then 0 else 61) ?_ ?_
  ·
   refine Ev.step (fun k => by rw [dropperref06_asked.l0]) (ev_neg (by omega) ?_); exact Ev.now _
  ·
   intro i h hw ih
   refine Ev.step (fun k => by rw [dropperref06_asked.l0]) (ev_pos (by omega) (ev_pos (by omega) ?_))
   rw [rd_L ls i h, List.all_cons]
   refine ev_bind1 (Keys_ev n ts _ (h2 _ (List.getElem_mem h))) ?_
   cases okL n 0 100 ls[i] with
   | false => exact ev_neg (by decide) (Ev.now _)
   | true => refine ev_pos rfl ?_; rw [Bool.true_and, hw]; exact ih
def mv : List Int → List Int → List Int → Option (List Int)
 | x :: xs, n :: ns, g :: gs => if x < n ∨ 100 < x - n + g then none else (mv xs ns gs).map fun r => (x - n + g) :: r
 | _, _, _ => some []
theorem mv_len : ∀ {xs ns gs r : List Int}, mv xs ns gs = some r → xs.length = ns.length → xs.length = gs.length → r.length = xs.length
 | [], [], [], r, h, _, _ => by cases h; rfl
 | x :: xs, n :: ns, g :: gs, r, h, h1, h2 => by
  rw [mv] at h
  split at h
  ·
   cases h
  ·
   obtain ⟨q, e, rfl⟩ := Option.map_eq_some_iff.1 h
   have := mv_len e (by simpa using h1) (by simpa using h2)
   simp [this]
def In (lo hi : Int) (l : List Int) : Prop := ∀ x ∈ l, lo ≤ x ∧ x ≤ hi
theorem mv_in : ∀ {xs ns gs r : List Int}, mv xs ns gs = some r → In 0 100 xs → In 0 3 ns → In 0 3 gs → In 0 100 r
 | x :: xs, n :: ns, g :: gs, r, h, h1, h2, h3 => by
  rw [mv] at h
  split at h
  ·
   cases h
  ·
   rename_i hc
   obtain ⟨q, e, rfl⟩ := Option.map_eq_some_iff.1 h
   have hq := mv_in e (fun y hy => h1 y (List.mem_cons_of_mem _ hy)) (fun y hy => h2 y (List.mem_cons_of_mem _ hy)) (fun y hy => h3 y (List.mem_cons_of_mem _ hy))
   have := h1 x (List.mem_cons_self ..); have := h2 n (List.mem_cons_self ..); have := h3 g (List.mem_cons_self ..)
   intro y hy
   rcases List.mem_cons.1 hy with rfl | hy
   ·
    omega
   ·
    exact hq y hy
 | [], _, _, r, h, _, _, _ => by simp [mv] at h; subst h; intro y hy; cases hy
 | _ :: _, [], _, r, h, _, _, _ => by simp [mv] at h; subst h; intro y hy; cases hy
 | _ :: _, _ :: _, [], r, h, _, _, _ => by simp [mv] at h; subst h; intro y hy; cases hy
theorem mv_back : ∀ {xs ns gs r : List Int}, mv xs ns gs = some r → xs.length = ns.length → xs.length = gs.length → In 0 100 xs → In 0 3 ns → In 0 3 gs → mv r gs ns = some xs
 | [], [], [], r, h, _, _, _, _, _ => by cases h; rfl
 | x :: xs, n :: ns, g :: gs, r, h, l1, l2, h1, h2, h3 => by
  rw [mv] at h
  split at h
  ·
   cases h
  ·
   rename_i hc
   obtain ⟨q, e, rfl⟩ := Option.map_eq_some_iff.1 h
   have hq := mv_back e (by simpa using l1) (by simpa using l2) (fun y hy => h1 y (List.mem_cons_of_mem _ hy)) (fun y hy => h2 y (List.mem_cons_of_mem _ hy)) (fun y hy => h3 y (List.mem_cons_of_mem _ hy))
   have := h1 x (List.mem_cons_self ..); have := h2 n (List.mem_cons_self ..); have := h3 g (List.mem_cons_self ..)
   rw [mv, if_neg (by omega), hq]
   simp only [Option.map_some]
   congr 2
   omega
theorem made_go : ∀ {ns xs p z g : List Int}, xs.length = ns.length → xs.length = (g.drop p.length).length → p.length + ns.length ≤ 6 → In 0 100 xs → In 0 3 ns → In 0 3 (g.drop p.length) →
  key_keys_made.go ns (p.length : Int) g (p ++ xs ++ z) = some (match mv xs ns (g.drop p.length) with | none => ([0, 0, 0, 0, 0, 0], false) | some r => (p ++ r ++ z, true))
 | [], [], p, z, g, _, hg, _, _, _, _ => by
  have : g.drop p.length = [] := List.eq_nil_of_length_eq_zero hg.symm
  rw [key_keys_made.go, mv]
  simp
 | n :: ns, x :: xs, p, z, g, h1, h2, h6, hx, hn, hg => by
  have hlt : p.length < g.length := by simp at h2; omega
  have hd : g.drop p.length = g[p.length] :: g.drop (p.length + 1) := List.drop_eq_getElem_cons hlt
  have e1 : rd (p ++ (x :: xs) ++ z) (p.length : Int) = x := by rw [rd_at _ _ (by simp)]; simp [List.getElem_append]
  have e2 : rd g (p.length : Int) = g[p.length] := rd_at _ _ hlt
  rw [hd] at hg h2 ⊢
  have b1 := hx x (List.mem_cons_self ..); have b2 := hn n (List.mem_cons_self ..); have b3 := hg g[p.length] (List.mem_cons_self ..)
  rw [key_keys_made.go, if_pos (by simp at h6; omega), e1, e2, mv]
  have w1 : wrap64 (wrap64 (x - n) + g[p.length]) = x - n + g[p.length] := by rw [wrap_id (x := x - n) (by omega) (by omega), wrap_id (by omega) (by omega)]
  have w2 : wrap64 (x + wrap64 (g[p.length] - n)) = x - n + g[p.length] := by rw [wrap_id (x := g[p.length] - n) (by omega) (by omega), wrap_id (by omega) (by omega)]; omega
  rw [w2]
  have hbad : key_keys_made.bad x n g[p.length] ↔ (x < n ∨ 100 < x - n + g[p.length]) := by
   show (x < n ∨ 100 < wrap64 (wrap64 (x - n) + g[p.length])) ↔ _
   rw [w1]
  by_cases hc : x < n ∨ 100 < x - n + g[p.length]
  ·
   rw [if_pos (hbad.2 hc), if_pos hc]
  ·
   rw [if_neg (fun h => hc (hbad.1 h)), if_neg hc]
   have es : (p ++ (x :: xs) ++ z).set (p.length : Int).toNat (x - n + g[p.length]) = (p ++ [x - n + g[p.length]]) ++ xs ++ z := by simp
   have ep : ((p.length : Int) + 1) = ((p ++ [x - n + g[p.length]]).length : Int) := by simp
   have hl : (p ++ [x - n + g[p.length]]).length = p.length + 1 := by simp
   rw [es, ep]
   have hr := made_go (ns := ns) (xs := xs) (p := p ++ [x - n + g[p.length]]) (z := z) (g := g) (by simpa using h1) (by rw [hl]; simp at h2 ⊢; omega) (by rw [hl]; simp at h6; omega) (fun y hy => hx y (List.mem_cons_of_mem _ hy)) (fun y hy => hn y (List.mem_cons_of_mem _ hy)) (by rw [hl]; exact fun y hy => hg y (List.mem_cons_of_mem _ hy))
   rw [hr, hl]
   cases mv xs ns (g.drop (p.length + 1)) with
   | none => rfl
   | some r => simp
theorem six_app : ∀ (xs : List Int), xs.length ≤ 6 → six xs = xs ++ List.replicate (6 - xs.length) 0
 | [], _ => rfl
 | [_], _ => rfl
 | [_, _], _ => rfl
 | [_, _, _], _ => rfl
 | [_, _, _, _], _ => rfl
 | [_, _, _, _, _], _ => rfl
 | [_, _, _, _, _, _], _ => rfl
 | _ :: _ :: _ :: _ :: _ :: _ :: _ :: _, h => by simp at h
theorem six_rd (xs : List Int) (h : xs.length ≤ 6) (i : Int) : rd (xs ++ List.replicate (6 - xs.length) 0) i = rd xs i := by
 simp only [rd, List.getD_eq_getElem?_getD, List.getElem?_append]
 split
 ·
  rfl
 ·
  rename_i hc
  rw [List.getElem?_eq_none (by omega : xs.length ≤ i.toNat)]
  rw [List.getElem?_replicate]
  split <;> rfl
theorem made_val (xs ns gs : List Int) (h1 : xs.length = ns.length) (h2 : xs.length = gs.length) (h6 : xs.length ≤ 6) (hx : In 0 100 xs) (hn : In 0 3 ns) (hg : In 0 3 gs) :
  key_keys_made.f (rd xs 0) (rd xs 1) (rd xs 2) (rd xs 3) (rd xs 4) (rd xs 5) ns gs = some (match mv xs ns gs with | none => (0, 0, 0, 0, 0, 0, false) | some r => (rd r 0, rd r 1, rd r 2, rd r 3, rd r 4, rd r 5, true)) := by
 unfold key_keys_made.f
 have e := six_app xs h6
 rw [six] at e
 rw [e]
 have h := made_go (ns := ns) (xs := xs) (p := []) (z := List.replicate (6 - xs.length) 0) (g := gs) h1 (by simpa using h2) (by simpa using (h1 ▸ h6)) hx hn (by simpa using hg)
 simp only [List.nil_append, List.length_nil, List.drop_zero, Int.ofNat_zero] at h
 rw [h]
 cases hm : mv xs ns gs with
 | none => rfl
 | some r =>
  have hl := mv_len hm h1 h2
  simp only [Option.map_some]
  rw [← hl]
  simp only [six_rd r (by omega)]
theorem list_val (xs : List Int) (n : Int) (h : (xs.length : Int) = n) (h6 : xs.length ≤ 6) : key_keys_list.f (rd xs 0) (rd xs 1) (rd xs 2) (rd xs 3) (rd xs 4) (rd xs 5) n = some xs := by
 unfold key_keys_list.f
 have e := six_app xs h6
 rw [six] at e
 rw [if_pos (by omega), e, ← h]
 simp
theorem after_ev (xs ns gs : List Int) (h1 : xs.length = ns.length) (h2 : xs.length = gs.length) (h6 : xs.length ≤ 6) (hx : In 0 100 xs) (hn : In 0 3 ns) (hg : In 0 3 gs) :
  Ev (fun k => dropperref06_after.f k ns gs xs) (match mv xs ns gs with | none => ([], false) | some r => (r, true)) := by
 unfold dropperref06_after.f
 have H : ∀ (d i : Nat) (acc : List Int), i + d = xs.length → acc.length ≤ i → Ev (fun k => dropperref06_after.l0 k xs acc (i : Int) ns gs) (match mv (xs.drop i) (ns.drop i) (gs.drop i) with | none => ([], false) | some r => (acc ++ r, true)) := by
  intro d
  induction d with
  | zero =>
   intro i acc hi ha
   rw [List.drop_eq_nil_of_le (by omega : xs.length ≤ i), mv]
   ·
    refine Ev.step (fun k => by rw [dropperref06_after.l0]) (ev_neg (by omega) ?_)
    simp only [List.append_nil]; exact Ev.now _
   ·
    intro _ _ _ _ _ _ h; cases h
  | succ d ih =>
   intro i acc hi ha
   have hx0 := hx xs[i] (List.getElem_mem _); have hn0 := hn ns[i] (List.getElem_mem _); have hg0 := hg gs[i] (List.getElem_mem _)
   refine Ev.step (fun k => by rw [dropperref06_after.l0]) (ev_pos (by omega) (ev_pos (by omega) (ev_pos (by omega) ?_)))
   rw [rd_at xs i (by omega), rd_at ns i (by omega), rd_at gs i (by omega)]
   rw [List.drop_eq_getElem_cons (by omega : i < xs.length), List.drop_eq_getElem_cons (by omega : i < ns.length), List.drop_eq_getElem_cons (by omega : i < gs.length), mv]
   rw [wrap_id (x := xs[i] - ns[i]) (by omega) (by omega), wrap_id (x := xs[i] - ns[i] + gs[i]) (by omega) (by omega)]
   by_cases c1 : xs[i] < ns[i]
   ·
    rw [if_pos (Or.inl c1)]; exact ev_pos (by omega) (Ev.now _)
   refine ev_neg (by omega) (ev_pos (by omega) ?_)
   by_cases c2 : 100 < xs[i] - ns[i] + gs[i]
   ·
    rw [if_pos (Or.inr c2)]; exact ev_pos (by omega) (Ev.now _)
   rw [if_neg (by omega)]
   refine ev_neg (by omega) (ev_pos (by omega) ?_)
   rw [wrap_succ (l := xs.length) i (by omega) (by omega)]
   have := ih (i + 1) (acc ++ [xs[i] - ns[i] + gs[i]]) (by omega) (by simp; omega)
   cases hm : mv (xs.drop (i + 1)) (ns.drop (i + 1)) (gs.drop (i + 1)) with
   | none => rw [hm] at this; exact this
   | some r => rw [hm] at this; simpa using this
 have := H xs.length 0 [] (by omega) (by simp)
 simpa using this
end Go.Proofs.Ytgdfakmlpdeabaa.Keys

/- Plays: program and reference reckon alike. -/
namespace Go.Proofs.Ytgdfakmlpdeabaa.Keys
set_option linter.unusedVariables false
set_option linter.unusedSimpArgs false
open Go.RowKit Go.Proofs.Ytgdfakmlpdeabaa.XKey Go.Proofs.YtgdfakmlpdeabaaW.PrintWords Go.Proofs.YtgdfakmlpdeabaaW.PrintLast Go.Proofs.YtgdfakmlpdeabaaW.PrintMore
theorem okT_iff (n : Int) (t : S64) : okT n t = true ↔ ((t.f0.length : Int) = n ∧ In 0 3 t.f0) ∧ ((t.f1.length : Int) = n ∧ In 0 3 t.f1) := by
 rw [okT, Bool.and_eq_true, okL_iff, okL_iff]; exact Iff.rfl
theorem okB_iff (n : Int) (ts : List S64) : okB n ts = true ↔ (1 ≤ n ∧ n ≤ 6) ∧ ts.length ≤ 8 ∧ ∀ t ∈ ts, okT n t = true := by
 simp only [okB, Bool.and_eq_true, decide_eq_true_eq, List.all_eq_true]
 constructor
 ·
  rintro ⟨⟨⟨a, b⟩, c⟩, d⟩; exact ⟨⟨a, b⟩, by omega, d⟩
 ·
  rintro ⟨⟨a, b⟩, c, d⟩; exact ⟨⟨⟨a, b⟩, by omega⟩, d⟩
theorem asks_zero {n : Int} {ts : List S64} {ls : List (List Int)} (h : asks n ts ls = 0) : okB n ts = true ∧ ∀ l ∈ ls, okL n 0 100 l = true := by
 unfold asks at h
 split at h
 ·
  split at h
  ·
   rename_i h1 h2; exact ⟨h1, List.all_eq_true.1 h2⟩
  ·
   omega
 ·
  omega
theorem asks_two {n : Int} {ts : List S64} {ls : List (List Int)} : asks n ts ls = 0 ∨ asks n ts ls = 60 ∨ asks n ts ls = 61 := by
 unfold asks; split
 ·
  split <;> simp
 ·
  simp
structure St (n : Int) (l : List Int) : Prop where
 len : (l.length : Int) = n
 rng : In 0 100 l
theorem St.of {n : Int} {l : List Int} (h : okL n 0 100 l = true) : St n l := ⟨((okL_iff _ _ _ _).1 h).1, ((okL_iff _ _ _ _).1 h).2⟩
theorem St.mk' {n : Int} {l : List Int} (h : St n l) : okL n 0 100 l = true := (okL_iff _ _ _ _).2 ⟨h.len, h.rng⟩
theorem St.mv {n : Int} {l r : List Int} {t : S64} (h : St n l) (ht : okT n t = true) (e : mv l t.f0 t.f1 = some r) : St n r := by
 obtain ⟨⟨a, b⟩, c, d⟩ := (okT_iff n t).1 ht
 have h1 := h.len
 refine ⟨?_, mv_in e h.rng b d⟩
 rw [mv_len e (by omega) (by omega)]; exact h.len
theorem made_st {n : Int} {l : List Int} {t : S64} (hn : n ≤ 6) (h : St n l) (ht : okT n t = true) :
  key_keys_made.f (rd l 0) (rd l 1) (rd l 2) (rd l 3) (rd l 4) (rd l 5) t.f0 t.f1 = some (match mv l t.f0 t.f1 with | none => (0, 0, 0, 0, 0, 0, false) | some r => (rd r 0, rd r 1, rd r 2, rd r 3, rd r 4, rd r 5, true)) := by
 obtain ⟨⟨a, b⟩, c, d⟩ := (okT_iff n t).1 ht
 have h1 := h.len
 exact made_val l t.f0 t.f1 (by omega) (by omega) (by omega) h.rng b d
theorem after_st {n : Int} {l : List Int} {t : S64} (hn : n ≤ 6) (h : St n l) (ht : okT n t = true) :
  Ev (fun k => dropperref06_after.f k t.f0 t.f1 l) (match mv l t.f0 t.f1 with | none => ([], false) | some r => (r, true)) := by
 obtain ⟨⟨a, b⟩, c, d⟩ := (okT_iff n t).1 ht
 have h1 := h.len
 exact after_ev l t.f0 t.f1 (by omega) (by omega) (by omega) h.rng b d
theorem list_st {n : Int} {l : List Int} (hn : n ≤ 6) (h : St n l) : key_keys_list.f (rd l 0) (rd l 1) (rd l 2) (rd l 3) (rd l 4) (rd l 5) n = some l := list_val l n h.len (by have := h.len; omega)
def plays (ts : List S64) : List Int → List Int → Option (List Int)
 | x, [] => some x
 | x, a :: ms => (mv x (rd_T64 ts a).f0 (rd_T64 ts a).f1).bind fun y => plays ts y ms
def playsS (ts : List S64) (l ms : List Int) : List Int × Int := match plays ts l ms with | none => ([], 5) | some r => (r, 0)
def AfterS (n : Int) (ts : List S64) (l ms : List Int) : List Int × Int :=
 if asks n ts [l] = 0 then (if (ms.length : Int) > 1000 then ([], 2) else if okL (ms.length : Int) 0 (wrap64 ((ts.length : Int) - 1)) ms = true then playsS ts l ms else ([], 2)) else ([], asks n ts [l])
theorem isList_val (l : List Int) (n lo hi : Int) : key_isList.f l n lo hi = some (okL n lo hi l) := rfl
def Names (ts : List S64) (ms : List Int) : Prop := ∀ a ∈ ms, 0 ≤ a ∧ a < (ts.length : Int)
theorem names_of {ts : List S64} {ms : List Int} (h8 : ts.length ≤ 8) (h : okL (ms.length : Int) 0 (wrap64 ((ts.length : Int) - 1)) ms = true) : Names ts ms := by
 have := ((okL_iff _ _ _ _).1 h).2
 rw [wrap_id (by omega) (by omega)] at this
 intro a ha
 have := this a ha
 omega
theorem of_names {ts : List S64} {ms : List Int} (h8 : ts.length ≤ 8) (h : Names ts ms) : okL (ms.length : Int) 0 (wrap64 ((ts.length : Int) - 1)) ms = true := by
 rw [okL_iff, wrap_id (by omega) (by omega)]
 refine ⟨rfl, fun a ha => ?_⟩
 have := h a ha
 omega
theorem okT_at {n : Int} {ts : List S64} (hts : ∀ t ∈ ts, okT n t = true) {a : Int} (h0 : 0 ≤ a) (h1 : a < (ts.length : Int)) : okT n (rd_T64 ts a) = true := by
 obtain ⟨i, rfl⟩ := Int.eq_ofNat_of_zero_le h0
 rw [rd_S ts i (by omega)]
 exact hts _ (List.getElem_mem _)
theorem kplay_ev {n : Int} {ts : List S64} (hn : n ≤ 6) (hts : ∀ t ∈ ts, okT n t = true) (ms : List Int) (hN : Names ts ms) (hl : ms.length ≤ 1000) :
  ∀ (d i : Nat) (l : List Int), i + d = ms.length → St n l → Ev (fun k => key_After.l0 k ms (ms.length : Int) (i : Int) n ts (rd l 0) (rd l 1) (rd l 2) (rd l 3) (rd l 4) (rd l 5)) (playsS ts l (ms.drop i)) := by
 intro d
 induction d with
 | zero =>
  intro i l hi h
  rw [List.drop_eq_nil_of_le (by omega : ms.length ≤ i)]
  refine Ev.step (fun k => by rw [key_After.l0]) (ev_neg (by omega) (ev_val (list_st hn h) ?_))
  exact Ev.now _
 | succ d ih =>
  intro i l hi h
  have hlt : i < ms.length := by omega
  have ha := hN ms[i] (List.getElem_mem hlt)
  have ht := okT_at hts ha.1 ha.2
  rw [List.drop_eq_getElem_cons hlt]
  refine Ev.step (fun k => by rw [key_After.l0]) (ev_pos (by omega) (ev_pos (by omega) (ev_pos (by omega) ?_)))
  rw [rd_at ms i hlt]
  refine ev_pos ha.1 (ev_pos ha.2 (ev_val (made_st hn h ht) ?_))
  unfold playsS
  rw [plays]
  cases hm : mv l (rd_T64 ts ms[i]).f0 (rd_T64 ts ms[i]).f1 with
  | none => exact ev_neg (by decide) (Ev.now _)
  | some r =>
   refine ev_pos rfl ?_
   rw [wrap_succ (l := ms.length) i hlt (by omega)]
   exact ih (i + 1) r (by omega) (h.mv ht hm)
theorem After_ev (n : Int) (ts : List S64) (l ms : List Int) : Ev (fun k => key_After.f k n ts l ms) (AfterS n ts l ms) := by
 unfold key_After.f AfterS
 refine ev_val (open_val n ts [l]) ?_
 by_cases h0 : asks n ts [l] = 0
 ·
  rw [if_pos h0]
  refine ev_pos h0 ?_
  by_cases h1 : (ms.length : Int) > 1000
  ·
   rw [if_pos h1]; exact ev_pos h1 (Ev.now _)
  rw [if_neg h1]
  refine ev_neg h1 (ev_val (isList_val _ _ _ _) ?_)
  by_cases h2 : okL (ms.length : Int) 0 (wrap64 ((ts.length : Int) - 1)) ms = true
  ·
   rw [if_pos h2]
   refine ev_pos h2 (ev_val rfl ?_)
   obtain ⟨hb, hls⟩ := asks_zero h0
   obtain ⟨⟨b1, b2⟩, b3, b4⟩ := (okB_iff n ts).1 hb
   have := kplay_ev b2 b4 ms (names_of b3 h2) (by omega) ms.length 0 l (by omega) (St.of (hls l (by simp)))
   rw [List.drop_zero] at this
   exact this
  ·
   rw [if_neg h2]; exact ev_neg h2 (Ev.now _)
 ·
  rw [if_neg h0]; exact ev_neg h0 (Ev.now _)
theorem rplay_ev {n : Int} {ts : List S64} (hn : n ≤ 6) (hts : ∀ t ∈ ts, okT n t = true) (ms : List Int) (hN : Names ts ms) (hl : ms.length ≤ 1000) :
  ∀ (d i : Nat) (l : List Int), i + d = ms.length → St n l → Ev (fun k => dropperref06_play.l0 k ms l (i : Int) n ts) (match plays ts l (ms.drop i) with | none => ([], true, false) | some r => (r, true, true)) := by
 intro d
 induction d with
 | zero =>
  intro i l hi h
  rw [List.drop_eq_nil_of_le (by omega : ms.length ≤ i)]
  refine Ev.step (fun k => by rw [dropperref06_play.l0]) (ev_neg (by omega) ?_)
  exact Ev.now _
 | succ d ih =>
  intro i l hi h
  have hlt : i < ms.length := by omega
  have ha := hN ms[i] (List.getElem_mem hlt)
  have ht := okT_at hts ha.1 ha.2
  rw [List.drop_eq_getElem_cons hlt]
  refine Ev.step (fun k => by rw [dropperref06_play.l0]) (ev_pos (by omega) (ev_pos (by omega) ?_))
  rw [rd_at ms i hlt]
  refine ev_pos ha.1 (ev_pos ha.2 (ev_bind1 (after_st hn h ht) ?_))
  rw [plays]
  cases hm : mv l (rd_T64 ts ms[i]).f0 (rd_T64 ts ms[i]).f1 with
  | none => exact ev_neg (by decide) (Ev.now _)
  | some r =>
   refine ev_pos rfl ?_
   rw [wrap_succ (l := ms.length) i hlt (by omega)]
   exact ih (i + 1) r (by omega) (h.mv ht hm)
theorem rAfter_ev (n : Int) (ts : List S64) (l ms : List Int) (hf : Fits ts) (hl : l.length ≤ 9223372036854775807) (ha : ms.length ≤ 9223372036854775807) : Ev (fun k => dropperref06_After.f k n ts l ms) (AfterS n ts l ms) := by
 unfold dropperref06_After.f AfterS
 refine ev_bind1 (asked_ev n ts [l] hf (by simp) (by simpa using hl)) ?_
 by_cases h0 : asks n ts [l] = 0
 ·
  rw [if_pos h0]
  obtain ⟨hb, hls⟩ := asks_zero h0
  obtain ⟨⟨b1, b2⟩, b3, b4⟩ := (okB_iff n ts).1 hb
  have hst := St.of (hls l (by simp))
  have HJ : Ev (fun k => dropperref06_play.j0 k l ms true n ts) ([], false, false) := Ev.step (fun k => by rw [dropperref06_play.j0]) (ev_pos rfl (Ev.now _))
  refine ev_pos h0 ?_
  unfold dropperref06_play.f
  by_cases h1 : (ms.length : Int) > 1000
  ·
   rw [if_pos h1]
   refine ev_bind1 (a := ([], false, false)) (ev_pos h1 HJ) ?_
   exact ev_neg (by decide) (Ev.now _)
  rw [if_neg h1]
  by_cases h2 : okL (ms.length : Int) 0 (wrap64 ((ts.length : Int) - 1)) ms = true
  ·
   rw [if_pos h2]
   have hp := rplay_ev b2 b4 ms (names_of b3 h2) (by omega) ms.length 0 l (by omega) hst
   refine ev_bind1 (a := (match plays ts l ms with | none => ([], true, false) | some r => (r, true, true))) (ev_neg h1 (ev_bind1 (rlist_ev _ _ _ _ ha) ?_)) ?_
   ·
    rw [h2]
    refine Ev.step (fun k => by rw [dropperref06_play.j0]) ?_
    refine ev_neg (by decide) ?_
    refine ev_some ?_
    refine ev_pos ?_ ?_
    ·
     have := hst.len; simp; omega
    ·
     simpa using hp
   ·
    unfold playsS
    cases plays ts l ms with
    | none => exact ev_pos rfl (ev_neg (by decide) (Ev.now _))
    | some r => exact ev_pos rfl (ev_pos rfl (Ev.now _))
  ·
   rw [if_neg h2]
   refine ev_bind1 (a := ([], false, false)) (ev_neg h1 (ev_bind1 (rlist_ev _ _ _ _ ha) ?_)) ?_
   ·
    have h2' : okL (ms.length : Int) 0 (wrap64 ((ts.length : Int) - 1)) ms = false := by simpa using h2
    rw [h2']; exact HJ
   ·
    exact ev_neg (by decide) (Ev.now _)
 ·
  rw [if_neg h0]; exact ev_neg h0 (Ev.now _)
def IsS (p : List Int × Int) : Bool × Int := if p.2 = 5 then (false, 0) else (p.2 == 0, p.2)
theorem IsPlay_ev (n : Int) (ts : List S64) (l ms : List Int) : Ev (fun k => key_IsPlay.f k n ts l ms) (IsS (AfterS n ts l ms)) := by
 unfold key_IsPlay.f IsS
 refine ev_bind1 (After_ev n ts l ms) ?_
 by_cases h : (AfterS n ts l ms).2 = 5
 ·
  rw [if_pos h, if_pos h]; exact Ev.now _
 ·
  rw [if_neg h, if_neg h]; exact Ev.now _
theorem rIsPlay_ev (n : Int) (ts : List S64) (l ms : List Int) (hf : Fits ts) (hl : l.length ≤ 9223372036854775807) (ha : ms.length ≤ 9223372036854775807) : Ev (fun k => dropperref06_IsPlay.f k n ts l ms) (IsS (AfterS n ts l ms)) := by
 unfold dropperref06_IsPlay.f IsS
 refine ev_bind1 (rAfter_ev n ts l ms hf hl ha) ?_
 by_cases h : (AfterS n ts l ms).2 = 5
 ·
  rw [if_pos h, if_pos h]; exact Ev.now _
 ·
  rw [if_neg h, if_neg h]; exact Ev.now _
/-! ### Make -/
theorem Make_val (n : Int) (ts : List S64) (l : List Int) (a : Int) : key_Make.f n ts l a = some (AfterS n ts l [a]) := by
 unfold key_Make.f AfterS
 rw [open_val, Option.bind_some]
 by_cases h0 : asks n ts [l] = 0
 ·
  obtain ⟨hb, hls⟩ := asks_zero h0
  obtain ⟨⟨b1, b2⟩, b3, b4⟩ := (okB_iff n ts).1 hb
  have hst := St.of (hls l (by simp))
  have hw : wrap64 ((ts.length : Int) - 1) = (ts.length : Int) - 1 := wrap_id (by omega) (by omega)
  have hwi : key_within.f 0 a (wrap64 ((ts.length : Int) - 1)) = some (decide (0 ≤ a) && decide (a ≤ (ts.length : Int) - 1)) := by
   rw [hw]; unfold key_within.f
   by_cases h : 0 ≤ a
   ·
    rw [if_pos h, decide_eq_true h, Bool.true_and]
   ·
    rw [if_neg h, decide_eq_false h, Bool.false_and]
  have hok : okL (([a] : List Int).length : Int) 0 (wrap64 ((ts.length : Int) - 1)) [a] = (decide (0 ≤ a) && decide (a ≤ (ts.length : Int) - 1)) := by
   rw [hw]; simp [okL, key_isList.bad]
  rw [if_pos h0, if_pos h0, hwi, Option.bind_some, if_neg (show ¬ (([a] : List Int).length : Int) > 1000 by simp), hok]
  cases hc : (decide (0 ≤ a) && decide (a ≤ (ts.length : Int) - 1)) with
  | false => rfl
  | true =>
   have hc' : 0 ≤ a ∧ a ≤ (ts.length : Int) - 1 := by simpa using hc
   have ht := okT_at b4 hc'.1 (show a < (ts.length : Int) by omega)
   rw [if_pos rfl, if_pos rfl]
   rw [show key_keysOf.f l = some (tup6 l) from rfl, Option.bind_some, if_pos hc'.1, if_pos (by omega)]
   have hm := made_st b2 hst ht
   simp only [tup6]
   rw [hm]
   unfold playsS
   rw [plays]
   cases hq : mv l (rd_T64 ts a).f0 (rd_T64 ts a).f1 with
   | none => rfl
   | some r =>
    simp only [Option.bind_some, if_true, plays]
    rw [list_st b2 (hst.mv ht hq)]
    rfl
 ·
  rw [if_neg h0, if_neg h0]
theorem rMake_ev (n : Int) (ts : List S64) (l : List Int) (a : Int) (hf : Fits ts) (hl : l.length ≤ 9223372036854775807) : Ev (fun k => dropperref06_Make.f k n ts l a) (AfterS n ts l [a]) := by
 unfold dropperref06_Make.f
 exact ev_bind1 (rAfter_ev n ts l [a] hf hl (by simp)) (Ev.now _)
/-! ### Can -/
def cans (l : List Int) : Nat → List S64 → List Int
 | _, [] => []
 | i, t :: ts => if (mv l t.f0 t.f1).isSome = true then (i : Int) :: cans l (i + 1) ts else cans l (i + 1) ts
def CanS (n : Int) (ts : List S64) (l : List Int) : List Int × Int := if asks n ts [l] = 0 then (cans l 0 ts, 0) else ([], asks n ts [l])
theorem kcan_ev {n : Int} {ts : List S64} (hn : n ≤ 6) (h8 : ts.length ≤ 8) (hts : ∀ t ∈ ts, okT n t = true) {l : List Int} (h : St n l) :
  Ev (fun k => key_can.f k n ts (rd l 0) (rd l 1) (rd l 2) (rd l 3) (rd l 4) (rd l 5)) (cans l 0 ts) := by
 have H : ∀ (d i : Nat) (acc : List Int), i + d = ts.length → acc.length ≤ i → Ev (fun k => key_can.l0 k acc ts (ts.length : Int) (i : Int) (rd l 0) (rd l 1) (rd l 2) (rd l 3) (rd l 4) (rd l 5)) (acc ++ cans l i (ts.drop i)) := by
  intro d
  induction d with
  | zero =>
   intro i acc hi ha
   rw [List.drop_eq_nil_of_le (by omega : ts.length ≤ i), cans, List.append_nil]
   refine Ev.step (fun k => by rw [key_can.l0]) (ev_neg (by omega) ?_); exact Ev.now _
  | succ d ih =>
   intro i acc hi ha
   have hlt : i < ts.length := by omega
   rw [List.drop_eq_getElem_cons hlt, cans]
   refine Ev.step (fun k => by rw [key_can.l0]) (ev_pos (by omega) (ev_pos (by omega) (ev_pos (by omega) ?_)))
   rw [rd_S ts i hlt]
   refine ev_val (made_st hn h (hts _ (List.getElem_mem hlt))) ?_
   rw [wrap_succ (l := ts.length) i hlt (by omega)]
   cases mv l ts[i].f0 ts[i].f1 with
   | none => refine ev_neg (by decide) ?_; rw [if_neg (by decide)]; exact ih (i + 1) acc (by omega) (by omega)
   | some r =>
    refine ev_pos rfl (ev_pos (by omega) ?_)
    rw [if_pos (show (some r).isSome = true from rfl)]
    have := ih (i + 1) (acc ++ [(i : Int)]) (by omega) (by simp; omega)
    simpa using this
 unfold key_can.f
 have := H ts.length 0 [] (by omega) (by simp)
 simpa using this
theorem Can_ev (n : Int) (ts : List S64) (l : List Int) : Ev (fun k => key_Can.f k n ts l) (CanS n ts l) := by
 unfold key_Can.f CanS
 refine ev_val (open_val n ts [l]) ?_
 by_cases h0 : asks n ts [l] = 0
 ·
  obtain ⟨hb, hls⟩ := asks_zero h0
  obtain ⟨⟨b1, b2⟩, b3, b4⟩ := (okB_iff n ts).1 hb
  rw [if_pos h0]
  exact ev_pos h0 (ev_val rfl (ev_bind1 (kcan_ev b2 b3 b4 (St.of (hls l (by simp)))) (Ev.now _)))
 ·
  rw [if_neg h0]; exact ev_neg h0 (Ev.now _)
theorem rCan_ev (n : Int) (ts : List S64) (l : List Int) (hf : Fits ts) (hl : l.length ≤ 9223372036854775807) : Ev (fun k => dropperref06_Can.f k n ts l) (CanS n ts l) := by
 unfold dropperref06_Can.f CanS
 refine ev_bind1 (asked_ev n ts [l] hf (by simp) (by simpa using hl)) ?_
 by_cases h0 : asks n ts [l] = 0
 ·
  obtain ⟨hb, hls⟩ := asks_zero h0
  obtain ⟨⟨b1, b2⟩, b3, b4⟩ := (okB_iff n ts).1 hb
  have h := St.of (hls l (by simp))
  rw [if_pos h0]
  refine ev_pos h0 ?_
  have H : ∀ (d i : Nat) (acc : List Int), i + d = ts.length → acc.length ≤ i → Ev (fun k => dropperref06_Can.l0 k l acc (i : Int) n ts) (acc ++ cans l i (ts.drop i), 0) := by
   intro d
   induction d with
   | zero =>
    intro i acc hi ha
    rw [List.drop_eq_nil_of_le (by omega : ts.length ≤ i), cans, List.append_nil]
    refine Ev.step (fun k => by rw [dropperref06_Can.l0]) (ev_neg (by omega) ?_); exact Ev.now _
   | succ d ih =>
    intro i acc hi ha
    have hlt : i < ts.length := by omega
    rw [List.drop_eq_getElem_cons hlt, cans]
    refine Ev.step (fun k => by rw [dropperref06_Can.l0]) (ev_pos (by omega) (ev_pos (by omega) ?_))
    rw [rd_S ts i hlt]
    refine ev_bind1 (after_st b2 h (b4 _ (List.getElem_mem hlt))) ?_
    rw [wrap_succ (l := ts.length) i hlt (by omega)]
    cases mv l ts[i].f0 ts[i].f1 with
    | none => refine ev_neg (by decide) ?_; rw [if_neg (by decide)]; exact ih (i + 1) acc (by omega) (by omega)
    | some r =>
     refine ev_pos rfl (ev_pos (by omega) ?_)
     rw [if_pos (show (some r).isSome = true from rfl)]
     have := ih (i + 1) (acc ++ [(i : Int)]) (by omega) (by simp; omega)
     simpa using this
  have := H ts.length 0 [] (by omega) (by simp)
  simpa using this
 ·
  rw [if_neg h0]; exact ev_neg h0 (Ev.now _)
theorem cans_len (l : List Int) : ∀ (ts : List S64) (i : Nat), (cans l i ts).length ≤ ts.length
 | [], i => Nat.le_refl _
 | t :: ts, i => by
  rw [cans]
  have := cans_len l ts (i + 1)
  split <;> simp <;> omega
theorem CanS_len (n : Int) (ts : List S64) (l : List Int) : (CanS n ts l).1.length ≤ 9223372036854775807 := by
 unfold CanS
 split
 ·
  rename_i h0
  obtain ⟨hb, hls⟩ := asks_zero h0
  obtain ⟨⟨b1, b2⟩, b3, b4⟩ := (okB_iff n ts).1 hb
  have := cans_len l ts 0
  simp only; omega
 ·
  simp
theorem plays_st {n : Int} {ts : List S64} (hts : ∀ t ∈ ts, okT n t = true) : ∀ {ms l r : List Int}, Names ts ms → St n l → plays ts l ms = some r → St n r
 | [], l, r, _, h, e => by rw [plays] at e; cases e; exact h
 | a :: ms, l, r, hN, h, e => by
  rw [plays] at e
  obtain ⟨y, e1, e2⟩ := Option.bind_eq_some_iff.1 e
  have ha := hN a (List.mem_cons_self ..)
  exact plays_st hts (fun x hx => hN x (List.mem_cons_of_mem _ hx)) (h.mv (okT_at hts ha.1 ha.2) e1) e2
theorem AfterS_len (n : Int) (ts : List S64) (l ms : List Int) (hl : l.length ≤ 9223372036854775807) : (AfterS n ts l ms).1.length ≤ 9223372036854775807 := by
 unfold AfterS
 split
 ·
  rename_i h0
  obtain ⟨hb, hls⟩ := asks_zero h0
  obtain ⟨⟨b1, b2⟩, b3, b4⟩ := (okB_iff n ts).1 hb
  split
  ·
   simp
  ·
   split
   ·
    rename_i h2
    unfold playsS
    cases hp : plays ts l ms with
    | none => simp
    | some r =>
     have := (plays_st b4 (names_of b3 h2) (St.of (hls l (by simp))) hp).len
     simp only; omega
   ·
    simp
 ·
  simp
end Go.Proofs.Ytgdfakmlpdeabaa.Keys

/- The law's last question: evaluated. -/
namespace Go.Proofs.Ytgdfakmlpdeabaa.Keys
set_option linter.unusedVariables false
set_option linter.unusedSimpArgs false
open Go.RowKit Go.Proofs.Ytgdfakmlpdeabaa.XKey Go.Proofs.YtgdfakmlpdeabaaW.PrintWords Go.Proofs.YtgdfakmlpdeabaaW.PrintLast Go.Proofs.YtgdfakmlpdeabaaW.PrintMore
def line : List S70 := (List.range 101).map fun i => ⟨(i : Nat), 0, 0, 0, 0, 0⟩
theorem go1 : (key_spread.go [(⟨[0], [1]⟩ : S64)] 400 0 [⟨0, 0, 0, 0, 0, 0⟩] [⟨-1, -1⟩]).map (fun p => (p.1.map key_spread.toL, p.2.2)) = some (line.map key_spread.toL, true) := by decide +kernel
theorem go2 : (key_spread.go [(⟨[1, 0], [0, 1]⟩ : S64), ⟨[0, 1], [1, 0]⟩] 400 0 [⟨1, 0, 0, 0, 0, 0⟩] [⟨-1, -1⟩]).map (fun p => (p.1.map key_spread.toL, p.2.2)) = some ([[1, 0, 0, 0, 0, 0], [0, 1, 0, 0, 0, 0]], true) := by decide +kernel
theorem toL_map {l m : List S70} (h : l.map key_spread.toL = m.map key_spread.toL) : l = m :=
 List.map_inj_right (fun x y h => key_reach.toL_inj h) |>.1 h
theorem sorted_line : line.Pairwise (fun a b => key_reach.le a b = true) := by decide +kernel
theorem reach1 : key_reach.f 1 [(⟨[0], [1]⟩ : S64)] [0] = some (line, 0) := by
 unfold key_reach.f
 rw [show key_open.f 1 [(⟨[0], [1]⟩ : S64)] [[0]] = some 0 by decide +kernel, show key_keysOf.f [0] = some (0, 0, 0, 0, 0, 0) by decide +kernel]
 have h := go1
 obtain ⟨⟨a, s, ok⟩, e, h⟩ := Option.map_eq_some_iff.1 h
 injection h with h1 h2
 have ha := toL_map h1
 subst ha
 simp only at h2
 subst h2
 have e' : key_spread.f 1 [(⟨[0], [1]⟩ : S64)] 0 0 0 0 0 0 = some (line, s, true) := by
  unfold key_spread.f; rw [if_pos (by decide)]; exact e
 simp only [Option.bind_some, if_true, e', List.mergeSort_of_pairwise sorted_line]
theorem reach2 : key_reach.f 2 [(⟨[1, 0], [0, 1]⟩ : S64), ⟨[0, 1], [1, 0]⟩] [1, 0] = some ([⟨0, 1, 0, 0, 0, 0⟩, ⟨1, 0, 0, 0, 0, 0⟩], 0) := by
 unfold key_reach.f
 rw [show key_open.f 2 [(⟨[1, 0], [0, 1]⟩ : S64), ⟨[0, 1], [1, 0]⟩] [[1, 0]] = some 0 by decide +kernel, show key_keysOf.f [1, 0] = some (1, 0, 0, 0, 0, 0) by decide +kernel]
 have h := go2
 obtain ⟨⟨a, s, ok⟩, e, h⟩ := Option.map_eq_some_iff.1 h
 injection h with h1 h2
 have ha := toL_map (l := a) (m := [⟨1, 0, 0, 0, 0, 0⟩, ⟨0, 1, 0, 0, 0, 0⟩]) h1
 subst ha
 simp only at h2
 subst h2
 have hs : List.mergeSort [(⟨1, 0, 0, 0, 0, 0⟩ : S70), ⟨0, 1, 0, 0, 0, 0⟩] key_reach.le = [⟨0, 1, 0, 0, 0, 0⟩, ⟨1, 0, 0, 0, 0, 0⟩] := by
  have hp := List.mergeSort_perm [(⟨1, 0, 0, 0, 0, 0⟩ : S70), ⟨0, 1, 0, 0, 0, 0⟩] key_reach.le
  have hw := List.pairwise_mergeSort (le := key_reach.le) (fun a b c => key_reach.le_trans a b c) (fun a b => key_reach.le_total a b) [(⟨1, 0, 0, 0, 0, 0⟩ : S70), ⟨0, 1, 0, 0, 0, 0⟩]
  refine List.Perm.eq_of_pairwise (le := fun a b => key_reach.le a b = true) (fun a b _ _ h1 h2 => key_reach.le_antisymm a b h1 h2) hw (by decide +kernel) (hp.trans (List.Perm.swap _ _ _))
 have e' : key_spread.f 2 [(⟨[1, 0], [0, 1]⟩ : S64), ⟨[0, 1], [1, 0]⟩] 1 0 0 0 0 0 = some ([⟨1, 0, 0, 0, 0, 0⟩, ⟨0, 1, 0, 0, 0, 0⟩], s, true) := by
  unfold key_spread.f; rw [if_pos (by decide)]; exact e
 simp only [Option.bind_some, if_true, e', hs]
theorem lists2 : key_lists.f 10 [⟨0, 1, 0, 0, 0, 0⟩, ⟨1, 0, 0, 0, 0, 0⟩] 2 = some [[0, 1], [1, 0]] := by decide +kernel
theorem keep1 : (key_Stuck.keep 10 1 [(⟨[0], [1]⟩ : S64)] line).map (List.map key_spread.toL) = some [[100, 0, 0, 0, 0, 0]] := by decide +kernel
theorem lists1 : key_lists.f 10 [⟨100, 0, 0, 0, 0, 0⟩] 1 = some [[100]] := by decide +kernel
theorem stuck1 : key_Stuck.f 10 1 [(⟨[0], [1]⟩ : S64)] [0] = some ([[100]], 0) := by
 unfold key_Stuck.f
 rw [reach1]
 obtain ⟨a, e, h⟩ := Option.map_eq_some_iff.1 keep1
 have ha := toL_map (l := a) (m := [⟨100, 0, 0, 0, 0, 0⟩]) h
 subst ha
 simp only [Option.bind_some, e, lists1]
theorem Reach2 : key_Reach.f 10 2 [(⟨[1, 0], [0, 1]⟩ : S64), ⟨[0, 1], [1, 0]⟩] [1, 0] = some ([[0, 1], [1, 0]], 0) := by
 unfold key_Reach.f
 rw [reach2]
 simp only [Option.bind_some, lists2]
theorem proves2 : key_Proves.f 10 2 [(⟨[1, 0], [0, 1]⟩ : S64), ⟨[0, 1], [1, 0]⟩] [1, 1] [1, 0] [1, 1] = some (true, 0) := by decide +kernel
theorem awake_ev : Ev (fun k => dropperlaw06_Awake.f k) true := by
 refine Ev.of dropperlaw06_Awake.mono (k := 10) ?_
 unfold dropperlaw06_Awake.f
 simp only [Option.bind_some, Reach2, proves2, stuck1]
 decide +kernel
end Go.Proofs.Ytgdfakmlpdeabaa.Keys

namespace Go.Proofs.Ytgdfakmlpdeabaa.Open
open Go.RowKit Go.Proofs.YtgdfakmlpdeabaaW.PrintWords Go.Proofs.YtgdfakmlpdeabaaW.PrintLast Go.Proofs.YtgdfakmlpdeabaaW.PrintMore
set_option linter.unusedVariables false
set_option linter.unusedSimpArgs false
/-! What an argument of a type reads as, in the print's kinds. -/
def Opens {α : Type} (P : Program) (t : TypeId) (kd : Kd α) (G : α → Prop) : Prop :=
 ∀ (H : Type) (enc : TypeId × Value → H) (W : World) (fuel : Nat) (cs : List Value) (x : DataW H × List MemPlace), DataW.trod enc P W 0 (fun _ => true) true fuel t cs = some x → ∃ a, kd.K W a cs ∧ G a
section
variable {P : Program} {t e : TypeId} {α β : Type} {kd : Kd α} {G : α → Prop}
theorem opens_int {k : IntKind} (hu : P.underlying t = some (.int k)) : Opens P t (Kd.int k) (fun n => (Lit.int k n).wf = true) := by
 intro H enc W fuel cs x h
 obtain ⟨n, rfl, _, hw⟩ := DataW.trod_int hu h
 exact ⟨n, rfl, hw⟩
theorem exists_list {Q : Nat → α → Prop} : ∀ n, (∀ i, i < n → ∃ x, Q i x) → ∃ xs : List α, xs.length = n ∧ ∀ i x, xs[i]? = some x → Q i x := by
 intro n
 induction n with
 | zero => intro _; exact ⟨[], rfl, fun i x h => by simp at h⟩
 | succ n ih =>
  intro h
  obtain ⟨xs, hl, hq⟩ := ih (fun i hi => h i (by omega))
  obtain ⟨x, hx⟩ := h n (by omega)
  refine ⟨xs ++ [x], by simp [hl], fun i y hy => ?_⟩
  by_cases hi : i < n
  ·
   rw [List.getElem?_append_left (by omega)] at hy
   exact hq i y hy
  ·
   rw [List.getElem?_append_right (by omega)] at hy
   have : i - xs.length = 0 := by
    have := (List.getElem?_eq_some_iff.1 hy).1
    simp at this; omega
   rw [this] at hy
   have hin : i = n := by omega
   subst hin
   simp at hy
   subst hy
   exact hx
theorem add_add (a : Addr) (m n : Nat) : (a.add m).add n = a.add (m + n) := by
 unfold Addr.add
 by_cases h1 : m = 0
 ·
  subst h1; simp
 ·
  by_cases h2 : n = 0
  ·
   subst h2; simp [h1]
  ·
   have : ¬ m + n = 0 := by omega
   simp [h1, h2, this, Nat.add_assoc]
theorem opens_slice (hu : P.underlying t = some (.slice e)) (he : Opens P e kd G) (hc : P.cellsOf e = kd.sz) : Opens P t (Kd.slice e kd) (fun l => l.length ≤ 9223372036854775807 ∧ ∀ x ∈ l, G x) := by
 intro H enc W fuel cs x h
 rcases DataW.trod_slice hu h with ⟨rfl, _⟩ | ⟨a, len, cap, elems, rest, n, _, rfl, _, hb, hl, hm, hlen, hel, _, _⟩
 ·
  exact ⟨[], ⟨none, 0, rfl, Nat.le_refl _, rfl, by simp, fun h => absurd h (by simp)⟩, by simp, fun x hx => by simp at hx⟩
 ·
  have hx : ∀ i, i < len → ∃ y : α, (∃ c, c.length = kd.sz ∧ kd.K W y c ∧ ∀ j u, c[j]? = some u → W.cell? (a.add (i * kd.sz + j)) = some u) ∧ G y := by
   intro i hi
   have h1 := hel i hi
   rw [List.getElem?_eq_getElem (by omega)] at h1
   obtain ⟨c, hc1, hc2⟩ := Option.bind_eq_some_iff.1 h1
   obtain ⟨y, hk, hg⟩ := he H enc W n c _ hc2
   obtain ⟨_, hcl, hcell⟩ := World.cells?_some hc1
   refine ⟨y, ⟨c, kd.K_len hk, hk, fun j u hj => ?_⟩, hg⟩
   rw [hc] at hcell
   have := hcell j (by have := (List.getElem?_eq_some_iff.1 hj).1; have := kd.K_len hk; omega)
   rw [← add_add, this, hj]
  obtain ⟨xs, hxl, hxq⟩ := exists_list len hx
  have hmax : len ≤ 9223372036854775807 := by unfold maxLen at hm; omega
  refine ⟨xs, ⟨some a, cap, by rw [hxl], by omega, rfl, by omega, fun _ => ⟨a, rfl, fun j p hj => (hxq j p hj).1⟩⟩, by omega, fun y hy => ?_⟩
  obtain ⟨i, hi, rfl⟩ := List.mem_iff_getElem.1 hy
  exact (hxq i xs[i] (List.getElem?_eq_getElem hi)).2
def OpensF (P : Program) (fs : List Field) (off : Nat) (kd : Kd α) (G : α → Prop) : Prop :=
 ∀ (H : Type) (enc : TypeId × Value → H) (W : World) (fuel : Nat) (cs : List Value) (xs : List (DataW H × List MemPlace)), xs.length = fs.length → cs.length = off + kd.sz →
  (∀ (i : Nat) (f : Field), fs[i]? = some f → DataW.trod enc P W 0 (fun _ => true) true fuel f.type ((cs.drop f.offset).take (P.cellsOf f.type)) = xs[i]?) → ∃ a, kd.K W a (cs.drop off) ∧ G a
theorem opensF_one {f : Field} {off : Nat} (ho : f.offset = off) (hc : P.cellsOf f.type = kd.sz) (h : Opens P f.type kd G) : OpensF P [f] off kd G := by
 intro H enc W fuel cs xs hl hcs hx
 have h0 := hx 0 f rfl
 rw [List.getElem?_eq_getElem (by rw [hl]; simp), ho, hc, List.take_of_length_le (by rw [List.length_drop]; omega)] at h0
 exact h H enc W fuel _ _ h0
theorem opensF_cons {f : Field} {fs : List Field} {off : Nat} {ka : Kd α} {kb : Kd β} {Ga : α → Prop} {Gb : β → Prop} (ho : f.offset = off) (hc : P.cellsOf f.type = ka.sz) (h : Opens P f.type ka Ga) (hr : OpensF P fs (off + ka.sz) kb Gb) :
  OpensF P (f :: fs) off (Kd.pair ka kb) (fun p => Ga p.1 ∧ Gb p.2) := by
 intro H enc W fuel cs xs hl hcs hx
 have hcs' : cs.length = off + (ka.sz + kb.sz) := hcs
 match xs, hl with
 | x0 :: xs', hl =>
  have h0 := hx 0 f rfl
  rw [ho, hc] at h0
  obtain ⟨a, ha, hga⟩ := h H enc W fuel _ x0 h0
  obtain ⟨b, hb, hgb⟩ := hr H enc W fuel cs xs' (by simpa using hl) (by omega) (fun i f' hf' => hx (i + 1) f' (by simpa using hf'))
  refine ⟨(a, b), ⟨_, _, ?_, ha, hb⟩, hga, hgb⟩
  rw [← List.drop_drop, List.take_append_drop]
theorem opens_struct {fs : Array Field} (hu : P.underlying t = some (.struct fs)) (hc : P.cellsOf t = kd.sz) (h : OpensF P fs.toList 0 kd G) : Opens P t kd G := by
 intro H enc W fuel cs x hx
 obtain ⟨xs, n, _, _, hl, hxl, hf⟩ := DataW.trod_struct hu hx
 obtain ⟨a, ha, hg⟩ := h H enc W n cs xs (by rw [hxl]; simp) (by omega) (fun i f hf' => hf i f (by simpa using hf'))
 exact ⟨a, ha, hg⟩
theorem opens_iso {f : β → α} (g : α → β) (hfg : ∀ y, f (g y) = y) (h : Opens P t kd G) : Opens P t (Kd.iso kd f) (fun b => G (f b)) := by
 intro H enc W fuel cs x hx
 obtain ⟨a, ha, hg⟩ := h H enc W fuel cs x hx
 exact ⟨g a, by show kd.K W (f (g a)) cs; rw [hfg]; exact ha, by show G (f (g a)); rw [hfg]; exact hg⟩
theorem agg_of {cs : Array Value} {l : List Value} (h : (Value.agg cs).cells.toList = l) : cs = l.toArray := by
 have h' : cs.toList = l := h
 rw [← h']
end
end Go.Proofs.Ytgdfakmlpdeabaa.Open

namespace Go.Proofs.Ytgdfakmlpdeabaa.XKey
open Go.RowKit Go.Proofs.YtgdfakmlpdeabaaW.PrintWords Go.Proofs.YtgdfakmlpdeabaaW.PrintLast Go.Proofs.YtgdfakmlpdeabaaW.PrintMore
attribute [local go_sem] max2_int min2_int max_two min_two max_three min_three max_four min_four   -- for this text's walks alone
set_option linter.unusedVariables false
set_option linter.unusedSimpArgs false
/-! ### key_Holds: function 21 -/
def key_Holds.f (k : Nat) (a0_0 : Int) (l0_1 : List (S64)) (l1 : List Int) : Option (Bool × Int) := (key_weighed.f a0_0 l0_1 l1 ([] : List (List Int))).bind fun t209 => (if t209 = 0 then ((key_holds.f k a0_0 l0_1 l1).bind fun t210 => (some (t210, 0))) else (some (false, t209)))
set_option maxHeartbeats 8000000 in
set_option maxRecDepth 100000 in
theorem key_Holds.calls (k : Nat) (a0_0 : Int) (A0_1 : Option Addr) (c0_1 : Nat) (l0_1 : List (S64)) (A1 : Option Addr) (c1 : Nat) (l1 : List Int) (r1 : Bool) (r2 : Int) (w : World) (hr0_1 : Kd.C k64 w A0_1 l0_1.length l0_1) (hc0_1 : l0_1.length ≤ c0_1) (hr1 : Kd.C (Kd.int .i64) w A1 l1.length l1) (hc1 : l1.length ≤ c1) (h : key_Holds.f k a0_0 l0_1 l1 = some (r1, r2)) :
  Calls Try.prog 21 #[.agg #[.int .i64 a0_0, .slice A0_1 l0_1.length c0_1], .slice A1 l1.length c1] w fun e w' => e = .returned (.tuple #[.bool r1, .int .i64 r2]) ∧ Below w.heap.size w w' := by
 have hu24 := Try.underlying24
 have HR0_1 := Aside0.mk hr0_1
 have HC0_1 := Aside0.mk hc0_1
 clear hr0_1 hc0_1
 have HR1 := Aside0.mk hr1
 have HC1 := Aside0.mk hc1
 clear hr1 hc1
 have HB := Aside0.mk (Below.refl w.heap.size w)
 have H : ((key_weighed.f a0_0 l0_1 l1 ([] : List (List Int))).bind fun t209 => (if t209 = 0 then ((key_holds.f k a0_0 l0_1 l1).bind fun t210 => (some (t210, 0))) else (some (false, t209)))) = some (r1, r2) := h
 clear h
 replace H := Option.bind_eq_some_iff.mp H
 obtain ⟨t209, A30, H⟩ := H
 try dsimp only at H
 have A3 := Aside0.mk A30
 clear A30
 by_cases c4 : t209 = 0
 ·
  rw [if_pos c4] at H
  have c4b0 : (t209 == 0) = true := beq_iff_eq.mpr c4
  have c4b1 : (t209 != 0) = false := bne_eq_false_iff_eq.mpr c4
  clear c4
  replace H := Option.bind_eq_some_iff.mp H
  obtain ⟨t210, A50, H⟩ := H
  try dsimp only at H
  have A5 := Aside0.mk A50
  clear A50
  simp only [Option.some.injEq, Prod.mk.injEq] at H
  obtain ⟨rfl, rfl⟩ := H
  go_enter Try.func21, Try.ntmps21
  go_wp2_with (first | ((with_reducible refine gate_dst (N := 2) rfl ?_); refine box_event ?hg (N := 2) ?hd (cs := #[.int .i64 a0_0, .slice A0_1 l0_1.length c0_1]) (t := 24) ?hr ?_; (case hd => rfl); (case hg => rfl); (case hr => first | (go_simp; done) | (go_simp; rfl)); intro gb208 hg w6 hbox hb; have BK208 := Aside0.mk (hbox); have GW208 := bsz (w := w) hg; have GE208 := GW208; replace HB := Aside0.mk (below_step bel hb); clear hb hbox hg; obtain ⟨hcz7_0, hcz7_1⟩ := bc2 BK208.out) | ((with_reducible refine gate_callee (f := 64) rfl ?_); refine goesL_ (some 9) rfl rfl Try.func64 (by kernel_rfl) rfl #[.agg #[.int .i64 a0_0, .slice A0_1 l0_1.length c0_1], .slice A1 l1.length c1, .slice none 0 0] rfl mapz ?_; (refine (key_weighed.calls a0_0 _ _ l0_1 _ _ l1 _ _ ([] : List (List Int)) t209 _ (cbz HR0_1) HC0_1.out (cbz HR1) HC1.out ?side5 ?side6 A3.out).mono ?_); (case side5 => exact Kd.C_nil _ _); (case side6 => exact Nat.le_refl _); rintro e w8 ⟨rfl, hb⟩; refine ⟨_, rfl, ?_⟩; replace BK208 := Aside0.mk (blk_below (g := gb208) blkz hb); replace HB := Aside0.mk (below_step bel hb); clear hb; obtain ⟨hcz9_0, hcz9_1⟩ := bc2 BK208.out) | ((with_reducible refine gate_callee (f := 65) rfl ?_); refine goesL_ (some 15) rfl rfl Try.func65 (by kernel_rfl) rfl #[.agg #[.int .i64 a0_0, .slice A0_1 l0_1.length c0_1], .slice A1 l1.length c1] rfl mapz ?_; (with_reducible refine (key_holds.calls k a0_0 _ _ l0_1 _ _ l1 t210 _ (cbz HR0_1) HC0_1.out (cbz HR1) HC1.out A5.out).mono ?_); rintro e w10 ⟨rfl, hb⟩; refine ⟨_, rfl, ?_⟩; replace BK208 := Aside0.mk (blk_below (g := gb208) blkz hb); replace HB := Aside0.mk (below_step bel hb); clear hb))
  go_ret2
  exact ⟨ezz, bel⟩
 ·
  rw [if_neg c4] at H
  have c4b0 : (t209 == 0) = false := beq_eq_false_iff_ne.mpr c4
  have c4b1 : (t209 != 0) = true := bne_iff_ne.mpr c4
  simp only [Option.some.injEq, Prod.mk.injEq] at H
  obtain ⟨rfl, rfl⟩ := H
  go_enter Try.func21, Try.ntmps21
  go_wp2_with (first | ((with_reducible refine gate_dst (N := 2) rfl ?_); refine box_event ?hg (N := 2) ?hd (cs := #[.int .i64 a0_0, .slice A0_1 l0_1.length c0_1]) (t := 24) ?hr ?_; (case hd => rfl); (case hg => rfl); (case hr => first | (go_simp; done) | (go_simp; rfl)); intro gb208 hg w11 hbox hb; have BK208 := Aside0.mk (hbox); have GW208 := bsz (w := w) hg; have GE208 := GW208; replace HB := Aside0.mk (below_step bel hb); clear hb hbox hg; obtain ⟨hcz12_0, hcz12_1⟩ := bc2 BK208.out) | ((with_reducible refine gate_callee (f := 64) rfl ?_); refine goesL_ (some 9) rfl rfl Try.func64 (by kernel_rfl) rfl #[.agg #[.int .i64 a0_0, .slice A0_1 l0_1.length c0_1], .slice A1 l1.length c1, .slice none 0 0] rfl mapz ?_; (refine (key_weighed.calls a0_0 _ _ l0_1 _ _ l1 _ _ ([] : List (List Int)) t209 _ (cbz HR0_1) HC0_1.out (cbz HR1) HC1.out ?side5 ?side6 A3.out).mono ?_); (case side5 => exact Kd.C_nil _ _); (case side6 => exact Nat.le_refl _); rintro e w13 ⟨rfl, hb⟩; refine ⟨_, rfl, ?_⟩; replace BK208 := Aside0.mk (blk_below (g := gb208) blkz hb); replace HB := Aside0.mk (below_step bel hb); clear hb))
  go_ret2
  exact ⟨ezz, bel⟩

/-! ### key_Sum: function 22 -/
def key_Sum.f (k : Nat) (a0_0 : Int) (l0_1 : List (S64)) (l1 : List Int) (l2 : List Int) : Option (Int × Int) := (key_weighed.f a0_0 l0_1 l1 (([l2] : List (List Int)))).bind fun t215 => (if t215 = 0 then ((key_sum.f k l1 l2).bind fun t216 => (some (t216, 0))) else (some (0, t215)))
set_option maxHeartbeats 8000000 in
set_option maxRecDepth 100000 in
theorem key_Sum.calls (k : Nat) (a0_0 : Int) (A0_1 : Option Addr) (c0_1 : Nat) (l0_1 : List (S64)) (A1 : Option Addr) (c1 : Nat) (l1 : List Int) (P2_ : Nat → Prop) (A2 : Option Addr) (c2 : Nat) (l2 : List Int) (r1 : Int) (r2 : Int) (w : World) (hr0_1 : Kd.C k64 w A0_1 l0_1.length l0_1) (hc0_1 : l0_1.length ≤ c0_1) (hr1 : Kd.C (Kd.int .i64) w A1 l1.length l1) (hc1 : l1.length ≤ c1) (hs2 : Kd.V (Kd.int .i64) 3 w w.heap.size (fun k_ => P2_ k_) (.slice A2 l2.length c2) l2) (h : key_Sum.f k a0_0 l0_1 l1 l2 = some (r1, r2)) :
  Calls Try.prog 22 #[.agg #[.int .i64 a0_0, .slice A0_1 l0_1.length c0_1], .slice A1 l1.length c1, .slice A2 l2.length c2] w fun e w' => e = .returned (.tuple #[.int .i64 r1, .int .i64 r2]) ∧ Below w.heap.size w w' := by
 have hu24 := Try.underlying24
 have HR0_1 := Aside0.mk hr0_1
 have HC0_1 := Aside0.mk hc0_1
 clear hr0_1 hc0_1
 have HR1 := Aside0.mk hr1
 have HC1 := Aside0.mk hc1
 clear hr1 hc1
 have HO2 := Aside0.mk (show Kd.V (Kd.int .i64) 3 w w.heap.size (fun k_ => (P2_ k_ ∨ w.heap.size ≤ k_)) (.slice A2 l2.length c2) l2 from Kd.V_mono hs2 (fun k_ hk => .inl hk))
 have HB := Aside0.mk (Below.refl w.heap.size w)
 have H : ((key_weighed.f a0_0 l0_1 l1 (([l2] : List (List Int)))).bind fun t215 => (if t215 = 0 then ((key_sum.f k l1 l2).bind fun t216 => (some (t216, 0))) else (some (0, t215)))) = some (r1, r2) := h
 clear h
 obtain ⟨y212, hy212⟩ : ∃ y_ : List (List Int), y_ = (([l2] : List (List Int))) := ⟨_, rfl⟩
 replace H : ((key_weighed.f a0_0 l0_1 l1 y212).bind fun t215 => (if t215 = 0 then ((key_sum.f k l1 l2).bind fun t216 => (some (t216, 0))) else (some (0, t215)))) = some (r1, r2) := by first | (rw [hy212]; with_reducible exact H) | (have H2_ := (Option.bind_some _ _).symm.trans H; rw [hy212]; with_reducible exact H2_) | (have H2_ := (Option.bind_some _ _).symm.trans H; with_reducible exact H2_) | with_reducible exact H | (rw [hy212]; exact H) | exact H
 have Ny212 := Aside0.mk hy212
 clear hy212
 replace H := Option.bind_eq_some_iff.mp H
 obtain ⟨t215, A40, H⟩ := H
 try dsimp only at H
 have A4 := Aside0.mk A40
 clear A40
 by_cases c5 : t215 = 0
 ·
  rw [if_pos c5] at H
  have c5b0 : (t215 == 0) = true := beq_iff_eq.mpr c5
  have c5b1 : (t215 != 0) = false := bne_eq_false_iff_eq.mpr c5
  clear c5
  replace H := Option.bind_eq_some_iff.mp H
  obtain ⟨t216, A60, H⟩ := H
  try dsimp only at H
  have A6 := Aside0.mk A60
  clear A60
  simp only [Option.some.injEq, Prod.mk.injEq] at H
  obtain ⟨rfl, rfl⟩ := H
  go_enter Try.func22, Try.ntmps22
  go_wp2_with (first | ((with_reducible refine gate_dst (N := 3) rfl ?_); refine box_event ?hg (N := 3) ?hd (cs := #[.int .i64 a0_0, .slice A0_1 l0_1.length c0_1]) (t := 24) ?hr ?_; (case hd => rfl); (case hg => rfl); (case hr => first | (go_simp; done) | (go_simp; rfl)); intro gb211 hg w7 hbox hb; have BK211 := Aside0.mk (hbox); have GW211 := bsz (w := w) hg; have GE211 := GW211; replace HO2 := Aside0.mk (Kd.V_below (Kd.V_elderB (by (with_reducible repeat (first | apply Kd.V_alloc | apply Kd.V_drewN | apply Kd.V_drew)); exact HO2.out) gb211 (Nat.le_of_eq hg.symm)) hb); replace HB := Aside0.mk (below_step bel hb); clear hb hbox hg; obtain ⟨hcz8_0, hcz8_1⟩ := bc2 BK211.out) | ((with_reducible refine gate_dst (N := 12) rfl ?_); refine Kd.N_lit (Kd.slice 3 (Kd.int .i64)) _ 25 ?hg (N' := 12) ?hd (xs := ([l2] : List (List Int))) (inner := [.slice A2 l2.length c2]) (ok := (fun k_ => (P2_ k_ ∨ w.heap.size ≤ k_) ∧ k_ ≠ gb211)) (okp := (fun k_ => (P2_ k_ ∨ w.heap.size ≤ k_) ∧ k_ ≠ gb211)) ?hr ?hp (fun _ hk => hk) ((show ∀ k_, w7.heap.size ≤ k_ → (fun k_ => (P2_ k_ ∨ w.heap.size ≤ k_) ∧ k_ ≠ gb211) k_ from fun k_ hk => ⟨(.inr (Nat.le_trans (below_size bel) hk)), Kd.freshB (g := gb211) (o := .cells #[.int .i64 a0_0, .slice A0_1 l0_1.length c0_1] 24 (0, 0)) blkz k_ hk⟩) _ (Nat.le_refl _)) (Below.refl _ _) (Nat.le_refl _) (by simp) ?_; (case hd => rfl); (case hg => rfl); (case hr => first | (go_simp; done) | (go_simp; rfl)); (case hp => exact (Reps.one (show Kd.FK (Kd.slice 3 (Kd.int .i64)) _ _ l2 [.slice A2 l2.length c2] from (Kd.FK_slice_mk (Kd.V_reads' (Kd.V_mono (ok' := (fun k_ => (P2_ k_ ∨ w.heap.size ≤ k_) ∧ k_ ≠ gb211)) (HO2.out) (fun k_ hk => ⟨hk.1, hk.2⟩))).2.1 (Kd.V_F (Kd.V_mono (ok' := (fun k_ => (P2_ k_ ∨ w.heap.size ≤ k_) ∧ k_ ≠ gb211)) (HO2.out) (fun k_ hk => ⟨hk.1, hk.2⟩))))) (Reps.none _ _))); intro v213 w9 ho10 hb hg_ hnew_; clear hg_ hnew_; (first | rw [← Ny212.out] at ho10 | (simp only [Int.reduceToNat] at ho10; rw [← Ny212.out] at ho10)); have HO214 := Aside0.mk (Kd.N_lower ho10 (below_size bel)); replace HO2 := Aside0.mk (Kd.V_elder' (by (with_reducible repeat (first | apply Kd.V_alloc | apply Kd.V_drewN | apply Kd.V_drew)); exact HO2.out) (Kd.N_base ho10) hb); replace BK211 := Aside0.mk (blk_below (g := gb211) blkz hb); replace HB := Aside0.mk (below_step bel hb); clear hb ho10; obtain ⟨Ao11, co11, eo11⟩ := Kd.N_slice HO214.out; subst eo11) | ((with_reducible refine gate_callee (f := 64) rfl ?_); refine goesL_ (some 13) rfl rfl Try.func64 (by kernel_rfl) rfl #[.agg #[.int .i64 a0_0, .slice A0_1 l0_1.length c0_1], .slice A1 l1.length c1, .slice Ao11 y212.length co11] rfl mapz ?_; (with_reducible refine (key_weighed.calls a0_0 _ _ l0_1 _ _ l1 _ _ y212 t215 _ (cbz HR0_1) HC0_1.out (cbz HR1) HC1.out ?side5 ?side6 A4.out).mono ?_); (case side5 => repeat (first | exact (Kd.N_reads' HO214.out).2.2 | (with_reducible refine Kd.C_alloc ?_ _) | (with_reducible refine Kd.C_drewN ?_ _) | (with_reducible refine Kd.C_drew ?_))); (case side6 => exact (Kd.N_reads' HO214.out).2.1); rintro e w12 ⟨rfl, hb⟩; refine ⟨_, rfl, ?_⟩; replace HO2 := Aside0.mk (Kd.V_below (by (with_reducible repeat (first | apply Kd.V_alloc | apply Kd.V_drewN | apply Kd.V_drew)); exact HO2.out) hb); replace HO214 := Aside0.mk (Kd.N_below (by (with_reducible repeat (first | apply Kd.N_alloc | apply Kd.N_drewN | apply Kd.N_drew)); exact HO214.out) hb); replace BK211 := Aside0.mk (blk_below (g := gb211) blkz hb); replace HB := Aside0.mk (below_step bel hb); clear hb) | ((with_reducible refine gate_callee (f := 66) rfl ?_); refine goesL_ (some 19) rfl rfl Try.func66 (by kernel_rfl) rfl #[.slice A1 l1.length c1, .slice A2 l2.length c2] rfl mapz ?_; (with_reducible refine (key_sum.calls k _ _ l1 _ _ l2 t216 _ (cbz HR1) HC1.out ?side3 ?side4 A6.out).mono ?_); (case side3 => repeat (first | exact (Kd.V_reads' HO2.out).2.2 | (with_reducible refine Kd.C_alloc ?_ _) | (with_reducible refine Kd.C_drewN ?_ _) | (with_reducible refine Kd.C_drew ?_))); (case side4 => exact (Kd.V_reads' HO2.out).2.1); rintro e w' ⟨rfl, ⟨nd, rfl⟩⟩; refine ⟨_, rfl, ?_⟩))
  go_ret2
  exact ⟨ezz, bel⟩
 ·
  rw [if_neg c5] at H
  have c5b0 : (t215 == 0) = false := beq_eq_false_iff_ne.mpr c5
  have c5b1 : (t215 != 0) = true := bne_iff_ne.mpr c5
  simp only [Option.some.injEq, Prod.mk.injEq] at H
  obtain ⟨rfl, rfl⟩ := H
  go_enter Try.func22, Try.ntmps22
  go_wp2_with (first | ((with_reducible refine gate_dst (N := 3) rfl ?_); refine box_event ?hg (N := 3) ?hd (cs := #[.int .i64 a0_0, .slice A0_1 l0_1.length c0_1]) (t := 24) ?hr ?_; (case hd => rfl); (case hg => rfl); (case hr => first | (go_simp; done) | (go_simp; rfl)); intro gb211 hg w13 hbox hb; have BK211 := Aside0.mk (hbox); have GW211 := bsz (w := w) hg; have GE211 := GW211; replace HO2 := Aside0.mk (Kd.V_below (Kd.V_elderB (by (with_reducible repeat (first | apply Kd.V_alloc | apply Kd.V_drewN | apply Kd.V_drew)); exact HO2.out) gb211 (Nat.le_of_eq hg.symm)) hb); replace HB := Aside0.mk (below_step bel hb); clear hb hbox hg; obtain ⟨hcz14_0, hcz14_1⟩ := bc2 BK211.out) | ((with_reducible refine gate_dst (N := 12) rfl ?_); refine Kd.N_lit (Kd.slice 3 (Kd.int .i64)) _ 25 ?hg (N' := 12) ?hd (xs := ([l2] : List (List Int))) (inner := [.slice A2 l2.length c2]) (ok := (fun k_ => (P2_ k_ ∨ w.heap.size ≤ k_) ∧ k_ ≠ gb211)) (okp := (fun k_ => (P2_ k_ ∨ w.heap.size ≤ k_) ∧ k_ ≠ gb211)) ?hr ?hp (fun _ hk => hk) ((show ∀ k_, w13.heap.size ≤ k_ → (fun k_ => (P2_ k_ ∨ w.heap.size ≤ k_) ∧ k_ ≠ gb211) k_ from fun k_ hk => ⟨(.inr (Nat.le_trans (below_size bel) hk)), Kd.freshB (g := gb211) (o := .cells #[.int .i64 a0_0, .slice A0_1 l0_1.length c0_1] 24 (0, 0)) blkz k_ hk⟩) _ (Nat.le_refl _)) (Below.refl _ _) (Nat.le_refl _) (by simp) ?_; (case hd => rfl); (case hg => rfl); (case hr => first | (go_simp; done) | (go_simp; rfl)); (case hp => exact (Reps.one (show Kd.FK (Kd.slice 3 (Kd.int .i64)) _ _ l2 [.slice A2 l2.length c2] from (Kd.FK_slice_mk (Kd.V_reads' (Kd.V_mono (ok' := (fun k_ => (P2_ k_ ∨ w.heap.size ≤ k_) ∧ k_ ≠ gb211)) (HO2.out) (fun k_ hk => ⟨hk.1, hk.2⟩))).2.1 (Kd.V_F (Kd.V_mono (ok' := (fun k_ => (P2_ k_ ∨ w.heap.size ≤ k_) ∧ k_ ≠ gb211)) (HO2.out) (fun k_ hk => ⟨hk.1, hk.2⟩))))) (Reps.none _ _))); intro v213 w15 ho16 hb hg_ hnew_; clear hg_ hnew_; (first | rw [← Ny212.out] at ho16 | (simp only [Int.reduceToNat] at ho16; rw [← Ny212.out] at ho16)); have HO214 := Aside0.mk (Kd.N_lower ho16 (below_size bel)); replace HO2 := Aside0.mk (Kd.V_elder' (by (with_reducible repeat (first | apply Kd.V_alloc | apply Kd.V_drewN | apply Kd.V_drew)); exact HO2.out) (Kd.N_base ho16) hb); replace BK211 := Aside0.mk (blk_below (g := gb211) blkz hb); replace HB := Aside0.mk (below_step bel hb); clear hb ho16; obtain ⟨Ao17, co17, eo17⟩ := Kd.N_slice HO214.out; subst eo17) | ((with_reducible refine gate_callee (f := 64) rfl ?_); refine goesL_ (some 13) rfl rfl Try.func64 (by kernel_rfl) rfl #[.agg #[.int .i64 a0_0, .slice A0_1 l0_1.length c0_1], .slice A1 l1.length c1, .slice Ao17 y212.length co17] rfl mapz ?_; (with_reducible refine (key_weighed.calls a0_0 _ _ l0_1 _ _ l1 _ _ y212 t215 _ (cbz HR0_1) HC0_1.out (cbz HR1) HC1.out ?side5 ?side6 A4.out).mono ?_); (case side5 => repeat (first | exact (Kd.N_reads' HO214.out).2.2 | (with_reducible refine Kd.C_alloc ?_ _) | (with_reducible refine Kd.C_drewN ?_ _) | (with_reducible refine Kd.C_drew ?_))); (case side6 => exact (Kd.N_reads' HO214.out).2.1); rintro e w18 ⟨rfl, hb⟩; refine ⟨_, rfl, ?_⟩; replace HO2 := Aside0.mk (Kd.V_below (by (with_reducible repeat (first | apply Kd.V_alloc | apply Kd.V_drewN | apply Kd.V_drew)); exact HO2.out) hb); replace HO214 := Aside0.mk (Kd.N_below (by (with_reducible repeat (first | apply Kd.N_alloc | apply Kd.N_drewN | apply Kd.N_drew)); exact HO214.out) hb); replace BK211 := Aside0.mk (blk_below (g := gb211) blkz hb); replace HB := Aside0.mk (below_step bel hb); clear hb))
  go_ret2
  exact ⟨ezz, bel⟩

/-! ### dropperref06_Weights: function 14 -/
def dropperref06_Weights.f (k : Nat) (a0_0 : Int) (l0_1 : List (S64)) (l1 : List Int) : Option (Bool) := (dropperref06_list.f k l1 a0_0 (-20000) 20000).bind fun t230 => (some t230)
set_option maxHeartbeats 8000000 in
set_option maxRecDepth 100000 in
theorem dropperref06_Weights.calls (k : Nat) (a0_0 : Int) (A0_1 : Option Addr) (c0_1 : Nat) (l0_1 : List (S64)) (A1 : Option Addr) (c1 : Nat) (l1 : List Int) (r : Bool) (w : World) (hr0_1 : Kd.C k64 w A0_1 l0_1.length l0_1) (hc0_1 : l0_1.length ≤ c0_1) (hr1 : Kd.C (Kd.int .i64) w A1 l1.length l1) (hc1 : l1.length ≤ c1) (h : dropperref06_Weights.f k a0_0 l0_1 l1 = some r) :
  Calls Try.prog 14 #[.agg #[.int .i64 a0_0, .slice A0_1 l0_1.length c0_1], .slice A1 l1.length c1] w fun e w' => e = .returned (.bool r) ∧ Below w.heap.size w w' := by
 have hu24 := Try.underlying24
 have HR0_1 := Aside0.mk hr0_1
 have HC0_1 := Aside0.mk hc0_1
 clear hr0_1 hc0_1
 have HR1 := Aside0.mk hr1
 have HC1 := Aside0.mk hc1
 clear hr1 hc1
 have HB := Aside0.mk (Below.refl w.heap.size w)
 have H : ((dropperref06_list.f k l1 a0_0 (-20000) 20000).bind fun t230 => (some t230)) = some r := h
 clear h
 replace H := Option.bind_eq_some_iff.mp H
 obtain ⟨t230, A30, H⟩ := H
 try dsimp only at H
 have A3 := Aside0.mk A30
 clear A30
 obtain rfl := Option.some.inj H
 go_enter Try.func14, Try.ntmps14
 go_wp2_with (first | ((with_reducible refine gate_dst (N := 2) rfl ?_); refine box_event ?hg (N := 2) ?hd (cs := #[.int .i64 a0_0, .slice A0_1 l0_1.length c0_1]) (t := 24) ?hr ?_; (case hd => rfl); (case hg => rfl); (case hr => first | (go_simp; done) | (go_simp; rfl)); intro gb229 hg w4 hbox hb; have BK229 := Aside0.mk (hbox); have GW229 := bsz (w := w) hg; have GE229 := GW229; replace HB := Aside0.mk (below_step bel hb); clear hb hbox hg; obtain ⟨hcz5_0, hcz5_1⟩ := bc2 BK229.out) | ((with_reducible refine gate_callee (f := 52) rfl ?_); refine goesL_ (some 8) rfl rfl Try.func52 (by kernel_rfl) rfl #[.slice A1 l1.length c1, .int .i64 a0_0, .int .i64 (-20000), .int .i64 20000] rfl mapz ?_; (with_reducible refine (dropperref06_list.calls k _ _ l1 a0_0 (-20000) 20000 t230 _ (cbz HR1) HC1.out A3.out).mono ?_); rintro e w' ⟨rfl, ⟨nd, rfl⟩⟩; refine ⟨_, rfl, ?_⟩))
 go_ret
 exact ⟨ezz, bel⟩

/-! ### dropperref06_product: function 73 -/
def dropperref06_product.l0 : Nat → List Int → List Int → Int → Int → Option (Int)
 | 0, _, _, _, _ => none
 | k + 1, x0, x1, x5, x6 => if x6 < (x1.length : Int) then (if 0 ≤ x6 then (if x6 < (x0.length : Int) then (dropperref06_product.l0 k x0 x1 (wrap64 (x5 + (wrap64 ((rd x0 x6) * (rd x1 x6))))) (wrap64 (x6 + 1))) else (none)) else (none)) else (some x5)
def dropperref06_product.f (k : Nat) (l0 : List Int) (l1 : List Int) : Option (Int) := dropperref06_product.l0 k l0 l1 0 0
set_option maxHeartbeats 8000000 in
set_option maxRecDepth 100000 in
theorem dropperref06_product.calls (k : Nat) (A0 : Option Addr) (c0 : Nat) (l0 : List Int) (A1 : Option Addr) (c1 : Nat) (l1 : List Int) (r : Int) (w : World) (hr0 : Kd.C (Kd.int .i64) w A0 l0.length l0) (hc0 : l0.length ≤ c0) (hr1 : Kd.C (Kd.int .i64) w A1 l1.length l1) (hc1 : l1.length ≤ c1) (h : dropperref06_product.f k l0 l1 = some r) :
  Calls Try.prog 73 #[.slice A0 l0.length c0, .slice A1 l1.length c1] w fun e w' => e = .returned (.int .i64 r) ∧ Drawn0 w w' := by
 have HR0 := Aside0.mk hr0
 have HC0 := Aside0.mk hc0
 clear hr0 hc0
 have HR1 := Aside0.mk hr1
 have HC1 := Aside0.mk hc1
 clear hr1 hc1
 have H : (dropperref06_product.l0 k l0 l1 0 0) = some r := h
 clear h
 have H' := Aside0.mk H
 clear H
 go_enter Try.func73, Try.ntmps73
 go_wp2
 repeat (go_quiet (fail); try go_wp2)
 go_loopg [5, 6] k (fun kq v5 v6 w' => ∃ (x5_1 : Int) (x6_1 : Int), v5 = .int .i64 x5_1 ∧ v6 = .int .i64 x6_1 ∧ Aside0 (dropperref06_product.l0 kq l0 l1 x5_1 x6_1 = some r) ∧ Aside0 (kq ≤ k) ∧ Drawn0 w w')
 case atStart => exact ⟨(0), (0), rsz, rsz, H', ⟨Nat.le_refl _⟩, drz⟩
 case round =>
  clear H'
  (try clear c1); (try clear p2)
  obtain ⟨x5_1, x6_1, rfl, rfl, HA, HK1, ⟨m1, rfl⟩⟩ := hrel
  cases gk with
  | zero => exact absurd HA.out (by simp [dropperref06_product.l0])
  | succ k1 =>
   have H := HA.out
   clear HA
   simp only [dropperref06_product.l0] at H
   by_cases c3 : x6_1 < (l1.length : Int)
   ·
    rw [if_pos c3] at H
    have c3b0 : decide (x6_1 < (l1.length : Int)) = true := decide_eq_true c3
    clear c3
    by_cases c4 : 0 ≤ x6_1
    ·
     rw [if_pos c4] at H
     have c4b0 : decide (0 ≤ x6_1) = true := decide_eq_true c4
     clear c4
     by_cases c5 : x6_1 < (l0.length : Int)
     ·
      rw [if_pos c5] at H
      have c5b0 : decide (x6_1 < (l0.length : Int)) = true := decide_eq_true c5
      clear c5
      have H' := Aside0.mk H
      clear H
      have p231 : 0 ≤ (x6_1 : Int) := of_decide_eq_true asz
      have q231 : x6_1 < (l0.length : Int) := of_decide_eq_true asz
      obtain ⟨ad231, e231, hx231_0⟩ := Kd.at_int HR0.out x6_1 p231 q231
      cases e231
      replace p231 := eq_true p231
      replace q231 := eq_true q231
      have p232 : 0 ≤ (x6_1 : Int) := of_decide_eq_true asz
      have q232 : x6_1 < (l1.length : Int) := of_decide_eq_true asz
      obtain ⟨ad232, e232, hx232_0⟩ := Kd.at_int HR1.out x6_1 p232 q232
      cases e232
      replace p232 := eq_true p232
      replace q232 := eq_true q232
      go_wp2
      repeat (go_quiet (fail); try go_wp2)
      go_roundg k1
      case measure => have := HK1.out; omega
      case rel => exact ⟨(wrap64 (x5_1 + (wrap64 ((rd l0 x6_1) * (rd l1 x6_1))))), (wrap64 (x6_1 + 1)), rsz, rsz, H', ⟨by have := HK1.out; omega⟩, drz⟩
     ·
      rw [if_neg c5] at H
      exact absurd H (by simp)
    ·
     rw [if_neg c4] at H
     exact absurd H (by simp)
   ·
    rw [if_neg c3] at H
    have c3b0 : decide (x6_1 < (l1.length : Int)) = false := decide_eq_false c3
    clear c3
    obtain rfl := Option.some.inj H
    go_wp2
    repeat (go_quiet (fail); try go_wp2)
    go_ret
    exact ⟨by first | rfl | (simp; done) | (simp [*]; done), drz⟩

/-! ### dropperref06_holds: function 71 -/
def dropperref06_holds.l0 : Nat → List Int → Int → Int → List (S64) → Option (Bool)
 | 0, _, _, _, _ => none
 | k + 1, x1, x5, x234000, x234001 => if x5 < (x234001.length : Int) then (if 0 ≤ x5 then ((dropperref06_product.f k x1 ((rd_T64 x234001 x5).f0)).bind fun t235 => ((dropperref06_product.f k x1 ((rd_T64 x234001 x5).f1)).bind fun t237 => (if t235 = t237 then (dropperref06_holds.l0 k x1 (wrap64 (x5 + 1)) x234000 x234001) else (some false)))) else (none)) else (some true)
def dropperref06_holds.f (k : Nat) (a0_0 : Int) (l0_1 : List (S64)) (l1 : List Int) : Option (Bool) := dropperref06_holds.l0 k l1 0 a0_0 l0_1
set_option maxHeartbeats 8000000 in
set_option maxRecDepth 100000 in
theorem dropperref06_holds.calls (k : Nat) (a0_0 : Int) (A0_1 : Option Addr) (c0_1 : Nat) (l0_1 : List (S64)) (A1 : Option Addr) (c1 : Nat) (l1 : List Int) (r : Bool) (w : World) (hr0_1 : Kd.C k64 w A0_1 l0_1.length l0_1) (hc0_1 : l0_1.length ≤ c0_1) (hr1 : Kd.C (Kd.int .i64) w A1 l1.length l1) (hc1 : l1.length ≤ c1) (h : dropperref06_holds.f k a0_0 l0_1 l1 = some r) :
  Calls Try.prog 71 #[.agg #[.int .i64 a0_0, .slice A0_1 l0_1.length c0_1], .slice A1 l1.length c1] w fun e w' => e = .returned (.bool r) ∧ Below w.heap.size w w' := by
 have hu24 := Try.underlying24
 have HR0_1 := Aside0.mk hr0_1
 have HC0_1 := Aside0.mk hc0_1
 clear hr0_1 hc0_1
 have HR1 := Aside0.mk hr1
 have HC1 := Aside0.mk hc1
 clear hr1 hc1
 have HB := Aside0.mk (Below.refl w.heap.size w)
 have H : (dropperref06_holds.l0 k l1 0 a0_0 l0_1) = some r := h
 clear h
 have H' := Aside0.mk H
 clear H
 go_enter Try.func71, Try.ntmps71
 go_wp2_with (first | ((with_reducible refine gate_dst (N := 2) rfl ?_); refine box_event ?hg (N := 2) ?hd (cs := #[.int .i64 a0_0, .slice A0_1 l0_1.length c0_1]) (t := 24) ?hr ?_; (case hd => rfl); (case hg => rfl); (case hr => first | (go_simp; done) | (go_simp; rfl)); intro gb233 hg w3 hbox hb; have BK233 := Aside0.mk (hbox); have GW233 := bsz (w := w) hg; have GE233 := GW233; replace HB := Aside0.mk (below_step bel hb); clear hb hbox hg))
 repeat (go_quiet (first | ((with_reducible refine gate_dst (N := 2) rfl ?_); refine box_event ?hg (N := 2) ?hd (cs := #[.int .i64 a0_0, .slice A0_1 l0_1.length c0_1]) (t := 24) ?hr ?_; (case hd => rfl); (case hg => rfl); (case hr => first | (go_simp; done) | (go_simp; rfl)); intro gb233 hg w3 hbox hb; have BK233 := Aside0.mk (hbox); have GW233 := bsz (w := w) hg; have GE233 := GW233; replace HB := Aside0.mk (below_step bel hb); clear hb hbox hg)); try go_wp2_with (first | ((with_reducible refine gate_dst (N := 2) rfl ?_); refine box_event ?hg (N := 2) ?hd (cs := #[.int .i64 a0_0, .slice A0_1 l0_1.length c0_1]) (t := 24) ?hr ?_; (case hd => rfl); (case hg => rfl); (case hr => first | (go_simp; done) | (go_simp; rfl)); intro gb233 hg w3 hbox hb; have BK233 := Aside0.mk (hbox); have GW233 := bsz (w := w) hg; have GE233 := GW233; replace HB := Aside0.mk (below_step bel hb); clear hb hbox hg)))
 go_loopg [5] k (fun kq v5 w' => ∃ (x5_1 : Int), v5 = .int .i64 x5_1 ∧ Aside0 (dropperref06_holds.l0 kq l1 x5_1 a0_0 l0_1 = some r) ∧ Aside0 (kq ≤ k) ∧ Aside0 (w'.heap[gb233]? = some (.cells #[.int .i64 a0_0, (.slice A0_1 l0_1.length c0_1)] 24 (0, 0))) ∧ Aside0 (Below w.heap.size w w'))
 case atStart => exact ⟨(0), rsz, H', ⟨Nat.le_refl _⟩, ⟨blkz⟩, ⟨bel⟩⟩
 case round =>
  clear H'
  (try clear c1); (try clear p2)
  obtain ⟨x5_1, rfl, HA, HK1, BK233, HB⟩ := hrel
  cases gk with
  | zero => exact absurd HA.out (by simp [dropperref06_holds.l0])
  | succ k1 =>
   have H := HA.out
   clear HA
   simp only [dropperref06_holds.l0] at H
   by_cases c4 : x5_1 < (l0_1.length : Int)
   ·
    rw [if_pos c4] at H
    have c4b0 : decide (x5_1 < (l0_1.length : Int)) = true := decide_eq_true c4
    clear c4
    by_cases c5 : 0 ≤ x5_1
    ·
     rw [if_pos c5] at H
     have c5b0 : decide (0 ≤ x5_1) = true := decide_eq_true c5
     clear c5
     replace H := Option.bind_eq_some_iff.mp H
     obtain ⟨t235, A60, H⟩ := H
     try dsimp only at H
     have A6 := Aside0.mk A60
     clear A60
     replace H := Option.bind_eq_some_iff.mp H
     obtain ⟨t237, A70, H⟩ := H
     try dsimp only at H
     have A7 := Aside0.mk A70
     clear A70
     by_cases c8 : t235 = t237
     ·
      rw [if_pos c8] at H
      have c8b0 : (t235 == t237) = true := beq_iff_eq.mpr c8
      have c8b1 : (t235 != t237) = false := bne_eq_false_iff_eq.mpr c8
      clear c8
      have H' := Aside0.mk H
      clear H
      obtain ⟨hcz9_0, hcz9_1⟩ := bc2 BK233.out
      obtain ⟨hfz9_0, hfz9_1⟩ := bf2 BK233.out
      have p234 : 0 ≤ (x5_1 : Int) := of_decide_eq_true asz
      have q234 : x5_1 < (l0_1.length : Int) := of_decide_eq_true asz
      obtain ⟨ad234, A234_0, c234_0, A234_1, c234_1, e234, hx234_0, hx234_1, hl234_0, hi234_0, hl234_1, hi234_1⟩ := at_T64 HR0_1.out x5_1 p234 q234
      cases e234
      replace hx234_0 := (HB.out.cell (World.block_lt_of_cell? w _ hx234_0)).trans hx234_0
      replace hx234_1 := (HB.out.cell (World.block_lt_of_cell? w _ hx234_1)).trans hx234_1
      have HR234_0 := Aside0.mk hi234_0
      have HC234_0 := Aside0.mk hl234_0
      clear hi234_0 hl234_0
      have HR234_1 := Aside0.mk hi234_1
      have HC234_1 := Aside0.mk hl234_1
      clear hi234_1 hl234_1
      replace p234 := eq_true p234
      replace q234 := eq_true q234
      go_wp2_with (first | (go_at_call 73; (with_reducible refine (dropperref06_product.calls k1 _ _ l1 _ _ ((rd_T64 l0_1 x5_1).f0) t235 _ (cbz HR1) HC1.out (cbz HR234_0) HC234_0.out A6.out).mono ?_); rintro e w' ⟨rfl, ⟨nd, rfl⟩⟩; (try first | exact ⟨rfl, _, World.drewN_drewN _ _ _⟩ | exact ⟨rfl, _, Eq.trans (World.drewN_drewN _ _ _) (congrArg (World.drewN _) (Nat.add_assoc _ _ _))⟩); have p236 : 0 ≤ (x5_1 : Int) := of_decide_eq_true asz; have q236 : x5_1 < (l0_1.length : Int) := of_decide_eq_true asz; obtain ⟨ad236, A236_0, c236_0, A236_1, c236_1, e236, hx236_0, hx236_1, hl236_0, hi236_0, hl236_1, hi236_1⟩ := at_T64 HR0_1.out x5_1 p236 q236; obtain rfl : ad234 = ad236 := (by injection e236); replace hx236_0 := (HB.out.cell (World.block_lt_of_cell? w _ hx236_0)).trans hx236_0; replace hx236_1 := (HB.out.cell (World.block_lt_of_cell? w _ hx236_1)).trans hx236_1; have HR236_0 := Aside0.mk hi236_0; have HC236_0 := Aside0.mk hl236_0; clear hi236_0 hl236_0; have HR236_1 := Aside0.mk hi236_1; have HC236_1 := Aside0.mk hl236_1; clear hi236_1 hl236_1; replace p236 := eq_true p236; replace q236 := eq_true q236; have ea_ := Option.some.inj (hx234_0.symm.trans hx236_0); injection ea_ with ea_ en_ ec_; subst ea_; subst ec_; clear en_; have ea_ := Option.some.inj (hx234_1.symm.trans hx236_1); injection ea_ with ea_ en_ ec_; subst ea_; subst ec_; clear en_) | (go_at_call 73; (with_reducible refine (dropperref06_product.calls k1 _ _ l1 _ _ ((rd_T64 l0_1 x5_1).f1) t237 _ ?side1 HC1.out ?side3 HC236_1.out A7.out).mono ?_); (case side1 => repeat (first | exact (Kd.C_below HR1.out bel) | (with_reducible refine Kd.C_alloc ?_ _) | (with_reducible refine Kd.C_drewN ?_ _) | (with_reducible refine Kd.C_drew ?_))); (case side3 => repeat (first | exact (Kd.C_below HR236_1.out bel) | (with_reducible refine Kd.C_alloc ?_ _) | (with_reducible refine Kd.C_drewN ?_ _) | (with_reducible refine Kd.C_drew ?_))); rintro e w' ⟨rfl, ⟨nd, rfl⟩⟩; (try first | exact ⟨rfl, _, World.drewN_drewN _ _ _⟩ | exact ⟨rfl, _, Eq.trans (World.drewN_drewN _ _ _) (congrArg (World.drewN _) (Nat.add_assoc _ _ _))⟩)))
      repeat (go_quiet (first | (go_at_call 73; (with_reducible refine (dropperref06_product.calls k1 _ _ l1 _ _ ((rd_T64 l0_1 x5_1).f0) t235 _ (cbz HR1) HC1.out (cbz HR234_0) HC234_0.out A6.out).mono ?_); rintro e w' ⟨rfl, ⟨nd, rfl⟩⟩; (try first | exact ⟨rfl, _, World.drewN_drewN _ _ _⟩ | exact ⟨rfl, _, Eq.trans (World.drewN_drewN _ _ _) (congrArg (World.drewN _) (Nat.add_assoc _ _ _))⟩); have p236 : 0 ≤ (x5_1 : Int) := of_decide_eq_true asz; have q236 : x5_1 < (l0_1.length : Int) := of_decide_eq_true asz; obtain ⟨ad236, A236_0, c236_0, A236_1, c236_1, e236, hx236_0, hx236_1, hl236_0, hi236_0, hl236_1, hi236_1⟩ := at_T64 HR0_1.out x5_1 p236 q236; obtain rfl : ad234 = ad236 := (by injection e236); replace hx236_0 := (HB.out.cell (World.block_lt_of_cell? w _ hx236_0)).trans hx236_0; replace hx236_1 := (HB.out.cell (World.block_lt_of_cell? w _ hx236_1)).trans hx236_1; have HR236_0 := Aside0.mk hi236_0; have HC236_0 := Aside0.mk hl236_0; clear hi236_0 hl236_0; have HR236_1 := Aside0.mk hi236_1; have HC236_1 := Aside0.mk hl236_1; clear hi236_1 hl236_1; replace p236 := eq_true p236; replace q236 := eq_true q236; have ea_ := Option.some.inj (hx234_0.symm.trans hx236_0); injection ea_ with ea_ en_ ec_; subst ea_; subst ec_; clear en_; have ea_ := Option.some.inj (hx234_1.symm.trans hx236_1); injection ea_ with ea_ en_ ec_; subst ea_; subst ec_; clear en_) | (go_at_call 73; (with_reducible refine (dropperref06_product.calls k1 _ _ l1 _ _ ((rd_T64 l0_1 x5_1).f1) t237 _ ?side1 HC1.out ?side3 HC236_1.out A7.out).mono ?_); (case side1 => repeat (first | exact (Kd.C_below HR1.out bel) | (with_reducible refine Kd.C_alloc ?_ _) | (with_reducible refine Kd.C_drewN ?_ _) | (with_reducible refine Kd.C_drew ?_))); (case side3 => repeat (first | exact (Kd.C_below HR236_1.out bel) | (with_reducible refine Kd.C_alloc ?_ _) | (with_reducible refine Kd.C_drewN ?_ _) | (with_reducible refine Kd.C_drew ?_))); rintro e w' ⟨rfl, ⟨nd, rfl⟩⟩; (try first | exact ⟨rfl, _, World.drewN_drewN _ _ _⟩ | exact ⟨rfl, _, Eq.trans (World.drewN_drewN _ _ _) (congrArg (World.drewN _) (Nat.add_assoc _ _ _))⟩))); try go_wp2_with (first | (go_at_call 73; (with_reducible refine (dropperref06_product.calls k1 _ _ l1 _ _ ((rd_T64 l0_1 x5_1).f0) t235 _ (cbz HR1) HC1.out (cbz HR234_0) HC234_0.out A6.out).mono ?_); rintro e w' ⟨rfl, ⟨nd, rfl⟩⟩; (try first | exact ⟨rfl, _, World.drewN_drewN _ _ _⟩ | exact ⟨rfl, _, Eq.trans (World.drewN_drewN _ _ _) (congrArg (World.drewN _) (Nat.add_assoc _ _ _))⟩); have p236 : 0 ≤ (x5_1 : Int) := of_decide_eq_true asz; have q236 : x5_1 < (l0_1.length : Int) := of_decide_eq_true asz; obtain ⟨ad236, A236_0, c236_0, A236_1, c236_1, e236, hx236_0, hx236_1, hl236_0, hi236_0, hl236_1, hi236_1⟩ := at_T64 HR0_1.out x5_1 p236 q236; obtain rfl : ad234 = ad236 := (by injection e236); replace hx236_0 := (HB.out.cell (World.block_lt_of_cell? w _ hx236_0)).trans hx236_0; replace hx236_1 := (HB.out.cell (World.block_lt_of_cell? w _ hx236_1)).trans hx236_1; have HR236_0 := Aside0.mk hi236_0; have HC236_0 := Aside0.mk hl236_0; clear hi236_0 hl236_0; have HR236_1 := Aside0.mk hi236_1; have HC236_1 := Aside0.mk hl236_1; clear hi236_1 hl236_1; replace p236 := eq_true p236; replace q236 := eq_true q236; have ea_ := Option.some.inj (hx234_0.symm.trans hx236_0); injection ea_ with ea_ en_ ec_; subst ea_; subst ec_; clear en_; have ea_ := Option.some.inj (hx234_1.symm.trans hx236_1); injection ea_ with ea_ en_ ec_; subst ea_; subst ec_; clear en_) | (go_at_call 73; (with_reducible refine (dropperref06_product.calls k1 _ _ l1 _ _ ((rd_T64 l0_1 x5_1).f1) t237 _ ?side1 HC1.out ?side3 HC236_1.out A7.out).mono ?_); (case side1 => repeat (first | exact (Kd.C_below HR1.out bel) | (with_reducible refine Kd.C_alloc ?_ _) | (with_reducible refine Kd.C_drewN ?_ _) | (with_reducible refine Kd.C_drew ?_))); (case side3 => repeat (first | exact (Kd.C_below HR236_1.out bel) | (with_reducible refine Kd.C_alloc ?_ _) | (with_reducible refine Kd.C_drewN ?_ _) | (with_reducible refine Kd.C_drew ?_))); rintro e w' ⟨rfl, ⟨nd, rfl⟩⟩; (try first | exact ⟨rfl, _, World.drewN_drewN _ _ _⟩ | exact ⟨rfl, _, Eq.trans (World.drewN_drewN _ _ _) (congrArg (World.drewN _) (Nat.add_assoc _ _ _))⟩))))
      go_roundg k1
      case measure => have := HK1.out; omega
      case rel => exact ⟨(wrap64 (x5_1 + 1)), rsz, H', ⟨by have := HK1.out; omega⟩, ⟨blkz⟩, ⟨bel⟩⟩
     ·
      rw [if_neg c8] at H
      have c8b0 : (t235 == t237) = false := beq_eq_false_iff_ne.mpr c8
      have c8b1 : (t235 != t237) = true := bne_iff_ne.mpr c8
      obtain rfl := Option.some.inj H
      obtain ⟨hcz10_0, hcz10_1⟩ := bc2 BK233.out
      obtain ⟨hfz10_0, hfz10_1⟩ := bf2 BK233.out
      have p234 : 0 ≤ (x5_1 : Int) := of_decide_eq_true asz
      have q234 : x5_1 < (l0_1.length : Int) := of_decide_eq_true asz
      obtain ⟨ad234, A234_0, c234_0, A234_1, c234_1, e234, hx234_0, hx234_1, hl234_0, hi234_0, hl234_1, hi234_1⟩ := at_T64 HR0_1.out x5_1 p234 q234
      cases e234
      replace hx234_0 := (HB.out.cell (World.block_lt_of_cell? w _ hx234_0)).trans hx234_0
      replace hx234_1 := (HB.out.cell (World.block_lt_of_cell? w _ hx234_1)).trans hx234_1
      have HR234_0 := Aside0.mk hi234_0
      have HC234_0 := Aside0.mk hl234_0
      clear hi234_0 hl234_0
      have HR234_1 := Aside0.mk hi234_1
      have HC234_1 := Aside0.mk hl234_1
      clear hi234_1 hl234_1
      replace p234 := eq_true p234
      replace q234 := eq_true q234
      go_wp2_with (first | (go_at_call 73; (with_reducible refine (dropperref06_product.calls k1 _ _ l1 _ _ ((rd_T64 l0_1 x5_1).f0) t235 _ (cbz HR1) HC1.out (cbz HR234_0) HC234_0.out A6.out).mono ?_); rintro e w' ⟨rfl, ⟨nd, rfl⟩⟩; (try first | exact ⟨rfl, _, World.drewN_drewN _ _ _⟩ | exact ⟨rfl, _, Eq.trans (World.drewN_drewN _ _ _) (congrArg (World.drewN _) (Nat.add_assoc _ _ _))⟩); have p236 : 0 ≤ (x5_1 : Int) := of_decide_eq_true asz; have q236 : x5_1 < (l0_1.length : Int) := of_decide_eq_true asz; obtain ⟨ad236, A236_0, c236_0, A236_1, c236_1, e236, hx236_0, hx236_1, hl236_0, hi236_0, hl236_1, hi236_1⟩ := at_T64 HR0_1.out x5_1 p236 q236; obtain rfl : ad234 = ad236 := (by injection e236); replace hx236_0 := (HB.out.cell (World.block_lt_of_cell? w _ hx236_0)).trans hx236_0; replace hx236_1 := (HB.out.cell (World.block_lt_of_cell? w _ hx236_1)).trans hx236_1; have HR236_0 := Aside0.mk hi236_0; have HC236_0 := Aside0.mk hl236_0; clear hi236_0 hl236_0; have HR236_1 := Aside0.mk hi236_1; have HC236_1 := Aside0.mk hl236_1; clear hi236_1 hl236_1; replace p236 := eq_true p236; replace q236 := eq_true q236; have ea_ := Option.some.inj (hx234_0.symm.trans hx236_0); injection ea_ with ea_ en_ ec_; subst ea_; subst ec_; clear en_; have ea_ := Option.some.inj (hx234_1.symm.trans hx236_1); injection ea_ with ea_ en_ ec_; subst ea_; subst ec_; clear en_) | (go_at_call 73; (with_reducible refine (dropperref06_product.calls k1 _ _ l1 _ _ ((rd_T64 l0_1 x5_1).f1) t237 _ ?side1 HC1.out ?side3 HC236_1.out A7.out).mono ?_); (case side1 => repeat (first | exact (Kd.C_below HR1.out bel) | (with_reducible refine Kd.C_alloc ?_ _) | (with_reducible refine Kd.C_drewN ?_ _) | (with_reducible refine Kd.C_drew ?_))); (case side3 => repeat (first | exact (Kd.C_below HR236_1.out bel) | (with_reducible refine Kd.C_alloc ?_ _) | (with_reducible refine Kd.C_drewN ?_ _) | (with_reducible refine Kd.C_drew ?_))); rintro e w' ⟨rfl, ⟨nd, rfl⟩⟩; (try first | exact ⟨rfl, _, World.drewN_drewN _ _ _⟩ | exact ⟨rfl, _, Eq.trans (World.drewN_drewN _ _ _) (congrArg (World.drewN _) (Nat.add_assoc _ _ _))⟩)))
      repeat (go_quiet (first | (go_at_call 73; (with_reducible refine (dropperref06_product.calls k1 _ _ l1 _ _ ((rd_T64 l0_1 x5_1).f0) t235 _ (cbz HR1) HC1.out (cbz HR234_0) HC234_0.out A6.out).mono ?_); rintro e w' ⟨rfl, ⟨nd, rfl⟩⟩; (try first | exact ⟨rfl, _, World.drewN_drewN _ _ _⟩ | exact ⟨rfl, _, Eq.trans (World.drewN_drewN _ _ _) (congrArg (World.drewN _) (Nat.add_assoc _ _ _))⟩); have p236 : 0 ≤ (x5_1 : Int) := of_decide_eq_true asz; have q236 : x5_1 < (l0_1.length : Int) := of_decide_eq_true asz; obtain ⟨ad236, A236_0, c236_0, A236_1, c236_1, e236, hx236_0, hx236_1, hl236_0, hi236_0, hl236_1, hi236_1⟩ := at_T64 HR0_1.out x5_1 p236 q236; obtain rfl : ad234 = ad236 := (by injection e236); replace hx236_0 := (HB.out.cell (World.block_lt_of_cell? w _ hx236_0)).trans hx236_0; replace hx236_1 := (HB.out.cell (World.block_lt_of_cell? w _ hx236_1)).trans hx236_1; have HR236_0 := Aside0.mk hi236_0; have HC236_0 := Aside0.mk hl236_0; clear hi236_0 hl236_0; have HR236_1 := Aside0.mk hi236_1; have HC236_1 := Aside0.mk hl236_1; clear hi236_1 hl236_1; replace p236 := eq_true p236; replace q236 := eq_true q236; have ea_ := Option.some.inj (hx234_0.symm.trans hx236_0); injection ea_ with ea_ en_ ec_; subst ea_; subst ec_; clear en_; have ea_ := Option.some.inj (hx234_1.symm.trans hx236_1); injection ea_ with ea_ en_ ec_; subst ea_; subst ec_; clear en_) | (go_at_call 73; (with_reducible refine (dropperref06_product.calls k1 _ _ l1 _ _ ((rd_T64 l0_1 x5_1).f1) t237 _ ?side1 HC1.out ?side3 HC236_1.out A7.out).mono ?_); (case side1 => repeat (first | exact (Kd.C_below HR1.out bel) | (with_reducible refine Kd.C_alloc ?_ _) | (with_reducible refine Kd.C_drewN ?_ _) | (with_reducible refine Kd.C_drew ?_))); (case side3 => repeat (first | exact (Kd.C_below HR236_1.out bel) | (with_reducible refine Kd.C_alloc ?_ _) | (with_reducible refine Kd.C_drewN ?_ _) | (with_reducible refine Kd.C_drew ?_))); rintro e w' ⟨rfl, ⟨nd, rfl⟩⟩; (try first | exact ⟨rfl, _, World.drewN_drewN _ _ _⟩ | exact ⟨rfl, _, Eq.trans (World.drewN_drewN _ _ _) (congrArg (World.drewN _) (Nat.add_assoc _ _ _))⟩))); try go_wp2_with (first | (go_at_call 73; (with_reducible refine (dropperref06_product.calls k1 _ _ l1 _ _ ((rd_T64 l0_1 x5_1).f0) t235 _ (cbz HR1) HC1.out (cbz HR234_0) HC234_0.out A6.out).mono ?_); rintro e w' ⟨rfl, ⟨nd, rfl⟩⟩; (try first | exact ⟨rfl, _, World.drewN_drewN _ _ _⟩ | exact ⟨rfl, _, Eq.trans (World.drewN_drewN _ _ _) (congrArg (World.drewN _) (Nat.add_assoc _ _ _))⟩); have p236 : 0 ≤ (x5_1 : Int) := of_decide_eq_true asz; have q236 : x5_1 < (l0_1.length : Int) := of_decide_eq_true asz; obtain ⟨ad236, A236_0, c236_0, A236_1, c236_1, e236, hx236_0, hx236_1, hl236_0, hi236_0, hl236_1, hi236_1⟩ := at_T64 HR0_1.out x5_1 p236 q236; obtain rfl : ad234 = ad236 := (by injection e236); replace hx236_0 := (HB.out.cell (World.block_lt_of_cell? w _ hx236_0)).trans hx236_0; replace hx236_1 := (HB.out.cell (World.block_lt_of_cell? w _ hx236_1)).trans hx236_1; have HR236_0 := Aside0.mk hi236_0; have HC236_0 := Aside0.mk hl236_0; clear hi236_0 hl236_0; have HR236_1 := Aside0.mk hi236_1; have HC236_1 := Aside0.mk hl236_1; clear hi236_1 hl236_1; replace p236 := eq_true p236; replace q236 := eq_true q236; have ea_ := Option.some.inj (hx234_0.symm.trans hx236_0); injection ea_ with ea_ en_ ec_; subst ea_; subst ec_; clear en_; have ea_ := Option.some.inj (hx234_1.symm.trans hx236_1); injection ea_ with ea_ en_ ec_; subst ea_; subst ec_; clear en_) | (go_at_call 73; (with_reducible refine (dropperref06_product.calls k1 _ _ l1 _ _ ((rd_T64 l0_1 x5_1).f1) t237 _ ?side1 HC1.out ?side3 HC236_1.out A7.out).mono ?_); (case side1 => repeat (first | exact (Kd.C_below HR1.out bel) | (with_reducible refine Kd.C_alloc ?_ _) | (with_reducible refine Kd.C_drewN ?_ _) | (with_reducible refine Kd.C_drew ?_))); (case side3 => repeat (first | exact (Kd.C_below HR236_1.out bel) | (with_reducible refine Kd.C_alloc ?_ _) | (with_reducible refine Kd.C_drewN ?_ _) | (with_reducible refine Kd.C_drew ?_))); rintro e w' ⟨rfl, ⟨nd, rfl⟩⟩; (try first | exact ⟨rfl, _, World.drewN_drewN _ _ _⟩ | exact ⟨rfl, _, Eq.trans (World.drewN_drewN _ _ _) (congrArg (World.drewN _) (Nat.add_assoc _ _ _))⟩))))
      go_ret
      exact ⟨ezz, bel⟩
    ·
     rw [if_neg c5] at H
     exact absurd H (by simp)
   ·
    rw [if_neg c4] at H
    have c4b0 : decide (x5_1 < (l0_1.length : Int)) = false := decide_eq_false c4
    clear c4
    obtain rfl := Option.some.inj H
    obtain ⟨hcz11_0, hcz11_1⟩ := bc2 BK233.out
    obtain ⟨hfz11_0, hfz11_1⟩ := bf2 BK233.out
    go_wp2
    repeat (go_quiet (fail); try go_wp2)
    go_ret
    exact ⟨ezz, bel⟩

/-! ### dropperref06_Holds: function 30 -/
def dropperref06_Holds.f (k : Nat) (a0_0 : Int) (l0_1 : List (S64)) (l1 : List Int) : Option (Bool × Int) := (dropperref06_Valid.f k a0_0 l0_1).bind fun t239 => (if t239 = true then ((dropperref06_Weights.f k a0_0 l0_1 l1).bind fun t240 => (if t240 = true then ((dropperref06_holds.f k a0_0 l0_1 l1).bind fun t241 => (some (t241, 0))) else (some (false, 2)))) else (some (false, 60)))
set_option maxHeartbeats 8000000 in
set_option maxRecDepth 100000 in
theorem dropperref06_Holds.calls (k : Nat) (a0_0 : Int) (A0_1 : Option Addr) (c0_1 : Nat) (l0_1 : List (S64)) (A1 : Option Addr) (c1 : Nat) (l1 : List Int) (r1 : Bool) (r2 : Int) (w : World) (hr0_1 : Kd.C k64 w A0_1 l0_1.length l0_1) (hc0_1 : l0_1.length ≤ c0_1) (hr1 : Kd.C (Kd.int .i64) w A1 l1.length l1) (hc1 : l1.length ≤ c1) (h : dropperref06_Holds.f k a0_0 l0_1 l1 = some (r1, r2)) :
  Calls Try.prog 30 #[.agg #[.int .i64 a0_0, .slice A0_1 l0_1.length c0_1], .slice A1 l1.length c1] w fun e w' => e = .returned (.tuple #[.bool r1, .int .i64 r2]) ∧ Below w.heap.size w w' := by
 have hu24 := Try.underlying24
 have HR0_1 := Aside0.mk hr0_1
 have HC0_1 := Aside0.mk hc0_1
 clear hr0_1 hc0_1
 have HR1 := Aside0.mk hr1
 have HC1 := Aside0.mk hc1
 clear hr1 hc1
 have HB := Aside0.mk (Below.refl w.heap.size w)
 have H : ((dropperref06_Valid.f k a0_0 l0_1).bind fun t239 => (if t239 = true then ((dropperref06_Weights.f k a0_0 l0_1 l1).bind fun t240 => (if t240 = true then ((dropperref06_holds.f k a0_0 l0_1 l1).bind fun t241 => (some (t241, 0))) else (some (false, 2)))) else (some (false, 60)))) = some (r1, r2) := h
 clear h
 replace H := Option.bind_eq_some_iff.mp H
 obtain ⟨t239, A30, H⟩ := H
 try dsimp only at H
 have A3 := Aside0.mk A30
 clear A30
 by_cases c4 : t239 = true
 ·
  subst c4
  rw [if_pos rfl] at H
  replace H := Option.bind_eq_some_iff.mp H
  obtain ⟨t240, A50, H⟩ := H
  try dsimp only at H
  have A5 := Aside0.mk A50
  clear A50
  by_cases c6 : t240 = true
  ·
   subst c6
   rw [if_pos rfl] at H
   replace H := Option.bind_eq_some_iff.mp H
   obtain ⟨t241, A70, H⟩ := H
   try dsimp only at H
   have A7 := Aside0.mk A70
   clear A70
   simp only [Option.some.injEq, Prod.mk.injEq] at H
   obtain ⟨rfl, rfl⟩ := H
   go_enter Try.func30, Try.ntmps30
   go_wp2_with (first | ((with_reducible refine gate_dst (N := 2) rfl ?_); refine box_event ?hg (N := 2) ?hd (cs := #[.int .i64 a0_0, .slice A0_1 l0_1.length c0_1]) (t := 24) ?hr ?_; (case hd => rfl); (case hg => rfl); (case hr => first | (go_simp; done) | (go_simp; rfl)); intro gb238 hg w8 hbox hb; have BK238 := Aside0.mk (hbox); have GW238 := bsz (w := w) hg; have GE238 := GW238; replace HB := Aside0.mk (below_step bel hb); clear hb hbox hg; obtain ⟨hcz9_0, hcz9_1⟩ := bc2 BK238.out) | ((with_reducible refine gate_callee (f := 12) rfl ?_); refine goesL_ (some 8) rfl rfl Try.func12 (by kernel_rfl) rfl #[.agg #[.int .i64 a0_0, .slice A0_1 l0_1.length c0_1]] rfl mapz ?_; (with_reducible refine (dropperref06_Valid.calls k a0_0 _ _ l0_1 true _ (cbz HR0_1) HC0_1.out A3.out).mono ?_); rintro e w10 ⟨rfl, hb⟩; refine ⟨_, rfl, ?_⟩; replace BK238 := Aside0.mk (blk_below (g := gb238) blkz hb); replace HB := Aside0.mk (below_step bel hb); clear hb; obtain ⟨hcz11_0, hcz11_1⟩ := bc2 BK238.out) | ((with_reducible refine gate_callee (f := 14) rfl ?_); refine goesL_ (some 13) rfl rfl Try.func14 (by kernel_rfl) rfl #[.agg #[.int .i64 a0_0, .slice A0_1 l0_1.length c0_1], .slice A1 l1.length c1] rfl mapz ?_; (with_reducible refine (dropperref06_Weights.calls k a0_0 _ _ l0_1 _ _ l1 true _ (cbz HR0_1) HC0_1.out (cbz HR1) HC1.out A5.out).mono ?_); rintro e w12 ⟨rfl, hb⟩; refine ⟨_, rfl, ?_⟩; replace BK238 := Aside0.mk (blk_below (g := gb238) blkz hb); replace HB := Aside0.mk (below_step bel hb); clear hb; obtain ⟨hcz13_0, hcz13_1⟩ := bc2 BK238.out) | ((with_reducible refine gate_callee (f := 71) rfl ?_); refine goesL_ (some 17) rfl rfl Try.func71 (by kernel_rfl) rfl #[.agg #[.int .i64 a0_0, .slice A0_1 l0_1.length c0_1], .slice A1 l1.length c1] rfl mapz ?_; (with_reducible refine (dropperref06_holds.calls k a0_0 _ _ l0_1 _ _ l1 t241 _ (cbz HR0_1) HC0_1.out (cbz HR1) HC1.out A7.out).mono ?_); rintro e w14 ⟨rfl, hb⟩; refine ⟨_, rfl, ?_⟩; replace BK238 := Aside0.mk (blk_below (g := gb238) blkz hb); replace HB := Aside0.mk (below_step bel hb); clear hb))
   go_ret2
   exact ⟨ezz, bel⟩
  ·
   replace c6 := Bool.eq_false_iff.mpr c6
   subst c6
   rw [if_neg (show ¬ (false = true) by decide)] at H
   simp only [Option.some.injEq, Prod.mk.injEq] at H
   obtain ⟨rfl, rfl⟩ := H
   go_enter Try.func30, Try.ntmps30
   go_wp2_with (first | ((with_reducible refine gate_dst (N := 2) rfl ?_); refine box_event ?hg (N := 2) ?hd (cs := #[.int .i64 a0_0, .slice A0_1 l0_1.length c0_1]) (t := 24) ?hr ?_; (case hd => rfl); (case hg => rfl); (case hr => first | (go_simp; done) | (go_simp; rfl)); intro gb238 hg w15 hbox hb; have BK238 := Aside0.mk (hbox); have GW238 := bsz (w := w) hg; have GE238 := GW238; replace HB := Aside0.mk (below_step bel hb); clear hb hbox hg; obtain ⟨hcz16_0, hcz16_1⟩ := bc2 BK238.out) | ((with_reducible refine gate_callee (f := 12) rfl ?_); refine goesL_ (some 8) rfl rfl Try.func12 (by kernel_rfl) rfl #[.agg #[.int .i64 a0_0, .slice A0_1 l0_1.length c0_1]] rfl mapz ?_; (with_reducible refine (dropperref06_Valid.calls k a0_0 _ _ l0_1 true _ (cbz HR0_1) HC0_1.out A3.out).mono ?_); rintro e w17 ⟨rfl, hb⟩; refine ⟨_, rfl, ?_⟩; replace BK238 := Aside0.mk (blk_below (g := gb238) blkz hb); replace HB := Aside0.mk (below_step bel hb); clear hb; obtain ⟨hcz18_0, hcz18_1⟩ := bc2 BK238.out) | ((with_reducible refine gate_callee (f := 14) rfl ?_); refine goesL_ (some 13) rfl rfl Try.func14 (by kernel_rfl) rfl #[.agg #[.int .i64 a0_0, .slice A0_1 l0_1.length c0_1], .slice A1 l1.length c1] rfl mapz ?_; (with_reducible refine (dropperref06_Weights.calls k a0_0 _ _ l0_1 _ _ l1 false _ (cbz HR0_1) HC0_1.out (cbz HR1) HC1.out A5.out).mono ?_); rintro e w19 ⟨rfl, hb⟩; refine ⟨_, rfl, ?_⟩; replace BK238 := Aside0.mk (blk_below (g := gb238) blkz hb); replace HB := Aside0.mk (below_step bel hb); clear hb))
   go_ret2
   exact ⟨ezz, bel⟩
 ·
  replace c4 := Bool.eq_false_iff.mpr c4
  subst c4
  rw [if_neg (show ¬ (false = true) by decide)] at H
  simp only [Option.some.injEq, Prod.mk.injEq] at H
  obtain ⟨rfl, rfl⟩ := H
  go_enter Try.func30, Try.ntmps30
  go_wp2_with (first | ((with_reducible refine gate_dst (N := 2) rfl ?_); refine box_event ?hg (N := 2) ?hd (cs := #[.int .i64 a0_0, .slice A0_1 l0_1.length c0_1]) (t := 24) ?hr ?_; (case hd => rfl); (case hg => rfl); (case hr => first | (go_simp; done) | (go_simp; rfl)); intro gb238 hg w20 hbox hb; have BK238 := Aside0.mk (hbox); have GW238 := bsz (w := w) hg; have GE238 := GW238; replace HB := Aside0.mk (below_step bel hb); clear hb hbox hg; obtain ⟨hcz21_0, hcz21_1⟩ := bc2 BK238.out) | ((with_reducible refine gate_callee (f := 12) rfl ?_); refine goesL_ (some 8) rfl rfl Try.func12 (by kernel_rfl) rfl #[.agg #[.int .i64 a0_0, .slice A0_1 l0_1.length c0_1]] rfl mapz ?_; (with_reducible refine (dropperref06_Valid.calls k a0_0 _ _ l0_1 false _ (cbz HR0_1) HC0_1.out A3.out).mono ?_); rintro e w22 ⟨rfl, hb⟩; refine ⟨_, rfl, ?_⟩; replace BK238 := Aside0.mk (blk_below (g := gb238) blkz hb); replace HB := Aside0.mk (below_step bel hb); clear hb))
  go_ret2
  exact ⟨ezz, bel⟩

/-! ### dropperref06_Sum: function 31 -/
def dropperref06_Sum.f (k : Nat) (a0_0 : Int) (l0_1 : List (S64)) (l1 : List Int) (l2 : List Int) : Option (Int × Int) := (dropperref06_asked.f k a0_0 l0_1 (([l2] : List (List Int)))).bind fun t252 => (if t252 = 0 then ((dropperref06_Weights.f k a0_0 l0_1 l1).bind fun t253 => (if t253 = true then ((dropperref06_product.f k l1 l2).bind fun t254 => (some (t254, 0))) else (some (0, 2)))) else (some (0, t252)))
set_option maxHeartbeats 8000000 in
set_option maxRecDepth 100000 in
theorem dropperref06_Sum.calls (k : Nat) (a0_0 : Int) (A0_1 : Option Addr) (c0_1 : Nat) (l0_1 : List (S64)) (A1 : Option Addr) (c1 : Nat) (l1 : List Int) (P2_ : Nat → Prop) (A2 : Option Addr) (c2 : Nat) (l2 : List Int) (r1 : Int) (r2 : Int) (w : World) (hr0_1 : Kd.C k64 w A0_1 l0_1.length l0_1) (hc0_1 : l0_1.length ≤ c0_1) (hr1 : Kd.C (Kd.int .i64) w A1 l1.length l1) (hc1 : l1.length ≤ c1) (hs2 : Kd.V (Kd.int .i64) 3 w w.heap.size (fun k_ => P2_ k_) (.slice A2 l2.length c2) l2) (h : dropperref06_Sum.f k a0_0 l0_1 l1 l2 = some (r1, r2)) :
  Calls Try.prog 31 #[.agg #[.int .i64 a0_0, .slice A0_1 l0_1.length c0_1], .slice A1 l1.length c1, .slice A2 l2.length c2] w fun e w' => e = .returned (.tuple #[.int .i64 r1, .int .i64 r2]) ∧ Below w.heap.size w w' := by
 have hu24 := Try.underlying24
 have HR0_1 := Aside0.mk hr0_1
 have HC0_1 := Aside0.mk hc0_1
 clear hr0_1 hc0_1
 have HR1 := Aside0.mk hr1
 have HC1 := Aside0.mk hc1
 clear hr1 hc1
 have HO2 := Aside0.mk (show Kd.V (Kd.int .i64) 3 w w.heap.size (fun k_ => (P2_ k_ ∨ w.heap.size ≤ k_)) (.slice A2 l2.length c2) l2 from Kd.V_mono hs2 (fun k_ hk => .inl hk))
 have HB := Aside0.mk (Below.refl w.heap.size w)
 have H : ((dropperref06_asked.f k a0_0 l0_1 (([l2] : List (List Int)))).bind fun t252 => (if t252 = 0 then ((dropperref06_Weights.f k a0_0 l0_1 l1).bind fun t253 => (if t253 = true then ((dropperref06_product.f k l1 l2).bind fun t254 => (some (t254, 0))) else (some (0, 2)))) else (some (0, t252)))) = some (r1, r2) := h
 clear h
 obtain ⟨y249, hy249⟩ : ∃ y_ : List (List Int), y_ = (([l2] : List (List Int))) := ⟨_, rfl⟩
 replace H : ((dropperref06_asked.f k a0_0 l0_1 y249).bind fun t252 => (if t252 = 0 then ((dropperref06_Weights.f k a0_0 l0_1 l1).bind fun t253 => (if t253 = true then ((dropperref06_product.f k l1 l2).bind fun t254 => (some (t254, 0))) else (some (0, 2)))) else (some (0, t252)))) = some (r1, r2) := by first | (rw [hy249]; with_reducible exact H) | (have H2_ := (Option.bind_some _ _).symm.trans H; rw [hy249]; with_reducible exact H2_) | (have H2_ := (Option.bind_some _ _).symm.trans H; with_reducible exact H2_) | with_reducible exact H | (rw [hy249]; exact H) | exact H
 have Ny249 := Aside0.mk hy249
 clear hy249
 replace H := Option.bind_eq_some_iff.mp H
 obtain ⟨t252, A40, H⟩ := H
 try dsimp only at H
 have A4 := Aside0.mk A40
 clear A40
 by_cases c5 : t252 = 0
 ·
  rw [if_pos c5] at H
  have c5b0 : (t252 == 0) = true := beq_iff_eq.mpr c5
  have c5b1 : (t252 != 0) = false := bne_eq_false_iff_eq.mpr c5
  clear c5
  replace H := Option.bind_eq_some_iff.mp H
  obtain ⟨t253, A60, H⟩ := H
  try dsimp only at H
  have A6 := Aside0.mk A60
  clear A60
  by_cases c7 : t253 = true
  ·
   subst c7
   rw [if_pos rfl] at H
   replace H := Option.bind_eq_some_iff.mp H
   obtain ⟨t254, A80, H⟩ := H
   try dsimp only at H
   have A8 := Aside0.mk A80
   clear A80
   simp only [Option.some.injEq, Prod.mk.injEq] at H
   obtain ⟨rfl, rfl⟩ := H
   go_enter Try.func31, Try.ntmps31
   go_wp2_with (first | ((with_reducible refine gate_dst (N := 3) rfl ?_); refine box_event ?hg (N := 3) ?hd (cs := #[.int .i64 a0_0, .slice A0_1 l0_1.length c0_1]) (t := 24) ?hr ?_; (case hd => rfl); (case hg => rfl); (case hr => first | (go_simp; done) | (go_simp; rfl)); intro gb248 hg w9 hbox hb; have BK248 := Aside0.mk (hbox); have GW248 := bsz (w := w) hg; have GE248 := GW248; replace HO2 := Aside0.mk (Kd.V_below (Kd.V_elderB (by (with_reducible repeat (first | apply Kd.V_alloc | apply Kd.V_drewN | apply Kd.V_drew)); exact HO2.out) gb248 (Nat.le_of_eq hg.symm)) hb); replace HB := Aside0.mk (below_step bel hb); clear hb hbox hg; obtain ⟨hcz10_0, hcz10_1⟩ := bc2 BK248.out) | ((with_reducible refine gate_dst (N := 11) rfl ?_); refine Kd.N_lit (Kd.slice 3 (Kd.int .i64)) _ 25 ?hg (N' := 11) ?hd (xs := ([l2] : List (List Int))) (inner := [.slice A2 l2.length c2]) (ok := (fun k_ => (P2_ k_ ∨ w.heap.size ≤ k_) ∧ k_ ≠ gb248)) (okp := (fun k_ => (P2_ k_ ∨ w.heap.size ≤ k_) ∧ k_ ≠ gb248)) ?hr ?hp (fun _ hk => hk) ((show ∀ k_, w9.heap.size ≤ k_ → (fun k_ => (P2_ k_ ∨ w.heap.size ≤ k_) ∧ k_ ≠ gb248) k_ from fun k_ hk => ⟨(.inr (Nat.le_trans (below_size bel) hk)), Kd.freshB (g := gb248) (o := .cells #[.int .i64 a0_0, .slice A0_1 l0_1.length c0_1] 24 (0, 0)) blkz k_ hk⟩) _ (Nat.le_refl _)) (Below.refl _ _) (Nat.le_refl _) (by simp) ?_; (case hd => rfl); (case hg => rfl); (case hr => first | (go_simp; done) | (go_simp; rfl)); (case hp => exact (Reps.one (show Kd.FK (Kd.slice 3 (Kd.int .i64)) _ _ l2 [.slice A2 l2.length c2] from (Kd.FK_slice_mk (Kd.V_reads' (Kd.V_mono (ok' := (fun k_ => (P2_ k_ ∨ w.heap.size ≤ k_) ∧ k_ ≠ gb248)) (HO2.out) (fun k_ hk => ⟨hk.1, hk.2⟩))).2.1 (Kd.V_F (Kd.V_mono (ok' := (fun k_ => (P2_ k_ ∨ w.heap.size ≤ k_) ∧ k_ ≠ gb248)) (HO2.out) (fun k_ hk => ⟨hk.1, hk.2⟩))))) (Reps.none _ _))); intro v250 w11 ho12 hb hg_ hnew_; clear hg_ hnew_; (first | rw [← Ny249.out] at ho12 | (simp only [Int.reduceToNat] at ho12; rw [← Ny249.out] at ho12)); have HO251 := Aside0.mk (Kd.N_lower ho12 (below_size bel)); replace HO2 := Aside0.mk (Kd.V_elder' (by (with_reducible repeat (first | apply Kd.V_alloc | apply Kd.V_drewN | apply Kd.V_drew)); exact HO2.out) (Kd.N_base ho12) hb); replace BK248 := Aside0.mk (blk_below (g := gb248) blkz hb); replace HB := Aside0.mk (below_step bel hb); clear hb ho12; obtain ⟨Ao13, co13, eo13⟩ := Kd.N_slice HO251.out; subst eo13) | ((with_reducible refine gate_callee (f := 72) rfl ?_); refine goesL_ (some 12) rfl rfl Try.func72 (by kernel_rfl) rfl #[.agg #[.int .i64 a0_0, .slice A0_1 l0_1.length c0_1], .slice Ao13 y249.length co13] rfl mapz ?_; (with_reducible refine (dropperref06_asked.calls k a0_0 _ _ l0_1 _ _ y249 t252 _ (cbz HR0_1) HC0_1.out ?side3 ?side4 A4.out).mono ?_); (case side3 => repeat (first | exact (Kd.N_reads' HO251.out).2.2 | (with_reducible refine Kd.C_alloc ?_ _) | (with_reducible refine Kd.C_drewN ?_ _) | (with_reducible refine Kd.C_drew ?_))); (case side4 => exact (Kd.N_reads' HO251.out).2.1); rintro e w14 ⟨rfl, hb⟩; refine ⟨_, rfl, ?_⟩; replace HO2 := Aside0.mk (Kd.V_below (by (with_reducible repeat (first | apply Kd.V_alloc | apply Kd.V_drewN | apply Kd.V_drew)); exact HO2.out) hb); replace HO251 := Aside0.mk (Kd.N_below (by (with_reducible repeat (first | apply Kd.N_alloc | apply Kd.N_drewN | apply Kd.N_drew)); exact HO251.out) hb); replace BK248 := Aside0.mk (blk_below (g := gb248) blkz hb); replace HB := Aside0.mk (below_step bel hb); clear hb; obtain ⟨hcz15_0, hcz15_1⟩ := bc2 BK248.out) | ((with_reducible refine gate_callee (f := 14) rfl ?_); refine goesL_ (some 18) rfl rfl Try.func14 (by kernel_rfl) rfl #[.agg #[.int .i64 a0_0, .slice A0_1 l0_1.length c0_1], .slice A1 l1.length c1] rfl mapz ?_; (with_reducible refine (dropperref06_Weights.calls k a0_0 _ _ l0_1 _ _ l1 true _ (cbz HR0_1) HC0_1.out (cbz HR1) HC1.out A6.out).mono ?_); rintro e w16 ⟨rfl, hb⟩; refine ⟨_, rfl, ?_⟩; replace HO2 := Aside0.mk (Kd.V_below (by (with_reducible repeat (first | apply Kd.V_alloc | apply Kd.V_drewN | apply Kd.V_drew)); exact HO2.out) hb); replace HO251 := Aside0.mk (Kd.N_below (by (with_reducible repeat (first | apply Kd.N_alloc | apply Kd.N_drewN | apply Kd.N_drew)); exact HO251.out) hb); replace BK248 := Aside0.mk (blk_below (g := gb248) blkz hb); replace HB := Aside0.mk (below_step bel hb); clear hb) | ((with_reducible refine gate_callee (f := 73) rfl ?_); refine goesL_ (some 22) rfl rfl Try.func73 (by kernel_rfl) rfl #[.slice A1 l1.length c1, .slice A2 l2.length c2] rfl mapz ?_; (with_reducible refine (dropperref06_product.calls k _ _ l1 _ _ l2 t254 _ (cbz HR1) HC1.out ?side3 ?side4 A8.out).mono ?_); (case side3 => repeat (first | exact (Kd.V_reads' HO2.out).2.2 | (with_reducible refine Kd.C_alloc ?_ _) | (with_reducible refine Kd.C_drewN ?_ _) | (with_reducible refine Kd.C_drew ?_))); (case side4 => exact (Kd.V_reads' HO2.out).2.1); rintro e w' ⟨rfl, ⟨nd, rfl⟩⟩; refine ⟨_, rfl, ?_⟩))
   go_ret2
   exact ⟨ezz, bel⟩
  ·
   replace c7 := Bool.eq_false_iff.mpr c7
   subst c7
   rw [if_neg (show ¬ (false = true) by decide)] at H
   simp only [Option.some.injEq, Prod.mk.injEq] at H
   obtain ⟨rfl, rfl⟩ := H
   go_enter Try.func31, Try.ntmps31
   go_wp2_with (first | ((with_reducible refine gate_dst (N := 3) rfl ?_); refine box_event ?hg (N := 3) ?hd (cs := #[.int .i64 a0_0, .slice A0_1 l0_1.length c0_1]) (t := 24) ?hr ?_; (case hd => rfl); (case hg => rfl); (case hr => first | (go_simp; done) | (go_simp; rfl)); intro gb248 hg w17 hbox hb; have BK248 := Aside0.mk (hbox); have GW248 := bsz (w := w) hg; have GE248 := GW248; replace HO2 := Aside0.mk (Kd.V_below (Kd.V_elderB (by (with_reducible repeat (first | apply Kd.V_alloc | apply Kd.V_drewN | apply Kd.V_drew)); exact HO2.out) gb248 (Nat.le_of_eq hg.symm)) hb); replace HB := Aside0.mk (below_step bel hb); clear hb hbox hg; obtain ⟨hcz18_0, hcz18_1⟩ := bc2 BK248.out) | ((with_reducible refine gate_dst (N := 11) rfl ?_); refine Kd.N_lit (Kd.slice 3 (Kd.int .i64)) _ 25 ?hg (N' := 11) ?hd (xs := ([l2] : List (List Int))) (inner := [.slice A2 l2.length c2]) (ok := (fun k_ => (P2_ k_ ∨ w.heap.size ≤ k_) ∧ k_ ≠ gb248)) (okp := (fun k_ => (P2_ k_ ∨ w.heap.size ≤ k_) ∧ k_ ≠ gb248)) ?hr ?hp (fun _ hk => hk) ((show ∀ k_, w17.heap.size ≤ k_ → (fun k_ => (P2_ k_ ∨ w.heap.size ≤ k_) ∧ k_ ≠ gb248) k_ from fun k_ hk => ⟨(.inr (Nat.le_trans (below_size bel) hk)), Kd.freshB (g := gb248) (o := .cells #[.int .i64 a0_0, .slice A0_1 l0_1.length c0_1] 24 (0, 0)) blkz k_ hk⟩) _ (Nat.le_refl _)) (Below.refl _ _) (Nat.le_refl _) (by simp) ?_; (case hd => rfl); (case hg => rfl); (case hr => first | (go_simp; done) | (go_simp; rfl)); (case hp => exact (Reps.one (show Kd.FK (Kd.slice 3 (Kd.int .i64)) _ _ l2 [.slice A2 l2.length c2] from (Kd.FK_slice_mk (Kd.V_reads' (Kd.V_mono (ok' := (fun k_ => (P2_ k_ ∨ w.heap.size ≤ k_) ∧ k_ ≠ gb248)) (HO2.out) (fun k_ hk => ⟨hk.1, hk.2⟩))).2.1 (Kd.V_F (Kd.V_mono (ok' := (fun k_ => (P2_ k_ ∨ w.heap.size ≤ k_) ∧ k_ ≠ gb248)) (HO2.out) (fun k_ hk => ⟨hk.1, hk.2⟩))))) (Reps.none _ _))); intro v250 w19 ho20 hb hg_ hnew_; clear hg_ hnew_; (first | rw [← Ny249.out] at ho20 | (simp only [Int.reduceToNat] at ho20; rw [← Ny249.out] at ho20)); have HO251 := Aside0.mk (Kd.N_lower ho20 (below_size bel)); replace HO2 := Aside0.mk (Kd.V_elder' (by (with_reducible repeat (first | apply Kd.V_alloc | apply Kd.V_drewN | apply Kd.V_drew)); exact HO2.out) (Kd.N_base ho20) hb); replace BK248 := Aside0.mk (blk_below (g := gb248) blkz hb); replace HB := Aside0.mk (below_step bel hb); clear hb ho20; obtain ⟨Ao21, co21, eo21⟩ := Kd.N_slice HO251.out; subst eo21) | ((with_reducible refine gate_callee (f := 72) rfl ?_); refine goesL_ (some 12) rfl rfl Try.func72 (by kernel_rfl) rfl #[.agg #[.int .i64 a0_0, .slice A0_1 l0_1.length c0_1], .slice Ao21 y249.length co21] rfl mapz ?_; (with_reducible refine (dropperref06_asked.calls k a0_0 _ _ l0_1 _ _ y249 t252 _ (cbz HR0_1) HC0_1.out ?side3 ?side4 A4.out).mono ?_); (case side3 => repeat (first | exact (Kd.N_reads' HO251.out).2.2 | (with_reducible refine Kd.C_alloc ?_ _) | (with_reducible refine Kd.C_drewN ?_ _) | (with_reducible refine Kd.C_drew ?_))); (case side4 => exact (Kd.N_reads' HO251.out).2.1); rintro e w22 ⟨rfl, hb⟩; refine ⟨_, rfl, ?_⟩; replace HO2 := Aside0.mk (Kd.V_below (by (with_reducible repeat (first | apply Kd.V_alloc | apply Kd.V_drewN | apply Kd.V_drew)); exact HO2.out) hb); replace HO251 := Aside0.mk (Kd.N_below (by (with_reducible repeat (first | apply Kd.N_alloc | apply Kd.N_drewN | apply Kd.N_drew)); exact HO251.out) hb); replace BK248 := Aside0.mk (blk_below (g := gb248) blkz hb); replace HB := Aside0.mk (below_step bel hb); clear hb; obtain ⟨hcz23_0, hcz23_1⟩ := bc2 BK248.out) | ((with_reducible refine gate_callee (f := 14) rfl ?_); refine goesL_ (some 18) rfl rfl Try.func14 (by kernel_rfl) rfl #[.agg #[.int .i64 a0_0, .slice A0_1 l0_1.length c0_1], .slice A1 l1.length c1] rfl mapz ?_; (with_reducible refine (dropperref06_Weights.calls k a0_0 _ _ l0_1 _ _ l1 false _ (cbz HR0_1) HC0_1.out (cbz HR1) HC1.out A6.out).mono ?_); rintro e w24 ⟨rfl, hb⟩; refine ⟨_, rfl, ?_⟩; replace HO2 := Aside0.mk (Kd.V_below (by (with_reducible repeat (first | apply Kd.V_alloc | apply Kd.V_drewN | apply Kd.V_drew)); exact HO2.out) hb); replace HO251 := Aside0.mk (Kd.N_below (by (with_reducible repeat (first | apply Kd.N_alloc | apply Kd.N_drewN | apply Kd.N_drew)); exact HO251.out) hb); replace BK248 := Aside0.mk (blk_below (g := gb248) blkz hb); replace HB := Aside0.mk (below_step bel hb); clear hb))
   go_ret2
   exact ⟨ezz, bel⟩
 ·
  rw [if_neg c5] at H
  have c5b0 : (t252 == 0) = false := beq_eq_false_iff_ne.mpr c5
  have c5b1 : (t252 != 0) = true := bne_iff_ne.mpr c5
  simp only [Option.some.injEq, Prod.mk.injEq] at H
  obtain ⟨rfl, rfl⟩ := H
  go_enter Try.func31, Try.ntmps31
  go_wp2_with (first | ((with_reducible refine gate_dst (N := 3) rfl ?_); refine box_event ?hg (N := 3) ?hd (cs := #[.int .i64 a0_0, .slice A0_1 l0_1.length c0_1]) (t := 24) ?hr ?_; (case hd => rfl); (case hg => rfl); (case hr => first | (go_simp; done) | (go_simp; rfl)); intro gb248 hg w25 hbox hb; have BK248 := Aside0.mk (hbox); have GW248 := bsz (w := w) hg; have GE248 := GW248; replace HO2 := Aside0.mk (Kd.V_below (Kd.V_elderB (by (with_reducible repeat (first | apply Kd.V_alloc | apply Kd.V_drewN | apply Kd.V_drew)); exact HO2.out) gb248 (Nat.le_of_eq hg.symm)) hb); replace HB := Aside0.mk (below_step bel hb); clear hb hbox hg; obtain ⟨hcz26_0, hcz26_1⟩ := bc2 BK248.out) | ((with_reducible refine gate_dst (N := 11) rfl ?_); refine Kd.N_lit (Kd.slice 3 (Kd.int .i64)) _ 25 ?hg (N' := 11) ?hd (xs := ([l2] : List (List Int))) (inner := [.slice A2 l2.length c2]) (ok := (fun k_ => (P2_ k_ ∨ w.heap.size ≤ k_) ∧ k_ ≠ gb248)) (okp := (fun k_ => (P2_ k_ ∨ w.heap.size ≤ k_) ∧ k_ ≠ gb248)) ?hr ?hp (fun _ hk => hk) ((show ∀ k_, w25.heap.size ≤ k_ → (fun k_ => (P2_ k_ ∨ w.heap.size ≤ k_) ∧ k_ ≠ gb248) k_ from fun k_ hk => ⟨(.inr (Nat.le_trans (below_size bel) hk)), Kd.freshB (g := gb248) (o := .cells #[.int .i64 a0_0, .slice A0_1 l0_1.length c0_1] 24 (0, 0)) blkz k_ hk⟩) _ (Nat.le_refl _)) (Below.refl _ _) (Nat.le_refl _) (by simp) ?_; (case hd => rfl); (case hg => rfl); (case hr => first | (go_simp; done) | (go_simp; rfl)); (case hp => exact (Reps.one (show Kd.FK (Kd.slice 3 (Kd.int .i64)) _ _ l2 [.slice A2 l2.length c2] from (Kd.FK_slice_mk (Kd.V_reads' (Kd.V_mono (ok' := (fun k_ => (P2_ k_ ∨ w.heap.size ≤ k_) ∧ k_ ≠ gb248)) (HO2.out) (fun k_ hk => ⟨hk.1, hk.2⟩))).2.1 (Kd.V_F (Kd.V_mono (ok' := (fun k_ => (P2_ k_ ∨ w.heap.size ≤ k_) ∧ k_ ≠ gb248)) (HO2.out) (fun k_ hk => ⟨hk.1, hk.2⟩))))) (Reps.none _ _))); intro v250 w27 ho28 hb hg_ hnew_; clear hg_ hnew_; (first | rw [← Ny249.out] at ho28 | (simp only [Int.reduceToNat] at ho28; rw [← Ny249.out] at ho28)); have HO251 := Aside0.mk (Kd.N_lower ho28 (below_size bel)); replace HO2 := Aside0.mk (Kd.V_elder' (by (with_reducible repeat (first | apply Kd.V_alloc | apply Kd.V_drewN | apply Kd.V_drew)); exact HO2.out) (Kd.N_base ho28) hb); replace BK248 := Aside0.mk (blk_below (g := gb248) blkz hb); replace HB := Aside0.mk (below_step bel hb); clear hb ho28; obtain ⟨Ao29, co29, eo29⟩ := Kd.N_slice HO251.out; subst eo29) | ((with_reducible refine gate_callee (f := 72) rfl ?_); refine goesL_ (some 12) rfl rfl Try.func72 (by kernel_rfl) rfl #[.agg #[.int .i64 a0_0, .slice A0_1 l0_1.length c0_1], .slice Ao29 y249.length co29] rfl mapz ?_; (with_reducible refine (dropperref06_asked.calls k a0_0 _ _ l0_1 _ _ y249 t252 _ (cbz HR0_1) HC0_1.out ?side3 ?side4 A4.out).mono ?_); (case side3 => repeat (first | exact (Kd.N_reads' HO251.out).2.2 | (with_reducible refine Kd.C_alloc ?_ _) | (with_reducible refine Kd.C_drewN ?_ _) | (with_reducible refine Kd.C_drew ?_))); (case side4 => exact (Kd.N_reads' HO251.out).2.1); rintro e w30 ⟨rfl, hb⟩; refine ⟨_, rfl, ?_⟩; replace HO2 := Aside0.mk (Kd.V_below (by (with_reducible repeat (first | apply Kd.V_alloc | apply Kd.V_drewN | apply Kd.V_drew)); exact HO2.out) hb); replace HO251 := Aside0.mk (Kd.N_below (by (with_reducible repeat (first | apply Kd.N_alloc | apply Kd.N_drewN | apply Kd.N_drew)); exact HO251.out) hb); replace BK248 := Aside0.mk (blk_below (g := gb248) blkz hb); replace HB := Aside0.mk (below_step bel hb); clear hb))
  go_ret2
  exact ⟨ezz, bel⟩

/-! ### dropperref06_Proves: function 32 -/
def dropperref06_Proves.f (k : Nat) (a0_0 : Int) (l0_1 : List (S64)) (l1 : List Int) (l2 : List Int) (l3 : List Int) : Option (Bool × Int) := (dropperref06_asked.f k a0_0 l0_1 (([l2, l3] : List (List Int)))).bind fun t259 => (if t259 = 0 then ((dropperref06_Weights.f k a0_0 l0_1 l1).bind fun t260 => (if t260 = true then ((dropperref06_list.f k l1 a0_0 0 20000).bind fun t261 => (if t261 = true then ((dropperref06_holds.f k a0_0 l0_1 l1).bind fun t262 => (if t262 = true then ((dropperref06_product.f k l1 l3).bind fun t263 => ((dropperref06_product.f k l1 l2).bind fun t264 => (some (decide (t263 > t264), 0)))) else (some (false, 0)))) else (some (false, 0)))) else (some (false, 2)))) else (some (false, t259)))
set_option maxHeartbeats 8000000 in
set_option maxRecDepth 100000 in
theorem dropperref06_Proves.calls (k : Nat) (a0_0 : Int) (A0_1 : Option Addr) (c0_1 : Nat) (l0_1 : List (S64)) (A1 : Option Addr) (c1 : Nat) (l1 : List Int) (P2_ : Nat → Prop) (A2 : Option Addr) (c2 : Nat) (l2 : List Int) (P3_ : Nat → Prop) (A3 : Option Addr) (c3 : Nat) (l3 : List Int) (r1 : Bool) (r2 : Int) (w : World) (hr0_1 : Kd.C k64 w A0_1 l0_1.length l0_1) (hc0_1 : l0_1.length ≤ c0_1) (hr1 : Kd.C (Kd.int .i64) w A1 l1.length l1) (hc1 : l1.length ≤ c1) (hs2 : Kd.V (Kd.int .i64) 3 w w.heap.size (fun k_ => P2_ k_) (.slice A2 l2.length c2) l2) (hs3 : Kd.V (Kd.int .i64) 3 w w.heap.size (fun k_ => P3_ k_) (.slice A3 l3.length c3) l3) (h : dropperref06_Proves.f k a0_0 l0_1 l1 l2 l3 = some (r1, r2)) :
  Calls Try.prog 32 #[.agg #[.int .i64 a0_0, .slice A0_1 l0_1.length c0_1], .slice A1 l1.length c1, .slice A2 l2.length c2, .slice A3 l3.length c3] w fun e w' => e = .returned (.tuple #[.bool r1, .int .i64 r2]) ∧ Below w.heap.size w w' := by
 have hu24 := Try.underlying24
 have HR0_1 := Aside0.mk hr0_1
 have HC0_1 := Aside0.mk hc0_1
 clear hr0_1 hc0_1
 have HR1 := Aside0.mk hr1
 have HC1 := Aside0.mk hc1
 clear hr1 hc1
 have HO2 := Aside0.mk (show Kd.V (Kd.int .i64) 3 w w.heap.size (fun k_ => ((P2_ k_ ∨ P3_ k_) ∨ w.heap.size ≤ k_)) (.slice A2 l2.length c2) l2 from Kd.V_mono hs2 (fun k_ hk => .inl (.inl hk)))
 have HO3 := Aside0.mk (show Kd.V (Kd.int .i64) 3 w w.heap.size (fun k_ => ((P2_ k_ ∨ P3_ k_) ∨ w.heap.size ≤ k_)) (.slice A3 l3.length c3) l3 from Kd.V_mono hs3 (fun k_ hk => .inl (.inr hk)))
 have HB := Aside0.mk (Below.refl w.heap.size w)
 have H : ((dropperref06_asked.f k a0_0 l0_1 (([l2, l3] : List (List Int)))).bind fun t259 => (if t259 = 0 then ((dropperref06_Weights.f k a0_0 l0_1 l1).bind fun t260 => (if t260 = true then ((dropperref06_list.f k l1 a0_0 0 20000).bind fun t261 => (if t261 = true then ((dropperref06_holds.f k a0_0 l0_1 l1).bind fun t262 => (if t262 = true then ((dropperref06_product.f k l1 l3).bind fun t263 => ((dropperref06_product.f k l1 l2).bind fun t264 => (some (decide (t263 > t264), 0)))) else (some (false, 0)))) else (some (false, 0)))) else (some (false, 2)))) else (some (false, t259)))) = some (r1, r2) := h
 clear h
 obtain ⟨y256, hy256⟩ : ∃ y_ : List (List Int), y_ = (([l2, l3] : List (List Int))) := ⟨_, rfl⟩
 replace H : ((dropperref06_asked.f k a0_0 l0_1 y256).bind fun t259 => (if t259 = 0 then ((dropperref06_Weights.f k a0_0 l0_1 l1).bind fun t260 => (if t260 = true then ((dropperref06_list.f k l1 a0_0 0 20000).bind fun t261 => (if t261 = true then ((dropperref06_holds.f k a0_0 l0_1 l1).bind fun t262 => (if t262 = true then ((dropperref06_product.f k l1 l3).bind fun t263 => ((dropperref06_product.f k l1 l2).bind fun t264 => (some (decide (t263 > t264), 0)))) else (some (false, 0)))) else (some (false, 0)))) else (some (false, 2)))) else (some (false, t259)))) = some (r1, r2) := by first | (rw [hy256]; with_reducible exact H) | (have H2_ := (Option.bind_some _ _).symm.trans H; rw [hy256]; with_reducible exact H2_) | (have H2_ := (Option.bind_some _ _).symm.trans H; with_reducible exact H2_) | with_reducible exact H | (rw [hy256]; exact H) | exact H
 have Ny256 := Aside0.mk hy256
 clear hy256
 replace H := Option.bind_eq_some_iff.mp H
 obtain ⟨t259, A50, H⟩ := H
 try dsimp only at H
 have A5 := Aside0.mk A50
 clear A50
 by_cases c6 : t259 = 0
 ·
  rw [if_pos c6] at H
  have c6b0 : (t259 == 0) = true := beq_iff_eq.mpr c6
  have c6b1 : (t259 != 0) = false := bne_eq_false_iff_eq.mpr c6
  clear c6
  replace H := Option.bind_eq_some_iff.mp H
  obtain ⟨t260, A70, H⟩ := H
  try dsimp only at H
  have A7 := Aside0.mk A70
  clear A70
  by_cases c8 : t260 = true
  ·
   subst c8
   rw [if_pos rfl] at H
   replace H := Option.bind_eq_some_iff.mp H
   obtain ⟨t261, A90, H⟩ := H
   try dsimp only at H
   have A9 := Aside0.mk A90
   clear A90
   by_cases c10 : t261 = true
   ·
    subst c10
    rw [if_pos rfl] at H
    replace H := Option.bind_eq_some_iff.mp H
    obtain ⟨t262, A110, H⟩ := H
    try dsimp only at H
    have A11 := Aside0.mk A110
    clear A110
    by_cases c12 : t262 = true
    ·
     subst c12
     rw [if_pos rfl] at H
     replace H := Option.bind_eq_some_iff.mp H
     obtain ⟨t263, A130, H⟩ := H
     try dsimp only at H
     have A13 := Aside0.mk A130
     clear A130
     replace H := Option.bind_eq_some_iff.mp H
     obtain ⟨t264, A140, H⟩ := H
     try dsimp only at H
     have A14 := Aside0.mk A140
     clear A140
     simp only [Option.some.injEq, Prod.mk.injEq] at H
     obtain ⟨rfl, rfl⟩ := H
     go_enter Try.func32, Try.ntmps32
     go_wp2_with (first | ((with_reducible refine gate_dst (N := 4) rfl ?_); refine box_event ?hg (N := 4) ?hd (cs := #[.int .i64 a0_0, .slice A0_1 l0_1.length c0_1]) (t := 24) ?hr ?_; (case hd => rfl); (case hg => rfl); (case hr => first | (go_simp; done) | (go_simp; rfl)); intro gb255 hg w15 hbox hb; have BK255 := Aside0.mk (hbox); have GW255 := bsz (w := w) hg; have GE255 := GW255; replace HO2 := Aside0.mk (Kd.V_below (Kd.V_elderB (by (with_reducible repeat (first | apply Kd.V_alloc | apply Kd.V_drewN | apply Kd.V_drew)); exact HO2.out) gb255 (Nat.le_of_eq hg.symm)) hb); replace HO3 := Aside0.mk (Kd.V_below (Kd.V_elderB (by (with_reducible repeat (first | apply Kd.V_alloc | apply Kd.V_drewN | apply Kd.V_drew)); exact HO3.out) gb255 (Nat.le_of_eq hg.symm)) hb); replace HB := Aside0.mk (below_step bel hb); clear hb hbox hg; obtain ⟨hcz16_0, hcz16_1⟩ := bc2 BK255.out) | ((with_reducible refine gate_dst (N := 14) rfl ?_); refine Kd.N_lit (Kd.slice 3 (Kd.int .i64)) _ 25 ?hg (N' := 14) ?hd (xs := ([l2, l3] : List (List Int))) (inner := [.slice A2 l2.length c2, .slice A3 l3.length c3]) (ok := (fun k_ => ((P2_ k_ ∨ P3_ k_) ∨ w.heap.size ≤ k_) ∧ k_ ≠ gb255)) (okp := (fun k_ => ((P2_ k_ ∨ P3_ k_) ∨ w.heap.size ≤ k_) ∧ k_ ≠ gb255)) ?hr ?hp (fun _ hk => hk) ((show ∀ k_, w15.heap.size ≤ k_ → (fun k_ => ((P2_ k_ ∨ P3_ k_) ∨ w.heap.size ≤ k_) ∧ k_ ≠ gb255) k_ from fun k_ hk => ⟨(.inr (Nat.le_trans (below_size bel) hk)), Kd.freshB (g := gb255) (o := .cells #[.int .i64 a0_0, .slice A0_1 l0_1.length c0_1] 24 (0, 0)) blkz k_ hk⟩) _ (Nat.le_refl _)) (Below.refl _ _) (Nat.le_refl _) (by simp) ?_; (case hd => rfl); (case hg => rfl); (case hr => first | (go_simp; done) | (go_simp; rfl)); (case hp => exact (Reps.one (show Kd.FK (Kd.slice 3 (Kd.int .i64)) _ _ l2 [.slice A2 l2.length c2] from (Kd.FK_slice_mk (Kd.V_reads' (Kd.V_mono (ok' := (fun k_ => ((P2_ k_ ∨ P3_ k_) ∨ w.heap.size ≤ k_) ∧ k_ ≠ gb255)) (HO2.out) (fun k_ hk => ⟨hk.1, hk.2⟩))).2.1 (Kd.V_F (Kd.V_mono (ok' := (fun k_ => ((P2_ k_ ∨ P3_ k_) ∨ w.heap.size ≤ k_) ∧ k_ ≠ gb255)) (HO2.out) (fun k_ hk => ⟨hk.1, hk.2⟩))))) (Reps.one (show Kd.FK (Kd.slice 3 (Kd.int .i64)) _ _ l3 [.slice A3 l3.length c3] from (Kd.FK_slice_mk (Kd.V_reads' (Kd.V_mono (ok' := (fun k_ => ((P2_ k_ ∨ P3_ k_) ∨ w.heap.size ≤ k_) ∧ k_ ≠ gb255)) (HO3.out) (fun k_ hk => ⟨hk.1, hk.2⟩))).2.1 (Kd.V_F (Kd.V_mono (ok' := (fun k_ => ((P2_ k_ ∨ P3_ k_) ∨ w.heap.size ≤ k_) ∧ k_ ≠ gb255)) (HO3.out) (fun k_ hk => ⟨hk.1, hk.2⟩))))) (Reps.none _ _)))); intro v257 w17 ho18 hb hg_ hnew_; clear hg_ hnew_; (first | rw [← Ny256.out] at ho18 | (simp only [Int.reduceToNat] at ho18; rw [← Ny256.out] at ho18)); have HO258 := Aside0.mk (Kd.N_lower ho18 (below_size bel)); replace HO2 := Aside0.mk (Kd.V_elder' (by (with_reducible repeat (first | apply Kd.V_alloc | apply Kd.V_drewN | apply Kd.V_drew)); exact HO2.out) (Kd.N_base ho18) hb); replace HO3 := Aside0.mk (Kd.V_elder' (by (with_reducible repeat (first | apply Kd.V_alloc | apply Kd.V_drewN | apply Kd.V_drew)); exact HO3.out) (Kd.N_base ho18) hb); replace BK255 := Aside0.mk (blk_below (g := gb255) blkz hb); replace HB := Aside0.mk (below_step bel hb); clear hb ho18; obtain ⟨Ao19, co19, eo19⟩ := Kd.N_slice HO258.out; subst eo19) | ((with_reducible refine gate_callee (f := 72) rfl ?_); refine goesL_ (some 15) rfl rfl Try.func72 (by kernel_rfl) rfl #[.agg #[.int .i64 a0_0, .slice A0_1 l0_1.length c0_1], .slice Ao19 y256.length co19] rfl mapz ?_; (with_reducible refine (dropperref06_asked.calls k a0_0 _ _ l0_1 _ _ y256 t259 _ (cbz HR0_1) HC0_1.out ?side3 ?side4 A5.out).mono ?_); (case side3 => repeat (first | exact (Kd.N_reads' HO258.out).2.2 | (with_reducible refine Kd.C_alloc ?_ _) | (with_reducible refine Kd.C_drewN ?_ _) | (with_reducible refine Kd.C_drew ?_))); (case side4 => exact (Kd.N_reads' HO258.out).2.1); rintro e w20 ⟨rfl, hb⟩; refine ⟨_, rfl, ?_⟩; replace HO2 := Aside0.mk (Kd.V_below (by (with_reducible repeat (first | apply Kd.V_alloc | apply Kd.V_drewN | apply Kd.V_drew)); exact HO2.out) hb); replace HO3 := Aside0.mk (Kd.V_below (by (with_reducible repeat (first | apply Kd.V_alloc | apply Kd.V_drewN | apply Kd.V_drew)); exact HO3.out) hb); replace HO258 := Aside0.mk (Kd.N_below (by (with_reducible repeat (first | apply Kd.N_alloc | apply Kd.N_drewN | apply Kd.N_drew)); exact HO258.out) hb); replace BK255 := Aside0.mk (blk_below (g := gb255) blkz hb); replace HB := Aside0.mk (below_step bel hb); clear hb; obtain ⟨hcz21_0, hcz21_1⟩ := bc2 BK255.out) | ((with_reducible refine gate_callee (f := 14) rfl ?_); refine goesL_ (some 21) rfl rfl Try.func14 (by kernel_rfl) rfl #[.agg #[.int .i64 a0_0, .slice A0_1 l0_1.length c0_1], .slice A1 l1.length c1] rfl mapz ?_; (with_reducible refine (dropperref06_Weights.calls k a0_0 _ _ l0_1 _ _ l1 true _ (cbz HR0_1) HC0_1.out (cbz HR1) HC1.out A7.out).mono ?_); rintro e w22 ⟨rfl, hb⟩; refine ⟨_, rfl, ?_⟩; replace HO2 := Aside0.mk (Kd.V_below (by (with_reducible repeat (first | apply Kd.V_alloc | apply Kd.V_drewN | apply Kd.V_drew)); exact HO2.out) hb); replace HO3 := Aside0.mk (Kd.V_below (by (with_reducible repeat (first | apply Kd.V_alloc | apply Kd.V_drewN | apply Kd.V_drew)); exact HO3.out) hb); replace HO258 := Aside0.mk (Kd.N_below (by (with_reducible repeat (first | apply Kd.N_alloc | apply Kd.N_drewN | apply Kd.N_drew)); exact HO258.out) hb); replace BK255 := Aside0.mk (blk_below (g := gb255) blkz hb); replace HB := Aside0.mk (below_step bel hb); clear hb; obtain ⟨hcz23_0, hcz23_1⟩ := bc2 BK255.out) | ((with_reducible refine gate_callee (f := 52) rfl ?_); refine goesL_ (some 26) rfl rfl Try.func52 (by kernel_rfl) rfl #[.slice A1 l1.length c1, .int .i64 a0_0, .int .i64 0, .int .i64 20000] rfl mapz ?_; (with_reducible refine (dropperref06_list.calls k _ _ l1 a0_0 0 20000 true _ (cbz HR1) HC1.out A9.out).mono ?_); rintro e w' ⟨rfl, ⟨nd, rfl⟩⟩; refine ⟨_, rfl, ?_⟩) | (go_at_call 71; (with_reducible refine (dropperref06_holds.calls k a0_0 _ _ l0_1 _ _ l1 true _ ?side1 HC0_1.out ?side3 HC1.out A11.out).mono ?_); (case side1 => repeat (first | exact (Kd.C_below HR0_1.out bel) | (with_reducible refine Kd.C_alloc ?_ _) | (with_reducible refine Kd.C_drewN ?_ _) | (with_reducible refine Kd.C_drew ?_))); (case side3 => repeat (first | exact (Kd.C_below HR1.out bel) | (with_reducible refine Kd.C_alloc ?_ _) | (with_reducible refine Kd.C_drewN ?_ _) | (with_reducible refine Kd.C_drew ?_))); rintro e w24 ⟨rfl, hb⟩; replace HO2 := Aside0.mk (Kd.V_below (by (with_reducible repeat (first | apply Kd.V_alloc | apply Kd.V_drewN | apply Kd.V_drew)); exact HO2.out) hb); replace HO3 := Aside0.mk (Kd.V_below (by (with_reducible repeat (first | apply Kd.V_alloc | apply Kd.V_drewN | apply Kd.V_drew)); exact HO3.out) hb); replace HO258 := Aside0.mk (Kd.N_below (by (with_reducible repeat (first | apply Kd.N_alloc | apply Kd.N_drewN | apply Kd.N_drew)); exact HO258.out) hb); replace BK255 := Aside0.mk (blk_below (g := gb255) blkz hb); replace HB := Aside0.mk (below_step bel hb); clear hb) | (go_at_call 73; (with_reducible refine (dropperref06_product.calls k _ _ l1 _ _ l3 t263 _ (cbz HR1) HC1.out ?side3 ?side4 A13.out).mono ?_); (case side3 => repeat (first | exact (Kd.V_reads' HO3.out).2.2 | (with_reducible refine Kd.C_alloc ?_ _) | (with_reducible refine Kd.C_drewN ?_ _) | (with_reducible refine Kd.C_drew ?_))); (case side4 => exact (Kd.V_reads' HO3.out).2.1); rintro e w' ⟨rfl, ⟨nd, rfl⟩⟩) | (go_at_call 73; (with_reducible refine (dropperref06_product.calls k _ _ l1 _ _ l2 t264 _ ?side1 HC1.out ?side3 ?side4 A14.out).mono ?_); (case side1 => repeat (first | exact (Kd.C_below HR1.out bel) | (with_reducible refine Kd.C_alloc ?_ _) | (with_reducible refine Kd.C_drewN ?_ _) | (with_reducible refine Kd.C_drew ?_))); (case side3 => repeat (first | exact (Kd.V_reads' HO2.out).2.2 | (with_reducible refine Kd.C_alloc ?_ _) | (with_reducible refine Kd.C_drewN ?_ _) | (with_reducible refine Kd.C_drew ?_))); (case side4 => exact (Kd.V_reads' HO2.out).2.1); rintro e w' ⟨rfl, ⟨nd, rfl⟩⟩))
     go_ret2
     exact ⟨ezz, bel⟩
    ·
     replace c12 := Bool.eq_false_iff.mpr c12
     subst c12
     rw [if_neg (show ¬ (false = true) by decide)] at H
     simp only [Option.some.injEq, Prod.mk.injEq] at H
     obtain ⟨rfl, rfl⟩ := H
     go_enter Try.func32, Try.ntmps32
     go_wp2_with (first | ((with_reducible refine gate_dst (N := 4) rfl ?_); refine box_event ?hg (N := 4) ?hd (cs := #[.int .i64 a0_0, .slice A0_1 l0_1.length c0_1]) (t := 24) ?hr ?_; (case hd => rfl); (case hg => rfl); (case hr => first | (go_simp; done) | (go_simp; rfl)); intro gb255 hg w25 hbox hb; have BK255 := Aside0.mk (hbox); have GW255 := bsz (w := w) hg; have GE255 := GW255; replace HO2 := Aside0.mk (Kd.V_below (Kd.V_elderB (by (with_reducible repeat (first | apply Kd.V_alloc | apply Kd.V_drewN | apply Kd.V_drew)); exact HO2.out) gb255 (Nat.le_of_eq hg.symm)) hb); replace HO3 := Aside0.mk (Kd.V_below (Kd.V_elderB (by (with_reducible repeat (first | apply Kd.V_alloc | apply Kd.V_drewN | apply Kd.V_drew)); exact HO3.out) gb255 (Nat.le_of_eq hg.symm)) hb); replace HB := Aside0.mk (below_step bel hb); clear hb hbox hg; obtain ⟨hcz26_0, hcz26_1⟩ := bc2 BK255.out) | ((with_reducible refine gate_dst (N := 14) rfl ?_); refine Kd.N_lit (Kd.slice 3 (Kd.int .i64)) _ 25 ?hg (N' := 14) ?hd (xs := ([l2, l3] : List (List Int))) (inner := [.slice A2 l2.length c2, .slice A3 l3.length c3]) (ok := (fun k_ => ((P2_ k_ ∨ P3_ k_) ∨ w.heap.size ≤ k_) ∧ k_ ≠ gb255)) (okp := (fun k_ => ((P2_ k_ ∨ P3_ k_) ∨ w.heap.size ≤ k_) ∧ k_ ≠ gb255)) ?hr ?hp (fun _ hk => hk) ((show ∀ k_, w25.heap.size ≤ k_ → (fun k_ => ((P2_ k_ ∨ P3_ k_) ∨ w.heap.size ≤ k_) ∧ k_ ≠ gb255) k_ from fun k_ hk => ⟨(.inr (Nat.le_trans (below_size bel) hk)), Kd.freshB (g := gb255) (o := .cells #[.int .i64 a0_0, .slice A0_1 l0_1.length c0_1] 24 (0, 0)) blkz k_ hk⟩) _ (Nat.le_refl _)) (Below.refl _ _) (Nat.le_refl _) (by simp) ?_; (case hd => rfl); (case hg => rfl); (case hr => first | (go_simp; done) | (go_simp; rfl)); (case hp => exact (Reps.one (show Kd.FK (Kd.slice 3 (Kd.int .i64)) _ _ l2 [.slice A2 l2.length c2] from (Kd.FK_slice_mk (Kd.V_reads' (Kd.V_mono (ok' := (fun k_ => ((P2_ k_ ∨ P3_ k_) ∨ w.heap.size ≤ k_) ∧ k_ ≠ gb255)) (HO2.out) (fun k_ hk => ⟨hk.1, hk.2⟩))).2.1 (Kd.V_F (Kd.V_mono (ok' := (fun k_ => ((P2_ k_ ∨ P3_ k_) ∨ w.heap.size ≤ k_) ∧ k_ ≠ gb255)) (HO2.out) (fun k_ hk => ⟨hk.1, hk.2⟩))))) (Reps.one (show Kd.FK (Kd.slice 3 (Kd.int .i64)) _ _ l3 [.slice A3 l3.length c3] from (Kd.FK_slice_mk (Kd.V_reads' (Kd.V_mono (ok' := (fun k_ => ((P2_ k_ ∨ P3_ k_) ∨ w.heap.size ≤ k_) ∧ k_ ≠ gb255)) (HO3.out) (fun k_ hk => ⟨hk.1, hk.2⟩))).2.1 (Kd.V_F (Kd.V_mono (ok' := (fun k_ => ((P2_ k_ ∨ P3_ k_) ∨ w.heap.size ≤ k_) ∧ k_ ≠ gb255)) (HO3.out) (fun k_ hk => ⟨hk.1, hk.2⟩))))) (Reps.none _ _)))); intro v257 w27 ho28 hb hg_ hnew_; clear hg_ hnew_; (first | rw [← Ny256.out] at ho28 | (simp only [Int.reduceToNat] at ho28; rw [← Ny256.out] at ho28)); have HO258 := Aside0.mk (Kd.N_lower ho28 (below_size bel)); replace HO2 := Aside0.mk (Kd.V_elder' (by (with_reducible repeat (first | apply Kd.V_alloc | apply Kd.V_drewN | apply Kd.V_drew)); exact HO2.out) (Kd.N_base ho28) hb); replace HO3 := Aside0.mk (Kd.V_elder' (by (with_reducible repeat (first | apply Kd.V_alloc | apply Kd.V_drewN | apply Kd.V_drew)); exact HO3.out) (Kd.N_base ho28) hb); replace BK255 := Aside0.mk (blk_below (g := gb255) blkz hb); replace HB := Aside0.mk (below_step bel hb); clear hb ho28; obtain ⟨Ao29, co29, eo29⟩ := Kd.N_slice HO258.out; subst eo29) | ((with_reducible refine gate_callee (f := 72) rfl ?_); refine goesL_ (some 15) rfl rfl Try.func72 (by kernel_rfl) rfl #[.agg #[.int .i64 a0_0, .slice A0_1 l0_1.length c0_1], .slice Ao29 y256.length co29] rfl mapz ?_; (with_reducible refine (dropperref06_asked.calls k a0_0 _ _ l0_1 _ _ y256 t259 _ (cbz HR0_1) HC0_1.out ?side3 ?side4 A5.out).mono ?_); (case side3 => repeat (first | exact (Kd.N_reads' HO258.out).2.2 | (with_reducible refine Kd.C_alloc ?_ _) | (with_reducible refine Kd.C_drewN ?_ _) | (with_reducible refine Kd.C_drew ?_))); (case side4 => exact (Kd.N_reads' HO258.out).2.1); rintro e w30 ⟨rfl, hb⟩; refine ⟨_, rfl, ?_⟩; replace HO2 := Aside0.mk (Kd.V_below (by (with_reducible repeat (first | apply Kd.V_alloc | apply Kd.V_drewN | apply Kd.V_drew)); exact HO2.out) hb); replace HO3 := Aside0.mk (Kd.V_below (by (with_reducible repeat (first | apply Kd.V_alloc | apply Kd.V_drewN | apply Kd.V_drew)); exact HO3.out) hb); replace HO258 := Aside0.mk (Kd.N_below (by (with_reducible repeat (first | apply Kd.N_alloc | apply Kd.N_drewN | apply Kd.N_drew)); exact HO258.out) hb); replace BK255 := Aside0.mk (blk_below (g := gb255) blkz hb); replace HB := Aside0.mk (below_step bel hb); clear hb; obtain ⟨hcz31_0, hcz31_1⟩ := bc2 BK255.out) | ((with_reducible refine gate_callee (f := 14) rfl ?_); refine goesL_ (some 21) rfl rfl Try.func14 (by kernel_rfl) rfl #[.agg #[.int .i64 a0_0, .slice A0_1 l0_1.length c0_1], .slice A1 l1.length c1] rfl mapz ?_; (with_reducible refine (dropperref06_Weights.calls k a0_0 _ _ l0_1 _ _ l1 true _ (cbz HR0_1) HC0_1.out (cbz HR1) HC1.out A7.out).mono ?_); rintro e w32 ⟨rfl, hb⟩; refine ⟨_, rfl, ?_⟩; replace HO2 := Aside0.mk (Kd.V_below (by (with_reducible repeat (first | apply Kd.V_alloc | apply Kd.V_drewN | apply Kd.V_drew)); exact HO2.out) hb); replace HO3 := Aside0.mk (Kd.V_below (by (with_reducible repeat (first | apply Kd.V_alloc | apply Kd.V_drewN | apply Kd.V_drew)); exact HO3.out) hb); replace HO258 := Aside0.mk (Kd.N_below (by (with_reducible repeat (first | apply Kd.N_alloc | apply Kd.N_drewN | apply Kd.N_drew)); exact HO258.out) hb); replace BK255 := Aside0.mk (blk_below (g := gb255) blkz hb); replace HB := Aside0.mk (below_step bel hb); clear hb; obtain ⟨hcz33_0, hcz33_1⟩ := bc2 BK255.out) | ((with_reducible refine gate_callee (f := 52) rfl ?_); refine goesL_ (some 26) rfl rfl Try.func52 (by kernel_rfl) rfl #[.slice A1 l1.length c1, .int .i64 a0_0, .int .i64 0, .int .i64 20000] rfl mapz ?_; (with_reducible refine (dropperref06_list.calls k _ _ l1 a0_0 0 20000 true _ (cbz HR1) HC1.out A9.out).mono ?_); rintro e w' ⟨rfl, ⟨nd, rfl⟩⟩; refine ⟨_, rfl, ?_⟩) | (go_at_call 71; (with_reducible refine (dropperref06_holds.calls k a0_0 _ _ l0_1 _ _ l1 false _ ?side1 HC0_1.out ?side3 HC1.out A11.out).mono ?_); (case side1 => repeat (first | exact (Kd.C_below HR0_1.out bel) | (with_reducible refine Kd.C_alloc ?_ _) | (with_reducible refine Kd.C_drewN ?_ _) | (with_reducible refine Kd.C_drew ?_))); (case side3 => repeat (first | exact (Kd.C_below HR1.out bel) | (with_reducible refine Kd.C_alloc ?_ _) | (with_reducible refine Kd.C_drewN ?_ _) | (with_reducible refine Kd.C_drew ?_))); rintro e w34 ⟨rfl, hb⟩; replace HO2 := Aside0.mk (Kd.V_below (by (with_reducible repeat (first | apply Kd.V_alloc | apply Kd.V_drewN | apply Kd.V_drew)); exact HO2.out) hb); replace HO3 := Aside0.mk (Kd.V_below (by (with_reducible repeat (first | apply Kd.V_alloc | apply Kd.V_drewN | apply Kd.V_drew)); exact HO3.out) hb); replace HO258 := Aside0.mk (Kd.N_below (by (with_reducible repeat (first | apply Kd.N_alloc | apply Kd.N_drewN | apply Kd.N_drew)); exact HO258.out) hb); replace BK255 := Aside0.mk (blk_below (g := gb255) blkz hb); replace HB := Aside0.mk (below_step bel hb); clear hb))
     go_ret2
     exact ⟨ezz, bel⟩
   ·
    replace c10 := Bool.eq_false_iff.mpr c10
    subst c10
    rw [if_neg (show ¬ (false = true) by decide)] at H
    simp only [Option.some.injEq, Prod.mk.injEq] at H
    obtain ⟨rfl, rfl⟩ := H
    go_enter Try.func32, Try.ntmps32
    go_wp2_with (first | ((with_reducible refine gate_dst (N := 4) rfl ?_); refine box_event ?hg (N := 4) ?hd (cs := #[.int .i64 a0_0, .slice A0_1 l0_1.length c0_1]) (t := 24) ?hr ?_; (case hd => rfl); (case hg => rfl); (case hr => first | (go_simp; done) | (go_simp; rfl)); intro gb255 hg w35 hbox hb; have BK255 := Aside0.mk (hbox); have GW255 := bsz (w := w) hg; have GE255 := GW255; replace HO2 := Aside0.mk (Kd.V_below (Kd.V_elderB (by (with_reducible repeat (first | apply Kd.V_alloc | apply Kd.V_drewN | apply Kd.V_drew)); exact HO2.out) gb255 (Nat.le_of_eq hg.symm)) hb); replace HO3 := Aside0.mk (Kd.V_below (Kd.V_elderB (by (with_reducible repeat (first | apply Kd.V_alloc | apply Kd.V_drewN | apply Kd.V_drew)); exact HO3.out) gb255 (Nat.le_of_eq hg.symm)) hb); replace HB := Aside0.mk (below_step bel hb); clear hb hbox hg; obtain ⟨hcz36_0, hcz36_1⟩ := bc2 BK255.out) | ((with_reducible refine gate_dst (N := 14) rfl ?_); refine Kd.N_lit (Kd.slice 3 (Kd.int .i64)) _ 25 ?hg (N' := 14) ?hd (xs := ([l2, l3] : List (List Int))) (inner := [.slice A2 l2.length c2, .slice A3 l3.length c3]) (ok := (fun k_ => ((P2_ k_ ∨ P3_ k_) ∨ w.heap.size ≤ k_) ∧ k_ ≠ gb255)) (okp := (fun k_ => ((P2_ k_ ∨ P3_ k_) ∨ w.heap.size ≤ k_) ∧ k_ ≠ gb255)) ?hr ?hp (fun _ hk => hk) ((show ∀ k_, w35.heap.size ≤ k_ → (fun k_ => ((P2_ k_ ∨ P3_ k_) ∨ w.heap.size ≤ k_) ∧ k_ ≠ gb255) k_ from fun k_ hk => ⟨(.inr (Nat.le_trans (below_size bel) hk)), Kd.freshB (g := gb255) (o := .cells #[.int .i64 a0_0, .slice A0_1 l0_1.length c0_1] 24 (0, 0)) blkz k_ hk⟩) _ (Nat.le_refl _)) (Below.refl _ _) (Nat.le_refl _) (by simp) ?_; (case hd => rfl); (case hg => rfl); (case hr => first | (go_simp; done) | (go_simp; rfl)); (case hp => exact (Reps.one (show Kd.FK (Kd.slice 3 (Kd.int .i64)) _ _ l2 [.slice A2 l2.length c2] from (Kd.FK_slice_mk (Kd.V_reads' (Kd.V_mono (ok' := (fun k_ => ((P2_ k_ ∨ P3_ k_) ∨ w.heap.size ≤ k_) ∧ k_ ≠ gb255)) (HO2.out) (fun k_ hk => ⟨hk.1, hk.2⟩))).2.1 (Kd.V_F (Kd.V_mono (ok' := (fun k_ => ((P2_ k_ ∨ P3_ k_) ∨ w.heap.size ≤ k_) ∧ k_ ≠ gb255)) (HO2.out) (fun k_ hk => ⟨hk.1, hk.2⟩))))) (Reps.one (show Kd.FK (Kd.slice 3 (Kd.int .i64)) _ _ l3 [.slice A3 l3.length c3] from (Kd.FK_slice_mk (Kd.V_reads' (Kd.V_mono (ok' := (fun k_ => ((P2_ k_ ∨ P3_ k_) ∨ w.heap.size ≤ k_) ∧ k_ ≠ gb255)) (HO3.out) (fun k_ hk => ⟨hk.1, hk.2⟩))).2.1 (Kd.V_F (Kd.V_mono (ok' := (fun k_ => ((P2_ k_ ∨ P3_ k_) ∨ w.heap.size ≤ k_) ∧ k_ ≠ gb255)) (HO3.out) (fun k_ hk => ⟨hk.1, hk.2⟩))))) (Reps.none _ _)))); intro v257 w37 ho38 hb hg_ hnew_; clear hg_ hnew_; (first | rw [← Ny256.out] at ho38 | (simp only [Int.reduceToNat] at ho38; rw [← Ny256.out] at ho38)); have HO258 := Aside0.mk (Kd.N_lower ho38 (below_size bel)); replace HO2 := Aside0.mk (Kd.V_elder' (by (with_reducible repeat (first | apply Kd.V_alloc | apply Kd.V_drewN | apply Kd.V_drew)); exact HO2.out) (Kd.N_base ho38) hb); replace HO3 := Aside0.mk (Kd.V_elder' (by (with_reducible repeat (first | apply Kd.V_alloc | apply Kd.V_drewN | apply Kd.V_drew)); exact HO3.out) (Kd.N_base ho38) hb); replace BK255 := Aside0.mk (blk_below (g := gb255) blkz hb); replace HB := Aside0.mk (below_step bel hb); clear hb ho38; obtain ⟨Ao39, co39, eo39⟩ := Kd.N_slice HO258.out; subst eo39) | ((with_reducible refine gate_callee (f := 72) rfl ?_); refine goesL_ (some 15) rfl rfl Try.func72 (by kernel_rfl) rfl #[.agg #[.int .i64 a0_0, .slice A0_1 l0_1.length c0_1], .slice Ao39 y256.length co39] rfl mapz ?_; (with_reducible refine (dropperref06_asked.calls k a0_0 _ _ l0_1 _ _ y256 t259 _ (cbz HR0_1) HC0_1.out ?side3 ?side4 A5.out).mono ?_); (case side3 => repeat (first | exact (Kd.N_reads' HO258.out).2.2 | (with_reducible refine Kd.C_alloc ?_ _) | (with_reducible refine Kd.C_drewN ?_ _) | (with_reducible refine Kd.C_drew ?_))); (case side4 => exact (Kd.N_reads' HO258.out).2.1); rintro e w40 ⟨rfl, hb⟩; refine ⟨_, rfl, ?_⟩; replace HO2 := Aside0.mk (Kd.V_below (by (with_reducible repeat (first | apply Kd.V_alloc | apply Kd.V_drewN | apply Kd.V_drew)); exact HO2.out) hb); replace HO3 := Aside0.mk (Kd.V_below (by (with_reducible repeat (first | apply Kd.V_alloc | apply Kd.V_drewN | apply Kd.V_drew)); exact HO3.out) hb); replace HO258 := Aside0.mk (Kd.N_below (by (with_reducible repeat (first | apply Kd.N_alloc | apply Kd.N_drewN | apply Kd.N_drew)); exact HO258.out) hb); replace BK255 := Aside0.mk (blk_below (g := gb255) blkz hb); replace HB := Aside0.mk (below_step bel hb); clear hb; obtain ⟨hcz41_0, hcz41_1⟩ := bc2 BK255.out) | ((with_reducible refine gate_callee (f := 14) rfl ?_); refine goesL_ (some 21) rfl rfl Try.func14 (by kernel_rfl) rfl #[.agg #[.int .i64 a0_0, .slice A0_1 l0_1.length c0_1], .slice A1 l1.length c1] rfl mapz ?_; (with_reducible refine (dropperref06_Weights.calls k a0_0 _ _ l0_1 _ _ l1 true _ (cbz HR0_1) HC0_1.out (cbz HR1) HC1.out A7.out).mono ?_); rintro e w42 ⟨rfl, hb⟩; refine ⟨_, rfl, ?_⟩; replace HO2 := Aside0.mk (Kd.V_below (by (with_reducible repeat (first | apply Kd.V_alloc | apply Kd.V_drewN | apply Kd.V_drew)); exact HO2.out) hb); replace HO3 := Aside0.mk (Kd.V_below (by (with_reducible repeat (first | apply Kd.V_alloc | apply Kd.V_drewN | apply Kd.V_drew)); exact HO3.out) hb); replace HO258 := Aside0.mk (Kd.N_below (by (with_reducible repeat (first | apply Kd.N_alloc | apply Kd.N_drewN | apply Kd.N_drew)); exact HO258.out) hb); replace BK255 := Aside0.mk (blk_below (g := gb255) blkz hb); replace HB := Aside0.mk (below_step bel hb); clear hb; obtain ⟨hcz43_0, hcz43_1⟩ := bc2 BK255.out) | ((with_reducible refine gate_callee (f := 52) rfl ?_); refine goesL_ (some 26) rfl rfl Try.func52 (by kernel_rfl) rfl #[.slice A1 l1.length c1, .int .i64 a0_0, .int .i64 0, .int .i64 20000] rfl mapz ?_; (with_reducible refine (dropperref06_list.calls k _ _ l1 a0_0 0 20000 false _ (cbz HR1) HC1.out A9.out).mono ?_); rintro e w' ⟨rfl, ⟨nd, rfl⟩⟩; refine ⟨_, rfl, ?_⟩))
    go_ret2
    exact ⟨ezz, bel⟩
  ·
   replace c8 := Bool.eq_false_iff.mpr c8
   subst c8
   rw [if_neg (show ¬ (false = true) by decide)] at H
   simp only [Option.some.injEq, Prod.mk.injEq] at H
   obtain ⟨rfl, rfl⟩ := H
   go_enter Try.func32, Try.ntmps32
   go_wp2_with (first | ((with_reducible refine gate_dst (N := 4) rfl ?_); refine box_event ?hg (N := 4) ?hd (cs := #[.int .i64 a0_0, .slice A0_1 l0_1.length c0_1]) (t := 24) ?hr ?_; (case hd => rfl); (case hg => rfl); (case hr => first | (go_simp; done) | (go_simp; rfl)); intro gb255 hg w44 hbox hb; have BK255 := Aside0.mk (hbox); have GW255 := bsz (w := w) hg; have GE255 := GW255; replace HO2 := Aside0.mk (Kd.V_below (Kd.V_elderB (by (with_reducible repeat (first | apply Kd.V_alloc | apply Kd.V_drewN | apply Kd.V_drew)); exact HO2.out) gb255 (Nat.le_of_eq hg.symm)) hb); replace HO3 := Aside0.mk (Kd.V_below (Kd.V_elderB (by (with_reducible repeat (first | apply Kd.V_alloc | apply Kd.V_drewN | apply Kd.V_drew)); exact HO3.out) gb255 (Nat.le_of_eq hg.symm)) hb); replace HB := Aside0.mk (below_step bel hb); clear hb hbox hg; obtain ⟨hcz45_0, hcz45_1⟩ := bc2 BK255.out) | ((with_reducible refine gate_dst (N := 14) rfl ?_); refine Kd.N_lit (Kd.slice 3 (Kd.int .i64)) _ 25 ?hg (N' := 14) ?hd (xs := ([l2, l3] : List (List Int))) (inner := [.slice A2 l2.length c2, .slice A3 l3.length c3]) (ok := (fun k_ => ((P2_ k_ ∨ P3_ k_) ∨ w.heap.size ≤ k_) ∧ k_ ≠ gb255)) (okp := (fun k_ => ((P2_ k_ ∨ P3_ k_) ∨ w.heap.size ≤ k_) ∧ k_ ≠ gb255)) ?hr ?hp (fun _ hk => hk) ((show ∀ k_, w44.heap.size ≤ k_ → (fun k_ => ((P2_ k_ ∨ P3_ k_) ∨ w.heap.size ≤ k_) ∧ k_ ≠ gb255) k_ from fun k_ hk => ⟨(.inr (Nat.le_trans (below_size bel) hk)), Kd.freshB (g := gb255) (o := .cells #[.int .i64 a0_0, .slice A0_1 l0_1.length c0_1] 24 (0, 0)) blkz k_ hk⟩) _ (Nat.le_refl _)) (Below.refl _ _) (Nat.le_refl _) (by simp) ?_; (case hd => rfl); (case hg => rfl); (case hr => first | (go_simp; done) | (go_simp; rfl)); (case hp => exact (Reps.one (show Kd.FK (Kd.slice 3 (Kd.int .i64)) _ _ l2 [.slice A2 l2.length c2] from (Kd.FK_slice_mk (Kd.V_reads' (Kd.V_mono (ok' := (fun k_ => ((P2_ k_ ∨ P3_ k_) ∨ w.heap.size ≤ k_) ∧ k_ ≠ gb255)) (HO2.out) (fun k_ hk => ⟨hk.1, hk.2⟩))).2.1 (Kd.V_F (Kd.V_mono (ok' := (fun k_ => ((P2_ k_ ∨ P3_ k_) ∨ w.heap.size ≤ k_) ∧ k_ ≠ gb255)) (HO2.out) (fun k_ hk => ⟨hk.1, hk.2⟩))))) (Reps.one (show Kd.FK (Kd.slice 3 (Kd.int .i64)) _ _ l3 [.slice A3 l3.length c3] from (Kd.FK_slice_mk (Kd.V_reads' (Kd.V_mono (ok' := (fun k_ => ((P2_ k_ ∨ P3_ k_) ∨ w.heap.size ≤ k_) ∧ k_ ≠ gb255)) (HO3.out) (fun k_ hk => ⟨hk.1, hk.2⟩))).2.1 (Kd.V_F (Kd.V_mono (ok' := (fun k_ => ((P2_ k_ ∨ P3_ k_) ∨ w.heap.size ≤ k_) ∧ k_ ≠ gb255)) (HO3.out) (fun k_ hk => ⟨hk.1, hk.2⟩))))) (Reps.none _ _)))); intro v257 w46 ho47 hb hg_ hnew_; clear hg_ hnew_; (first | rw [← Ny256.out] at ho47 | (simp only [Int.reduceToNat] at ho47; rw [← Ny256.out] at ho47)); have HO258 := Aside0.mk (Kd.N_lower ho47 (below_size bel)); replace HO2 := Aside0.mk (Kd.V_elder' (by (with_reducible repeat (first | apply Kd.V_alloc | apply Kd.V_drewN | apply Kd.V_drew)); exact HO2.out) (Kd.N_base ho47) hb); replace HO3 := Aside0.mk (Kd.V_elder' (by (with_reducible repeat (first | apply Kd.V_alloc | apply Kd.V_drewN | apply Kd.V_drew)); exact HO3.out) (Kd.N_base ho47) hb); replace BK255 := Aside0.mk (blk_below (g := gb255) blkz hb); replace HB := Aside0.mk (below_step bel hb); clear hb ho47; obtain ⟨Ao48, co48, eo48⟩ := Kd.N_slice HO258.out; subst eo48) | ((with_reducible refine gate_callee (f := 72) rfl ?_); refine goesL_ (some 15) rfl rfl Try.func72 (by kernel_rfl) rfl #[.agg #[.int .i64 a0_0, .slice A0_1 l0_1.length c0_1], .slice Ao48 y256.length co48] rfl mapz ?_; (with_reducible refine (dropperref06_asked.calls k a0_0 _ _ l0_1 _ _ y256 t259 _ (cbz HR0_1) HC0_1.out ?side3 ?side4 A5.out).mono ?_); (case side3 => repeat (first | exact (Kd.N_reads' HO258.out).2.2 | (with_reducible refine Kd.C_alloc ?_ _) | (with_reducible refine Kd.C_drewN ?_ _) | (with_reducible refine Kd.C_drew ?_))); (case side4 => exact (Kd.N_reads' HO258.out).2.1); rintro e w49 ⟨rfl, hb⟩; refine ⟨_, rfl, ?_⟩; replace HO2 := Aside0.mk (Kd.V_below (by (with_reducible repeat (first | apply Kd.V_alloc | apply Kd.V_drewN | apply Kd.V_drew)); exact HO2.out) hb); replace HO3 := Aside0.mk (Kd.V_below (by (with_reducible repeat (first | apply Kd.V_alloc | apply Kd.V_drewN | apply Kd.V_drew)); exact HO3.out) hb); replace HO258 := Aside0.mk (Kd.N_below (by (with_reducible repeat (first | apply Kd.N_alloc | apply Kd.N_drewN | apply Kd.N_drew)); exact HO258.out) hb); replace BK255 := Aside0.mk (blk_below (g := gb255) blkz hb); replace HB := Aside0.mk (below_step bel hb); clear hb; obtain ⟨hcz50_0, hcz50_1⟩ := bc2 BK255.out) | ((with_reducible refine gate_callee (f := 14) rfl ?_); refine goesL_ (some 21) rfl rfl Try.func14 (by kernel_rfl) rfl #[.agg #[.int .i64 a0_0, .slice A0_1 l0_1.length c0_1], .slice A1 l1.length c1] rfl mapz ?_; (with_reducible refine (dropperref06_Weights.calls k a0_0 _ _ l0_1 _ _ l1 false _ (cbz HR0_1) HC0_1.out (cbz HR1) HC1.out A7.out).mono ?_); rintro e w51 ⟨rfl, hb⟩; refine ⟨_, rfl, ?_⟩; replace HO2 := Aside0.mk (Kd.V_below (by (with_reducible repeat (first | apply Kd.V_alloc | apply Kd.V_drewN | apply Kd.V_drew)); exact HO2.out) hb); replace HO3 := Aside0.mk (Kd.V_below (by (with_reducible repeat (first | apply Kd.V_alloc | apply Kd.V_drewN | apply Kd.V_drew)); exact HO3.out) hb); replace HO258 := Aside0.mk (Kd.N_below (by (with_reducible repeat (first | apply Kd.N_alloc | apply Kd.N_drewN | apply Kd.N_drew)); exact HO258.out) hb); replace BK255 := Aside0.mk (blk_below (g := gb255) blkz hb); replace HB := Aside0.mk (below_step bel hb); clear hb))
   go_ret2
   exact ⟨ezz, bel⟩
 ·
  rw [if_neg c6] at H
  have c6b0 : (t259 == 0) = false := beq_eq_false_iff_ne.mpr c6
  have c6b1 : (t259 != 0) = true := bne_iff_ne.mpr c6
  simp only [Option.some.injEq, Prod.mk.injEq] at H
  obtain ⟨rfl, rfl⟩ := H
  go_enter Try.func32, Try.ntmps32
  go_wp2_with (first | ((with_reducible refine gate_dst (N := 4) rfl ?_); refine box_event ?hg (N := 4) ?hd (cs := #[.int .i64 a0_0, .slice A0_1 l0_1.length c0_1]) (t := 24) ?hr ?_; (case hd => rfl); (case hg => rfl); (case hr => first | (go_simp; done) | (go_simp; rfl)); intro gb255 hg w52 hbox hb; have BK255 := Aside0.mk (hbox); have GW255 := bsz (w := w) hg; have GE255 := GW255; replace HO2 := Aside0.mk (Kd.V_below (Kd.V_elderB (by (with_reducible repeat (first | apply Kd.V_alloc | apply Kd.V_drewN | apply Kd.V_drew)); exact HO2.out) gb255 (Nat.le_of_eq hg.symm)) hb); replace HO3 := Aside0.mk (Kd.V_below (Kd.V_elderB (by (with_reducible repeat (first | apply Kd.V_alloc | apply Kd.V_drewN | apply Kd.V_drew)); exact HO3.out) gb255 (Nat.le_of_eq hg.symm)) hb); replace HB := Aside0.mk (below_step bel hb); clear hb hbox hg; obtain ⟨hcz53_0, hcz53_1⟩ := bc2 BK255.out) | ((with_reducible refine gate_dst (N := 14) rfl ?_); refine Kd.N_lit (Kd.slice 3 (Kd.int .i64)) _ 25 ?hg (N' := 14) ?hd (xs := ([l2, l3] : List (List Int))) (inner := [.slice A2 l2.length c2, .slice A3 l3.length c3]) (ok := (fun k_ => ((P2_ k_ ∨ P3_ k_) ∨ w.heap.size ≤ k_) ∧ k_ ≠ gb255)) (okp := (fun k_ => ((P2_ k_ ∨ P3_ k_) ∨ w.heap.size ≤ k_) ∧ k_ ≠ gb255)) ?hr ?hp (fun _ hk => hk) ((show ∀ k_, w52.heap.size ≤ k_ → (fun k_ => ((P2_ k_ ∨ P3_ k_) ∨ w.heap.size ≤ k_) ∧ k_ ≠ gb255) k_ from fun k_ hk => ⟨(.inr (Nat.le_trans (below_size bel) hk)), Kd.freshB (g := gb255) (o := .cells #[.int .i64 a0_0, .slice A0_1 l0_1.length c0_1] 24 (0, 0)) blkz k_ hk⟩) _ (Nat.le_refl _)) (Below.refl _ _) (Nat.le_refl _) (by simp) ?_; (case hd => rfl); (case hg => rfl); (case hr => first | (go_simp; done) | (go_simp; rfl)); (case hp => exact (Reps.one (show Kd.FK (Kd.slice 3 (Kd.int .i64)) _ _ l2 [.slice A2 l2.length c2] from (Kd.FK_slice_mk (Kd.V_reads' (Kd.V_mono (ok' := (fun k_ => ((P2_ k_ ∨ P3_ k_) ∨ w.heap.size ≤ k_) ∧ k_ ≠ gb255)) (HO2.out) (fun k_ hk => ⟨hk.1, hk.2⟩))).2.1 (Kd.V_F (Kd.V_mono (ok' := (fun k_ => ((P2_ k_ ∨ P3_ k_) ∨ w.heap.size ≤ k_) ∧ k_ ≠ gb255)) (HO2.out) (fun k_ hk => ⟨hk.1, hk.2⟩))))) (Reps.one (show Kd.FK (Kd.slice 3 (Kd.int .i64)) _ _ l3 [.slice A3 l3.length c3] from (Kd.FK_slice_mk (Kd.V_reads' (Kd.V_mono (ok' := (fun k_ => ((P2_ k_ ∨ P3_ k_) ∨ w.heap.size ≤ k_) ∧ k_ ≠ gb255)) (HO3.out) (fun k_ hk => ⟨hk.1, hk.2⟩))).2.1 (Kd.V_F (Kd.V_mono (ok' := (fun k_ => ((P2_ k_ ∨ P3_ k_) ∨ w.heap.size ≤ k_) ∧ k_ ≠ gb255)) (HO3.out) (fun k_ hk => ⟨hk.1, hk.2⟩))))) (Reps.none _ _)))); intro v257 w54 ho55 hb hg_ hnew_; clear hg_ hnew_; (first | rw [← Ny256.out] at ho55 | (simp only [Int.reduceToNat] at ho55; rw [← Ny256.out] at ho55)); have HO258 := Aside0.mk (Kd.N_lower ho55 (below_size bel)); replace HO2 := Aside0.mk (Kd.V_elder' (by (with_reducible repeat (first | apply Kd.V_alloc | apply Kd.V_drewN | apply Kd.V_drew)); exact HO2.out) (Kd.N_base ho55) hb); replace HO3 := Aside0.mk (Kd.V_elder' (by (with_reducible repeat (first | apply Kd.V_alloc | apply Kd.V_drewN | apply Kd.V_drew)); exact HO3.out) (Kd.N_base ho55) hb); replace BK255 := Aside0.mk (blk_below (g := gb255) blkz hb); replace HB := Aside0.mk (below_step bel hb); clear hb ho55; obtain ⟨Ao56, co56, eo56⟩ := Kd.N_slice HO258.out; subst eo56) | ((with_reducible refine gate_callee (f := 72) rfl ?_); refine goesL_ (some 15) rfl rfl Try.func72 (by kernel_rfl) rfl #[.agg #[.int .i64 a0_0, .slice A0_1 l0_1.length c0_1], .slice Ao56 y256.length co56] rfl mapz ?_; (with_reducible refine (dropperref06_asked.calls k a0_0 _ _ l0_1 _ _ y256 t259 _ (cbz HR0_1) HC0_1.out ?side3 ?side4 A5.out).mono ?_); (case side3 => repeat (first | exact (Kd.N_reads' HO258.out).2.2 | (with_reducible refine Kd.C_alloc ?_ _) | (with_reducible refine Kd.C_drewN ?_ _) | (with_reducible refine Kd.C_drew ?_))); (case side4 => exact (Kd.N_reads' HO258.out).2.1); rintro e w57 ⟨rfl, hb⟩; refine ⟨_, rfl, ?_⟩; replace HO2 := Aside0.mk (Kd.V_below (by (with_reducible repeat (first | apply Kd.V_alloc | apply Kd.V_drewN | apply Kd.V_drew)); exact HO2.out) hb); replace HO3 := Aside0.mk (Kd.V_below (by (with_reducible repeat (first | apply Kd.V_alloc | apply Kd.V_drewN | apply Kd.V_drew)); exact HO3.out) hb); replace HO258 := Aside0.mk (Kd.N_below (by (with_reducible repeat (first | apply Kd.N_alloc | apply Kd.N_drewN | apply Kd.N_drew)); exact HO258.out) hb); replace BK255 := Aside0.mk (blk_below (g := gb255) blkz hb); replace HB := Aside0.mk (below_step bel hb); clear hb))
  go_ret2
  exact ⟨ezz, bel⟩

/-! ### key_Turned: function 37 -/
def key_Turned.l0 : Nat → List (S64) → Int → Int → Int → List (S64) → Option (Int × (List (S64)) × Int)
 | 0, _, _, _, _, _ => none
 | k + 1, x18, x19, x20, x351000, x351001 => if x20 < x19 then (if 0 ≤ x20 then (if x20 < (x18.length : Int) then ((slices_Clone_int_int.f ((rd_T64 x18 x20).f1)).bind fun t353 => ((slices_Clone_int_int.f ((rd_T64 x18 x20).f0)).bind fun t356 => (if x351001.length < 2932031007402 then (key_Turned.l0 k x18 x19 (wrap64 (x20 + 1)) x351000 (x351001 ++ [(⟨t353, t356⟩ : S64)])) else (none)))) else (none)) else (none)) else (some (x351000, x351001, 0))
def key_Turned.f (k : Nat) (a0_0 : Int) (l0_1 : List (S64)) : Option (Int × (List (S64)) × Int) := (key_open.f a0_0 l0_1 ([] : List (List Int))).bind fun t349 => (if t349 = 0 then (key_Turned.l0 k l0_1 (l0_1.length : Int) 0 a0_0 ([] : List (S64))) else (some (0, ([] : List (S64)), t349)))
def key_Turned.T8 : Bool × List (List Nat × List Nat) := (true, [([], []), ([0], [0]), ([], []), ([2], [2]), ([3], [3]), ([], []), ([5], [5]), ([6, 4], [6]), ([4, 7], [4, 7]), ([8], [8]), ([1, 9, 7], [1, 9]), ([0, 1, 2, 3, 4, 5, 6, 7, 8, 9, 10], []), ([11, 10, 10, 0, 1, 2, 3, 4, 5, 6, 7, 8, 9, 10], [10, 11])])
def key_Turned.B8 : List Nat := [0, 1, 0, 4, 12, 0, 32, 124, 252, 508, 1023, 2047, 4095]
theorem key_Turned.tab8 : rtab .any (opsOf Try.f37 8) = key_Turned.T8 := by kernel_rfl
theorem key_Turned.bits8 : waitsOk key_Turned.T8.2 key_Turned.B8 = true := by kernel_rfl
set_option maxHeartbeats 8000000 in
set_option maxRecDepth 100000 in
theorem key_Turned.calls (k : Nat) (a0_0 : Int) (A0_1 : Option Addr) (c0_1 : Nat) (l0_1 : List (S64)) (r1 : Int) (r2 : List (S64)) (r3 : Int) (w : World) (hr0_1 : Kd.C k64 w A0_1 l0_1.length l0_1) (hc0_1 : l0_1.length ≤ c0_1) (h : key_Turned.f k a0_0 l0_1 = some (r1, r2, r3)) :
  Calls Try.prog 37 #[.agg #[.int .i64 a0_0, .slice A0_1 l0_1.length c0_1]] w fun e w' => ∃ v1_ : Value, e = .returned (.tuple #[.agg #[.int .i64 r1, v1_], .int .i64 r3]) ∧ Kd.S k64 64 w' w.heap.size (fun _ => True) v1_ r2 ∧ Below w.heap.size w w' := by
 have hu24 := Try.underlying24
 have hu64 := Try.underlying64
 have HR0_1 := Aside0.mk hr0_1
 have HC0_1 := Aside0.mk hc0_1
 clear hr0_1 hc0_1
 have HB := Aside0.mk (Below.refl w.heap.size w)
 have H : ((key_open.f a0_0 l0_1 ([] : List (List Int))).bind fun t349 => (if t349 = 0 then (key_Turned.l0 k l0_1 (l0_1.length : Int) 0 a0_0 ([] : List (S64))) else (some (0, ([] : List (S64)), t349)))) = some (r1, r2, r3) := h
 clear h
 replace H := Option.bind_eq_some_iff.mp H
 obtain ⟨t349, A20, H⟩ := H
 try dsimp only at H
 have A2 := Aside0.mk A20
 clear A20
 by_cases c3 : t349 = 0
 ·
  rw [if_pos c3] at H
  have c3b0 : (t349 == 0) = true := beq_iff_eq.mpr c3
  have c3b1 : (t349 != 0) = false := bne_eq_false_iff_eq.mpr c3
  clear c3
  have H' := Aside0.mk H
  clear H
  go_enter Try.func37, Try.ntmps37
  go_wp2_with (first | ((with_reducible refine gate_dst (N := 1) rfl ?_); refine box_event ?hg (N := 1) ?hd (cs := #[.int .i64 a0_0, .slice A0_1 l0_1.length c0_1]) (t := 24) ?hr ?_; (case hd => rfl); (case hg => rfl); (case hr => first | (go_simp; done) | (go_simp; rfl)); intro gb347 hg w4 hbox hb; have BK347 := Aside0.mk (hbox); have GW347 := bsz (w := w) hg; have GE347 := GW347; replace HB := Aside0.mk (below_step bel hb); clear hb hbox hg) | ((with_reducible refine gate_dst (N := 2) rfl ?_); refine box_event ?hg (N := 2) ?hd (cs := #[.int .i64 0, .slice none 0 0]) (t := 24) ?hr ?_; (case hd => rfl); (case hg => rfl); (case hr => first | (go_simp; done) | (go_simp; rfl)); intro gb348 hg w5 hbox hb; have BK348 := Aside0.mk (hbox); have GW348 := bsz (w := w) hg; have GE348 := GW348; have NB347_348 := neL (g := gb347) hg; have NB348_347 := neR (g := gb347) hg; replace BK347 := Aside0.mk (blk_below (g := gb347) blkz hb); replace HB := Aside0.mk (below_step bel hb); clear hb hbox hg; have hnb6 := NB347_348.out; have hnc6 := NB348_347.out; obtain ⟨hcz7_0, hcz7_1⟩ := bc2 BK347.out) | ((with_reducible refine gate_callee (f := 68) rfl ?_); refine goesL_ (some 9) rfl rfl Try.func68 (by kernel_rfl) rfl #[.agg #[.int .i64 a0_0, .slice A0_1 l0_1.length c0_1], .slice none 0 0] rfl mapz ?_; (refine (key_open.calls a0_0 _ _ l0_1 _ _ ([] : List (List Int)) t349 _ (cbz HR0_1) HC0_1.out ?side3 ?side4 A2.out).mono ?_); (case side3 => exact Kd.C_nil _ _); (case side4 => exact Nat.le_refl _); rintro e w8 ⟨rfl, hb⟩; refine ⟨_, rfl, ?_⟩; replace BK347 := Aside0.mk (blk_below (g := gb347) blkz hb); replace BK348 := Aside0.mk (blk_below (g := gb348) blkz hb); replace HB := Aside0.mk (below_step bel hb); clear hb; obtain ⟨hcz9_0, hcz9_1⟩ := bc2 BK347.out) | ((with_reducible refine gate_dst (N := 5) rfl ?_); refine box_event ?hg (N := 5) ?hd (cs := #[.int .i64 0, .slice none 0 0]) (t := 24) ?hr ?_; (case hd => rfl); (case hg => rfl); (case hr => first | (go_simp; done) | (go_simp; rfl)); intro gb350 hg w10 hbox hb; have BK350 := Aside0.mk (hbox); have GW350 := bsz (w := w) hg; have GE350 := GW350; have NB347_350 := neL (g := gb347) hg; have NB350_347 := neR (g := gb347) hg; have NB348_350 := neL (g := gb348) hg; have NB350_348 := neR (g := gb348) hg; replace BK347 := Aside0.mk (blk_below (g := gb347) blkz hb); replace BK348 := Aside0.mk (blk_below (g := gb348) blkz hb); replace HB := Aside0.mk (below_step bel hb); clear hb hbox hg; have hnb11 := NB350_347.out; have hnc11 := NB347_350.out; have hnb12 := NB350_348.out; have hnc12 := NB348_350.out; obtain ⟨hcz13_0, hcz13_1⟩ := bc2 BK350.out; obtain ⟨hfz13_0, hfz13_1⟩ := bf2 BK350.out; obtain ⟨hcz14_0, hcz14_1⟩ := bc2 BK347.out))
  go_loopg [20] k (fun kq v20 w' => ∃ (x20_1 : Int) (x351001_1 : List (S64)) (u351001 : Value), v20 = .int .i64 x20_1 ∧ Aside0 (key_Turned.l0 kq l0_1 (l0_1.length : Int) x20_1 a0_0 x351001_1 = some (r1, r2, r3)) ∧ Aside0 (kq ≤ k) ∧ Aside0 (Kd.S k64 64 w' w.heap.size (fun _ => True) u351001 x351001_1) ∧ Aside0 (w'.heap[gb347]? = some (.cells #[.int .i64 a0_0, (.slice A0_1 l0_1.length c0_1)] 24 (0, 0))) ∧ Aside0 (w'.heap[gb348]? = some (.cells #[.int .i64 0, (.slice none 0 0)] 24 (0, 0))) ∧ Aside0 (w'.heap[gb350]? = some (.cells #[.int .i64 a0_0, u351001] 24 (0, 0))) ∧ Aside0 (Below w.heap.size w w'))
  case atStart => exact ⟨(0), (([] : List (S64))), (.slice none 0 0), rsz, H', ⟨Nat.le_refl _⟩, ⟨by first | exact Kd.S_nil _ _ _ _ _ | exact Kd.N_nil _ _ _ _ _ | exact Kd.V_nil _ _ _ _ _ | exact Kd.Q_nil _ _ _ _ _ | exact Kd.R_nil _ _ _ _ _⟩, ⟨by (with_reducible repeat (first | refine blk_drewN ?_ _ | refine blk_drew ?_ | refine blk_alloc ?_ _)); refine blk_far ?_ NB347_350.out _; (with_reducible repeat (first | refine blk_drewN ?_ _ | refine blk_drew ?_ | refine blk_alloc ?_ _)); refine blk_far ?_ NB347_350.out _; (with_reducible repeat (first | refine blk_drewN ?_ _ | refine blk_drew ?_ | refine blk_alloc ?_ _)); exact BK347.out⟩, ⟨by (with_reducible repeat (first | refine blk_drewN ?_ _ | refine blk_drew ?_ | refine blk_alloc ?_ _)); refine blk_far ?_ NB348_350.out _; (with_reducible repeat (first | refine blk_drewN ?_ _ | refine blk_drew ?_ | refine blk_alloc ?_ _)); refine blk_far ?_ NB348_350.out _; (with_reducible repeat (first | refine blk_drewN ?_ _ | refine blk_drew ?_ | refine blk_alloc ?_ _)); exact BK348.out⟩, ⟨by (with_reducible repeat (first | refine blk_drewN ?_ _ | refine blk_drew ?_ | refine blk_alloc ?_ _)); refine blk_put (cs := #[.int .i64 a0_0, .slice none 0 0]) ?_ 1 _ rfl; (with_reducible repeat (first | refine blk_drewN ?_ _ | refine blk_drew ?_ | refine blk_alloc ?_ _)); refine blk_put (cs := #[.int .i64 0, .slice none 0 0]) ?_ 0 _ rfl; (with_reducible repeat (first | refine blk_drewN ?_ _ | refine blk_drew ?_ | refine blk_alloc ?_ _)); exact BK350.out⟩, ⟨bel⟩⟩
  case round =>
   clear H'
   (try clear c1); (try clear p2); (try clear c3); (try clear c3b0); (try clear c3b1); (try clear c6); (try clear c11); (try clear c12); (try clear hcz13_0); (try clear hcz13_1); (try clear hcz14_0); (try clear hcz14_1); (try clear hcz7_0); (try clear hcz7_1); (try clear hcz9_0); (try clear hcz9_1); (try clear hfz13_0); (try clear hfz13_1); (try clear hfz14_0); (try clear hfz14_1); (try clear hfz7_0); (try clear hfz7_1); (try clear hfz9_0); (try clear hfz9_1)
   obtain ⟨x20_1, x351001_1, u351001, rfl, HA, HK1, HO_351001, BK347, BK348, BK350, HB⟩ := hrel
   cases gk with
   | zero => exact absurd HA.out (by simp [key_Turned.l0])
   | succ k1 =>
    have H := HA.out
    clear HA
    simp only [key_Turned.l0] at H
    by_cases c15 : x20_1 < (l0_1.length : Int)
    ·
     rw [if_pos c15] at H
     have c15b0 : decide (x20_1 < (l0_1.length : Int)) = true := decide_eq_true c15
     clear c15
     by_cases c16 : 0 ≤ x20_1
     ·
      rw [if_pos c16] at H
      have c16b0 : decide (0 ≤ x20_1) = true := decide_eq_true c16
      clear c16
      by_cases c17 : x20_1 < (l0_1.length : Int)
      ·
       rw [if_pos c17] at H
       have c17b0 : decide (x20_1 < (l0_1.length : Int)) = true := decide_eq_true c17
       clear c17
       replace H := Option.bind_eq_some_iff.mp H
       obtain ⟨t353, A180, H⟩ := H
       try dsimp only at H
       have A18 := Aside0.mk A180
       clear A180
       replace H := Option.bind_eq_some_iff.mp H
       obtain ⟨t356, A190, H⟩ := H
       try dsimp only at H
       have A19 := Aside0.mk A190
       clear A190
       by_cases c20 : x351001_1.length < 2932031007402
       ·
        rw [if_pos c20] at H
        have LMc20 := Aside0.mk c20
        clear c20
        obtain ⟨y359, hy359⟩ : ∃ y_ : List (S64), y_ = (x351001_1 ++ [(⟨t353, t356⟩ : S64)]) := ⟨_, rfl⟩
        replace H : (key_Turned.l0 k1 l0_1 (l0_1.length : Int) (wrap64 (x20_1 + 1)) a0_0 y359) = some (r1, r2, r3) := by first | (rw [hy359]; with_reducible exact H) | (have H2_ := (Option.bind_some _ _).symm.trans H; rw [hy359]; with_reducible exact H2_) | (have H2_ := (Option.bind_some _ _).symm.trans H; with_reducible exact H2_) | with_reducible exact H | (rw [hy359]; exact H) | exact H
        have Ny359 := Aside0.mk hy359
        clear hy359
        have H' := Aside0.mk H
        clear H
        have p351 : 0 ≤ (x20_1 : Int) := of_decide_eq_true asz
        have q351 : x20_1 < (l0_1.length : Int) := of_decide_eq_true asz
        obtain ⟨ad351, A351_0, c351_0, A351_1, c351_1, e351, hx351_0, hx351_1, hl351_0, hi351_0, hl351_1, hi351_1⟩ := at_T64 HR0_1.out x20_1 p351 q351
        cases e351
        replace hx351_0 := (HB.out.cell (World.block_lt_of_cell? w _ hx351_0)).trans hx351_0
        replace hx351_1 := (HB.out.cell (World.block_lt_of_cell? w _ hx351_1)).trans hx351_1
        have HR351_0 := Aside0.mk hi351_0
        have HC351_0 := Aside0.mk hl351_0
        clear hi351_0 hl351_0
        have HR351_1 := Aside0.mk hi351_1
        have HC351_1 := Aside0.mk hl351_1
        clear hi351_1 hl351_1
        replace p351 := eq_true p351
        replace q351 := eq_true q351
        try go_wp2_with (first | ((with_reducible refine gate_dst (N := 7) rfl ?_); refine box_event ?hg (N := 7) ?hd (cs := #[.slice none 0 0, .slice none 0 0]) (t := 64) ?hr ?_; (case hd => rfl); (case hg => rfl); (case hr => first | (go_simp; done) | (go_simp; rfl)); intro gb352 hg w21 hbox hb; have BK352 := Aside0.mk (hbox); have GW352 := bsz (w := w) hg; have GE352 := GW352; have NB347_352 := neL (g := gb347) hg; have NB352_347 := neR (g := gb347) hg; have NB348_352 := neL (g := gb348) hg; have NB352_348 := neR (g := gb348) hg; have NB350_352 := neL (g := gb350) hg; have NB352_350 := neR (g := gb350) hg; replace HO_351001 := Aside0.mk (Kd.S_below (Kd.S_elderB (by (with_reducible repeat (first | apply Kd.S_alloc | apply Kd.S_drewN | apply Kd.S_drew)); exact HO_351001.out) gb352 (Nat.le_of_eq hg.symm)) hb); replace BK347 := Aside0.mk (blk_below (g := gb347) blkz hb); replace BK348 := Aside0.mk (blk_below (g := gb348) blkz hb); replace BK350 := Aside0.mk (blk_below (g := gb350) blkz hb); replace HB := Aside0.mk (below_step bel hb); clear hb hbox hg; have hnb22 := NB352_347.out; have hnc22 := NB347_352.out; have hnb23 := NB352_348.out; have hnc23 := NB348_352.out; have hnb24 := NB352_350.out; have hnc24 := NB350_352.out; obtain ⟨hcz25_0, hcz25_1⟩ := bc2 BK352.out; obtain ⟨hfz25_0, hfz25_1⟩ := bf2 BK352.out))
        have n0_ : Aside0 (Kd.S k64 64 ((w21.setCell ⟨gb352, 0, none⟩ (.slice A351_0 ((rd_T64 l0_1 x20_1).f0).length c351_0)).setCell ⟨gb352, 1, none⟩ (.slice A351_1 ((rd_T64 l0_1 x20_1).f1).length c351_1)) w.heap.size (fun k_ => k_ ≠ gb352) u351001 x351001_1) := ⟨by (with_reducible repeat (first | apply Kd.S_alloc | apply Kd.S_drewN | apply Kd.S_drew)); exact Kd.S_mono (Kd.S_far (p := ⟨gb352, 1, none⟩) (Kd.S_far (p := ⟨gb352, 0, none⟩) (Kd.S_mono HO_351001.out (fun k_ hk => (⟨hk, hk.2⟩ : _ ∧ k_ ≠ gb352))) (fun _ hk => hk.2) (.slice A351_0 ((rd_T64 l0_1 x20_1).f0).length c351_0)) (fun _ hk => hk.2) (.slice A351_1 ((rd_T64 l0_1 x20_1).f1).length c351_1)) (fun _ hk => hk.1.2)⟩
        have n1_ : Aside0 (((w21.setCell ⟨gb352, 0, none⟩ (.slice A351_0 ((rd_T64 l0_1 x20_1).f0).length c351_0)).setCell ⟨gb352, 1, none⟩ (.slice A351_1 ((rd_T64 l0_1 x20_1).f1).length c351_1)).heap[gb347]? = some (.cells #[.int .i64 a0_0, .slice (some ad351) l0_1.length c0_1] 24 (0, 0))) := ⟨by (with_reducible repeat (first | refine blk_drewN ?_ _ | refine blk_drew ?_ | refine blk_alloc ?_ _)); refine blk_far ?_ NB347_352.out _; (with_reducible repeat (first | refine blk_drewN ?_ _ | refine blk_drew ?_ | refine blk_alloc ?_ _)); refine blk_far ?_ NB347_352.out _; (with_reducible repeat (first | refine blk_drewN ?_ _ | refine blk_drew ?_ | refine blk_alloc ?_ _)); exact BK347.out⟩
        have n2_ : Aside0 (((w21.setCell ⟨gb352, 0, none⟩ (.slice A351_0 ((rd_T64 l0_1 x20_1).f0).length c351_0)).setCell ⟨gb352, 1, none⟩ (.slice A351_1 ((rd_T64 l0_1 x20_1).f1).length c351_1)).heap[gb348]? = some (.cells #[.int .i64 0, .slice none 0 0] 24 (0, 0))) := ⟨by (with_reducible repeat (first | refine blk_drewN ?_ _ | refine blk_drew ?_ | refine blk_alloc ?_ _)); refine blk_far ?_ NB348_352.out _; (with_reducible repeat (first | refine blk_drewN ?_ _ | refine blk_drew ?_ | refine blk_alloc ?_ _)); refine blk_far ?_ NB348_352.out _; (with_reducible repeat (first | refine blk_drewN ?_ _ | refine blk_drew ?_ | refine blk_alloc ?_ _)); exact BK348.out⟩
        have n3_ : Aside0 (((w21.setCell ⟨gb352, 0, none⟩ (.slice A351_0 ((rd_T64 l0_1 x20_1).f0).length c351_0)).setCell ⟨gb352, 1, none⟩ (.slice A351_1 ((rd_T64 l0_1 x20_1).f1).length c351_1)).heap[gb350]? = some (.cells #[.int .i64 a0_0, u351001] 24 (0, 0))) := ⟨by (with_reducible repeat (first | refine blk_drewN ?_ _ | refine blk_drew ?_ | refine blk_alloc ?_ _)); refine blk_far ?_ NB350_352.out _; (with_reducible repeat (first | refine blk_drewN ?_ _ | refine blk_drew ?_ | refine blk_alloc ?_ _)); refine blk_far ?_ NB350_352.out _; (with_reducible repeat (first | refine blk_drewN ?_ _ | refine blk_drew ?_ | refine blk_alloc ?_ _)); exact BK350.out⟩
        have n4_ : Aside0 (((w21.setCell ⟨gb352, 0, none⟩ (.slice A351_0 ((rd_T64 l0_1 x20_1).f0).length c351_0)).setCell ⟨gb352, 1, none⟩ (.slice A351_1 ((rd_T64 l0_1 x20_1).f1).length c351_1)).heap[gb352]? = some (.cells #[.slice A351_0 ((rd_T64 l0_1 x20_1).f0).length c351_0, .slice A351_1 ((rd_T64 l0_1 x20_1).f1).length c351_1] 64 (0, 0))) := ⟨by (with_reducible repeat (first | refine blk_drewN ?_ _ | refine blk_drew ?_ | refine blk_alloc ?_ _)); refine blk_put (cs := #[.slice A351_0 ((rd_T64 l0_1 x20_1).f0).length c351_0, .slice none 0 0]) ?_ 1 _ rfl; (with_reducible repeat (first | refine blk_drewN ?_ _ | refine blk_drew ?_ | refine blk_alloc ?_ _)); refine blk_put (cs := #[.slice none 0 0, .slice none 0 0]) ?_ 0 _ rfl; (with_reducible repeat (first | refine blk_drewN ?_ _ | refine blk_drew ?_ | refine blk_alloc ?_ _)); exact BK352.out⟩
        have n5_ : Aside0 (Below w.heap.size w ((w21.setCell ⟨gb352, 0, none⟩ (.slice A351_0 ((rd_T64 l0_1 x20_1).f0).length c351_0)).setCell ⟨gb352, 1, none⟩ (.slice A351_1 ((rd_T64 l0_1 x20_1).f1).length c351_1))) := ⟨bel⟩
        (try clear HO_351001)
        (try clear BK347)
        (try clear BK348)
        (try clear BK350)
        (try clear BK352)
        (try clear HB)
        generalize ((w21.setCell ⟨gb352, 0, none⟩ (.slice A351_0 ((rd_T64 l0_1 x20_1).f0).length c351_0)).setCell ⟨gb352, 1, none⟩ (.slice A351_1 ((rd_T64 l0_1 x20_1).f1).length c351_1)) = w26 at n0_ n1_ n2_ n3_ n4_ n5_ ⊢
        have HO_351001 := n0_
        have BK347 := n1_
        have BK348 := n2_
        have BK350 := n3_
        have BK352 := n4_
        have HB := n5_
        clear n0_ n1_ n2_ n3_ n4_ n5_
        have n0_ := Aside0.mk (Kd.S_drew HO_351001.out)
        have n1_ := Aside0.mk (blk_drew BK347.out)
        have n2_ := Aside0.mk (blk_drew BK348.out)
        have n3_ := Aside0.mk (blk_drew BK350.out)
        have n4_ := Aside0.mk (blk_drew BK352.out)
        have n5_ := Aside0.mk (below_drew1 HB.out)
        clear HO_351001
        clear BK347
        clear BK348
        clear BK350
        clear BK352
        clear HB
        have HO_351001 := n0_
        have BK347 := n1_
        have BK348 := n2_
        have BK350 := n3_
        have BK352 := n4_
        have HB := n5_
        clear n0_ n1_ n2_ n3_ n4_ n5_
        refine start_ (n := 13) (S := fun w' => w'.cell? ⟨gb350, 0, none⟩ = some (.int .i64 a0_0) ∧ w'.cell? ⟨gb350, 1, none⟩ = some (u351001) ∧ w'.cell? ⟨gb352, 0, none⟩ = some (.slice A351_0 ((rd_T64 l0_1 x20_1).f0).length c351_0) ∧ w'.cell? ⟨gb352, 1, none⟩ = some (.slice A351_1 ((rd_T64 l0_1 x20_1).f1).length c351_1)) (ds := [12]) #[false, false, false, false, false, false, false, false, false, false, false, false, false] (by kernel_rfl) rfl rfl ⟨(blk_cell BK350.out 0).trans rfl, (blk_cell BK350.out 1).trans rfl, (blk_cell BK352.out 0).trans rfl, (blk_cell BK352.out 1).trans rfl⟩ (fun hHeld => ?_); refine with_tabW key_Turned.tab8 key_Turned.bits8 (fun HT_ HW_ => ?_)
        generalize w26.drew = w27 at HO_351001 BK347 BK348 BK350 BK352 HB hHeld ⊢
        refine pst (i := 0) (N := some 24) (bz 13 1) (any_of HT_.out (by kernel_rfl)) ?_
        refine pst (i := 2) (N := some 26) (bz 13 5) (any_of HT_.out (by kernel_rfl)) ?_
        refine pst (i := 5) (N := some 29) (bz 13 37) (any_of HT_.out (by kernel_rfl)) ?_
        refine tst4 (i := 1) (N := some 25) (bz 13 39) (take_ofW HT_.out HW_.out (by kernel_rfl)) hHeld ?_
        refine tst4 (i := 3) (N := some 27) (bz 13 47) (take_ofW HT_.out HW_.out (by kernel_rfl)) hHeld ?_
        refine tst4 (i := 6) (N := some 30) (bz 13 111) (take_ofW HT_.out HW_.out (by kernel_rfl)) hHeld ?_
        refine one_ (i := 4) (N := some 28) #[true, true, true, true, true, true, true, false, false, false, false, false, false] rfl rfl (one_of HT_.out (by kernel_rfl)) (by decide) (fun K hK => ?_)
        refine goes_ Try.func76 (by kernel_rfl) rfl #[.slice A351_1 ((rd_T64 l0_1 x20_1).f1).length c351_1] (by rfl) rfl rfl mapz ?_
        with_reducible refine (slices_Clone_int_int.calls _ _ ((rd_T64 l0_1 x20_1).f1) t353 _ ?side1 ?side2 A18.out).mono ?_
        (case side1 => exact cbz HR351_1)
        (case side2 => exact HC351_1.out)
        rintro e w28 ⟨v354, rfl, ho0, hb⟩
        refine ⟨_, rfl, ?_⟩
        have n0_ := Aside0.mk (Kd.S_elder' (by (with_reducible repeat (first | apply Kd.S_alloc | apply Kd.S_drewN | apply Kd.S_drew)); exact HO_351001.out) (Kd.R_base ho0) hb)
        have n1_ := Aside0.mk (Kd.R_lower ho0 (below_size bel))
        have n2_ := Aside0.mk (blk_below (g := gb347) blkz hb)
        have n3_ := Aside0.mk (blk_below (g := gb348) blkz hb)
        have n4_ := Aside0.mk (blk_below (g := gb350) blkz hb)
        have n5_ := Aside0.mk (blk_below (g := gb352) blkz hb)
        have n6_ := Aside0.mk (below_step bel hb)
        clear HO_351001
        clear BK347
        clear BK348
        clear BK350
        clear BK352
        clear HB
        have HO_351001 := n0_
        have HO355 := n1_
        have BK347 := n2_
        have BK348 := n3_
        have BK350 := n4_
        have BK352 := n5_
        have HB := n6_
        clear n0_ n1_ n2_ n3_ n4_ n5_ n6_
        (try clear hb)
        (try clear hb2)
        (try clear hk)
        (try clear hi)
        (try clear ho0)
        refine hK.out _ _ ⟨(blk_cell BK350.out 0).trans rfl, (blk_cell BK350.out 1).trans rfl, (blk_cell BK352.out 0).trans rfl, (blk_cell BK352.out 1).trans rfl⟩ (fun hHeld => ?_)
        clear hK K
        refine norm_ (a' := ?_) ?_ ?_
        rotate_left
        ·
         show Act.put _ (some 28) _ = _
         simp only [Act.put, List.setIfInBounds_toArray, List.set_cons_zero, List.set_cons_succ, i64_w, i32_w]
         rfl
        refine one_ (i := 7) (N := some 31) #[true, true, true, true, true, true, true, true, false, false, false, false, false] rfl rfl (one_of HT_.out (by kernel_rfl)) (by decide) (fun K hK => ?_)
        refine goes_ Try.func76 (by kernel_rfl) rfl #[.slice A351_0 ((rd_T64 l0_1 x20_1).f0).length c351_0] (by rfl) rfl rfl mapz ?_
        with_reducible refine (slices_Clone_int_int.calls _ _ ((rd_T64 l0_1 x20_1).f0) t356 _ ?side1 ?side2 A19.out).mono ?_
        (case side1 => exact cbz HR351_0)
        (case side2 => exact HC351_0.out)
        rintro e w29 ⟨v357, rfl, ho0, hb⟩
        refine ⟨_, rfl, ?_⟩
        have n0_ := Aside0.mk (Kd.S_elder' (by (with_reducible repeat (first | apply Kd.S_alloc | apply Kd.S_drewN | apply Kd.S_drew)); exact HO_351001.out) (Kd.R_base ho0) hb)
        have n1_ := Aside0.mk (Kd.R_elder' (ownx HO355) (Kd.R_base ho0) hb)
        have n2_ := Aside0.mk (Kd.R_lower (Kd.R_new' ho0 (Kd.R_lt (ownx HO355))) (below_size bel))
        have n3_ := Aside0.mk (blk_below (g := gb347) blkz hb)
        have n4_ := Aside0.mk (blk_below (g := gb348) blkz hb)
        have n5_ := Aside0.mk (blk_below (g := gb350) blkz hb)
        have n6_ := Aside0.mk (blk_below (g := gb352) blkz hb)
        have n7_ := Aside0.mk (below_step bel hb)
        clear HO_351001
        clear HO355
        clear BK347
        clear BK348
        clear BK350
        clear BK352
        clear HB
        have HO_351001 := n0_
        have HO355 := n1_
        have HO358 := n2_
        have BK347 := n3_
        have BK348 := n4_
        have BK350 := n5_
        have BK352 := n6_
        have HB := n7_
        clear n0_ n1_ n2_ n3_ n4_ n5_ n6_ n7_
        (try clear hb)
        (try clear hb2)
        (try clear hk)
        (try clear hi)
        (try clear ho0)
        obtain ⟨Ao30, co30, eo30⟩ := Kd.R_slice HO358.out
        (first | subst eo30 | (injection eo30 with f1_ f2_ f3_; have f4_ := f1_.symm; have f5_ := f3_.symm; clear f1_ f2_ f3_; subst f4_; subst f5_))
        obtain ⟨Ao31, co31, eo31⟩ := Kd.R_slice HO355.out
        (first | subst eo31 | (injection eo31 with f1_ f2_ f3_; have f4_ := f1_.symm; have f5_ := f3_.symm; clear f1_ f2_ f3_; subst f4_; subst f5_))
        refine hK.out _ _ ⟨(blk_cell BK350.out 0).trans rfl, (blk_cell BK350.out 1).trans rfl, (blk_cell BK352.out 0).trans rfl, (blk_cell BK352.out 1).trans rfl⟩ (fun hHeld => ?_)
        clear hK K
        refine norm_ (a' := ?_) ?_ ?_
        rotate_left
        ·
         show Act.put _ (some 31) _ = _
         simp only [Act.put, List.setIfInBounds_toArray, List.set_cons_zero, List.set_cons_succ, i64_w, i32_w]
         rfl
        refine pst (i := 8) (N := some 32) (bz 13 511) (any_of HT_.out (by kernel_rfl)) ?_
        refine one_ (i := 9) (N := some 33) #[true, true, true, true, true, true, true, true, true, true, false, false, false] rfl rfl (one_of HT_.out (by kernel_rfl)) (by decide) (fun K hK => ?_)
        refine value_ (w1 := ?_) (v := ?_) (by rfl) rfl ?_ ?_
        rotate_left 2
        ·
         go_simp
         constructor
         ·
          rfl
         ·
          rfl
        refine hK.out _ _ ⟨(blk_cell (blk_alloc BK350.out _) 0).trans rfl, (blk_cell (blk_alloc BK350.out _) 1).trans rfl, (blk_cell (blk_alloc BK352.out _) 0).trans rfl, (blk_cell (blk_alloc BK352.out _) 1).trans rfl⟩ (fun hHeld => ?_)
        clear hK K
        refine norm_ (a' := ?_) ?_ ?_
        rotate_left
        ·
         show Act.put _ (some 33) _ = _
         simp only [Act.put, List.setIfInBounds_toArray, List.set_cons_zero, List.set_cons_succ, i64_w, i32_w]
         rfl
        refine one_ (i := 10) (N := some 34) #[true, true, true, true, true, true, true, true, true, true, true, false, false] rfl rfl (one_of HT_.out (by kernel_rfl)) (by decide) (fun K hK => ?_)
        refine Kd.S_append_step k64 (w0 := w) w.heap.size (by rfl) (.tmp 25) (.tmp 33) 22 64 (.agg #[(.slice none 0 0), (.slice none 0 0)]) 48 rfl Try.underlying22 info64 rfl (by decide) (by omega) u351001 x351001_1 (⟨t353, t356⟩ : S64) [.slice Ao31 t353.length co31, .slice Ao30 t356.length co30] (fun k_ => k_ ≠ gb352) (fun k_ => some k_ = (.slice Ao31 t353.length co31 : Value).ownBlock ∨ some k_ = (.slice Ao30 t356.length co30 : Value).ownBlock) rfl rfl ?aP (fun k_ hk_ => hk_.elim (fun h_ => ((Kd.R_mono (ok' := fun k_ => ((fun k_ => k_ ≠ gb352)) k_ ∧ some k_ ≠ (u351001 : Value).ownBlock) (Kd.R_types (Kd.R_apart' (HO355.out) (Kd.S_typed HO_351001.out) (by decide)) BK352.out (by decide)) (fun k_ hk => ⟨hk.2, hk.1.2⟩))).1 k_ h_.symm) (fun h_ => ((Kd.R_mono (ok' := fun k_ => ((fun k_ => k_ ≠ gb352)) k_ ∧ some k_ ≠ (u351001 : Value).ownBlock) (Kd.R_types (Kd.R_apart' (HO358.out) (Kd.S_typed HO_351001.out) (by decide)) BK352.out (by decide)) (fun k_ hk => ⟨hk.2, hk.1.2⟩))).1 k_ h_.symm)) ?aF ?aO ?aB ?aS ?aL ?_
        (case aP => exact k64_mkM _ _ _ (⟨t353, t356⟩ : S64) (Kd.R_mono (Kd.R_tight rfl (Kd.R_mono (ok' := fun k_ => ((fun k_ => k_ ≠ gb352)) k_ ∧ some k_ ≠ (u351001 : Value).ownBlock) (Kd.R_types (Kd.R_apart' (HO355.out) (Kd.S_typed HO_351001.out) (by decide)) BK352.out (by decide)) (fun k_ hk => ⟨hk.2, hk.1.2⟩))) (fun _ h_ => Or.inl h_)) (Kd.R_mono (Kd.R_tight rfl (Kd.R_mono (ok' := fun k_ => ((fun k_ => k_ ≠ gb352)) k_ ∧ some k_ ≠ (u351001 : Value).ownBlock) (Kd.R_types (Kd.R_apart' (HO358.out) (Kd.S_typed HO_351001.out) (by decide)) BK352.out (by decide)) (fun k_ hk => ⟨hk.2, hk.1.2⟩))) (fun _ h_ => Or.inr (h_))))
        (case aB => exact bel)
        (case aF => exact (fun k_ hk => Kd.freshB (g := gb352) (o := .cells #[.slice A351_0 ((rd_T64 l0_1 x20_1).f0).length c351_0, .slice A351_1 ((rd_T64 l0_1 x20_1).f1).length c351_1] 64 (0, 0)) blkz k_ hk))
        (case aO => exact (by (with_reducible repeat (first | apply Kd.S_alloc | apply Kd.S_drewN | apply Kd.S_drew)); exact Kd.S_mono HO_351001.out (fun k_ hk => ⟨hk.1.1, fun e_ => e_.elim (fun h_ => hk.1.2 h_) (fun h_ => hk.2 h_)⟩)))
        (case aS => exact (below_size bel))
        (case aL => have := LMc20.out; omega)
        intro v360 w32 ho hb hg hat
        rw [← Ny359.out] at ho
        have n0_ := Aside0.mk (blk_grown (g := gb347) (o := .cells #[.int .i64 a0_0, .slice (some ad351) l0_1.length c0_1] 24 (0, 0)) blkz hg (Kd.S_ne HO_351001.out BK347.out (by decide)))
        have n1_ := Aside0.mk (blk_grown (g := gb348) (o := .cells #[.int .i64 0, .slice none 0 0] 24 (0, 0)) blkz hg (Kd.S_ne HO_351001.out BK348.out (by decide)))
        have n2_ := Aside0.mk (blk_grown (g := gb350) (o := .cells #[.int .i64 a0_0, u351001] 24 (0, 0)) blkz hg (Kd.S_ne HO_351001.out BK350.out (by decide)))
        have n3_ := Aside0.mk (blk_grown (g := gb352) (o := .cells #[.slice A351_0 ((rd_T64 l0_1 x20_1).f0).length c351_0, .slice A351_1 ((rd_T64 l0_1 x20_1).f1).length c351_1] 64 (0, 0)) blkz hg (Kd.S_away HO_351001.out (fun _ hk => hk.1.1)))
        have n4_ := Aside0.mk (hb)
        have n5_ := Aside0.mk (ho)
        clear BK347
        clear BK348
        clear BK350
        clear BK352
        clear HB
        clear HO_351001
        clear HO355
        clear HO358
        have BK347 := n0_
        have BK348 := n1_
        have BK350 := n2_
        have BK352 := n3_
        have HB := n4_
        have HO361 := n5_
        clear n0_ n1_ n2_ n3_ n4_ n5_
        clear ho hb hg hat
        obtain ⟨Ao33, co33, eo33⟩ := Kd.S_slice HO361.out
        (first | subst eo33 | (injection eo33 with f1_ f2_ f3_; have f4_ := f1_.symm; have f5_ := f3_.symm; clear f1_ f2_ f3_; subst f4_; subst f5_))
        refine hK.out _ _ ⟨(blk_cell BK350.out 0).trans rfl, (blk_cell BK350.out 1).trans rfl, (blk_cell BK352.out 0).trans rfl, (blk_cell BK352.out 1).trans rfl⟩ (fun hHeld => ?_)
        clear hK K
        refine norm_ (a' := ?_) ?_ ?_
        rotate_left
        ·
         show Act.put _ (some 34) _ = _
         simp only [Act.put, List.setIfInBounds_toArray, List.set_cons_zero, List.set_cons_succ, i64_w, i32_w]
         rfl
        refine pst (i := 11) (N := some 35) (bz 13 4095) (any_of HT_.out (by kernel_rfl)) ?_
        refine last_ (i := 12) (N := none) #[true, true, true, true, true, true, true, true, true, true, true, true, true] rfl rfl (one_of HT_.out (by kernel_rfl)) (by decide) (fun K hK => ?_)
        have hs34 : w32.cell? ⟨gb350, 1, none⟩ = some (u351001) := (blk_cell BK350.out 1).trans rfl
        have hfs34 := blk_frozen BK350.out 1
        have hns34_0 := NB347_350.out
        have hns34_1 := NB348_350.out
        have hns34_3 := NB352_350.out
        have hms34_0 := NB350_347.out
        have hms34_1 := NB350_348.out
        have hms34_3 := NB350_352.out
        refine skip_ (w1 := ?_) (by rfl) rfl ?_ ?_
        rotate_left
        ·
         go_simp
         rfl
        refine hK.out _ _ ?_
        clear hK K
        refine done_ (done_of HT_.out (by kernel_rfl)) ?_
        try go_wp2
        go_roundg k1
        case measure => have := HK1.out; omega
        case rel => exact ⟨(wrap64 (x20_1 + 1)), (y359), (.slice Ao33 y359.length co33), rsz, H', ⟨by have := HK1.out; omega⟩, ⟨by (with_reducible repeat (first | apply Kd.S_alloc | apply Kd.S_drewN | apply Kd.S_drew)); exact Kd.S_mono (Kd.S_far (p := ⟨gb350, 1, none⟩) (Kd.S_types HO361.out BK350.out (by decide)) (fun _ hk => hk.2) (.slice Ao33 y359.length co33)) (fun _ hk => trivial)⟩, ⟨by (with_reducible repeat (first | refine blk_drewN ?_ _ | refine blk_drew ?_ | refine blk_alloc ?_ _)); refine blk_far ?_ NB347_350.out _; (with_reducible repeat (first | refine blk_drewN ?_ _ | refine blk_drew ?_ | refine blk_alloc ?_ _)); exact BK347.out⟩, ⟨by (with_reducible repeat (first | refine blk_drewN ?_ _ | refine blk_drew ?_ | refine blk_alloc ?_ _)); refine blk_far ?_ NB348_350.out _; (with_reducible repeat (first | refine blk_drewN ?_ _ | refine blk_drew ?_ | refine blk_alloc ?_ _)); exact BK348.out⟩, ⟨by (with_reducible repeat (first | refine blk_drewN ?_ _ | refine blk_drew ?_ | refine blk_alloc ?_ _)); refine blk_put (cs := #[.int .i64 a0_0, u351001]) ?_ 1 _ rfl; (with_reducible repeat (first | refine blk_drewN ?_ _ | refine blk_drew ?_ | refine blk_alloc ?_ _)); exact BK350.out⟩, ⟨bel⟩⟩
       ·
        rw [if_neg c20] at H
        exact absurd H (by simp)
      ·
       rw [if_neg c17] at H
       exact absurd H (by simp)
     ·
      rw [if_neg c16] at H
      exact absurd H (by simp)
    ·
     rw [if_neg c15] at H
     have c15b0 : decide (x20_1 < (l0_1.length : Int)) = false := decide_eq_false c15
     clear c15
     simp only [Option.some.injEq, Prod.mk.injEq] at H
     obtain ⟨rfl, rfl, rfl⟩ := H
     have hnb35 := NB350_347.out
     have hnc35 := NB347_350.out
     have hnb36 := NB350_348.out
     have hnc36 := NB348_350.out
     obtain ⟨hcz37_0, hcz37_1⟩ := bc2 BK350.out
     obtain ⟨hfz37_0, hfz37_1⟩ := bf2 BK350.out
     have hnb38 := NB348_347.out
     have hnc38 := NB347_348.out
     obtain ⟨hcz39_0, hcz39_1⟩ := bc2 BK348.out
     obtain ⟨hfz39_0, hfz39_1⟩ := bf2 BK348.out
     obtain ⟨Ao40, co40, eo40⟩ := Kd.S_slice HO_351001.out
     subst eo40
     go_wp2
     refine bodyPost_ret (results_ct rfl _ _ gb348 24 #[.int .i64 a0_0, .slice Ao40 x351001_1.length co40] (0, 0) _ rfl (by (with_reducible repeat (first | refine blk_drewN ?_ _ | refine blk_drew ?_ | refine blk_alloc ?_ _)); refine blk_put (cs := #[.int .i64 a0_0, .slice none 0 0]) ?_ 1 _ rfl; (with_reducible repeat (first | refine blk_drewN ?_ _ | refine blk_drew ?_ | refine blk_alloc ?_ _)); refine blk_put (cs := #[.int .i64 0, .slice none 0 0]) ?_ 0 _ rfl; (with_reducible repeat (first | refine blk_drewN ?_ _ | refine blk_drew ?_ | refine blk_alloc ?_ _)); exact BK348.out) Try.underlying24 rfl (by kernel_rfl)) rfl ?_
     exact ⟨_, ezz, by (with_reducible repeat (first | apply Kd.S_alloc | apply Kd.S_drewN | apply Kd.S_drew)); exact Kd.S_mono (Kd.S_far (p := ⟨gb348, 1, none⟩) (Kd.S_far (p := ⟨gb348, 0, none⟩) (Kd.S_types HO_351001.out BK348.out (by decide)) (fun _ hk => hk.2) (.int .i64 a0_0)) (fun _ hk => hk.2) (.slice Ao40 x351001_1.length co40)) (fun _ hk => trivial), bel⟩
 ·
  rw [if_neg c3] at H
  have c3b0 : (t349 == 0) = false := beq_eq_false_iff_ne.mpr c3
  have c3b1 : (t349 != 0) = true := bne_iff_ne.mpr c3
  simp only [Option.some.injEq, Prod.mk.injEq] at H
  obtain ⟨rfl, rfl, rfl⟩ := H
  go_enter Try.func37, Try.ntmps37
  go_wp2_with (first | ((with_reducible refine gate_dst (N := 1) rfl ?_); refine box_event ?hg (N := 1) ?hd (cs := #[.int .i64 a0_0, .slice A0_1 l0_1.length c0_1]) (t := 24) ?hr ?_; (case hd => rfl); (case hg => rfl); (case hr => first | (go_simp; done) | (go_simp; rfl)); intro gb347 hg w41 hbox hb; have BK347 := Aside0.mk (hbox); have GW347 := bsz (w := w) hg; have GE347 := GW347; replace HB := Aside0.mk (below_step bel hb); clear hb hbox hg) | ((with_reducible refine gate_dst (N := 2) rfl ?_); refine box_event ?hg (N := 2) ?hd (cs := #[.int .i64 0, .slice none 0 0]) (t := 24) ?hr ?_; (case hd => rfl); (case hg => rfl); (case hr => first | (go_simp; done) | (go_simp; rfl)); intro gb348 hg w42 hbox hb; have BK348 := Aside0.mk (hbox); have GW348 := bsz (w := w) hg; have GE348 := GW348; have NB347_348 := neL (g := gb347) hg; have NB348_347 := neR (g := gb347) hg; replace BK347 := Aside0.mk (blk_below (g := gb347) blkz hb); replace HB := Aside0.mk (below_step bel hb); clear hb hbox hg; have hnb43 := NB347_348.out; have hnc43 := NB348_347.out; obtain ⟨hcz44_0, hcz44_1⟩ := bc2 BK347.out) | ((with_reducible refine gate_callee (f := 68) rfl ?_); refine goesL_ (some 9) rfl rfl Try.func68 (by kernel_rfl) rfl #[.agg #[.int .i64 a0_0, .slice A0_1 l0_1.length c0_1], .slice none 0 0] rfl mapz ?_; (refine (key_open.calls a0_0 _ _ l0_1 _ _ ([] : List (List Int)) t349 _ (cbz HR0_1) HC0_1.out ?side3 ?side4 A2.out).mono ?_); (case side3 => exact Kd.C_nil _ _); (case side4 => exact Nat.le_refl _); rintro e w45 ⟨rfl, hb⟩; refine ⟨_, rfl, ?_⟩; replace BK347 := Aside0.mk (blk_below (g := gb347) blkz hb); replace BK348 := Aside0.mk (blk_below (g := gb348) blkz hb); replace HB := Aside0.mk (below_step bel hb); clear hb; obtain ⟨hcz46_0, hcz46_1⟩ := bc2 BK348.out; obtain ⟨hfz46_0, hfz46_1⟩ := bf2 BK348.out))
  refine bodyPost_ret (results_ct rfl _ _ gb348 24 #[.int .i64 0, .slice none 0 0] (0, 0) _ rfl (by (with_reducible repeat (first | refine blk_drewN ?_ _ | refine blk_drew ?_ | refine blk_alloc ?_ _)); refine blk_put (cs := #[.int .i64 0, .slice none 0 0]) ?_ 1 _ rfl; (with_reducible repeat (first | refine blk_drewN ?_ _ | refine blk_drew ?_ | refine blk_alloc ?_ _)); refine blk_put (cs := #[.int .i64 0, .slice none 0 0]) ?_ 0 _ rfl; (with_reducible repeat (first | refine blk_drewN ?_ _ | refine blk_drew ?_ | refine blk_alloc ?_ _)); exact BK348.out) Try.underlying24 rfl (by kernel_rfl)) rfl ?_
  exact ⟨_, ezz, by first | exact Kd.S_nil _ _ _ _ _ | exact Kd.N_nil _ _ _ _ _ | exact Kd.V_nil _ _ _ _ _ | exact Kd.Q_nil _ _ _ _ _ | exact Kd.R_nil _ _ _ _ _, bel⟩

end Go.Proofs.Ytgdfakmlpdeabaa.XKey