-- Written by wip/pack.py of this repo: texts of this claim, put together.
import Derived.DataReads
import Derived.OpenShut
import Derived.ChangeArms
import Derived.Test.YtldifdmfefpglaaDoorRows
import Derived.ProofKit
import Derived.LaidMore
import Derived.Stop.Joined
import Derived.Test.YtldifdmfefpglaaDoorTie
import Derived.Test.YtldifdmfefpglaaDoorCards
import Derived.SevenTiedAt
import Derived.WalkKit
import Derived.ShutString
import Derived.ChangeOld
import Derived.Below
import Derived.SizedLaws
import Derived.Test.YtldifdmfefpglaaDoorKTopOrderg

/- What the document's answer reckons: from, live, right, States; and that it is what the program reckons. -/
namespace Go.Proofs.YtldifdmfefpglaaDoor.Plain
set_option linter.unusedVariables false
set_option linter.unusedSimpArgs false
open Go.RowKit Go.Proofs.YtldifdmfefpglaaDoor.XFeed Go.Proofs.YtldifdmfefpglaaDoorW.PrintWords Go.Proofs.YtldifdmfefpglaaDoorW.PrintLast Go.Proofs.YtldifdmfefpglaaDoorW.PrintMore

def bl (n m : Nat) : List Bool := (List.range n).map m.testBit
theorem bl_len (n m : Nat) : (bl n m).length = n := by simp [bl]
theorem rd_bl {n m i : Nat} (h : i < n) : rdOf false (bl n m) (i : Int) = m.testBit i := by simp [rdOf, bl, List.getD_eq_getElem?_getD, h]
theorem bl_set2 {n m x y : Nat} (hx : x < n) (hy : y < n) : ((bl n m).set x true).set y true = bl n (m ||| two x y) := by
 apply List.ext_getElem
 ·
  simp [bl]
 ·
  intro i h1 h2
  simp only [bl, List.getElem_set, List.getElem_map, List.getElem_range, Nat.testBit_or, two_bit]
  by_cases a : y = i
  ·
   subst a; simp
  ·
   by_cases b : x = i
   ·
    subst b; simp [a]
   ·
    rw [if_neg a, if_neg b, decide_eq_false (fun e => b e.symm), decide_eq_false (fun e => a e.symm)]; simp
theorem closed_f {st i : Nat} (hs : st < 2 ^ 62) (hi : i ≤ 64) : dropperref05_closed.f (st : Int) (i : Int) = some (st.testBit i) := by
 unfold dropperref05_closed.f
 rw [bit_i hs hi, if_pos (by omega)]
 cases st.testBit i <;> rfl
theorem from_l1 (n : Nat) (hn : n ≤ 8) (sw : List S47) (fe : List S49) (hsw : SwOk n sw) (hlen : sw.length ≤ 20) (st a : Nat) (hst : st < 2 ^ 20) (m0 : Nat)
  (IH : ∀ m, m0 < m → Sound sw st a m → ∃ r, Ev (fun k => dropperref05_from.l0 k (st : Int) (bl n m) true (n : Int) sw fe) (bl n r) ∧ Group sw st a r) :
  ∀ (d i m : Nat) (b : Bool), i + d = sw.length → Sound sw st a m → (b = false → m = m0 ∧ Even sw st m0 i) → (b = true → m0 < m) →
  ∃ r, Ev (fun k => dropperref05_from.l1 k (st : Int) (bl n m) b (i : Int) (n : Int) sw fe) (bl n r) ∧ Group sw st a r := by
 intro d
 induction d with
 | zero =>
  intro i m b hi hs hf ht
  obtain rfl : i = sw.length := by omega
  cases b with
  | true =>
   obtain ⟨r, h1, h2⟩ := IH m (ht rfl) hs
   refine ⟨r, ?_, h2⟩
   refine Ev.step (fun k => by rw [dropperref05_from.l1]) ?_
   exact ev_neg (by omega) h1
  | false =>
   obtain ⟨rfl, he⟩ := hf rfl
   refine ⟨m, ?_, hs, he⟩
   refine Ev.step (fun k => by rw [dropperref05_from.l1]) (ev_neg (by omega) ?_)
   refine Ev.step (fun k => by rw [dropperref05_from.l0]) ?_
   exact ev_neg (by simp) (Ev.now _)
 | succ d ih =>
  intro i m b hi hs hf ht
  have hlt : i < sw.length := by omega
  have hm := hs.1
  obtain ⟨x0, x1, y0, y1, hxy⟩ := hsw sw[i] (List.getElem_mem hlt)
  obtain ⟨x, hx⟩ := Int.eq_ofNat_of_zero_le x0
  obtain ⟨y, hy⟩ := Int.eq_ofNat_of_zero_le y0
  have hxn : x < n := by omega
  have hyn : y < n := by omega
  have hL := bl_len n m
  have keep : ∀ (hE : st.testBit i = true → m.testBit x = m.testBit y), b = false → m = m0 ∧ Even sw st m0 (i + 1) := by
   intro hE hb
   obtain ⟨rfl, he⟩ := hf hb
   refine ⟨rfl, fun j hj hji hjb => ?_⟩
   by_cases h : j < i
   ·
    exact he j hj h hjb
   ·
    obtain rfl : j = i := by omega
    rw [hx, hy, Int.toNat_natCast, Int.toNat_natCast]
    exact hE hjb
  have rx := rd_bl (m := m) hxn
  have ry := rd_bl (m := m) hyn
  by_cases hbit : st.testBit i = true
  ·
   by_cases hxy2 : m.testBit x = m.testBit y
   ·
    obtain ⟨r, h1, h2⟩ := ih (i + 1) m b (by omega) hs (keep fun _ => hxy2) ht
    refine ⟨r, ?_, h2⟩
    refine Ev.step (fun k => by rw [dropperref05_from.l1]) ?_
    rw [rd_S69 sw i hlt, hx, hy, closed_f (by omega) (by omega), hbit, rx, ry, wrap_succ i (by omega), hL]
    exact ev_pos (by omega) (ev_pos (by omega) (ev_some (ev_pos rfl (ev_pos (by omega) (ev_pos (by omega) (ev_pos (by omega) (ev_pos (by omega) (ev_neg (by simp [hxy2]) h1))))))))
   ·
    have hor : m.testBit x = true ∨ m.testBit y = true := by
     cases hq1 : m.testBit x <;> cases hq2 : m.testBit y <;> simp [hq1, hq2] at hxy2 ⊢
    have ha : m &&& two x y ≠ two x y := fun e => by
     have := and_two_all.1 e
     exact hxy2 (this.1.trans this.2.symm)
    have hgt := or_gt ha
    have hm0 : m0 < m ||| two x y := by
     cases b with
     | true => have := ht rfl; omega
     | false => have := (hf rfl).1; omega
    obtain ⟨r, h1, h2⟩ := ih (i + 1) (m ||| two x y) true (by omega) (or_two_sound hs hlt hbit hx hy (by omega) (by omega) hor) (fun h => by cases h) (fun _ => hm0)
    refine ⟨r, ?_, h2⟩
    refine Ev.step (fun k => by rw [dropperref05_from.l1]) ?_
    rw [rd_S69 sw i hlt, hx, hy, closed_f (by omega) (by omega), hbit, rx, ry, wrap_succ i (by omega), hL, Int.toNat_natCast, Int.toNat_natCast, bl_set2 hxn hyn]
    exact ev_pos (by omega) (ev_pos (by omega) (ev_some (ev_pos rfl (ev_pos (by omega) (ev_pos (by omega) (ev_pos (by omega) (ev_pos (by omega) (ev_pos (by simpa using hxy2) h1))))))))
  ·
   obtain ⟨r, h1, h2⟩ := ih (i + 1) m b (by omega) hs (keep fun h => absurd h hbit) ht
   refine ⟨r, ?_, h2⟩
   refine Ev.step (fun k => by rw [dropperref05_from.l1]) ?_
   rw [closed_f (by omega) (by omega), wrap_succ i (by omega)]
   exact ev_pos (by omega) (ev_pos (by omega) (ev_some (ev_neg hbit h1)))
theorem from_l0 (n : Nat) (hn : n ≤ 8) (sw : List S47) (fe : List S49) (hsw : SwOk n sw) (hlen : sw.length ≤ 20) (st a : Nat) (hst : st < 2 ^ 20) :
  ∀ (q m : Nat), 256 - m ≤ q → Sound sw st a m → ∃ r, Ev (fun k => dropperref05_from.l0 k (st : Int) (bl n m) true (n : Int) sw fe) (bl n r) ∧ Group sw st a r := by
 intro q
 induction q with
 | zero => intro m hq hs; have := hs.1; omega
 | succ q ih =>
  intro m hq hs
  have hm := hs.1
  obtain ⟨r, h1, h2⟩ := from_l1 n hn sw fe hsw hlen st a hst m (fun m' hm' hs' => ih m' (by omega) hs') sw.length 0 m false (by omega) hs (fun _ => ⟨rfl, fun j hj hji => by omega⟩) (fun h => by cases h)
  refine ⟨r, ?_, h2⟩
  refine Ev.step (fun k => by rw [dropperref05_from.l0]) ?_
  exact ev_pos rfl h1
theorem from_ev (n : Nat) (hn : n ≤ 8) (sw : List S47) (fe : List S49) (hsw : SwOk n sw) (hlen : sw.length ≤ 20) (st a : Nat) (hst : st < 2 ^ 20) (ha : a < n) :
  ∃ r : Nat, Ev (fun k => dropperref05_from.f k (n : Int) sw fe (st : Int) (a : Int)) (bl n r) ∧ r < 256 ∧ ∀ j, r.testBit j = true ↔ Conn sw st a j := by
 have hs : Sound sw st a (1 <<< a) := by
  refine ⟨by rw [Nat.one_shiftLeft]; exact Nat.lt_of_lt_of_le (Nat.pow_lt_pow_right (by decide) (show a < 8 by omega)) (by decide), by rw [Nat.one_shiftLeft, Nat.testBit_two_pow]; simp, fun j hj => ?_⟩
  rw [Nat.one_shiftLeft, Nat.testBit_two_pow] at hj
  obtain rfl : a = j := by simpa using hj
  exact Conn.refl
 obtain ⟨r, h1, h2⟩ := from_l0 n hn sw fe hsw hlen st a hst 256 (1 <<< a) (Nat.sub_le _ _) hs
 refine ⟨r, ?_, h2.1.1, fun j => ⟨h2.1.2.2 j, fun h => conn_of_even h2.1 h2.2 h⟩⟩
 unfold dropperref05_from.f
 have e : (List.replicate n false).set a true = bl n (1 <<< a) := by
  apply List.ext_getElem
  ·
   simp [bl]
  ·
   intro i h1 h2
   simp only [bl, List.getElem_set, List.getElem_map, List.getElem_range, List.getElem_replicate, Nat.one_shiftLeft, Nat.testBit_two_pow]
   by_cases h : a = i <;> simp [h]
 have hL : (List.replicate n false).length = n := List.length_replicate
 rw [Int.toNat_natCast, Int.toNat_natCast]
 refine ev_pos (by omega) (ev_pos (by omega) (ev_some ?_))
 refine ev_pos (by omega) (ev_pos (by rw [hL]; omega) ?_)
 rw [e]
 exact h1

theorem mask_new {sw : List S47} {st : Nat} {i : Nat} : Mask sw st [] i 0 := ⟨by decide, fun p => by simp⟩
theorem lv_or : ∀ m : Nat, m < 16 → ∀ q : Nat, q < 4 → m.testBit 0 = false → 1 ≤ q → lv (m ||| 1 <<< q) = if lv m = 0 then (q : Int) else if lv m = q then lv m else -1 := by decide +kernel
theorem FeOk.take {n : Nat} {fe : List S49} (h : FeOk n fe) (q : Nat) : FeOk n (fe.take q) := fun f hf => h f (List.mem_of_mem_take hf)
def MarkAt (sw : List S47) (st : Nat) (fs : List S49) (i : Nat) (v : Int) : Prop := ∃ m, v = lv m ∧ Mask sw st fs i m
theorem rlive_l1 (n : Nat) (hn : n ≤ 8) (sw : List S47) (fe : List S49) (hfe : FeOk n fe) (hfl : fe.length ≤ 20) (st : Nat) (q : Nat) (hq : q < fe.length) (g : Nat) (hg : g < 256) (hgc : ∀ j, g.testBit j = true ↔ Conn sw st fe[q].f0.toNat j)
  (hend : ∀ l', Mark sw st n (fe.take (q + 1)) l' → ∃ r, Ev (fun k => dropperref05_live.l0 k (st : Int) l' ((q + 1 : Nat) : Int) (n : Int) sw fe) r ∧ Mark sw st n fe r) :
  ∀ (d i : Nat) (l : List Int), i + d = n → l.length = n → (∀ j, j < n → MarkAt sw st (if j < i then fe.take (q + 1) else fe.take q) j (rd l (j : Int))) →
  ∃ r, Ev (fun k => dropperref05_live.l1 k (st : Int) l (q : Int) (bl n g) (i : Int) (n : Int) sw fe) r ∧ Mark sw st n fe r := by
 have htk : fe.take (q + 1) = fe.take q ++ [fe[q]] := List.take_succ_eq_append_getElem hq
 obtain ⟨f0, f1, f2, f3⟩ := hfe fe[q] (List.getElem_mem hq)
 obtain ⟨p, hp⟩ := Int.eq_ofNat_of_zero_le (show 0 ≤ fe[q].f1 by omega)
 have hL := bl_len n g
 intro d
 induction d with
 | zero =>
  intro i l hi hl hm
  obtain rfl : i = n := by omega
  obtain ⟨r, h1, h2⟩ := hend l ⟨hl, fun j hj => by
   have h := hm j hj
   rw [if_pos hj] at h
   exact h⟩
  refine ⟨r, ?_, h2⟩
  refine Ev.step (fun k => by rw [dropperref05_live.l1]) ?_
  rw [wrap_succ q (by omega)]
  exact ev_neg (by omega) h1
 | succ d ih =>
  intro i l hi hl hm
  obtain ⟨m, e, h⟩ := hm i (by omega)
  rw [if_neg (by omega)] at h
  have hm16 := h.1
  have hm0 := mask_zero (n := n) (hfe.take q) h
  have rg := rd_bl (m := g) (show i < n by omega)
  have next : ∀ l' : List Int, l'.length = n → (∀ j, j < n → j ≠ i → rd l' (j : Int) = rd l (j : Int)) → MarkAt sw st (fe.take (q + 1)) i (rd l' (i : Int)) →
    ∃ r, Ev (fun k => dropperref05_live.l1 k (st : Int) l' (q : Int) (bl n g) ((i + 1 : Nat) : Int) (n : Int) sw fe) r ∧ Mark sw st n fe r := by
   intro l' hl' hne hat
   refine ih (i + 1) l' (by omega) hl' (fun j hj => ?_)
   by_cases hji : j = i
   ·
    subst hji; rw [if_pos (by omega)]; exact hat
   ·
    rw [hne j hj hji]
    have h' := hm j hj
    by_cases hlt : j < i
    ·
     rw [if_pos hlt] at h'; rw [if_pos (by omega)]; exact h'
    ·
     rw [if_neg hlt] at h'; rw [if_neg (by omega)]; exact h'
  by_cases hc : g.testBit i = true
  ·
   have hcc := (hgc i).1 hc
   have hmy := mask_yes h hcc hp (by omega)
   rw [← htk] at hmy
   have hlo := lv_or m hm16 p (by omega) hm0 (by omega)
   by_cases h0 : rd l (i : Int) = 0
   ·
    obtain ⟨r, h1, h2⟩ := next (l.set i (p : Int)) (by rw [List.length_set]; exact hl) (fun j hj hji => by rw [rd_set _ _ _ _ (by omega), if_neg hji]) ⟨m ||| 1 <<< p, by rw [rd_set _ _ _ _ (by omega), if_pos rfl, hlo, if_pos (by rw [← e]; exact h0)], hmy⟩
    refine ⟨r, ?_, h2⟩
    refine Ev.step (fun k => by rw [dropperref05_live.l1]) ?_
    rw [rd_S71 fe q hq, hp, rg, hc, wrap_succ i (by omega), hL, hl, Int.toNat_natCast]
    exact ev_pos (by omega) (ev_pos (by omega) (ev_pos (by omega) (ev_pos (by omega) (ev_pos (by omega) (ev_pos rfl (ev_pos (by omega) (ev_pos h0 h1)))))))
   ·
    by_cases h1p : rd l (i : Int) = (p : Int)
    ·
     obtain ⟨r, h1, h2⟩ := next l hl (fun j hj hji => rfl) ⟨m ||| 1 <<< p, by rw [hlo, ← e, if_neg h0, if_pos h1p], hmy⟩
     refine ⟨r, ?_, h2⟩
     refine Ev.step (fun k => by rw [dropperref05_live.l1]) ?_
     rw [rd_S71 fe q hq, hp, rg, hc, wrap_succ i (by omega), hL, hl]
     exact ev_pos (by omega) (ev_pos (by omega) (ev_pos (by omega) (ev_pos (by omega) (ev_pos (by omega) (ev_pos rfl (ev_pos (by omega) (ev_neg h0 (ev_pos h1p h1))))))))
    ·
     obtain ⟨r, h1, h2⟩ := next (l.set i (-1)) (by rw [List.length_set]; exact hl) (fun j hj hji => by rw [rd_set _ _ _ _ (by omega), if_neg hji]) ⟨m ||| 1 <<< p, by rw [rd_set _ _ _ _ (by omega), if_pos rfl, hlo, ← e, if_neg h0, if_neg h1p], hmy⟩
     refine ⟨r, ?_, h2⟩
     refine Ev.step (fun k => by rw [dropperref05_live.l1]) ?_
     rw [rd_S71 fe q hq, hp, rg, hc, wrap_succ i (by omega), hL, hl, Int.toNat_natCast]
     exact ev_pos (by omega) (ev_pos (by omega) (ev_pos (by omega) (ev_pos (by omega) (ev_pos (by omega) (ev_pos rfl (ev_pos (by omega) (ev_neg h0 (ev_neg h1p h1))))))))
  ·
   have hmn := mask_no h (fun hx => hc ((hgc i).2 hx))
   rw [← htk] at hmn
   obtain ⟨r, h1, h2⟩ := next l hl (fun j hj hji => rfl) ⟨m, e, hmn⟩
   refine ⟨r, ?_, h2⟩
   refine Ev.step (fun k => by rw [dropperref05_live.l1]) ?_
   rw [rg, wrap_succ i (by omega), hL, hl]
   exact ev_pos (by omega) (ev_pos (by omega) (ev_pos (by omega) (ev_pos (by omega) (ev_pos (by omega) (ev_neg hc h1)))))
theorem rlive_l0 (n : Nat) (hn : n ≤ 8) (sw : List S47) (hsw : SwOk n sw) (hlen : sw.length ≤ 20) (fe : List S49) (hfe : FeOk n fe) (hfl : fe.length ≤ 20) (st : Nat) (hst : st < 2 ^ 20) :
  ∀ (d q : Nat) (l : List Int), q + d = fe.length → Mark sw st n (fe.take q) l → ∃ r, Ev (fun k => dropperref05_live.l0 k (st : Int) l (q : Int) (n : Int) sw fe) r ∧ Mark sw st n fe r := by
 intro d
 induction d with
 | zero =>
  intro q l hq hl
  obtain rfl : q = fe.length := by omega
  rw [List.take_length] at hl
  refine ⟨l, ?_, hl⟩
  refine Ev.step (fun k => by rw [dropperref05_live.l0]) ?_
  exact ev_neg (by omega) (Ev.now _)
 | succ d ih =>
  intro q l hq hl
  have hlt : q < fe.length := by omega
  obtain ⟨f0, f1, f2, f3⟩ := hfe fe[q] (List.getElem_mem hlt)
  obtain ⟨g, hg1, hg2, hg3⟩ := from_ev n hn sw fe hsw hlen st fe[q].f0.toNat hst (by omega)
  rw [Int.toNat_of_nonneg f0] at hg1
  obtain ⟨r, h1, h2⟩ := rlive_l1 n hn sw fe hfe hfl st q hlt g hg2 hg3 (fun l' hl' => ih (q + 1) l' (by omega) hl') n 0 l (by omega) hl.1 (fun j hj => by rw [if_neg (by omega)]; exact hl.2 j hj)
  refine ⟨r, ?_, h2⟩
  refine Ev.step (fun k => by rw [dropperref05_live.l0]) ?_
  rw [rd_S71 fe q hlt]
  exact ev_pos (by omega) (ev_pos (by omega) (Ev.bind hg1 h1))
theorem rlive_ev (n : Nat) (hn : n ≤ 8) (sw : List S47) (hsw : SwOk n sw) (hlen : sw.length ≤ 20) (fe : List S49) (hfe : FeOk n fe) (hfl : fe.length ≤ 20) (st : Nat) (hst : st < 2 ^ 20) :
  ∃ r, Ev (fun k => dropperref05_live.f k (n : Int) sw fe (st : Int)) r ∧ Mark sw st n fe r := by
 obtain ⟨r, h1, h2⟩ := rlive_l0 n hn sw hsw hlen fe hfe hfl st hst fe.length 0 (List.replicate n 0) (by omega) ⟨List.length_replicate, fun i hi => ⟨0, by simp [rd, hi, lv, cn], mask_new⟩⟩
 refine ⟨r, ?_, h2⟩
 unfold dropperref05_live.f
 rw [Int.toNat_natCast]
 exact ev_pos (by omega) (ev_pos (by omega) h1)
theorem mark_unique {sw : List S47} {st n : Nat} {fe : List S49} {l l' : List Int} (h : Mark sw st n fe l) (h' : Mark sw st n fe l') : l = l' := by
 apply List.ext_getElem (h.1.trans h'.1.symm)
 intro i h1 h2
 obtain ⟨m, e, k⟩ := h.2 i (by have := h.1; omega)
 obtain ⟨m', e', k'⟩ := h'.2 i (by have := h.1; omega)
 obtain rfl := mask_unique k k'
 have e1 : rd l (i : Int) = l[i] := by simp [rd, List.getD_eq_getElem?_getD, h1]
 have e2 : rd l' (i : Int) = l'[i] := by simp [rd, List.getD_eq_getElem?_getD, h2]
 rw [← e1, ← e2, e, e']
theorem GridOk.swn {n : Nat} {sw : List S47} {fe : List S49} (h : GridOk (n : Int) sw fe) : SwOk n sw := fun s hs => by
 have := h.2.2.2.2.1 s hs
 unfold SwIs at *
 omega
theorem pow_le10 {n : Nat} {sw : List S47} {fe : List S49} (h : GridOk (n : Int) sw fe) : 2 ^ sw.length ≤ 2 ^ 10 := Nat.pow_le_pow_right (by decide) h.2.2.1
noncomputable def marks (sw : List S47) (st n : Nat) (fe : List S49) : List Int := open Classical in if h : ∃ l, Mark sw st n fe l then Classical.choose h else []
theorem marks_of {sw : List S47} {st n : Nat} {fe : List S49} {l : List Int} (h : Mark sw st n fe l) : marks sw st n fe = l := by
 have hx : ∃ l, Mark sw st n fe l := ⟨l, h⟩
 unfold marks
 rw [dif_pos hx]
 exact mark_unique (Classical.choose_spec hx) h
section
variable {n : Nat} {sw : List S47} {fe : List S49} (h : GridOk (n : Int) sw fe) {st : Nat} (hst : st < 2 ^ sw.length)
include h hst
theorem marks_mark : Mark sw st n fe (marks sw st n fe) := by
 have hp := pow_le10 h
 obtain ⟨r, h1, h2⟩ := rlive_ev n (by have := h.2.1; omega) sw h.swn (by have := h.2.2.1; omega) fe h.fe (by have := h.2.2.2.1; omega) st (by omega)
 rw [marks_of h2]; exact h2
theorem rlive_val : Ev (fun k => dropperref05_live.f k (n : Int) sw fe (st : Int)) (marks sw st n fe) := by
 have hp := pow_le10 h
 obtain ⟨r, h1, h2⟩ := rlive_ev n (by have := h.2.1; omega) sw h.swn (by have := h.2.2.1; omega) fe h.fe (by have := h.2.2.2.1; omega) st (by omega)
 rw [marks_of h2]; exact h1
theorem live_val : Ev (fun k => feed_grid_live.f k (n : Int) sw fe (st : Int)) (marks sw st n fe) := by
 have hp := pow_le10 h
 obtain ⟨r, h1, h2⟩ := live_ev n (by have := h.2.1; omega) sw h.sw8 (by have := h.2.2.1; omega) fe h.fe (by have := h.2.2.2.1; omega) st (by omega)
 rw [marks_of h2]; exact h1
theorem marks_len : (marks sw st n fe).length = n := (marks_mark h hst).1
theorem marks_ge : ∀ v ∈ marks sw st n fe, -1 ≤ v ∧ v ≤ 3 := by
 intro v hv
 obtain ⟨i, hi, rfl⟩ := List.mem_iff_getElem.1 hv
 obtain ⟨m, e, k⟩ := (marks_mark h hst).2 i (by have := marks_len h hst; omega)
 have e1 : rd (marks sw st n fe) (i : Int) = (marks sw st n fe)[i] := by simp [rd, List.getD_eq_getElem?_getD, hi]
 rw [← e1, e]
 have : ∀ m : Nat, m < 16 → -1 ≤ lv m ∧ lv m ≤ 3 := by decide +kernel
 exact this m k.1
open Classical in
theorem right_val : Ev (fun k => feed_grid_right.f k (n : Int) sw fe (st : Int)) (!decide ((-1 : Int) ∈ marks sw st n fe)) := by
 unfold feed_grid_right.f
 have hl := marks_len h hst
 have hn := h.2.1
 refine Ev.bind (live_val h hst) ?_
 refine Ev.bind (contains_ev _ (by omega) (-1)) ?_
 exact ev_const (by first | rfl | (congr 1; rw [Bool.eq_iff_iff]; simp))
end
end Go.Proofs.YtldifdmfefpglaaDoor.Plain


/- The exported functions of the program and of the document's answer, by the marks of the sections. -/
namespace Go.Proofs.YtldifdmfefpglaaDoor.Plain
set_option linter.unusedVariables false
set_option linter.unusedSimpArgs false
open Go.RowKit Go.Proofs.YtldifdmfefpglaaDoor.XFeed Go.Proofs.YtldifdmfefpglaaDoorW.PrintWords Go.Proofs.YtldifdmfefpglaaDoorW.PrintLast Go.Proofs.YtldifdmfefpglaaDoorW.PrintMore
open Classical

theorem shl_one (n : Nat) (h : n ≤ 20) : shl .i64 1 (n : Int) = ((2 ^ n : Nat) : Int) := by
 have : 2 ^ n ≤ 2 ^ 20 := Nat.pow_le_pow_right (by decide) h
 rw [show (1 : Int) = ((1 : Nat) : Int) from rfl, shl_i (by omega) (by omega), Nat.one_shiftLeft]
noncomputable def errG (N : Int) (sw : List S47) (fe : List S49) (st : Int) : Int := if GridOk N sw fe then (if 0 ≤ st ∧ st < ((2 ^ sw.length : Nat) : Int) then 0 else 51) else 50
theorem errG_zero {N : Int} {sw : List S47} {fe : List S49} {st : Int} : errG N sw fe st = 0 ↔ GridOk N sw fe ∧ 0 ≤ st ∧ st < ((2 ^ sw.length : Nat) : Int) := by
 unfold errG
 by_cases h : GridOk N sw fe
 ·
  rw [if_pos h]
  by_cases h2 : 0 ≤ st ∧ st < ((2 ^ sw.length : Nat) : Int)
  ·
   rw [if_pos h2]; exact iff_of_true rfl ⟨h, h2⟩
  ·
   rw [if_neg h2]; exact iff_of_false (by decide) (fun e => h2 e.2)
 ·
  rw [if_neg h]; exact iff_of_false (by decide) (fun e => h e.1)
theorem open_g (N : Int) (sw : List S47) (fe : List S49) (st : Int) : feed_open.f N sw fe st = some (N, errG N sw fe st) := open_f N sw fe st
noncomputable def rightB (sw : List S47) (st n : Nat) (fe : List S49) : Bool := !decide ((-1 : Int) ∈ marks sw st n fe)
theorem rd_get {l : List Int} {i : Nat} (h : i < l.length) : rd l (i : Int) = l[i] := by simp [rd, List.getD_eq_getElem?_getD, h]
theorem rright_l0 (n : Nat) (sw : List S47) (fe : List S49) (l : List Int) (hl : l.length = n) (hn : n ≤ 8) (hb : ∀ v ∈ l, -1 ≤ v) : ∀ (d i : Nat), i + d = n → (∀ j (h : j < l.length), j < i → l[j] ≠ -1) →
  Ev (fun k => dropperref05_right.l0 k l (i : Int) (n : Int) sw fe) (!decide ((-1 : Int) ∈ l)) := by
 intro d
 induction d with
 | zero =>
  intro i hi h
  refine Ev.step (fun k => by rw [dropperref05_right.l0]) ?_
  refine ev_neg (by omega) (ev_const (congrArg some ?_))
  rw [decide_eq_false]; rfl
  intro hm
  obtain ⟨j, hj, e⟩ := List.mem_iff_getElem.1 hm
  exact h j hj (by omega) e
 | succ d ih =>
  intro i hi h
  have hlt : i < l.length := by omega
  refine Ev.step (fun k => by rw [dropperref05_right.l0]) ?_
  rw [rd_get hlt, wrap_succ i (by omega), hl]
  refine ev_pos (by omega) (ev_pos (by omega) (ev_pos (by omega) ?_))
  have hv := hb _ (List.getElem_mem hlt)
  by_cases h0 : l[i] < 0
  ·
   refine ev_pos h0 (ev_const (congrArg some ?_))
   have e : l[i] = -1 := by omega
   rw [decide_eq_true]; rfl
   rw [← e]; exact List.getElem_mem hlt
  ·
   refine ev_neg h0 (ih (i + 1) (by omega) (fun j hj hji => ?_))
   by_cases hji' : j < i
   ·
    exact h j hj hji'
   ·
    obtain rfl : j = i := by omega
    omega
section
variable {n : Nat} {sw : List S47} {fe : List S49} (h : GridOk (n : Int) sw fe) {st : Nat} (hst : st < 2 ^ sw.length)
include h hst
theorem rightB_val : Ev (fun k => feed_grid_right.f k (n : Int) sw fe (st : Int)) (rightB sw st n fe) := right_val h hst
theorem rrightB_val : Ev (fun k => dropperref05_right.f k (n : Int) sw fe (st : Int)) (rightB sw st n fe) := by
 unfold dropperref05_right.f
 have hn := h.2.1
 exact Ev.bind (rlive_val h hst) (rright_l0 n sw fe _ (marks_len h hst) (by omega) (fun v hv => (marks_ge h hst v hv).1) n 0 (by omega) (fun j hj hj0 => by omega))
end
end Go.Proofs.YtldifdmfefpglaaDoor.Plain


/- Isolations: which lists are some, and the fewest. -/
namespace Go.Proofs.YtldifdmfefpglaaDoor.Plain
set_option linter.unusedVariables false
set_option linter.unusedSimpArgs false
open Go.RowKit Go.Proofs.YtldifdmfefpglaaDoor.XFeed Go.Proofs.YtldifdmfefpglaaDoorW.PrintWords Go.Proofs.YtldifdmfefpglaaDoorW.PrintLast Go.Proofs.YtldifdmfefpglaaDoorW.PrintMore
open Classical

/-! what is left of a number without the bits of another one -/
theorem gb {x i : Nat} (hi : i < 64) : (BitVec.ofNat 64 x)[i] = x.testBit i := by
 rw [← BitVec.getLsbD_eq_getElem, BitVec.getLsbD_ofNat]; simp [hi]
/-! a section is dead -/
theorem lv_zero : ∀ m : Nat, m < 16 → m.testBit 0 = false → (lv m = 0 ↔ m = 0) := by decide +kernel
section
variable {n : Nat} {sw : List S47} {fe : List S49} (h : GridOk (n : Int) sw fe) {st : Nat} (hst : st < 2 ^ sw.length)
include h hst
end

/-! the lists -/
def before (l : List Int) (i : Nat) : Int := if i = 0 then -1 else rd l ((i - 1 : Nat) : Int)
section
variable {n : Nat} {sw : List S47} {fe : List S49} (h : GridOk (n : Int) sw fe) {st : Nat} (hst : st < 2 ^ sw.length) {sec : Nat} (hsec : sec < n) (l : List Int) (hl : l.length ≤ 4000000000000000000)
include h hst hsec hl
end
/-! the error of a grid, a state and a section -/
theorem bad_iff {N : Int} (h1 : 1 ≤ N) (h2 : N ≤ 8) (x : Int) : feed_grid_section.bad N x = !decide (0 ≤ x ∧ x < N) := by
 unfold feed_grid_section.bad
 rw [wrap_id (by omega) (by omega), Bool.eq_iff_iff]
 simp; omega
end Go.Proofs.YtldifdmfefpglaaDoor.Plain


/- Rules, orders and where they lead. -/
namespace Go.Proofs.YtldifdmfefpglaaDoor.Plain
set_option linter.unusedVariables false
set_option linter.unusedSimpArgs false
open Go.RowKit Go.Proofs.YtldifdmfefpglaaDoor.XFeed Go.Proofs.YtldifdmfefpglaaDoorW.PrintWords Go.Proofs.YtldifdmfefpglaaDoorW.PrintLast Go.Proofs.YtldifdmfefpglaaDoorW.PrintMore
open Classical

theorem pred_nat {i : Nat} (h : (i : Int) > 0) (hi : i ≤ 4000000000000000000) : wrap64 ((i : Int) - 1) = ((i - 1 : Nat) : Int) := by rw [wrap_id (by omega) (by omega)]; omega
theorem cons_of {l : List Int} {i : Nat} (h : i < l.length) : l.drop i = l[i] :: l.drop (i + 1) := List.drop_eq_getElem_cons h
def KeepOk (n : Int) (keep : List Int) : Prop := (∀ v ∈ keep, 0 ≤ v ∧ v < n) ∧ keep.Pairwise (· < ·)
theorem pair_of_adj : ∀ (l : List Int), (∀ j (h : j + 1 < l.length), l[j] < l[j + 1]) → l.Pairwise (· < ·)
 | [], _ => List.Pairwise.nil
 | [_], _ => by simp
 | a :: b :: t, h => by
  have ih := pair_of_adj (b :: t) (fun j hj => by have := h (j + 1) (by simp at hj ⊢; omega); simpa using this)
  have hab : a < b := by have := h 0 (by simp); simpa using this
  refine List.pairwise_cons.2 ⟨fun x hx => ?_, ih⟩
  rcases List.mem_cons.1 hx with rfl | hx
  ·
   exact hab
  ·
   exact Int.lt_trans hab ((List.pairwise_cons.1 ih).1 x hx)
theorem adj_of_pair {l : List Int} (h : l.Pairwise (· < ·)) {j k : Nat} (hjk : j < k) (hk : k < l.length) : l[j] < l[k] := List.pairwise_iff_getElem.1 h j k (by omega) hk hjk
theorem kept_l0 (n : Nat) (hn : 1 ≤ n ∧ n ≤ 8) (sw : List S47) (fe : List S49) (l : List Int) (hl : l.length ≤ 4000000000000000000) : ∀ (d i : Nat), i + d = l.length → (∀ j (h : j + 1 < l.length), j + 1 < i → l[j] < l[j + 1]) →
  Ev (fun k => feed_rule_kept.l0 k l (l.length : Int) (i : Int) (n : Int) sw fe l) (if KeepOk (n : Int) l then 0 else 2) := by
 intro d
 induction d with
 | zero =>
  intro i hi hb
  obtain rfl : i = l.length := by omega
  refine Ev.step (fun k => by rw [feed_rule_kept.l0]) ?_
  refine ev_neg (by omega) (ev_const ?_)
  unfold feed_grid_section.f
  simp only [Option.bind_some]
  congr 1
  have hp := pair_of_adj l (fun j hj => hb j hj hj)
  by_cases hk : KeepOk (n : Int) l
  ·
   rw [if_pos hk, if_neg]
   intro ha
   obtain ⟨v, hv, hbv⟩ := List.any_eq_true.1 ha
   rw [bad_iff (by omega) (by omega), decide_eq_true (hk.1 v hv)] at hbv
   cases hbv
  ·
   rw [if_neg hk, if_pos]
   rw [List.any_eq_true]
   have : ¬ ∀ v ∈ l, 0 ≤ v ∧ v < (n : Int) := fun h => hk ⟨h, hp⟩
   simp only [not_forall] at this
   obtain ⟨v, hv, hnv⟩ := this
   exact ⟨v, hv, by rw [bad_iff (by omega) (by omega), decide_eq_false hnv]; rfl⟩
 | succ d ih =>
  intro i hi hb
  have hil : i < l.length := by omega
  refine Ev.step (fun k => by rw [feed_rule_kept.l0]) ?_
  rw [rd_get hil, wrap_succ i (by omega)]
  refine ev_pos (by omega) (ev_pos (by omega) (ev_pos (by omega) ?_))
  by_cases h0 : (i : Int) > 0
  ·
   refine ev_pos h0 ?_
   rw [pred_nat h0 (by omega), rd_get (show i - 1 < l.length by omega)]
   refine ev_pos (by omega) (ev_pos (by omega) ?_)
   by_cases hle : l[i] ≤ l[i - 1]
   ·
    refine ev_pos hle (ev_const (congrArg some ?_))
    rw [if_neg]
    intro hk
    have := adj_of_pair hk.2 (show i - 1 < i by omega) hil
    omega
   ·
    refine ev_neg hle (ih (i + 1) (by omega) (fun j hj hji => ?_))
    by_cases e : j + 1 < i
    ·
     exact hb j hj e
    ·
     have e2 : j = i - 1 := by omega
     have e3 : l[j] = l[i - 1] := by simp only [e2]
     have e4 : l[j + 1] = l[i] := by congr 1; omega
     omega
  ·
   exact ev_neg h0 (ih (i + 1) (by omega) (fun j hj hji => by omega))
theorem kept_val (n : Nat) (hn : 1 ≤ n ∧ n ≤ 8) (sw : List S47) (fe : List S49) (l : List Int) (hl : l.length ≤ 4000000000000000000) : Ev (fun k => feed_rule_kept.f k (n : Int) sw fe l) (if KeepOk (n : Int) l then 0 else 2) := by
 unfold feed_rule_kept.f
 exact kept_l0 n hn sw fe l hl l.length 0 (by omega) (fun j hj h0 => by omega)
theorem isKeep_l0 (n : Nat) (sw : List S47) (fe : List S49) (l : List Int) (hl : l.length ≤ 4000000000000000000) : ∀ (d i : Nat), i + d = l.length → (∀ j (h : j < l.length), j < i → 0 ≤ l[j] ∧ l[j] < (n : Int)) → (∀ j (h : j + 1 < l.length), j + 1 < i → l[j] < l[j + 1]) →
  Ev (fun k => dropperref05_IsKeep.l0 k l (i : Int) (n : Int) sw fe) (decide (KeepOk (n : Int) l)) := by
 intro d
 induction d with
 | zero =>
  intro i hi ha hb
  refine Ev.step (fun k => by rw [dropperref05_IsKeep.l0]) ?_
  refine ev_neg (by omega) (ev_const (congrArg some ?_))
  symm
  refine decide_eq_true ⟨fun v hv => ?_, pair_of_adj l (fun j hj => hb j hj (by omega))⟩
  obtain ⟨j, hj, rfl⟩ := List.mem_iff_getElem.1 hv
  exact ha j hj (by omega)
 | succ d ih =>
  intro i hi ha hb
  have hil : i < l.length := by omega
  refine Ev.step (fun k => by rw [dropperref05_IsKeep.l0]) ?_
  rw [rd_get hil, wrap_succ i (by omega), section_f]
  refine ev_pos (by omega) (ev_pos (by omega) (ev_some ?_))
  by_cases hr : 0 ≤ l[i] ∧ l[i] < (n : Int)
  ·
   refine ev_pos (decide_eq_true hr) ?_
   have ha' : ∀ j (h : j < l.length), j < i + 1 → 0 ≤ l[j] ∧ l[j] < (n : Int) := fun j hj hji => by
    by_cases e : j < i
    ·
     exact ha j hj e
    ·
     obtain rfl : j = i := by omega
     exact hr
   by_cases h0 : (i : Int) > 0
   ·
    refine ev_pos h0 ?_
    rw [pred_nat h0 (by omega), rd_get (show i - 1 < l.length by omega)]
    refine ev_pos (by omega) (ev_pos (by omega) ?_)
    by_cases hle : l[i] ≤ l[i - 1]
    ·
     refine ev_pos hle (ev_const (congrArg some ?_))
     symm
     refine decide_eq_false (fun hk => ?_)
     have := adj_of_pair hk.2 (show i - 1 < i by omega) hil
     omega
    ·
     refine ev_neg hle (ih (i + 1) (by omega) ha' (fun j hj hji => ?_))
     by_cases e : j + 1 < i
     ·
      exact hb j hj e
     ·
      have e2 : j = i - 1 := by omega
      have e3 : l[j] = l[i - 1] := by simp only [e2]
      have e4 : l[j + 1] = l[i] := by congr 1; omega
      omega
   ·
    exact ev_neg h0 (ih (i + 1) (by omega) ha' (fun j hj hji => by omega))
  ·
   refine ev_neg (by simpa using hr) (ev_const (congrArg some ?_))
   symm
   exact decide_eq_false (fun hk => hr (hk.1 _ (List.getElem_mem hil)))
theorem isKeep_val (n : Nat) (sw : List S47) (fe : List S49) (l : List Int) (hl : l.length ≤ 4000000000000000000) : Ev (fun k => dropperref05_IsKeep.f k (n : Int) sw fe l) (decide (KeepOk (n : Int) l)) := by
 unfold dropperref05_IsKeep.f
 exact isKeep_l0 n sw fe l hl l.length 0 (by omega) (fun j hj h0 => by omega) (fun j hj h0 => by omega)

noncomputable def goodB (sw : List S47) (n : Nat) (fe : List S49) (keep : List Int) (st : Nat) : Bool := rightB sw st n fe && !(keep.any fun i => rd (marks sw st n fe) i == 0)
section
variable {n : Nat} {sw : List S47} {fe : List S49} (h : GridOk (n : Int) sw fe) {keep : List Int} (hk : KeepOk (n : Int) keep) (hkl : keep.length ≤ 4000000000000000000)
include h hk
theorem keeps_val {st : Nat} (hst : st < 2 ^ sw.length) : Ev (fun k => feed_rule_keeps.f k (n : Int) sw fe keep (st : Int)) (goodB sw n fe keep st) := by
 have hp := pow_le10 h
 have hn := h.2.1
 obtain ⟨t, h1, h2, h3⟩ := fed_ev n (by omega) sw h.sw8 (by have := h.2.2.1; omega) fe h.fe (by have := h.2.2.2.1; omega) st (by omega)
 have e : ∀ i ∈ keep, (rd t i == 0) = (rd (marks sw st n fe) i == 0) := fun i hi => by
  obtain ⟨a, b⟩ := hk.1 i hi
  obtain ⟨i, rfl⟩ := Int.eq_ofNat_of_zero_le a
  obtain ⟨m, e, hm⟩ := h3 i (by omega)
  obtain ⟨m', e', hm'⟩ := (marks_mark h hst).2 i (by omega)
  obtain rfl := mask_unique hm hm'
  have hz := lv_zero m hm.1 (mask_zero (n := n) h.fe hm)
  rw [e, e', Bool.eq_iff_iff, beq_iff_eq, beq_iff_eq, hz]
  omega
 have hany : keep.any (feed_rule_keeps.p t) = keep.any (fun i => rd (marks sw st n fe) i == 0) := by
  rw [Bool.eq_iff_iff, List.any_eq_true, List.any_eq_true]
  constructor
  ·
   rintro ⟨x, hx, hb⟩; exact ⟨x, hx, by rw [← e x hx]; exact hb⟩
  ·
   rintro ⟨x, hx, hb⟩; exact ⟨x, hx, by show (rd t x == 0) = true; rw [e x hx]; exact hb⟩
 have hall : (keep.all fun x => decide (0 ≤ x) && decide (x < (t.length : Int))) = true := by
  rw [List.all_eq_true]
  intro x hx
  have := hk.1 x hx
  rw [h2]
  simp; omega
 unfold feed_rule_keeps.f goodB
 refine Ev.bind h1 (Ev.bind (rightB_val h hst) ?_)
 cases hr : rightB sw st n fe with
 | true =>
  refine ev_pos rfl (ev_pos hall (ev_const (congrArg some ?_)))
  rw [hany]; rfl
 | false => exact ev_neg (by simp) (Ev.now _)
include hkl
theorem good_l0 {st : Nat} (hst : st < 2 ^ sw.length) : ∀ (d i : Nat), i + d = keep.length → (∀ j (h : j < keep.length), j < i → rd (marks sw st n fe) keep[j] ≠ 0) →
  Ev (fun k => dropperref05_Good.l0 k keep (marks sw st n fe) (i : Int)) (!(keep.any fun i => rd (marks sw st n fe) i == 0)) := by
 have hml := marks_len h hst
 intro d
 induction d with
 | zero =>
  intro i hi hb
  refine Ev.step (fun k => by rw [dropperref05_Good.l0]) ?_
  refine ev_neg (by omega) (ev_const (congrArg some ?_))
  have : (keep.any fun i => rd (marks sw st n fe) i == 0) = false := by
   rw [List.any_eq_false]
   intro v hv
   obtain ⟨j, hj, rfl⟩ := List.mem_iff_getElem.1 hv
   have := hb j hj (by omega)
   simpa using this
  rw [this]; rfl
 | succ d ih =>
  intro i hi hb
  have hil : i < keep.length := by omega
  obtain ⟨a, b⟩ := hk.1 _ (List.getElem_mem hil)
  refine Ev.step (fun k => by rw [dropperref05_Good.l0]) ?_
  rw [rd_get hil, wrap_succ i (by omega), hml]
  refine ev_pos (by omega) (ev_pos (by omega) (ev_pos a (ev_pos b ?_)))
  by_cases hz : rd (marks sw st n fe) keep[i] = 0
  ·
   refine ev_pos hz (ev_const (congrArg some ?_))
   have : (keep.any fun i => rd (marks sw st n fe) i == 0) = true := List.any_eq_true.2 ⟨_, List.getElem_mem hil, by simpa using hz⟩
   rw [this]; rfl
  ·
   refine ev_neg hz (ih (i + 1) (by omega) (fun j hj hji => ?_))
   by_cases e : j < i
   ·
    exact hb j hj e
   ·
    obtain rfl : j = i := by omega
    exact hz
theorem good_val (st : Int) : Ev (fun k => dropperref05_Good.f k (n : Int) sw fe st keep) (decide (0 ≤ st ∧ st < ((2 ^ sw.length : Nat) : Int)) && goodB sw n fe keep st.toNat) := by
 have hlen := h.2.2.1
 have no : Ev (fun k => dropperref05_Good.j0 k st keep true (n : Int) sw fe) false := by
  refine Ev.step (fun k => by rw [dropperref05_Good.j0]) ?_
  exact ev_pos rfl (Ev.now _)
 unfold dropperref05_Good.f dropperref05_IsState.f
 rw [shl_one _ (by omega)]
 by_cases h0 : st ≥ 0
 ·
  obtain ⟨s, rfl⟩ := Int.eq_ofNat_of_zero_le h0
  rw [Int.toNat_natCast]
  by_cases h1 : (s : Int) < ((2 ^ sw.length : Nat) : Int)
  ·
   have hst : s < 2 ^ sw.length := by omega
   rw [decide_eq_true (p := 0 ≤ (s : Int) ∧ (s : Int) < ((2 ^ sw.length : Nat) : Int)) ⟨h0, h1⟩, Bool.true_and]
   rw [if_pos h0, decide_eq_true h1]
   refine ev_some (ev_pos rfl (Ev.bind (rrightB_val h hst) ?_))
   unfold goodB
   cases hr : rightB sw s n fe with
   | true =>
    refine Ev.step (fun k => by rw [dropperref05_Good.j0]) (ev_neg (by simp) (Ev.bind (rlive_val h hst) ?_))
    rw [Bool.true_and]
    exact good_l0 h hk hkl hst keep.length 0 (by omega) (fun j hj h0 => by omega)
   | false =>
    refine Ev.step (fun k => by rw [dropperref05_Good.j0]) ?_
    exact ev_pos rfl (Ev.now _)
  ·
   rw [decide_eq_false (p := 0 ≤ (s : Int) ∧ (s : Int) < ((2 ^ sw.length : Nat) : Int)) (fun e => h1 e.2), Bool.false_and]
   rw [if_pos h0, decide_eq_false h1]
   exact ev_some (ev_neg (by simp) no)
 ·
  rw [decide_eq_false (p := 0 ≤ st ∧ st < ((2 ^ sw.length : Nat) : Int)) (fun e => h0 e.1), Bool.false_and]
  rw [if_neg h0]
  exact ev_some (ev_neg (by simp) no)
end
noncomputable def begE (N : Int) (sw : List S47) (fe : List S49) (keep : List Int) (st : Int) : Int :=
 if GridOk N sw fe then (if KeepOk N keep then (if (0 ≤ st ∧ st < ((2 ^ sw.length : Nat) : Int)) ∧ goodB sw N.toNat fe keep st.toNat = true then 0 else 51) else 2) else 50
theorem begE_nat {N : Int} {sw : List S47} {fe : List S49} {keep : List Int} {st : Int} (h : begE N sw fe keep st = 0) :
  ∃ n s : Nat, N = (n : Int) ∧ st = (s : Int) ∧ GridOk (n : Int) sw fe ∧ KeepOk (n : Int) keep ∧ s < 2 ^ sw.length ∧ goodB sw n fe keep s = true := by
 unfold begE at h
 by_cases hg : GridOk N sw fe
 ·
  rw [if_pos hg] at h
  by_cases hk : KeepOk N keep
  ·
   rw [if_pos hk] at h
   by_cases hs : (0 ≤ st ∧ st < ((2 ^ sw.length : Nat) : Int)) ∧ goodB sw N.toNat fe keep st.toNat = true
   ·
    obtain ⟨n, rfl⟩ := Int.eq_ofNat_of_zero_le (show 0 ≤ N by have := hg.1; omega)
    obtain ⟨s, rfl⟩ := Int.eq_ofNat_of_zero_le hs.1.1
    rw [Int.toNat_natCast, Int.toNat_natCast] at hs
    exact ⟨n, s, rfl, rfl, hg, hk, by omega, hs.2⟩
   ·
    rw [if_neg hs] at h; cases h
  ·
   rw [if_neg hk] at h; cases h
 ·
  rw [if_neg hg] at h; cases h
theorem ruled_val (N : Int) (sw : List S47) (fe : List S49) (keep : List Int) (hkl : keep.length ≤ 4000000000000000000) (st : Int) :
  Ev (fun k => feed_ruled.f k N sw fe st keep) (N, begE N sw fe keep st) ∧ Ev (fun k => dropperref05_begun.f k N sw fe st keep) (begE N sw fe keep st) := by
 unfold feed_ruled.f dropperref05_begun.f begE
 rw [valid_f]
 by_cases hg : GridOk N sw fe
 ·
  rw [if_pos hg]
  have hrv := rvalid_ev N sw fe
  obtain ⟨n, rfl⟩ := Int.eq_ofNat_of_zero_le (show 0 ≤ N by have := hg.1; omega)
  have hn := hg.1
  have hn8 := hg.2.1
  have hp := pow_le10 hg
  rw [decide_eq_true hg, Int.toNat_natCast, all_f _ _ _ hg.2.2.1]
  have kv := kept_val n (by omega) sw fe keep hkl
  have iv := isKeep_val n sw fe keep hkl
  by_cases hk : KeepOk (n : Int) keep
  ·
   rw [if_pos hk] at kv ⊢
   rw [decide_eq_true hk] at iv
   have gv := good_val hg hk hkl st
   by_cases hr : 0 ≤ st ∧ st < ((2 ^ sw.length : Nat) : Int)
   ·
    obtain ⟨s, rfl⟩ := Int.eq_ofNat_of_zero_le hr.1
    have hs : s < 2 ^ sw.length := by omega
    rw [decide_eq_true hr, Bool.true_and] at gv
    rw [Int.toNat_natCast] at gv ⊢
    have kp := keeps_val hg hk hs
    cases hgd : goodB sw n fe keep s with
    | true =>
     rw [hgd] at gv kp
     rw [if_pos ⟨hr, rfl⟩]
     constructor
     ·
      refine ev_some (ev_pos rfl (Ev.bind kv (ev_pos rfl (ev_some ?_))))
      generalize 2 ^ sw.length = P at *
      rw [wrap_id (by omega) (by omega), within_f]
      exact ev_some (ev_pos (decide_eq_true (by omega)) (Ev.bind kp (ev_pos rfl (Ev.now _))))
     ·
      exact Ev.bind hrv (ev_pos (decide_eq_true hg) (Ev.bind iv (ev_pos rfl (Ev.bind gv (ev_pos rfl (Ev.now _))))))
    | false =>
     rw [hgd] at gv kp
     rw [if_neg (fun e => by cases e.2)]
     constructor
     ·
      refine ev_some (ev_pos rfl (Ev.bind kv (ev_pos rfl (ev_some ?_))))
      generalize 2 ^ sw.length = P at *
      rw [wrap_id (by omega) (by omega), within_f]
      exact ev_some (ev_pos (decide_eq_true (by omega)) (Ev.bind kp (ev_neg (by simp) (Ev.now _))))
     ·
      exact Ev.bind hrv (ev_pos (decide_eq_true hg) (Ev.bind iv (ev_pos rfl (Ev.bind gv (ev_neg (by simp) (Ev.now _))))))
   ·
    rw [decide_eq_false hr, Bool.false_and] at gv
    rw [if_neg (fun e => hr e.1)]
    constructor
    ·
     refine ev_some (ev_pos rfl (Ev.bind kv (ev_pos rfl (ev_some ?_))))
     generalize 2 ^ sw.length = P at *
     rw [wrap_id (by omega) (by omega), within_f]
     exact ev_some (ev_neg (by simp only [decide_eq_true_eq]; omega) (Ev.now _))
    ·
     exact Ev.bind hrv (ev_pos (decide_eq_true hg) (Ev.bind iv (ev_pos rfl (Ev.bind gv (ev_neg (by simp) (Ev.now _))))))
  ·
   rw [if_neg hk] at kv ⊢
   rw [decide_eq_false hk] at iv
   constructor
   ·
    exact ev_some (ev_pos rfl (Ev.bind kv (ev_neg (by decide) (Ev.now _))))
   ·
    exact Ev.bind hrv (ev_pos (decide_eq_true hg) (Ev.bind iv (ev_neg (by simp) (Ev.now _))))
 ·
  rw [if_neg hg, decide_eq_false hg]
  constructor
  ·
   exact ev_some (ev_neg (by simp) (Ev.now _))
  ·
   exact Ev.bind (rvalid_ev N sw fe) (ev_neg (by simpa using hg) (Ev.now _))

/-! one switch more, or less -/
theorem flip_lt {st v len : Nat} (h : st < 2 ^ len) (hv : v < len) : st ^^^ 2 ^ v < 2 ^ len := Nat.xor_lt_two_pow h (Nat.pow_lt_pow_right (by decide) hv)
theorem flip_i {st v : Nat} (h : st < 2 ^ 62) (hv : v ≤ 20) : Go.bits .xor .i64 (st : Int) (shl .i64 1 (v : Int)) = ((st ^^^ 2 ^ v : Nat) : Int) := by
 have : 2 ^ v ≤ 2 ^ 20 := Nat.pow_le_pow_right (by decide) hv
 rw [shl_one v hv, xor_i h (by omega)]
noncomputable def stepOf (sw : List S47) (n : Nat) (fe : List S49) (keep : List Int) (st i : Nat) : Int := if goodB sw n fe keep (st ^^^ 2 ^ i) = true then ((st ^^^ 2 ^ i : Nat) : Int) else -1
noncomputable def stepsL (sw : List S47) (n : Nat) (fe : List S49) (keep : List Int) (st m : Nat) : List Int := (List.range m).map (stepOf sw n fe keep st)
theorem stepsL_len {sw : List S47} {n : Nat} {fe : List S49} {keep : List Int} {st m : Nat} : (stepsL sw n fe keep st m).length = m := by simp [stepsL]
theorem stepsL_succ {sw : List S47} {n : Nat} {fe : List S49} {keep : List Int} {st m : Nat} : stepsL sw n fe keep st (m + 1) = stepsL sw n fe keep st m ++ [stepOf sw n fe keep st m] := by simp [stepsL, List.range_succ]
theorem stepsL_rd {sw : List S47} {n : Nat} {fe : List S49} {keep : List Int} {st m i : Nat} (h : i < m) : rd (stepsL sw n fe keep st m) (i : Int) = stepOf sw n fe keep st i := by
 rw [rd_get (by rw [stepsL_len]; exact h)]; simp [stepsL]
section
variable {n : Nat} {sw : List S47} {fe : List S49} (h : GridOk (n : Int) sw fe) {keep : List Int} (hk : KeepOk (n : Int) keep)
include h hk
theorem steps_l0 {st : Nat} (hst : st < 2 ^ sw.length) : ∀ (d i : Nat), i + d = sw.length →
  Ev (fun k => feed_rule_steps.l0 k (st : Int) (stepsL sw n fe keep st i) (sw.length : Int) (i : Int) (n : Int) sw fe keep) (stepsL sw n fe keep st sw.length) := by
 have hp := pow_le10 h
 have hlen := h.2.2.1
 intro d
 induction d with
 | zero =>
  intro i hi
  obtain rfl : i = sw.length := by omega
  refine Ev.step (fun k => by rw [feed_rule_steps.l0]) ?_
  exact ev_neg (by omega) (Ev.now _)
 | succ d ih =>
  intro i hi
  have hsl := stepsL_len (sw := sw) (n := n) (fe := fe) (keep := keep) (st := st) (m := i)
  have i1 := ih (i + 1) (by omega)
  rw [stepsL_succ, stepOf] at i1
  refine Ev.step (fun k => by rw [feed_rule_steps.l0]) ?_
  rw [wrap_succ i (by omega), flip_i (by omega) (by omega), hsl]
  refine ev_pos (by omega) (ev_pos (by omega) (Ev.bind (keeps_val h hk (flip_lt hst (by omega))) ?_))
  cases hg : goodB sw n fe keep (st ^^^ 2 ^ i) with
  | true => rw [hg, if_pos rfl] at i1; exact ev_pos rfl (ev_pos (by omega) i1)
  | false => rw [hg, if_neg (by simp)] at i1; exact ev_neg (by simp) (ev_pos (by omega) i1)
theorem steps_val {st : Nat} (hst : st < 2 ^ sw.length) : Ev (fun k => feed_rule_steps.f k (n : Int) sw fe keep (st : Int)) (stepsL sw n fe keep st sw.length) := by
 unfold feed_rule_steps.f
 exact steps_l0 h hk hst sw.length 0 (by omega)
end
/-! lists of switches -/
def ListOk (len : Nat) (l : List Int) : Prop := l.length ≤ 1000 ∧ ∀ v ∈ l, 0 ≤ v ∧ v < (len : Int)
theorem switches_f (N : Int) (sw : List S47) (fe : List S49) (hs : sw.length ≤ 20) (l : List Int) : feed_grid_switches.f N sw fe l = some (decide (ListOk sw.length l)) := by
 unfold feed_grid_switches.f
 congr 1
 rw [Bool.eq_iff_iff, decide_eq_true_eq, Bool.and_eq_true, decide_eq_true_eq, Bool.not_eq_true', List.any_eq_false]
 unfold ListOk
 constructor
 ·
  rintro ⟨a, b⟩
  refine ⟨by omega, fun v hv => ?_⟩
  have := b v hv
  unfold feed_grid_switches.bad at this
  rw [wrap_id (by omega) (by omega)] at this
  simp at this; omega
 ·
  rintro ⟨a, b⟩
  refine ⟨by omega, fun v hv => ?_⟩
  have := b v hv
  unfold feed_grid_switches.bad
  rw [wrap_id (by omega) (by omega)]
  simp; omega
theorem isList_l0 (N : Int) (sw : List S47) (fe : List S49) (l : List Int) (hl : l.length ≤ 4000000000000000000) : ∀ (d i : Nat), i + d = l.length → (∀ j (h : j < l.length), j < i → 0 ≤ l[j] ∧ l[j] < (sw.length : Int)) →
  Ev (fun k => dropperref05_isList.l0 k l (i : Int) N sw fe) (decide (ListOk sw.length l)) := by
 intro d
 induction d with
 | zero =>
  intro i hi hb
  refine Ev.step (fun k => by rw [dropperref05_isList.l0]) ?_
  refine ev_neg (by omega) (ev_const (congrArg some ?_))
  rw [decide_eq_decide]
  refine ⟨fun a => ⟨by omega, fun v hv => ?_⟩, fun a => by have := a.1; omega⟩
  obtain ⟨j, hj, rfl⟩ := List.mem_iff_getElem.1 hv
  exact hb j hj (by omega)
 | succ d ih =>
  intro i hi hb
  have hil : i < l.length := by omega
  have no : ¬ (0 ≤ l[i] ∧ l[i] < (sw.length : Int)) → false = decide (ListOk sw.length l) := fun hn => by
   symm; exact decide_eq_false (fun e => hn (e.2 _ (List.getElem_mem hil)))
  refine Ev.step (fun k => by rw [dropperref05_isList.l0]) ?_
  rw [rd_get hil, wrap_succ i (by omega)]
  refine ev_pos (by omega) (ev_pos (by omega) ?_)
  by_cases h0 : l[i] < 0
  ·
   exact ev_pos h0 (ev_const (congrArg some (no (by omega))))
  refine ev_neg h0 ?_
  by_cases h1 : l[i] ≥ (sw.length : Int)
  ·
   exact ev_pos h1 (ev_const (congrArg some (no (by omega))))
  refine ev_neg h1 (ih (i + 1) (by omega) (fun j hj hji => ?_))
  by_cases e : j < i
  ·
   exact hb j hj e
  ·
   obtain rfl : j = i := by omega
   omega
theorem isList_val (N : Int) (sw : List S47) (fe : List S49) (l : List Int) (hl : l.length ≤ 4000000000000000000) : Ev (fun k => dropperref05_isList.f k N sw fe l) (decide (ListOk sw.length l)) := by
 unfold dropperref05_isList.f
 exact isList_l0 N sw fe l hl l.length 0 (by omega) (fun j hj h0 => by omega)
def afterN (st : Nat) : List Int → Nat
 | [] => st
 | v :: t => afterN (st ^^^ 2 ^ v.toNat) t
noncomputable def orderB (sw : List S47) (n : Nat) (fe : List S49) (keep : List Int) (st : Nat) : List Int → Bool
 | [] => true
 | v :: t => goodB sw n fe keep (st ^^^ 2 ^ v.toNat) && orderB sw n fe keep (st ^^^ 2 ^ v.toNat) t
section
variable {n : Nat} {sw : List S47} {fe : List S49} (h : GridOk (n : Int) sw fe) {keep : List Int} (hk : KeepOk (n : Int) keep) (hkl : keep.length ≤ 4000000000000000000)
include h hk hkl
theorem order_l0 (l : List Int) (hl : l.length ≤ 4000000000000000000) (hv : ∀ v ∈ l, 0 ≤ v ∧ v < (sw.length : Int)) : ∀ (d i st : Nat), i + d = l.length → st < 2 ^ sw.length →
  Ev (fun k => feed_IsOrder.l0 k (st : Int) l (l.length : Int) (i : Int) (n : Int) sw fe keep) (orderB sw n fe keep st (l.drop i), 0) ∧ Ev (fun k => dropperref05_IsOrder.l0 k (st : Int) keep l (i : Int) (n : Int) sw fe) (orderB sw n fe keep st (l.drop i), 0) := by
 have hp := pow_le10 h
 have hlen := h.2.2.1
 intro d
 induction d with
 | zero =>
  intro i st hi hst
  obtain rfl : i = l.length := by omega
  rw [List.drop_length]
  constructor
  ·
   refine Ev.step (fun k => by rw [feed_IsOrder.l0]) ?_
   exact ev_neg (by omega) (Ev.now _)
  ·
   refine Ev.step (fun k => by rw [dropperref05_IsOrder.l0]) ?_
   exact ev_neg (by omega) (Ev.now _)
 | succ d ih =>
  intro i st hi hst
  have hil : i < l.length := by omega
  obtain ⟨a, b⟩ := hv _ (List.getElem_mem hil)
  obtain ⟨v, hv⟩ := Int.eq_ofNat_of_zero_le a
  have hfl := flip_lt hst (show v < sw.length by omega)
  obtain ⟨i1, i2⟩ := ih (i + 1) (st ^^^ 2 ^ v) (by omega) hfl
  have gv := good_val h hk hkl ((st ^^^ 2 ^ v : Nat) : Int)
  rw [decide_eq_true (by omega), Bool.true_and, Int.toNat_natCast] at gv
  have hsl := stepsL_len (sw := sw) (n := n) (fe := fe) (keep := keep) (st := st) (m := sw.length)
  have hsr := stepsL_rd (sw := sw) (n := n) (fe := fe) (keep := keep) (st := st) (m := sw.length) (i := v) (by omega)
  rw [cons_of hil, orderB, hv, Int.toNat_natCast]
  have e1 : ∀ X : Nat → Option (Bool × Int), Ev X (goodB sw n fe keep (st ^^^ 2 ^ v) && orderB sw n fe keep (st ^^^ 2 ^ v) (l.drop (i + 1)), 0) → Ev X (goodB sw n fe keep (st ^^^ 2 ^ v) && orderB sw n fe keep (st ^^^ 2 ^ v) (l.drop (i + 1)), 0) := fun _ h => h
  cases hg : goodB sw n fe keep (st ^^^ 2 ^ v) with
  | true =>
   rw [Bool.true_and]
   unfold stepOf at hsr
   rw [hg, if_pos rfl] at hsr
   rw [hg] at gv
   constructor
   ·
    refine Ev.step (fun k => by rw [feed_IsOrder.l0]) ?_
    rw [rd_get hil, hv, wrap_succ i (by omega)]
    refine ev_pos (by omega) (ev_pos (by omega) (ev_pos (by omega) (Ev.bind (steps_val h hk hst) ?_)))
    rw [hsl, hsr]
    exact ev_pos (by omega) (ev_pos (by omega) (ev_neg (by omega) i1))
   ·
    refine Ev.step (fun k => by rw [dropperref05_IsOrder.l0]) ?_
    rw [rd_get hil, hv, wrap_succ i (by omega), flip_i (by omega) (by omega)]
    exact ev_pos (by omega) (ev_pos (by omega) (ev_pos (by omega) (Ev.bind gv (ev_pos rfl i2))))
  | false =>
   rw [Bool.false_and]
   unfold stepOf at hsr
   rw [hg, if_neg (by simp)] at hsr
   rw [hg] at gv
   constructor
   ·
    refine Ev.step (fun k => by rw [feed_IsOrder.l0]) ?_
    rw [rd_get hil, hv, wrap_succ i (by omega)]
    refine ev_pos (by omega) (ev_pos (by omega) (ev_pos (by omega) (Ev.bind (steps_val h hk hst) ?_)))
    rw [hsl, hsr]
    exact ev_pos (by omega) (ev_pos (by omega) (ev_pos (by omega) (Ev.now _)))
   ·
    refine Ev.step (fun k => by rw [dropperref05_IsOrder.l0]) ?_
    rw [rd_get hil, hv, wrap_succ i (by omega), flip_i (by omega) (by omega)]
    exact ev_pos (by omega) (ev_pos (by omega) (ev_pos (by omega) (Ev.bind gv (ev_neg (by simp) (Ev.now _)))))
end
end Go.Proofs.YtldifdmfefpglaaDoor.Plain


/- Breadth first search over states that are masks of at most len bits: each state found with the first of the shortest orders that lead to it. Plain Lean, no program in sight. -/
namespace Go.Proofs.YtldifdmfefpglaaDoor.Plain.Bfs
set_option linter.unusedVariables false
set_option linter.unusedSimpArgs false

def nb (s k : Nat) : Nat := s ^^^ 2 ^ k
theorem nb_nb (s k : Nat) : nb (nb s k) k = s := by unfold nb; rw [Nat.xor_assoc, Nat.xor_self, Nat.xor_zero]
theorem nb_lt {s k len : Nat} (h : s < 2 ^ len) (hk : k < len) : nb s k < 2 ^ len := Nat.xor_lt_two_pow h (Nat.pow_lt_pow_right (by decide) hk)
/-! ### shortlex -/
def lx : List Nat → List Nat → Prop
 | a :: u, b :: v => a < b ∨ (a = b ∧ lx u v)
 | _, _ => False
theorem lx_trans : ∀ {u v w : List Nat}, lx u v → lx v w → lx u w
 | [], _, _, h, _ => h.elim
 | _ :: _, [], _, h, _ => h.elim
 | _ :: _, _ :: _, [], _, h => h.elim
 | a :: u, b :: v, c :: w, h, k => by
  rcases h with h | ⟨rfl, h⟩ <;> rcases k with k | ⟨rfl, k⟩
  ·
   exact .inl (by omega)
  ·
   exact .inl h
  ·
   exact .inl k
  ·
   exact .inr ⟨rfl, lx_trans h k⟩
theorem lx_snoc : ∀ {u v : List Nat} (x y : Nat), lx u v → lx (u ++ [x]) (v ++ [y])
 | [], _, _, _, h => h.elim
 | _ :: _, [], _, _, h => h.elim
 | a :: u, b :: v, x, y, h => by
  rcases h with h | ⟨rfl, h⟩
  ·
   exact .inl h
  ·
   exact .inr ⟨rfl, lx_snoc x y h⟩
theorem lx_same : ∀ {u : List Nat} {x y : Nat}, x < y → lx (u ++ [x]) (u ++ [y])
 | [], _, _, h => .inl h
 | _ :: u, _, _, h => .inr ⟨rfl, lx_same h⟩
def sl (u v : List Nat) : Prop := u.length < v.length ∨ (u.length = v.length ∧ lx u v)
def sle (u v : List Nat) : Prop := u = v ∨ sl u v
theorem sl_trans {u v w : List Nat} (h : sl u v) (k : sl v w) : sl u w := by
 rcases h with h | ⟨h, h'⟩ <;> rcases k with k | ⟨k, k'⟩
 ·
  exact .inl (by omega)
 ·
  exact .inl (by omega)
 ·
  exact .inl (by omega)
 ·
  exact .inr ⟨h.trans k, lx_trans h' k'⟩
theorem sle_trans {u v w : List Nat} (h : sle u v) (k : sle v w) : sle u w := by
 rcases h with rfl | h
 ·
  exact k
 ·
  rcases k with rfl | k
  ·
   exact .inr h
  ·
   exact .inr (sl_trans h k)
theorem sle_len {u v : List Nat} (h : sle u v) : u.length ≤ v.length := by
 rcases h with rfl | h | h
 ·
  exact Nat.le_refl _
 ·
  omega
 ·
  omega
theorem sl_snoc {u v : List Nat} (x y : Nat) (h : sl u v) : sl (u ++ [x]) (v ++ [y]) := by
 rcases h with h | ⟨h, h'⟩
 ·
  exact .inl (by simp; omega)
 ·
  exact .inr ⟨by simp; omega, lx_snoc x y h'⟩
theorem sle_snoc {u v : List Nat} (x : Nat) (h : sle u v) : sle (u ++ [x]) (v ++ [x]) := by
 rcases h with rfl | h
 ·
  exact .inl rfl
 ·
  exact .inr (sl_snoc x x h)
theorem sl_nil (u : List Nat) (x : Nat) : sl [] (u ++ [x]) := .inl (by simp)
/-! ### walks -/
section
variable (G : Nat → Bool) (len : Nat)
def Walk : Nat → List Nat → Prop
 | _, [] => True
 | s, k :: w => k < len ∧ G (nb s k) = true ∧ Walk (nb s k) w
def fin : Nat → List Nat → Nat
 | s, [] => s
 | s, k :: w => fin (nb s k) w
theorem fin_append : ∀ (s : Nat) (u v : List Nat), fin s (u ++ v) = fin (fin s u) v
 | _, [], _ => rfl
 | s, k :: u, v => fin_append (nb s k) u v
variable {G len}
theorem walk_append : ∀ {s : Nat} {u v : List Nat}, Walk G len s (u ++ v) ↔ Walk G len s u ∧ Walk G len (fin s u) v
 | _, [], _ => by simp [Walk, fin]
 | s, k :: u, v => by
  show (k < len ∧ G (nb s k) = true ∧ Walk G len (nb s k) (u ++ v)) ↔ _
  rw [walk_append]
  show _ ↔ (k < len ∧ G (nb s k) = true ∧ Walk G len (nb s k) u) ∧ _
  constructor
  ·
   rintro ⟨a, b, c, d⟩; exact ⟨⟨a, b, c⟩, d⟩
  ·
   rintro ⟨⟨a, b, c⟩, d⟩; exact ⟨a, b, c, d⟩
theorem walk_good : ∀ {s : Nat} {w : List Nat}, G s = true → Walk G len s w → G (fin s w) = true
 | _, [], h, _ => h
 | s, k :: w, _, h => walk_good (s := nb s k) (w := w) h.2.1 h.2.2
theorem walk_lt : ∀ {s : Nat} {w : List Nat}, s < 2 ^ len → Walk G len s w → fin s w < 2 ^ len
 | _, [], h, _ => h
 | s, k :: w, h, hw => walk_lt (s := nb s k) (w := w) (nb_lt h hw.1) hw.2.2
theorem walk_reverse : ∀ {s : Nat} {w : List Nat}, G s = true → Walk G len s w → Walk G len (fin s w) w.reverse ∧ fin (fin s w) w.reverse = s
 | _, [], _, _ => ⟨trivial, rfl⟩
 | s, k :: w, hg, h => by
  obtain ⟨h1, h2⟩ := walk_reverse h.2.1 h.2.2
  rw [List.reverse_cons]
  refine ⟨walk_append.2 ⟨h1, ?_⟩, ?_⟩
  ·
   show Walk G len (fin (fin (nb s k) w) w.reverse) [k]
   rw [h2]
   exact ⟨h.1, by rw [nb_nb]; exact hg, trivial⟩
  ·
   rw [fin_append]
   show fin (fin (fin (nb s k) w) w.reverse) [k] = s
   rw [h2]
   exact nb_nb s k
def Best (G : Nat → Bool) (len : Nat) (a t : Nat) (w : List Nat) : Prop := Walk G len a w ∧ fin a w = t ∧ ∀ v, Walk G len a v → fin a v = t → sle w v
end
/-! ### the search -/
def has (q : List (Nat × List Nat)) (s : Nat) : Bool := q.any fun p => p.1 == s
theorem has_true {q : List (Nat × List Nat)} {s : Nat} (h : has q s = true) : ∃ p ∈ q, p.1 = s := by
 obtain ⟨p, hp, e⟩ := List.any_eq_true.1 h
 exact ⟨p, hp, by simpa using e⟩
theorem has_false {q : List (Nat × List Nat)} {s : Nat} (h : has q s = false) : ∀ p ∈ q, p.1 ≠ s := fun p hp e => by
 have := List.any_eq_false.1 h p hp
 simp [e] at this
section
variable (G : Nat → Bool) (len : Nat)
def stp (s : Nat) (w : List Nat) (k : Nat) (q : List (Nat × List Nat)) : List (Nat × List Nat) := if G (nb s k) = true ∧ has q (nb s k) = false then q ++ [(nb s k, w ++ [k])] else q
def inn (s : Nat) (w : List Nat) : List Nat → List (Nat × List Nat) → List (Nat × List Nat)
 | [], q => q
 | k :: ks, q => inn s w ks (stp G s w k q)
def bfs : Nat → Nat → List (Nat × List Nat) → List (Nat × List Nat)
 | 0, _, q => q
 | f + 1, i, q => if h : i < q.length then bfs f (i + 1) (inn G q[i].1 q[i].2 (List.range len) q) else q
def Dn (i k j k' : Nat) : Prop := j < i ∨ (j = i ∧ k' < k)
structure Inv (a i k : Nat) (q : List (Nat × List Nat)) : Prop where
 first : (a, []) ∈ q
 walk : ∀ p ∈ q, Walk G len a p.2 ∧ fin a p.2 = p.1
 good : ∀ p ∈ q, p.1 < 2 ^ len ∧ G p.1 = true
 nodup : (q.map Prod.fst).Nodup
 sorted : q.Pairwise fun p r => sl p.2 r.2
 short : ∀ j (h : j < q.length), q[j].2.length ≤ j
 done : ∀ j k', Dn i k j k' → (h : j < q.length) → k' < len → G (nb q[j].1 k') = true → ∃ p ∈ q, p.1 = nb q[j].1 k' ∧ sle p.2 (q[j].2 ++ [k'])
 old : ∀ p ∈ q, p.2 = [] ∨ ∃ j k', ∃ h : j < q.length, p.2 = q[j].2 ++ [k'] ∧ k' < len ∧ Dn i k j k'
 here : i ≤ q.length
variable {G len}
variable {a i k : Nat} {q : List (Nat × List Nat)}
theorem Inv.start (ha : a < 2 ^ len) (hg : G a = true) : Inv G len a 0 0 [(a, [])] where
 first := by simp
 walk := fun p hp => by rw [List.mem_singleton] at hp; subst hp; exact ⟨trivial, rfl⟩
 good := fun p hp => by rw [List.mem_singleton] at hp; subst hp; exact ⟨ha, hg⟩
 nodup := by simp
 sorted := by simp
 short := fun j h => by simp at h; subst h; simp
 done := fun j k' h => by rcases h with h | ⟨_, h⟩ <;> omega
 old := fun p hp => by rw [List.mem_singleton] at hp; subst hp; exact .inl rfl
 here := by simp
theorem Inv.below (h : Inv G len a i k q) (hi : i < q.length) : ∀ p ∈ q, sl p.2 (q[i].2 ++ [k]) := fun p hp => by
 rcases h.old p hp with e | ⟨j, k', hj, e, _, hd⟩
 ·
  rw [e]; exact sl_nil _ _
 ·
  rw [e]
  rcases hd with hd | ⟨rfl, hd⟩
  ·
   exact sl_snoc _ _ (List.pairwise_iff_getElem.1 h.sorted j i hj hi hd)
  ·
   exact .inr ⟨by simp, lx_same hd⟩
theorem Inv.step (h : Inv G len a i k q) (hi : i < q.length) (hk : k < len) : Inv G len a i (k + 1) (stp G q[i].1 q[i].2 k q) := by
 have hq := h.walk _ (List.getElem_mem hi)
 unfold stp
 by_cases hc : G (nb q[i].1 k) = true ∧ has q (nb q[i].1 k) = false
 ·
  rw [if_pos hc]
  have hmem : ∀ p, p ∈ q ++ [(nb q[i].1 k, q[i].2 ++ [k])] → p ∈ q ∨ p = (nb q[i].1 k, q[i].2 ++ [k]) := fun p hp => by
   rcases List.mem_append.1 hp with hp | hp
   ·
    exact .inl hp
   ·
    exact .inr (List.mem_singleton.1 hp)
  have hget : ∀ j (hj : j < q.length), (q ++ [(nb q[i].1 k, q[i].2 ++ [k])])[j]'(by simp; omega) = q[j] := fun j hj => List.getElem_append_left hj
  refine ⟨List.mem_append_left _ h.first, fun p hp => ?_, fun p hp => ?_, ?_, ?_, fun j hj => ?_, fun j k' hd hj hk' hg => ?_, fun p hp => ?_, by simp; omega⟩
  ·
   rcases hmem p hp with hp | rfl
   ·
    exact h.walk p hp
   ·
    refine ⟨walk_append.2 ⟨hq.1, ?_⟩, ?_⟩
    ·
     rw [hq.2]; exact ⟨hk, hc.1, trivial⟩
    ·
     show fin a (q[i].2 ++ [k]) = _
     rw [fin_append, hq.2]; rfl
  ·
   rcases hmem p hp with hp | rfl
   ·
    exact h.good p hp
   ·
    exact ⟨nb_lt (h.good _ (List.getElem_mem hi)).1 hk, hc.1⟩
  ·
   rw [List.map_append]
   refine List.nodup_append.2 ⟨h.nodup, by simp, fun x hx y hy e => ?_⟩
   obtain ⟨p, hp, rfl⟩ := List.mem_map.1 hx
   simp at hy
   exact has_false hc.2 p hp (e.trans hy)
  ·
   refine List.pairwise_append.2 ⟨h.sorted, by simp, fun p hp r hr => ?_⟩
   rw [List.mem_singleton] at hr; subst hr
   exact h.below hi p hp
  ·
   by_cases hjq : j < q.length
   ·
    rw [hget j hjq]; exact h.short j hjq
   ·
    have : j = q.length := by simp at hj; omega
    subst this
    rw [List.getElem_append_right (Nat.le_refl _)]
    have := h.short i hi
    simp
    omega
  ·
   have hjq : j < q.length := by
    rcases hd with hd | ⟨rfl, _⟩ <;> omega
   rw [hget j hjq] at hg ⊢
   by_cases e : j = i ∧ k' = k
   ·
    obtain ⟨rfl, rfl⟩ := e
    exact ⟨_, List.mem_append_right _ (List.mem_singleton.2 rfl), rfl, .inl rfl⟩
   ·
    obtain ⟨p, hp, h1, h2⟩ := h.done j k' (hd.elim .inl (fun hd => .inr ⟨hd.1, by omega⟩)) hjq hk' hg
    exact ⟨p, List.mem_append_left _ hp, h1, h2⟩
  ·
   rcases hmem p hp with hp | rfl
   ·
    rcases h.old p hp with e | ⟨j, k', hj, e, h1, hd⟩
    ·
     exact .inl e
    ·
     refine .inr ⟨j, k', by simp; omega, by rw [hget j hj]; exact e, h1, ?_⟩
     rcases hd with hd | ⟨hd, hd'⟩
     ·
      exact .inl hd
     ·
      exact .inr ⟨hd, by omega⟩
   ·
    exact .inr ⟨i, k, by simp; omega, by rw [hget i hi], hk, .inr ⟨rfl, by omega⟩⟩
 ·
  rw [if_neg hc]
  refine ⟨h.first, h.walk, h.good, h.nodup, h.sorted, h.short, fun j k' hd hj hk' hg => ?_, fun p hp => ?_, h.here⟩
  ·
   by_cases e : j = i ∧ k' = k
   ·
    obtain ⟨rfl, rfl⟩ := e
    have ht : has q (nb q[j].1 k') = true := by
     cases hh : has q (nb q[j].1 k') with
     | true => rfl
     | false => exact absurd ⟨hg, hh⟩ hc
    obtain ⟨p, hp, h1⟩ := has_true ht
    exact ⟨p, hp, h1, .inr (h.below hi p hp)⟩
   ·
    exact h.done j k' (hd.elim .inl (fun hd => .inr ⟨hd.1, by omega⟩)) hj hk' hg
  ·
   rcases h.old p hp with e | ⟨j, k', hj, e, h1, hd⟩
   ·
    exact .inl e
   ·
    refine .inr ⟨j, k', hj, e, h1, ?_⟩
    rcases hd with hd | ⟨hd, hd'⟩
    ·
     exact .inl hd
    ·
     exact .inr ⟨hd, by omega⟩
theorem stp_keeps (s : Nat) (w : List Nat) (k : Nat) (q : List (Nat × List Nat)) (j : Nat) (hj : j < q.length) : ∃ h : j < (stp G s w k q).length, (stp G s w k q)[j] = q[j] := by
 unfold stp
 split
 ·
  exact ⟨by simp; omega, List.getElem_append_left hj⟩
 ·
  exact ⟨hj, rfl⟩
theorem Inv.inn : ∀ (d k : Nat) (q : List (Nat × List Nat)) (s : Nat) (w : List Nat), k + d = len → Inv G len a i k q → (∃ hi : i < q.length, q[i] = (s, w)) → Inv G len a i len (inn G s w (List.range' k d) q)
 | 0, k, q, s, w, hd, h, _ => by
  obtain rfl : k = len := by omega
  exact h
 | d + 1, k, q, s, w, hd, h, ⟨hi, e⟩ => by
  rw [List.range'_succ]
  have h1 := h.step hi (by omega)
  rw [e] at h1
  obtain ⟨h2, h3⟩ := stp_keeps (G := G) s w k q i hi
  exact Inv.inn d (k + 1) _ s w (by omega) h1 ⟨h2, h3.trans e⟩
theorem Inv.next (h : Inv G len a i len q) (hi : i < q.length) : Inv G len a (i + 1) 0 q :=
 ⟨h.first, h.walk, h.good, h.nodup, h.sorted, h.short, fun j k' hd hj hk' hg => h.done j k' (by
   rcases hd with hd | ⟨_, hd⟩
   ·
    by_cases e : j = i
    ·
     exact .inr ⟨e, hk'⟩
    ·
     exact .inl (by omega)
   ·
    omega) hj hk' hg, fun p hp => by
  rcases h.old p hp with e | ⟨j, k', hj, e, h1, hd⟩
  ·
   exact .inl e
  ·
   refine .inr ⟨j, k', hj, e, h1, .inl ?_⟩
   rcases hd with hd | ⟨hd, _⟩ <;> omega, by omega⟩
theorem Inv.round (h : Inv G len a i 0 q) (hi : i < q.length) : Inv G len a (i + 1) 0 (Bfs.inn G q[i].1 q[i].2 (List.range len) q) := by
 rw [List.range_eq_range']
 have h1 := Inv.inn len 0 q q[i].1 q[i].2 (by omega) h ⟨hi, rfl⟩
 refine h1.next ?_
 have : ∀ (ks : List Nat) (q' : List (Nat × List Nat)) (s : Nat) (w : List Nat), q'.length ≤ (Bfs.inn G s w ks q').length := by
  intro ks
  induction ks with
  | nil => intro q' s w; exact Nat.le_refl _
  | cons k ks ih =>
   intro q' s w
   refine Nat.le_trans ?_ (ih _ s w)
   unfold stp
   split
   ·
    simp
   ·
    exact Nat.le_refl _
 exact Nat.lt_of_lt_of_le hi (this _ _ _ _)
theorem nodup_le : ∀ (n : Nat) (l : List Nat), l.Nodup → (∀ x ∈ l, x < n) → l.length ≤ n
 | 0, l, _, h => by
  cases l with
  | nil => exact Nat.le_refl _
  | cons x l => exact absurd (h x (by simp)) (by omega)
 | n + 1, l, hn, h => by
  have h1 := nodup_le n (l.filter fun x => decide (x ≠ n)) (hn.filter _) (fun x hx => by
   obtain ⟨h1, h2⟩ := List.mem_filter.1 hx
   have := h x h1
   simp at h2
   omega)
  have h2 : l.length ≤ (l.filter fun x => decide (x ≠ n)).length + 1 := by
   clear h1 h
   induction l with
   | nil => simp
   | cons y l ih =>
    obtain ⟨h3, h4⟩ := List.nodup_cons.1 hn
    by_cases e : y = n
    ·
     subst e
     have : (l.filter fun x => decide (x ≠ y)) = l := List.filter_eq_self.2 (fun x hx => by simp; exact fun e => h3 (e ▸ hx))
     rw [List.filter_cons_of_neg (by simp), this]
     simp
    ·
     have := ih h4
     rw [List.filter_cons_of_pos (by simpa using e)]
     simp only [List.length_cons]
     omega
  omega
theorem Inv.size (h : Inv G len a i k q) : q.length ≤ 2 ^ len := by
 have := nodup_le (2 ^ len) (q.map Prod.fst) h.nodup (fun x hx => by
  obtain ⟨p, hp, rfl⟩ := List.mem_map.1 hx
  exact (h.good p hp).1)
 simpa using this
theorem Inv.bfs : ∀ (f i : Nat) (q : List (Nat × List Nat)), Inv G len a i 0 q → 2 ^ len < f + i → Inv G len a (bfs G len f i q).length 0 (bfs G len f i q)
 | 0, i, q, h, hf => by
  have := h.size; have := h.here; omega
 | f + 1, i, q, h, hf => by
  rw [Bfs.bfs]
  by_cases hi : i < q.length
  ·
   rw [dif_pos hi]
   exact Inv.bfs f (i + 1) _ (h.round hi) (by omega)
  ·
   rw [dif_neg hi]
   obtain rfl : i = q.length := by have := h.here; omega
   exact h
theorem Inv.best (h : Inv G len a q.length 0 q) : ∀ (n : Nat) (w : List Nat), w.length = n → Walk G len a w → ∃ p ∈ q, p.1 = fin a w ∧ sle p.2 w
 | 0, w, hn, _ => by
  obtain rfl := List.length_eq_zero_iff.1 hn
  exact ⟨_, h.first, rfl, .inl rfl⟩
 | n + 1, w, hn, hw => by
  obtain ⟨w', k, rfl⟩ : ∃ w' k, w = w' ++ [k] := ⟨w.dropLast, w.getLast (fun e => by simp [e] at hn), (List.dropLast_concat_getLast _).symm⟩
  obtain ⟨h1, h2⟩ := walk_append.1 hw
  obtain ⟨p, hp, e1, e2⟩ := Inv.best h n w' (by simp at hn; omega) h1
  obtain ⟨j, hj, rfl⟩ := List.mem_iff_getElem.1 hp
  obtain ⟨r, hr, e3, e4⟩ := h.done j k (.inl hj) hj h2.1 (by rw [e1]; exact h2.2.1)
  refine ⟨r, hr, ?_, sle_trans e4 (sle_snoc k e2)⟩
  rw [e3, e1, fin_append]; rfl
theorem Inv.uniq (h : Inv G len a i k q) {p r : Nat × List Nat} (hp : p ∈ q) (hr : r ∈ q) (e : p.1 = r.1) : p = r := by
 obtain ⟨j, hj, rfl⟩ := List.mem_iff_getElem.1 hp
 obtain ⟨j', hj', rfl⟩ := List.mem_iff_getElem.1 hr
 have : j = j' := by
  have h1 := List.pairwise_iff_getElem.1 h.nodup
  rcases Nat.lt_trichotomy j j' with hl | hl | hl
  ·
   exact absurd (by rw [List.getElem_map, List.getElem_map]; exact e) (h1 j j' (by simpa using hj) (by simpa using hj') hl)
  ·
   exact hl
  ·
   exact absurd (by rw [List.getElem_map, List.getElem_map]; exact e.symm) (h1 j' j (by simpa using hj') (by simpa using hj) hl)
 subst this; rfl
theorem Inv.is_best (h : Inv G len a q.length 0 q) {p : Nat × List Nat} (hp : p ∈ q) : Best G len a p.1 p.2 := by
 obtain ⟨h1, h2⟩ := h.walk p hp
 refine ⟨h1, h2, fun v hv e => ?_⟩
 obtain ⟨r, hr, e1, e2⟩ := h.best _ v rfl hv
 rw [← h.uniq hr hp (e1.trans e)]
 exact e2
end
/-! ### how far -/
def far (q : List (Nat × List Nat)) (s : Nat) : Int := match q.find? (fun p => p.1 == s) with | some p => (p.2.length : Int) | none => -1
theorem far_cases (q : List (Nat × List Nat)) (s : Nat) : (∃ p ∈ q, p.1 = s ∧ far q s = (p.2.length : Int)) ∨ ((∀ p ∈ q, p.1 ≠ s) ∧ far q s = -1) := by
 unfold far
 cases hf : q.find? (fun p => p.1 == s) with
 | some p =>
  have h1 := List.find?_some (p := fun (p : Nat × List Nat) => p.1 == s) hf
  exact .inl ⟨p, List.mem_of_find?_eq_some hf, by simpa using h1, rfl⟩
 | none =>
  refine .inr ⟨fun p hp e => ?_, rfl⟩
  have := List.find?_eq_none.1 hf p hp
  simp [e] at this
section
variable {G : Nat → Bool} {len t : Nat} {q : List (Nat × List Nat)}
end
end Go.Proofs.YtldifdmfefpglaaDoor.Plain.Bfs


/- The program's search and the reference's: both are the one breadth first search. -/
namespace Go.Proofs.YtldifdmfefpglaaDoor.Plain
set_option linter.unusedVariables false
set_option linter.unusedSimpArgs false
open Go.RowKit Go.Proofs.YtldifdmfefpglaaDoor.XFeed Go.Proofs.YtldifdmfefpglaaDoorW.PrintWords Go.Proofs.YtldifdmfefpglaaDoorW.PrintLast Go.Proofs.YtldifdmfefpglaaDoorW.PrintMore
open Bfs (nb Walk fin Best Inv bfs inn stp has far)

def toI (q : List (Nat × List Nat)) : List (Int × List Int) := q.map fun p => ((p.1 : Int), p.2.map fun k : Nat => (k : Int))
theorem toI_len (q : List (Nat × List Nat)) : (toI q).length = q.length := by simp [toI]
theorem toI_has (q : List (Nat × List Nat)) (s : Nat) : hasKey (toI q) (s : Int) = has q s := by
 unfold hasKey has toI
 rw [List.any_map]
 congr 1
 funext p
 show ((p.1 : Int) == (s : Int)) = (p.1 == s)
 rw [Bool.eq_iff_iff, beq_iff_eq, beq_iff_eq]
 constructor <;> intro e <;> omega
section
variable {n : Nat} {sw : List S47} {fe : List S49} (h : GridOk (n : Int) sw fe) {keep : List Int}
include h
theorem inner_val {s : Nat} (hs : s < 2 ^ sw.length) (w : List Nat) (hw : w.length < 100000) : ∀ (d k : Nat) (q : List (Nat × List Nat)), k + d ≤ sw.length → q.length + d < 1000000 →
  feed_rule_reach.inner ((List.range' k d).map (stepOf sw n fe keep s)) (k : Int) (w.map fun k : Nat => (k : Int)) (toI q) = some (toI (inn (goodB sw n fe keep) s w (List.range' k d) q)) := by
 have hp := pow_le10 h
 intro d
 induction d with
 | zero => intro k q _ _; rfl
 | succ d ih =>
  intro k q hk hq
  rw [List.range'_succ, List.map_cons, feed_rule_reach.inner]
  have ht : nb s k < 2 ^ sw.length := Bfs.nb_lt hs (by omega)
  have hwf : feed_rule_reach.wf (stepOf sw n fe keep s k) := by
   unfold feed_rule_reach.wf stepOf
   have : s ^^^ 2 ^ k < 2 ^ sw.length := ht
   split <;> omega
  rw [if_pos ⟨hwf, by rw [toI_len]; omega, by rw [List.length_map]; omega⟩]
  have hk1 : (k : Int) + 1 = ((k + 1 : Nat) : Int) := by omega
  show _ = some (toI (inn _ s w (List.range' (k + 1) d) (stp _ s w k q)))
  have hsl : (stp (goodB sw n fe keep) s w k q).length ≤ q.length + 1 := by unfold stp; split <;> simp
  rw [hk1]
  have ih' := ih (k + 1) (stp (goodB sw n fe keep) s w k q) (by omega) (by omega)
  by_cases hg : goodB sw n fe keep (nb s k) = true
  ·
   have e : stepOf sw n fe keep s k = ((nb s k : Nat) : Int) := by unfold stepOf; exact if_pos hg
   rw [e, toI_has]
   cases hh : has q (nb s k) with
   | true =>
    rw [if_neg (by simp)]
    have e2 : stp (goodB sw n fe keep) s w k q = q := by unfold stp; rw [if_neg (by rw [hh]; simp)]
    rw [e2] at ih' ⊢
    exact ih'
   | false =>
    rw [if_pos ⟨by omega, rfl⟩]
    have e2 : stp (goodB sw n fe keep) s w k q = q ++ [(nb s k, w ++ [k])] := by unfold stp; rw [if_pos ⟨hg, hh⟩]
    rw [e2] at ih' ⊢
    rw [← ih']
    simp [toI]
  ·
   have e : stepOf sw n fe keep s k = -1 := by unfold stepOf; exact if_neg hg
   rw [e, if_neg (by omega)]
   have e2 : stp (goodB sw n fe keep) s w k q = q := by unfold stp; rw [if_neg (fun e => hg e.1)]
   rw [e2] at ih' ⊢
   exact ih'
variable (hk : KeepOk (n : Int) keep)
include hk
theorem reach_go {a : Nat} : ∀ (f i : Nat) (q : List (Nat × List Nat)), Inv (goodB sw n fe keep) sw.length a i 0 q → 2 ^ sw.length < f + i →
  Ev (fun k => feed_rule_reach.go k (n : Int) sw fe keep i (toI q)) (toI (bfs (goodB sw n fe keep) sw.length f i q)) := by
 have hp := pow_le10 h
 have hlen := h.2.2.1
 intro f
 induction f with
 | zero => intro i q hi hf; have := hi.size; have := hi.here; omega
 | succ f ih =>
  intro i q hi hf
  refine Ev.step (fun k => by rw [feed_rule_reach.go]) ?_
  rw [bfs]
  by_cases hl : i < q.length
  ·
   have hl' : i < (toI q).length := by rw [toI_len]; exact hl
   simp only [dif_pos hl', dif_pos hl]
   have e : (toI q)[i] = ((q[i].1 : Int), q[i].2.map fun k : Nat => (k : Int)) := by simp [toI]
   rw [e]
   have hgd := hi.good _ (List.getElem_mem hl)
   refine Ev.bind (steps_val h hk hgd.1) ?_
   have h1 := inner_val h hgd.1 (keep := keep) q[i].2 (by have := hi.short i hl; have := hi.size; omega) sw.length 0 q (by omega) (by have := hi.size; omega)
   unfold stepsL
   rw [List.range_eq_range']
   rw [show ((0 : Nat) : Int) = 0 from rfl] at h1
   rw [h1]
   have h2 := ih (i + 1) _ (hi.round hl) (by omega)
   rw [List.range_eq_range'] at h2
   exact ev_some h2
  ·
   have hl' : ¬ i < (toI q).length := by rw [toI_len]; exact hl
   simp only [dif_neg hl', dif_neg hl]
   exact Ev.now _
end
noncomputable def search (sw : List S47) (n : Nat) (fe : List S49) (keep : List Int) (a : Nat) : List (Nat × List Nat) := bfs (goodB sw n fe keep) sw.length (2 ^ sw.length + 1) 0 [(a, [])]
theorem search_inv {n : Nat} {sw : List S47} {fe : List S49} {keep : List Int} {a : Nat} (ha : a < 2 ^ sw.length) (hg : goodB sw n fe keep a = true) :
  Inv (goodB sw n fe keep) sw.length a (search sw n fe keep a).length 0 (search sw n fe keep a) := Inv.bfs _ _ _ (Inv.start ha hg) (by omega)
theorem reach_val {n : Nat} {sw : List S47} {fe : List S49} (h : GridOk (n : Int) sw fe) {keep : List Int} (hk : KeepOk (n : Int) keep) {a : Nat} (ha : a < 2 ^ sw.length) (hg : goodB sw n fe keep a = true) :
  Ev (fun k => feed_rule_reach.f k (n : Int) sw fe keep (a : Int)) (toI (search sw n fe keep a)) := by
 have hp := pow_le10 h
 unfold feed_rule_reach.f
 exact ev_pos (by unfold feed_rule_reach.wf; omega) (reach_go h hk (2 ^ sw.length + 1) 0 [(a, [])] (Inv.start ha hg) (by omega))

/-! ### the reference's search -/
def arr {α : Type} (g : Nat → α) (m : Nat) : List α := (List.range m).map g
theorem arr_len {α : Type} (g : Nat → α) (m : Nat) : (arr g m).length = m := by simp [arr]
theorem arr_rdb (g : Nat → Bool) {m j : Nat} (hj : j < m) : rdOf false (arr g m) (j : Int) = g j := by simp [rdOf, arr, List.getD_eq_getElem?_getD, hj]
theorem arr_set {α : Type} (g : Nat → α) (m j : Nat) (v : α) : (arr g m).set j v = arr (fun x => if x = j then v else g x) m := by
 apply List.ext_getElem?
 intro i
 rw [List.getElem?_set]
 simp only [arr, List.getElem?_map, List.length_map, List.length_range]
 by_cases hi : i < m
 ·
  rw [List.getElem?_range hi]
  by_cases e : j = i
  ·
   subst e; simp [hi]
  ·
   simp [e, Ne.symm e]
 ·
  rw [List.getElem?_eq_none (by simpa using hi)]
  by_cases e : j = i
  ·
   subst e; simp [hi]
  ·
   simp [e]
theorem arr_congr {α : Type} {g g' : Nat → α} {m : Nat} (e : ∀ j, j < m → g j = g' j) : arr g m = arr g' m := List.map_congr_left (fun j hj => e j (List.mem_range.1 hj))
section
variable {n : Nat} {sw : List S47} {fe : List S49} (h : GridOk (n : Int) sw fe) {keep : List Int} (hk : KeepOk (n : Int) keep) (hkl : keep.length ≤ 4000000000000000000)
include h hk hkl
end
theorem far_mem {G : Nat → Bool} {len a i k : Nat} {q : List (Nat × List Nat)} (hi : Inv G len a i k q) {p : Nat × List Nat} (hp : p ∈ q) : far q p.1 = (p.2.length : Int) := by
 rcases Bfs.far_cases q p.1 with ⟨r, hr, e, e2⟩ | ⟨hn, _⟩
 ·
  rw [e2, hi.uniq hr hp e]
 ·
  exact absurd rfl (hn p hp)
section
variable {n : Nat} {sw : List S47} {fe : List S49} (h : GridOk (n : Int) sw fe) {keep : List Int}
include h
end
end Go.Proofs.YtldifdmfefpglaaDoor.Plain


/- The order that feed.Order answers and the one that the reference answers. -/
namespace Go.Proofs.YtldifdmfefpglaaDoor.Pure
set_option linter.unusedVariables false
set_option linter.unusedSimpArgs false
open Go.RowKit Go.Proofs.YtldifdmfefpglaaDoor.XFeed Go.Proofs.YtldifdmfefpglaaDoorW.PrintWords Go.Proofs.YtldifdmfefpglaaDoorW.PrintLast Go.Proofs.YtldifdmfefpglaaDoorW.PrintMore
open Go.Proofs.YtldifdmfefpglaaDoor.Plain
open Bfs (nb Walk fin Best Inv bfs inn stp has far)
open Classical

def natI (w : List Nat) : List Int := w.map fun k : Nat => (k : Int)
theorem at_toI {G : Nat → Bool} {len a : Nat} {q : List (Nat × List Nat)} (h : Inv G len a q.length 0 q) (t : Nat) :
  (∃ w, Best G len a t w ∧ feed_Order.at (toI q) (t : Int) = (natI w, 0)) ∨ ((∀ w, Walk G len a w → fin a w ≠ t) ∧ feed_Order.at (toI q) (t : Int) = ([], 5)) := by
 rcases feed_Order.has (toI q) (t : Int) with ⟨hk, p, hp, e, e2⟩ | ⟨hk, e2⟩
 ·
  obtain ⟨r, hr, rfl⟩ := List.mem_map.1 hp
  have e' : r.1 = t := by
   have : ((r.1 : Nat) : Int) = (t : Int) := e
   omega
  subst e'
  exact .inl ⟨r.2, h.is_best hr, e2⟩
 ·
  refine .inr ⟨fun w hw e => ?_, e2⟩
  obtain ⟨p, hp, e3, _⟩ := h.best _ w rfl hw
  rw [toI_has] at hk
  exact Bfs.has_false hk p hp (e3.trans e)
end Go.Proofs.YtldifdmfefpglaaDoor.Pure


/- The states that are reached, and which sets are shut: program and reference. -/
namespace Go.Proofs.YtldifdmfefpglaaDoor.Pure
set_option linter.unusedVariables false
set_option linter.unusedSimpArgs false
open Go.RowKit Go.Proofs.YtldifdmfefpglaaDoor.XFeed Go.Proofs.YtldifdmfefpglaaDoorW.PrintWords Go.Proofs.YtldifdmfefpglaaDoorW.PrintLast Go.Proofs.YtldifdmfefpglaaDoorW.PrintMore
open Go.Proofs.YtldifdmfefpglaaDoor.Plain
open Bfs (nb Walk fin Best Inv bfs inn stp has far)
open Classical

def found (q : List (Nat × List Nat)) (m : Nat) : List Int := ((List.range m).filter fun s => decide (0 ≤ far q s)).map fun s : Nat => (s : Int)
theorem found_len (q : List (Nat × List Nat)) (m : Nat) : (found q m).length ≤ m := by
 unfold found
 rw [List.length_map]
 exact Nat.le_trans (List.length_filter_le _ _) (by simp)
theorem found_sorted {G : Nat → Bool} {len a : Nat} {q : List (Nat × List Nat)} (h : Inv G len a q.length 0 q) : (((toI q).map Prod.fst).mergeSort fun x y => decide (x ≤ y)) = found q (2 ^ len) := by
 have hn1 : ((toI q).map Prod.fst).Nodup := by
  have e : (toI q).map Prod.fst = (q.map Prod.fst).map (fun s : Nat => (s : Int)) := by simp [toI]
  rw [e]
  exact List.pairwise_map.2 (h.nodup.imp (fun hne e => hne (by omega)))
 have hp2 : (found q (2 ^ len)).Pairwise (fun x y => x < y) := by
  unfold found
  exact List.pairwise_map.2 ((List.pairwise_lt_range.filter _).imp (fun hl => by omega))
 have hn2 : (found q (2 ^ len)).Nodup := hp2.imp (fun hl e => by omega)
 have hperm : ((toI q).map Prod.fst).Perm (found q (2 ^ len)) := by
  refine (List.perm_ext_iff_of_nodup hn1 hn2).2 fun x => ?_
  constructor
  ·
   intro hx
   obtain ⟨r, hr, rfl⟩ := List.mem_map.1 hx
   obtain ⟨p, hp, rfl⟩ := List.mem_map.1 hr
   refine List.mem_map.2 ⟨p.1, List.mem_filter.2 ⟨List.mem_range.2 (h.good p hp).1, ?_⟩, rfl⟩
   rw [decide_eq_true_eq, far_mem h hp]
   omega
  ·
   intro hx
   obtain ⟨s, hs, rfl⟩ := List.mem_map.1 hx
   obtain ⟨_, hf⟩ := List.mem_filter.1 hs
   rw [decide_eq_true_eq] at hf
   rcases Bfs.far_cases q s with ⟨p, hp, e, _⟩ | ⟨_, e⟩
   ·
    refine List.mem_map.2 ⟨_, List.mem_map.2 ⟨p, hp, rfl⟩, ?_⟩
    show (p.1 : Int) = _
    rw [e]
   ·
    omega
 rw [mergeSort_int_perm hperm]
 exact List.mergeSort_of_pairwise (hp2.imp (fun hl => by simp only [decide_eq_true_eq]; omega))
/-! ### shut sets -/
section
variable {n : Nat} {sw : List S47} {fe : List S49} (h : GridOk (n : Int) sw fe) {keep : List Int} (hk : KeepOk (n : Int) keep) (hkl : keep.length ≤ 4000000000000000000) {set : List Int} (hsl : set.length ≤ 4000000000000000000)
noncomputable def B1 (sw : List S47) (n : Nat) (fe : List S49) (keep : List Int) : Option Int → List Int → Bool
 | _, [] => true
 | p, s :: t => (decide (0 ≤ s ∧ s < ((2 ^ sw.length : Nat) : Int)) && goodB sw n fe keep s.toNat && !feed_IsShut.before p s) && B1 sw n fe keep (some s) t
noncomputable def bad (sw : List S47) (n : Nat) (fe : List S49) (keep set : List Int) (s : Nat) (ks : List Nat) : Bool := ks.any fun k => goodB sw n fe keep (nb s k) && !decide (((nb s k : Nat) : Int) ∈ set)
noncomputable def B2 (sw : List S47) (n : Nat) (fe : List S49) (keep set : List Int) (l : List Int) : Bool := l.all fun s => !bad sw n fe keep set s.toNat (List.range sw.length)
theorem B1_mem : ∀ {p : Option Int} {l : List Int}, B1 sw n fe keep p l = true → ∀ v ∈ l, 0 ≤ v ∧ v < ((2 ^ sw.length : Nat) : Int)
 | _, [], _, v, hv => by cases hv
 | p, s :: t, hb, v, hv => by
  rw [B1, Bool.and_eq_true, Bool.and_eq_true, Bool.and_eq_true, decide_eq_true_eq] at hb
  rcases List.mem_cons.1 hv with rfl | hv
  ·
   exact hb.1.1.1
  ·
   exact B1_mem hb.2 v hv
include h hk
theorem go1_val : ∀ (l : List Int) (p : Option Int), Ev (fun k => feed_IsShut.go1 k (n : Int) sw fe keep ((2 ^ sw.length : Nat) : Int) p l) (B1 sw n fe keep p l)
 | [], p => by unfold B1; exact Ev.congr (fun k => by rw [feed_IsShut.go1]) (Ev.now _)
 | s :: t, p => by
  have hp := pow_le10 h
  have hp0 : 0 < 2 ^ sw.length := Nat.two_pow_pos _
  have ih := go1_val t (some s)
  refine Ev.congr (fun k => by rw [feed_IsShut.go1]) ?_
  rw [wrap_id (by omega) (by omega), within_f, B1]
  by_cases hs : 0 ≤ s ∧ s < ((2 ^ sw.length : Nat) : Int)
  ·
   refine ev_some (ev_pos (decide_eq_true (by omega)) ?_)
   rw [decide_eq_true hs, Bool.true_and]
   cases hb : feed_IsShut.before p s with
   | true => rw [Bool.not_true, Bool.and_false, Bool.false_and]; exact ev_pos rfl (Ev.now _)
   | false =>
    obtain ⟨s, rfl⟩ := Int.eq_ofNat_of_zero_le hs.1
    rw [Bool.not_false, Bool.and_true, Int.toNat_natCast]
    refine ev_neg (by simp) (Ev.bind (keeps_val h hk (st := s) (by omega)) ?_)
    cases hg : goodB sw n fe keep s with
    | true => rw [Bool.true_and]; exact ev_pos rfl ih
    | false => rw [Bool.false_and]; exact ev_neg (by simp) (Ev.now _)
  ·
   rw [decide_eq_false hs, Bool.false_and, Bool.false_and, Bool.false_and]
   exact ev_some (ev_neg (by simp only [decide_eq_true_eq]; omega) (Ev.now _))
theorem go2_val : ∀ (l : List Int), (∀ v ∈ l, 0 ≤ v ∧ v < ((2 ^ sw.length : Nat) : Int)) → Ev (fun k => feed_IsShut.go2 k (n : Int) sw fe keep set l) (B2 sw n fe keep set l)
 | [], _ => by rw [show B2 sw n fe keep set [] = true from rfl]; exact Ev.congr (fun k => by rw [feed_IsShut.go2]) (Ev.now _)
 | s :: t, hl => by
  have hp := pow_le10 h
  have ih := go2_val t (fun v hv => hl v (List.mem_cons_of_mem _ hv))
  have hs := hl s (by simp)
  obtain ⟨s, rfl⟩ := Int.eq_ofNat_of_zero_le hs.1
  refine Ev.congr (fun k => by rw [feed_IsShut.go2]) ?_
  refine Ev.bind (steps_val h hk (st := s) (by omega)) ?_
  have e : (stepsL sw n fe keep s sw.length).any (feed_IsShut.p set) = bad sw n fe keep set s (List.range sw.length) := by
   unfold stepsL bad
   rw [List.any_map]
   congr 1
   funext k
   show feed_IsShut.p set (stepOf sw n fe keep s k) = _
   unfold feed_IsShut.p stepOf
   rw [show s ^^^ 2 ^ k = nb s k from rfl]
   cases hg : goodB sw n fe keep (nb s k) with
   | true =>
    rw [if_pos rfl, decide_eq_true (show (0 : Int) ≤ ((nb s k : Nat) : Int) by omega)]
   | false => rw [if_neg (by simp)]; rfl
  rw [e]
  have e2 : B2 sw n fe keep set ((s : Int) :: t) = (!bad sw n fe keep set s (List.range sw.length) && B2 sw n fe keep set t) := by unfold B2; rw [List.all_cons, Int.toNat_natCast]
  rw [e2]
  cases hb : bad sw n fe keep set s (List.range sw.length) with
  | true => exact ev_pos rfl (Ev.now _)
  | false => rw [Bool.not_false, Bool.true_and]; exact ev_neg (by simp) ih
include hkl
theorem shut_l2 {i : Nat} {s : Nat} (hsl : set.length ≤ 4000000000000000000) (hi : i < set.length) (hs : set[i] = (s : Int)) (hst : s < 2 ^ sw.length) {b : Bool} (hR : Ev (fun κ => dropperref05_IsShut.l1 κ keep set (arr (fun x => decide ((x : Int) ∈ set)) (2 ^ sw.length)) ((i + 1 : Nat) : Int) (n : Int) sw fe) (b, 0)) : ∀ (d k : Nat), k + d = sw.length →
  Ev (fun κ => dropperref05_IsShut.l2 κ keep set (arr (fun x => decide ((x : Int) ∈ set)) (2 ^ sw.length)) (i : Int) (k : Int) (n : Int) sw fe) (!bad sw n fe keep set s (List.range' k d) && b, 0) := by
 have hp := pow_le10 h
 have hlen := h.2.2.1
 intro d
 induction d with
 | zero =>
  intro k hkd
  refine Ev.step (fun κ => by rw [dropperref05_IsShut.l2]) ?_
  rw [wrap_succ i (by omega)]
  exact ev_neg (by omega) hR
 | succ d ih =>
  intro k hkd
  have ht : nb s k < 2 ^ sw.length := Bfs.nb_lt hst (by omega)
  have hrs : rd set (i : Int) = (s : Int) := by rw [rd_get hi]; exact hs
  have h1 := ih (k + 1) (by omega)
  have gv := good_val h hk hkl ((nb s k : Nat) : Int)
  rw [decide_eq_true (show 0 ≤ ((nb s k : Nat) : Int) ∧ ((nb s k : Nat) : Int) < ((2 ^ sw.length : Nat) : Int) by omega), Bool.true_and, Int.toNat_natCast] at gv
  refine Ev.step (fun κ => by rw [dropperref05_IsShut.l2]) ?_
  rw [hrs, flip_i (by omega) (by omega), show s ^^^ 2 ^ k = nb s k from rfl, arr_len, arr_rdb _ ht, wrap_succ k (by omega)]
  refine ev_pos (by omega) (ev_pos (by omega) (ev_pos (by omega) (ev_pos (by omega) (ev_pos (by omega) (ev_pos (by omega) ?_)))))
  have e2 : bad sw n fe keep set s (List.range' k (d + 1)) = ((goodB sw n fe keep (nb s k) && !decide (((nb s k : Nat) : Int) ∈ set)) || bad sw n fe keep set s (List.range' (k + 1) d)) := by
   unfold bad; rw [List.range'_succ, List.any_cons]
  rw [e2]
  by_cases hin : ((nb s k : Nat) : Int) ∈ set
  ·
   rw [decide_eq_true hin, Bool.not_true, Bool.and_false, Bool.false_or]
   exact ev_pos rfl h1
  ·
   rw [decide_eq_false hin, Bool.not_false, Bool.and_true]
   refine ev_neg (by simp) (Ev.bind gv ?_)
   cases hg : goodB sw n fe keep (nb s k) with
   | true => exact ev_pos rfl (Ev.now _)
   | false => rw [Bool.false_or]; exact ev_neg (by simp) h1
theorem shut_l1 (hsl : set.length ≤ 4000000000000000000) (hs : ∀ v ∈ set, 0 ≤ v ∧ v < ((2 ^ sw.length : Nat) : Int)) : ∀ (d i : Nat), i + d = set.length →
  Ev (fun κ => dropperref05_IsShut.l1 κ keep set (arr (fun x => decide ((x : Int) ∈ set)) (2 ^ sw.length)) (i : Int) (n : Int) sw fe) (B2 sw n fe keep set (set.drop i), 0) := by
 intro d
 induction d with
 | zero =>
  intro i hi
  refine Ev.step (fun κ => by rw [dropperref05_IsShut.l1]) ?_
  rw [List.drop_eq_nil_of_le (by omega)]
  exact ev_neg (by omega) (Ev.now _)
 | succ d ih =>
  intro i hi
  have hil : i < set.length := by omega
  have hv := hs _ (List.getElem_mem hil)
  obtain ⟨s, e⟩ := Int.eq_ofNat_of_zero_le hv.1
  refine Ev.step (fun κ => by rw [dropperref05_IsShut.l1]) ?_
  refine ev_pos (by omega) ?_
  have h2 := shut_l2 h hk hkl (s := s) hsl hil e (by omega) (ih (i + 1) (by omega)) sw.length 0 (by omega)
  rw [cons_of hil, e]
  have e2 : B2 sw n fe keep set ((s : Int) :: set.drop (i + 1)) = (!bad sw n fe keep set s (List.range sw.length) && B2 sw n fe keep set (set.drop (i + 1))) := by unfold B2; rw [List.all_cons, Int.toNat_natCast]
  rw [e2, List.range_eq_range']
  exact h2
omit h hk hkl in
theorem prev_cases (l : List Int) (i : Nat) (hi : i < l.length) : (i = 0 ∧ feed_IsShut.prev l (i : Int) = none) ∨ (0 < i ∧ feed_IsShut.prev l (i : Int) = some (rd l ((i - 1 : Nat) : Int))) := by
 unfold feed_IsShut.prev
 by_cases h0 : i = 0
 ·
  subst h0; exact .inl ⟨rfl, if_neg (by omega)⟩
 ·
  exact .inr ⟨by omega, by rw [if_pos (by omega), show (i : Int) - 1 = ((i - 1 : Nat) : Int) by omega]⟩
theorem shut_l0 (hsl : set.length ≤ 4000000000000000000) : ∀ (d i : Nat), i + d = set.length → (∀ v ∈ set.take i, 0 ≤ v ∧ v < ((2 ^ sw.length : Nat) : Int)) →
  Ev (fun κ => dropperref05_IsShut.l0 κ keep set (arr (fun x => decide ((x : Int) ∈ set.take i)) (2 ^ sw.length)) (i : Int) (n : Int) sw fe) (B1 sw n fe keep (feed_IsShut.prev set (i : Int)) (set.drop i) && B2 sw n fe keep set set, 0) := by
 have hp := pow_le10 h
 intro d
 induction d with
 | zero =>
  intro i hi hb
  obtain rfl : i = set.length := by omega
  rw [List.take_length] at hb ⊢
  refine Ev.step (fun κ => by rw [dropperref05_IsShut.l0]) ?_
  rw [List.drop_eq_nil_of_le (by omega), B1, Bool.true_and]
  have h1 := shut_l1 h hk hkl hsl hb set.length 0 (by omega)
  rw [List.drop_zero] at h1
  exact ev_neg (by omega) h1
 | succ d ih =>
  intro i hi hb
  have hil : i < set.length := by omega
  have gv := good_val h hk hkl set[i]
  have hrd := rd_get (l := set) hil
  refine Ev.step (fun κ => by rw [dropperref05_IsShut.l0]) ?_
  rw [hrd, cons_of hil, B1, wrap_succ i (by omega), arr_len]
  refine ev_pos (by omega) (ev_pos (by omega) (Ev.bind gv ?_))
  cases hg : (decide (0 ≤ set[i] ∧ set[i] < ((2 ^ sw.length : Nat) : Int)) && goodB sw n fe keep (set[i]).toNat) with
  | false => rw [Bool.false_and, Bool.false_and]; exact ev_neg (by simp) (Ev.now _)
  | true =>
   have hv : 0 ≤ set[i] ∧ set[i] < ((2 ^ sw.length : Nat) : Int) := by
    rw [Bool.and_eq_true, decide_eq_true_eq] at hg; exact hg.1
   have h1 := ih (i + 1) (by omega) (fun v hv2 => by
    rw [← List.take_append_getElem hil] at hv2
    rcases List.mem_append.1 hv2 with hv2 | hv2
    ·
     exact hb v hv2
    ·
     rw [List.mem_singleton] at hv2; subst hv2; exact hv)
   have hpv : feed_IsShut.prev set ((i + 1 : Nat) : Int) = some set[i] := by
    unfold feed_IsShut.prev
    rw [if_pos (by omega), show ((i + 1 : Nat) : Int) - 1 = (i : Int) by omega, hrd]
   rw [hpv] at h1
   have hset : (arr (fun x => decide ((x : Int) ∈ set.take i)) (2 ^ sw.length)).set (set[i]).toNat true = arr (fun x => decide ((x : Int) ∈ set.take (i + 1))) (2 ^ sw.length) := by
    rw [arr_set]
    refine arr_congr (fun j hj => ?_)
    rw [← List.take_append_getElem hil]
    by_cases e : j = (set[i]).toNat
    ·
     rw [if_pos e]
     symm
     exact decide_eq_true (List.mem_append_right _ (List.mem_singleton.2 (by omega)))
    ·
     rw [if_neg e, decide_eq_decide]
     constructor
     ·
      exact fun hm => List.mem_append_left _ hm
     ·
      intro hm
      rcases List.mem_append.1 hm with hm | hm
      ·
       exact hm
      ·
       rw [List.mem_singleton] at hm; omega
   rw [hset, Bool.true_and]
   refine ev_pos rfl ?_
   rcases prev_cases set i hil with ⟨h0, e⟩ | ⟨h0, e⟩
   ·
    rw [e, show feed_IsShut.before none set[i] = false from rfl, Bool.not_false, Bool.true_and]
    exact ev_neg (by omega) (ev_pos (by omega) (ev_pos (by omega) h1))
   ·
    rw [e, pred_nat (by omega) (by omega)]
    refine ev_pos (by omega) (ev_pos (by omega) (ev_pos (by omega) ?_))
    by_cases hle : set[i] ≤ rd set ((i - 1 : Nat) : Int)
    ·
     rw [show feed_IsShut.before (some (rd set ((i - 1 : Nat) : Int))) set[i] = true from decide_eq_true hle, Bool.not_true, Bool.false_and, Bool.false_and]
     exact ev_pos hle (Ev.now _)
    ·
     rw [show feed_IsShut.before (some (rd set ((i - 1 : Nat) : Int))) set[i] = false from decide_eq_false hle, Bool.not_false, Bool.true_and]
     exact ev_neg hle (ev_pos (by omega) (ev_pos (by omega) h1))
end
noncomputable def ansS (N : Int) (sw : List S47) (fe : List S49) (keep set : List Int) : Bool × Int :=
 if GridOk N sw fe then (if KeepOk N keep then (B1 sw N.toNat fe keep none set && B2 sw N.toNat fe keep set set, 0) else (false, 2)) else (false, 50)
theorem shut_val (N : Int) (sw : List S47) (fe : List S49) (keep : List Int) (hkl : keep.length ≤ 4000000000000000000) (set : List Int) (hsl : set.length ≤ 4000000000000000000) :
  Ev (fun k => feed_IsShut.f k N sw fe keep set) (ansS N sw fe keep set) ∧ Ev (fun k => dropperref05_IsShut.f k N sw fe keep set) (ansS N sw fe keep set) := by
 unfold feed_IsShut.f dropperref05_IsShut.f ansS
 rw [valid_f]
 by_cases hg : GridOk N sw fe
 ·
  have hrv := rvalid_ev N sw fe
  obtain ⟨n, rfl⟩ := Int.eq_ofNat_of_zero_le (show 0 ≤ N by have := hg.1; omega)
  have hn := hg.1
  have hn8 := hg.2.1
  have hlen := hg.2.2.1
  have hp := pow_le10 hg
  have hp0 : 0 < 2 ^ sw.length := Nat.two_pow_pos _
  have kv := kept_val n (by omega) sw fe keep hkl
  have iv := isKeep_val n sw fe keep hkl
  rw [if_pos hg, decide_eq_true hg, all_f _ _ _ hlen, Int.toNat_natCast]
  rw [decide_eq_true hg] at hrv
  by_cases hk : KeepOk (n : Int) keep
  ·
   rw [if_pos hk] at kv ⊢
   rw [decide_eq_true hk] at iv
   constructor
   ·
    refine ev_some (ev_pos rfl (Ev.bind kv (ev_pos rfl (ev_some (Ev.bind (go1_val hg hk set none) ?_)))))
    cases hb : B1 sw n fe keep none set with
    | true => exact ev_pos rfl (Ev.bind (go2_val hg hk set (B1_mem hb)) (Ev.now _))
    | false => exact ev_neg (by simp) (Ev.now _)
   ·
    refine Ev.bind hrv (ev_pos rfl (Ev.bind iv (ev_pos rfl ?_)))
    rw [shl_one _ (by omega), Int.toNat_natCast]
    refine ev_pos (by omega) (ev_pos (by omega) ?_)
    have h1 := shut_l0 hg hk hkl hsl set.length 0 (by omega) (fun v hv => by simp at hv)
    have e : arr (fun x => decide ((x : Int) ∈ set.take 0)) (2 ^ sw.length) = List.replicate (2 ^ sw.length) false := by
     apply List.ext_getElem
     ·
      simp [arr_len]
     ·
      intro j h1 h2
      simp [arr]
    rw [e] at h1
    exact h1
  ·
   rw [if_neg hk] at kv ⊢
   rw [decide_eq_false hk] at iv
   constructor
   ·
    exact ev_some (ev_pos rfl (Ev.bind kv (ev_neg (by decide) (Ev.now _))))
   ·
    exact Ev.bind hrv (ev_pos rfl (Ev.bind iv (ev_neg (by simp) (Ev.now _))))
 ·
  have hrv := rvalid_ev N sw fe
  rw [decide_eq_false hg] at hrv ⊢
  rw [if_neg hg]
  exact ⟨ev_some (ev_neg (by simp) (Ev.now _)), Ev.bind hrv (ev_neg (by simp) (Ev.now _))⟩
end Go.Proofs.YtldifdmfefpglaaDoor.Pure


/- Which lists are orders, and where they lead: program and reference. -/
namespace Go.Proofs.YtldifdmfefpglaaDoor.Pure
set_option linter.unusedVariables false
set_option linter.unusedSimpArgs false
open Go.RowKit Go.Proofs.YtldifdmfefpglaaDoor.XFeed Go.Proofs.YtldifdmfefpglaaDoorW.PrintWords Go.Proofs.YtldifdmfefpglaaDoorW.PrintLast Go.Proofs.YtldifdmfefpglaaDoorW.PrintMore
open Go.Proofs.YtldifdmfefpglaaDoor.Plain
open Classical

noncomputable def ordE (N : Int) (sw : List S47) (fe : List S49) (keep : List Int) (st : Int) (l : List Int) : Int := if begE N sw fe keep st = 0 then (if ListOk sw.length l then 0 else 2) else begE N sw fe keep st
noncomputable def ordR (N : Int) (sw : List S47) (fe : List S49) (keep : List Int) (st : Int) (l : List Int) : Bool := if ordE N sw fe keep st l = 0 then orderB sw N.toNat fe keep st.toNat l else false
theorem isOrder_val (N : Int) (sw : List S47) (fe : List S49) (hs : sw.length ≤ 20) (keep : List Int) (hkl : keep.length ≤ 4000000000000000000) (st : Int) (l : List Int) (hl : l.length ≤ 4000000000000000000) :
  Ev (fun k => feed_IsOrder.f k N sw fe st keep l) (ordR N sw fe keep st l, ordE N sw fe keep st l) ∧ Ev (fun k => dropperref05_IsOrder.f k N sw fe st keep l) (ordR N sw fe keep st l, ordE N sw fe keep st l) := by
 obtain ⟨r1, r2⟩ := ruled_val N sw fe keep hkl st
 by_cases h : begE N sw fe keep st = 0
 ·
  have hz := h
  obtain ⟨n, s, rfl, rfl, hg, hk, hs2, hgd⟩ := begE_nat h
  by_cases hlo : ListOk sw.length l
  ·
   have e : ordE (n : Int) sw fe keep (s : Int) l = 0 := by unfold ordE; rw [if_pos hz, if_pos hlo]
   have er : ordR (n : Int) sw fe keep (s : Int) l = orderB sw n fe keep s l := by unfold ordR; rw [if_pos e, Int.toNat_natCast, Int.toNat_natCast]
   rw [e, er]
   obtain ⟨o1, o2⟩ := order_l0 hg hk hkl l hl hlo.2 l.length 0 s (by omega) hs2
   rw [List.drop_zero] at o1 o2
   constructor
   ·
    unfold feed_IsOrder.f
    refine Ev.bind r1 (ev_pos hz ?_)
    rw [switches_f _ _ _ hs, decide_eq_true hlo, hz]
    refine ev_some ?_
    refine Ev.step (fun k => by rw [feed_IsOrder.j0]) ?_
    exact ev_neg (by simp) (ev_pos rfl o1)
   ·
    unfold dropperref05_IsOrder.f
    refine Ev.bind r2 (ev_pos hz (Ev.bind (isList_val _ sw fe l hl) (ev_pos (decide_eq_true hlo) o2)))
  ·
   have e : ordE (n : Int) sw fe keep (s : Int) l = 2 := by unfold ordE; rw [if_pos hz, if_neg hlo]
   have er : ordR (n : Int) sw fe keep (s : Int) l = false := by unfold ordR; rw [if_neg (by rw [e]; decide)]
   rw [e, er]
   constructor
   ·
    unfold feed_IsOrder.f
    refine Ev.bind r1 (ev_pos hz ?_)
    rw [switches_f _ _ _ hs, decide_eq_false hlo, hz]
    refine ev_some ?_
    refine Ev.step (fun k => by rw [feed_IsOrder.j0]) ?_
    exact ev_pos rfl (Ev.now _)
   ·
    unfold dropperref05_IsOrder.f
    refine Ev.bind r2 (ev_pos hz (Ev.bind (isList_val _ sw fe l hl) (ev_neg (by simpa using hlo) (Ev.now _))))
 ·
  have e : ordE N sw fe keep st l = begE N sw fe keep st := by unfold ordE; rw [if_neg h]
  have er : ordR N sw fe keep st l = false := by unfold ordR; rw [if_neg (by rw [e]; exact h)]
  rw [e, er]
  constructor
  ·
   unfold feed_IsOrder.f
   refine Ev.bind r1 (ev_neg h ?_)
   refine Ev.step (fun k => by rw [feed_IsOrder.j0]) ?_
   exact ev_neg (by simp) (ev_neg h (Ev.now _))
  ·
   unfold dropperref05_IsOrder.f
   exact Ev.bind r2 (ev_neg h (Ev.now _))
end Go.Proofs.YtldifdmfefpglaaDoor.Pure


/- A shortest order between masks of at most 10 bits has at most 768 switches: no two states of it that are not neighbours in it differ by one switch. Plain Lean. -/
namespace Go.Proofs.YtldifdmfefpglaaDoor.Plain.Bfs
set_option linter.unusedVariables false
set_option linter.unusedSimpArgs false

def trail : Nat → List Nat → List (Nat × Nat)
 | _, [] => []
 | s, k :: w => (s, k) :: trail (nb s k) w
theorem trail_len : ∀ (s : Nat) (w : List Nat), (trail s w).length = w.length
 | _, [] => rfl
 | s, k :: w => by rw [trail, List.length_cons, List.length_cons, trail_len]
theorem trail_filter (i : Nat) : ∀ (s : Nat) (w : List Nat), ((trail s w).filter fun p => decide (p.2 ≠ i)).length = (w.filter fun k => decide (k ≠ i)).length
 | _, [] => rfl
 | s, k :: w => by
  rw [trail, List.filter_cons, List.filter_cons]
  have := trail_filter i (nb s k) w
  split <;> simp_all
theorem trail_mem : ∀ {s : Nat} {w : List Nat} {r : Nat × Nat}, r ∈ trail s w → ∃ w1 w2, w = w1 ++ r.2 :: w2 ∧ fin s w1 = r.1
 | _, [], _, h => by cases h
 | s, k :: w, r, h => by
  rcases List.mem_cons.1 h with rfl | h
  ·
   exact ⟨[], w, rfl, rfl⟩
  ·
   obtain ⟨w1, w2, e1, e2⟩ := trail_mem h
   exact ⟨k :: w1, w2, by rw [e1]; rfl, e2⟩
section
variable {G : Nat → Bool} {len : Nat}
def Short (G : Nat → Bool) (len a t : Nat) (w : List Nat) : Prop := Walk G len a w ∧ fin a w = t ∧ ∀ v, Walk G len a v → fin a v = t → w.length ≤ v.length
theorem Best.short {a t : Nat} {w : List Nat} (h : Best G len a t w) : Short G len a t w := ⟨h.1, h.2.1, fun v hv e => sle_len (h.2.2 v hv e)⟩
theorem pow_inj {i k : Nat} (e : 2 ^ i = 2 ^ k) : i = k := (Nat.pow_right_inj (by decide)).1 e
theorem nb_inj {s i k : Nat} (e : nb s i = nb s k) : i = k := by
 refine pow_inj ?_
 have h1 : s ^^^ nb s i = 2 ^ i := by unfold nb; rw [← Nat.xor_assoc, Nat.xor_self, Nat.zero_xor]
 have h2 : s ^^^ nb s k = 2 ^ k := by unfold nb; rw [← Nat.xor_assoc, Nat.xor_self, Nat.zero_xor]
 rw [← h1, ← h2, e]
theorem nb_ne (s i : Nat) : nb s i ≠ s := fun e => by
 have h1 : s ^^^ nb s i = 2 ^ i := by unfold nb; rw [← Nat.xor_assoc, Nat.xor_self, Nat.zero_xor]
 rw [e, Nat.xor_self] at h1
 have := Nat.two_pow_pos i
 omega
theorem trail_apart : ∀ {w : List Nat} {a t : Nat}, Short G len a t w → (trail a w).Pairwise fun p r => p.1 ≠ r.1 ∧ ∀ i, i < len → nb p.1 i = r.1 → p.2 = i
 | [], _, _, _ => List.Pairwise.nil
 | k :: w, a, t, h => by
  have hs : Short G len (nb a k) t w := ⟨h.1.2.2, h.2.1, fun v hv e => by
   have := h.2.2 (k :: v) ⟨h.1.1, h.1.2.1, hv⟩ e
   simpa using this⟩
  rw [trail]
  refine List.pairwise_cons.2 ⟨fun r hr => ?_, trail_apart hs⟩
  obtain ⟨w1, w2, e1, e2⟩ := trail_mem hr
  have hw := h.1.2.2
  rw [e1] at hw
  obtain ⟨hw1, hw2⟩ := walk_append.1 hw
  rw [e2] at hw2
  have hg : G r.1 = true := by rw [← e2]; exact walk_good h.1.2.1 hw1
  have hf : fin r.1 (r.2 :: w2) = t := by
   have h1 := h.2.1
   rw [e1] at h1
   have h2 : fin (nb a k) (w1 ++ r.2 :: w2) = t := h1
   rw [fin_append, e2] at h2
   exact h2
  have hl : (k :: w).length = w1.length + w2.length + 2 := by rw [e1]; simp; omega
  constructor
  ·
   intro e
   have e' : a = r.1 := e
   have := h.2.2 (r.2 :: w2) (by rw [e']; exact hw2) (by rw [e']; exact hf)
   rw [hl] at this
   simp at this
   omega
  ·
   intro i hi e
   have e' : nb a i = r.1 := e
   have := h.2.2 (i :: r.2 :: w2) ⟨hi, by rw [e']; exact hg, by rw [e']; exact hw2⟩ (by show fin (nb a i) _ = t; rw [e']; exact hf)
   rw [hl] at this
   simp at this
   have h0 : w1 = [] := List.length_eq_zero_iff.1 (by omega)
   subst h0
   have h1 : nb a k = r.1 := e2
   exact nb_inj (h1.trans e'.symm)
theorem trail_lt {w : List Nat} {a : Nat} (ha : a < 2 ^ len) (hw : Walk G len a w) : ∀ r ∈ trail a w, r.1 < 2 ^ len := fun r hr => by
 obtain ⟨w1, w2, e1, e2⟩ := trail_mem hr
 rw [e1] at hw
 rw [← e2]
 exact walk_lt ha (walk_append.1 hw).1
theorem half {w : List Nat} {a t : Nat} (ha : a < 2 ^ len) (h : Short G len a t w) {i : Nat} (hi : i < len) : 2 * (w.filter fun k => decide (k ≠ i)).length ≤ 2 ^ len := by
 rw [← trail_filter i a w]
 have hJ : ((trail a w).filter fun p => decide (p.2 ≠ i)).Pairwise fun p r => p.1 ≠ r.1 ∧ nb p.1 i ≠ r.1 := by
  refine List.Pairwise.imp_of_mem (fun {p r} hp hr hpr => ⟨hpr.1, fun e => ?_⟩) ((trail_apart h).filter _)
  have h1 := hpr.2 i hi e
  have h2 := (List.mem_filter.1 hp).2
  simp at h2
  exact h2 h1
 have hlt : ∀ p ∈ (trail a w).filter (fun p => decide (p.2 ≠ i)), p.1 < 2 ^ len := fun p hp => trail_lt ha h.1 p (List.mem_filter.1 hp).1
 generalize ((trail a w).filter fun p => decide (p.2 ≠ i)) = J at hJ hlt
 have hn : (J.map Prod.fst ++ J.map fun p => nb p.1 i).Nodup := by
  refine List.nodup_append.2 ⟨List.pairwise_map.2 (hJ.imp fun hpr => hpr.1), List.pairwise_map.2 (hJ.imp fun {p r} hpr e => hpr.1 ?_), fun x hx y hy e => ?_⟩
  ·
   obtain ⟨p, hp, rfl⟩ := List.mem_map.1 hx
   obtain ⟨r, hr, rfl⟩ := List.mem_map.1 hy
   obtain ⟨j, hj, rfl⟩ := List.mem_iff_getElem.1 hp
   obtain ⟨j', hj', rfl⟩ := List.mem_iff_getElem.1 hr
   have h1 := List.pairwise_iff_getElem.1 hJ
   rcases Nat.lt_trichotomy j j' with hl | rfl | hl
   ·
    exact (h1 j j' hj hj' hl).2 (by rw [e, nb_nb])
   ·
    exact nb_ne _ _ e.symm
   ·
    exact (h1 j' j hj' hj hl).2 e.symm
  ·
   rw [← nb_nb p.1 i, e, nb_nb]
 have := nodup_le (2 ^ len) _ hn (fun x hx => by
  rcases List.mem_append.1 hx with hx | hx
  ·
   obtain ⟨p, hp, rfl⟩ := List.mem_map.1 hx
   exact hlt p hp
  ·
   obtain ⟨p, hp, rfl⟩ := List.mem_map.1 hx
   exact nb_lt (hlt p hp) hi)
 rw [List.length_append, List.length_map, List.length_map] at this
 omega
theorem three (w : List Nat) : 2 * w.length ≤ (w.filter fun k => decide (k ≠ 0)).length + (w.filter fun k => decide (k ≠ 1)).length + (w.filter fun k => decide (k ≠ 2)).length := by
 induction w with
 | nil => simp
 | cons k w ih =>
  by_cases h0 : k = 0
  ·
   subst h0; simp [List.filter_cons] at ih ⊢; omega
  ·
   by_cases h1 : k = 1
   ·
    subst h1; simp [List.filter_cons] at ih ⊢; omega
   ·
    by_cases h2 : k = 2
    ·
     subst h2; simp [List.filter_cons] at ih ⊢; omega
    ·
     simp [List.filter_cons, h0, h1, h2] at ih ⊢; omega
theorem short_len {w : List Nat} {a t : Nat} (hlen : len ≤ 10) (ha : a < 2 ^ len) (h : Short G len a t w) : w.length ≤ 1000 := by
 have hp : 2 ^ len ≤ 2 ^ 10 := Nat.pow_le_pow_right (by decide) hlen
 by_cases h3 : 3 ≤ len
 ·
  have h0 := half ha h (i := 0) (by omega)
  have h1 := half ha h (i := 1) (by omega)
  have h2 := half ha h (i := 2) (by omega)
  have := three w
  omega
 ·
  have hn : ((trail a w).map Prod.fst).Nodup := List.pairwise_map.2 ((trail_apart h).imp fun hpr => hpr.1)
  have := nodup_le (2 ^ len) _ hn (fun x hx => by
   obtain ⟨p, hp, rfl⟩ := List.mem_map.1 hx
   exact trail_lt ha h.1 p hp)
  rw [List.length_map, trail_len] at this
  have hp2 : 2 ^ len ≤ 2 ^ 2 := Nat.pow_le_pow_right (by decide) (by omega)
  omega
end
end Go.Proofs.YtldifdmfefpglaaDoor.Plain.Bfs


/- What orders, states that are reached, and shut sets have to do with each other. -/
namespace Go.Proofs.YtldifdmfefpglaaDoor.Pure
set_option linter.unusedVariables false
set_option linter.unusedSimpArgs false
open Go.RowKit Go.Proofs.YtldifdmfefpglaaDoor.XFeed Go.Proofs.YtldifdmfefpglaaDoorW.PrintWords Go.Proofs.YtldifdmfefpglaaDoorW.PrintLast Go.Proofs.YtldifdmfefpglaaDoorW.PrintMore
open Go.Proofs.YtldifdmfefpglaaDoor.Plain
open Bfs (nb Walk fin Best Inv bfs inn stp has far)
open Classical
section
variable {n : Nat} {sw : List S47} {fe : List S49} {keep : List Int}
theorem mem_found {G : Nat → Bool} {len a : Nat} {q : List (Nat × List Nat)} (h : Inv G len a q.length 0 q) (x : Int) : x ∈ found q (2 ^ len) ↔ ∃ w, Walk G len a w ∧ ((fin a w : Nat) : Int) = x := by
 unfold found
 rw [List.mem_map]
 constructor
 ·
  rintro ⟨s, hs, rfl⟩
  have hf := (List.mem_filter.1 hs).2
  rw [decide_eq_true_eq] at hf
  rcases Bfs.far_cases q s with ⟨p, hp, rfl, _⟩ | ⟨_, e⟩
  ·
   exact ⟨p.2, (h.walk p hp).1, by rw [(h.walk p hp).2]⟩
  ·
   omega
 ·
  rintro ⟨w, hw, rfl⟩
  obtain ⟨p, hp, e, _⟩ := h.best _ w rfl hw
  refine ⟨fin a w, List.mem_filter.2 ⟨List.mem_range.2 (by rw [← e]; exact (h.good p hp).1), ?_⟩, rfl⟩
  rw [decide_eq_true_eq, ← e, far_mem h hp]
  omega
theorem found_pair (q : List (Nat × List Nat)) (m : Nat) : (found q m).Pairwise (fun x y => x < y) := by
 unfold found
 exact List.pairwise_map.2 ((List.pairwise_lt_range.filter _).imp (fun hl => by omega))
theorem B1_true : ∀ {p : Option Int} {l : List Int}, (∀ v ∈ l, (0 ≤ v ∧ v < ((2 ^ sw.length : Nat) : Int)) ∧ goodB sw n fe keep v.toNat = true) → l.Pairwise (fun x y => x < y) → (∀ u, p = some u → ∀ v ∈ l, u < v) → B1 sw n fe keep p l = true
 | _, [], _, _, _ => rfl
 | p, s :: t, hg, hp, hu => by
  obtain ⟨h1, h2⟩ := List.pairwise_cons.1 hp
  rw [B1, Bool.and_eq_true, Bool.and_eq_true, Bool.and_eq_true, decide_eq_true_eq]
  refine ⟨⟨hg s (by simp), ?_⟩, B1_true (fun v hv => hg v (List.mem_cons_of_mem _ hv)) h2 (fun u e v hv => by cases e; exact h1 v hv)⟩
  cases p with
  | none => rfl
  | some u =>
   have := hu u rfl s (by simp)
   rw [Bool.not_eq_true']
   exact decide_eq_false (by omega)
theorem bad_false {set : List Int} {s : Nat} : bad sw n fe keep set s (List.range sw.length) = false ↔ ∀ k, k < sw.length → goodB sw n fe keep (nb s k) = true → ((nb s k : Nat) : Int) ∈ set := by
 unfold bad
 rw [List.any_eq_false]
 constructor
 ·
  intro h k hk hg
  have := h k (List.mem_range.2 hk)
  rw [hg] at this
  simpa using this
 ·
  intro h k hk e
  rw [Bool.and_eq_true] at e
  have := h k (List.mem_range.1 hk) e.1
  simp [this] at e
theorem found_shut {s : Nat} (hs : s < 2 ^ sw.length) (hg : goodB sw n fe keep s = true) : B1 sw n fe keep none (found (search sw n fe keep s) (2 ^ sw.length)) = true ∧ B2 sw n fe keep (found (search sw n fe keep s) (2 ^ sw.length)) (found (search sw n fe keep s) (2 ^ sw.length)) = true := by
 have h := search_inv (sw := sw) (n := n) (fe := fe) (keep := keep) hs hg
 constructor
 ·
  refine B1_true (fun v hv => ?_) (found_pair _ _) (fun u e => by cases e)
  obtain ⟨w, hw, rfl⟩ := (mem_found h v).1 hv
  have := Bfs.walk_lt hs hw
  exact ⟨by omega, by rw [Int.toNat_natCast]; exact Bfs.walk_good hg hw⟩
 ·
  unfold B2
  rw [List.all_eq_true]
  intro v hv
  obtain ⟨w, hw, rfl⟩ := (mem_found h v).1 hv
  rw [Int.toNat_natCast, Bool.not_eq_true', bad_false]
  intro k hk hgk
  exact (mem_found h _).2 ⟨w ++ [k], Bfs.walk_append.2 ⟨hw, hk, hgk, trivial⟩, by rw [Bfs.fin_append]; rfl⟩
theorem shut_all {set : List Int} (hB : B2 sw n fe keep set set = true) : ∀ {w : List Nat} {s : Nat}, ((s : Nat) : Int) ∈ set → Walk (goodB sw n fe keep) sw.length s w → ((fin s w : Nat) : Int) ∈ set
 | [], s, hs, _ => hs
 | k :: w, s, hs, hw => by
  have h1 := List.all_eq_true.1 hB _ hs
  rw [Int.toNat_natCast, Bool.not_eq_true', bad_false] at h1
  exact shut_all hB (w := w) (s := nb s k) (h1 k hw.1 hw.2.1) hw.2.2
theorem walk_vals {G : Nat → Bool} {len : Nat} : ∀ {s : Nat} {w : List Nat}, Walk G len s w → ∀ v ∈ natI w, 0 ≤ v ∧ v < (len : Int)
 | _, [], _, v, hv => by cases hv
 | s, k :: w, hw, v, hv => by
  rcases List.mem_cons.1 (show v ∈ (k : Int) :: natI w from hv) with rfl | hv
  ·
   have := hw.1; omega
  ·
   exact walk_vals (s := nb s k) (w := w) hw.2.2 v hv
theorem walk_order : ∀ {s : Nat} {w : List Nat}, Walk (goodB sw n fe keep) sw.length s w → orderB sw n fe keep s (natI w) = true ∧ afterN s (natI w) = fin s w
 | _, [], _ => ⟨rfl, rfl⟩
 | s, k :: w, hw => by
  obtain ⟨h1, h2⟩ := walk_order (s := nb s k) (w := w) hw.2.2
  show (goodB sw n fe keep (s ^^^ 2 ^ (k : Int).toNat) && orderB sw n fe keep (s ^^^ 2 ^ (k : Int).toNat) (natI w)) = true ∧ afterN (s ^^^ 2 ^ (k : Int).toNat) (natI w) = _
  rw [Int.toNat_natCast]
  exact ⟨by rw [Bool.and_eq_true]; exact ⟨hw.2.1, h1⟩, h2⟩
theorem after_fin : ∀ (s : Nat) (w : List Nat), afterN s (natI w) = fin s w
 | _, [] => rfl
 | s, k :: w => by
  show afterN (s ^^^ 2 ^ (k : Int).toNat) (natI w) = _
  rw [Int.toNat_natCast]
  exact after_fin (nb s k) w
theorem order_walk : ∀ {l : List Int} {s : Nat}, (∀ v ∈ l, 0 ≤ v ∧ v < (sw.length : Int)) → orderB sw n fe keep s l = true → ∃ w, l = natI w ∧ Walk (goodB sw n fe keep) sw.length s w
 | [], _, _, _ => ⟨[], rfl, trivial⟩
 | v :: l, s, hv, ho => by
  have h0 := hv v (by simp)
  obtain ⟨k, rfl⟩ := Int.eq_ofNat_of_zero_le h0.1
  rw [orderB, Int.toNat_natCast, Bool.and_eq_true] at ho
  obtain ⟨w, rfl, hw⟩ := order_walk (fun u hu => hv u (List.mem_cons_of_mem _ hu)) ho.2
  exact ⟨k :: w, rfl, by omega, ho.1, hw⟩
theorem natI_reverse (w : List Nat) : natI w.reverse = (natI w).reverse := by simp [natI]
theorem natI_len (w : List Nat) : (natI w).length = w.length := by simp [natI]
end
/-! ### the program's functions -/
theorem after_go {len : Nat} (hlen : len ≤ 10) (l : List Int) (hl : l.length ≤ 4000000000000000000) (hv : ∀ v ∈ l, 0 ≤ v ∧ v < (len : Int)) : ∀ (d i st : Nat), i + d = l.length → st < 2 ^ len →
  Ev (fun k => feed_After.l0 k (st : Int) l (l.length : Int) (i : Int)) ((afterN st (l.drop i) : Int), 0) := by
 have hp : 2 ^ len ≤ 2 ^ 10 := Nat.pow_le_pow_right (by decide) hlen
 intro d
 induction d with
 | zero =>
  intro i st hi hst
  obtain rfl : i = l.length := by omega
  rw [List.drop_length]
  refine Ev.step (fun k => by rw [feed_After.l0]) ?_
  exact ev_neg (by omega) (Ev.now _)
 | succ d ih =>
  intro i st hi hst
  have hil : i < l.length := by omega
  obtain ⟨a, b⟩ := hv _ (List.getElem_mem hil)
  obtain ⟨v, hv⟩ := Int.eq_ofNat_of_zero_le a
  have i1 := ih (i + 1) (st ^^^ 2 ^ v) (by omega) (flip_lt hst (by omega))
  rw [cons_of hil, afterN, hv, Int.toNat_natCast]
  refine Ev.step (fun k => by rw [feed_After.l0]) ?_
  rw [rd_get hil, hv, wrap_succ i (by omega), flip_i (by omega) (by omega)]
  exact ev_pos (by omega) (ev_pos (by omega) (ev_pos (by omega) (ev_pos (by omega) i1)))
theorem holds_l0 (l : List Int) (hl : l.length ≤ 4000000000000000000) (v : Int) : ∀ (d i : Nat), i + d = l.length → Ev (fun k => droppertop_holds.l0 k l v (i : Int)) (decide (v ∈ l.drop i)) := by
 intro d
 induction d with
 | zero =>
  intro i hi
  refine Ev.step (fun k => by rw [droppertop_holds.l0]) ?_
  rw [List.drop_eq_nil_of_le (by omega)]
  exact ev_neg (by omega) (ev_const (by simp))
 | succ d ih =>
  intro i hi
  have hil : i < l.length := by omega
  have h1 := ih (i + 1) (by omega)
  refine Ev.step (fun k => by rw [droppertop_holds.l0]) ?_
  rw [rd_get hil, wrap_succ i (by omega), cons_of hil]
  refine ev_pos (by omega) (ev_pos (by omega) ?_)
  by_cases e : l[i] = v
  ·
   exact ev_pos e (ev_const (congrArg some (decide_eq_true (by rw [e]; exact List.mem_cons_self)).symm))
  ·
   refine ev_neg e ?_
   have e2 : decide (v ∈ l[i] :: l.drop (i + 1)) = decide (v ∈ l.drop (i + 1)) := by
    rw [decide_eq_decide, List.mem_cons]
    exact ⟨fun h => h.resolve_left (fun e' => e e'.symm), .inr⟩
   rw [e2]
   exact h1
theorem holds_val (l : List Int) (hl : l.length ≤ 4000000000000000000) (v : Int) : Ev (fun k => droppertop_holds.f k l v) (decide (v ∈ l)) := by
 unfold droppertop_holds.f
 have h1 := holds_l0 l hl v l.length 0 (by omega)
 rw [List.drop_zero] at h1
 exact h1
section
variable {n : Nat} {sw : List S47} {fe : List S49} (h : GridOk (n : Int) sw fe) {keep : List Int} (hk : KeepOk (n : Int) keep) (hkl : keep.length ≤ 4000000000000000000) {s : Nat} (hs : s < 2 ^ sw.length) (hg : goodB sw n fe keep s = true)
include h hk hs hg
theorem begE_zero : begE (n : Int) sw fe keep (s : Int) = 0 := by
 unfold begE
 rw [if_pos h, if_pos hk, if_pos ⟨by omega, by rw [Int.toNat_natCast, Int.toNat_natCast]; exact hg⟩]
include hkl
theorem reach_feed : Ev (fun k => feed_Reach.f k (n : Int) sw fe (s : Int) keep) (found (search sw n fe keep s) (2 ^ sw.length), 0) := by
 have hp := pow_le10 h
 have hz := begE_zero h hk hs hg
 obtain ⟨r1, _⟩ := ruled_val (n : Int) sw fe keep hkl (s : Int)
 have hinv := search_inv (sw := sw) (n := n) (fe := fe) (keep := keep) hs hg
 unfold feed_Reach.f
 refine Ev.bind r1 (ev_pos hz (Ev.bind (reach_val h hk hs hg) ?_))
 rw [found_sorted hinv]
 refine ev_pos ⟨?_, ?_, ?_⟩ (Ev.now _)
 ·
  intro e
  have h1 := hinv.first
  rw [List.map_eq_nil_iff.1 e] at h1
  cases h1
 ·
  have := hinv.size
  rw [toI_len]
  omega
 ·
  have e : (toI (search sw n fe keep s)).map Prod.fst = ((search sw n fe keep s).map Prod.fst).map (fun s : Nat => (s : Int)) := by simp [toI]
  rw [e]
  exact List.pairwise_map.2 (hinv.nodup.imp (fun hne e => hne (by omega)))
theorem order_feed {t : Nat} (ht : t < 2 ^ sw.length) : Ev (fun k => feed_Order.f k (n : Int) sw fe (s : Int) (t : Int) keep) (feed_Order.at (toI (search sw n fe keep s)) (t : Int)) := by
 have hp := pow_le10 h
 have hlen := h.2.2.1
 have hz := begE_zero h hk hs hg
 obtain ⟨r1, _⟩ := ruled_val (n : Int) sw fe keep hkl (s : Int)
 unfold feed_Order.f
 refine Ev.bind r1 (ev_pos hz ?_)
 rw [all_f _ _ _ hlen]
 refine ev_some ?_
 rw [wrap_id (by omega) (by omega), within_f]
 refine ev_some (ev_pos (decide_eq_true (by omega)) (ev_pos (by unfold feed_rule_reach.wf; omega) ?_))
 exact Ev.bind (reach_val h hk hs hg) (Ev.now _)
theorem isOrder_feed {w : List Nat} (hw : Walk (goodB sw n fe keep) sw.length s w) (hl : w.length ≤ 1000) : Ev (fun k => feed_IsOrder.f k (n : Int) sw fe (s : Int) keep (natI w)) (true, 0) := by
 have hlen := h.2.2.1
 have hz := begE_zero h hk hs hg
 have hlo : ListOk sw.length (natI w) := ⟨by rw [natI_len]; exact hl, walk_vals hw⟩
 obtain ⟨o1, _⟩ := isOrder_val (n : Int) sw fe (by omega) keep hkl (s : Int) (natI w) (by rw [natI_len]; omega)
 have e : ordE (n : Int) sw fe keep (s : Int) (natI w) = 0 := by unfold ordE; rw [if_pos hz, if_pos hlo]
 have er : ordR (n : Int) sw fe keep (s : Int) (natI w) = true := by unfold ordR; rw [if_pos e, Int.toNat_natCast, Int.toNat_natCast]; exact (walk_order hw).1
 rw [e, er] at o1
 exact o1
omit hk hkl hg in
theorem after_feed {w : List Nat} {G : Nat → Bool} (hw : Walk G sw.length s w) (hl : w.length ≤ 1000) : Ev (fun k => feed_After.f k (n : Int) sw fe (s : Int) (natI w)) (((fin s w : Nat) : Int), 0) := by
 have hlen := h.2.2.1
 have hlo : ListOk sw.length (natI w) := ⟨by rw [natI_len]; exact hl, walk_vals hw⟩
 have he : errG (n : Int) sw fe (s : Int) = 0 := errG_zero.2 ⟨h, by omega, by omega⟩
 have h1 := after_go hlen (natI w) (by rw [natI_len]; omega) hlo.2 (natI w).length 0 s (by omega) hs
 rw [List.drop_zero, after_fin] at h1
 unfold feed_After.f
 rw [open_g]
 refine ev_some (ev_pos he ?_)
 rw [switches_f _ _ _ (by omega), decide_eq_true hlo]
 exact ev_some (ev_pos rfl h1)
theorem leads_val {t : Nat} {w : List Nat} (hw : Best (goodB sw n fe keep) sw.length s t w) : Ev (fun k => droppertop_leads.f k (n : Int) sw fe (s : Int) (t : Int) keep (natI w)) true := by
 have hlen := h.2.2.1
 have hwl := Bfs.short_len hlen hs hw.short
 have hl2 := natI_len w
 have hgt : goodB sw n fe keep t = true := by rw [← hw.2.1]; exact Bfs.walk_good hg hw.1
 have htl : t < 2 ^ sw.length := by rw [← hw.2.1]; exact Bfs.walk_lt hs hw.1
 obtain ⟨b1, _⟩ := Bfs.walk_reverse hg hw.1
 rw [hw.2.1] at b1
 have hb := isOrder_feed h hk hkl htl hgt b1 (by simpa using hwl)
 rw [natI_reverse] at hb
 have ha := after_feed h hs hw.1 hwl
 rw [hw.2.1] at ha
 have hback : ∀ (d : Nat), d ≤ (natI w).length → Ev (fun k => droppertop_leads.l0 k (t : Int) keep (natI w) true 0 (t : Int) 0 ((natI w).drop d).reverse ((d : Int) - 1) (n : Int) sw fe) true := by
  intro d
  induction d with
  | zero =>
   intro _
   refine Ev.step (fun k => by rw [droppertop_leads.l0]) ?_
   rw [List.drop_zero]
   exact ev_neg (by omega) (Ev.bind hb (ev_pos rfl (ev_pos rfl (ev_pos rfl (ev_pos rfl (ev_pos rfl (Ev.now _)))))))
  | succ d ih =>
   intro hd
   have h1 := ih (by omega)
   have hdl : d < (natI w).length := by omega
   refine Ev.step (fun k => by rw [droppertop_leads.l0]) ?_
   rw [show ((d + 1 : Nat) : Int) - 1 = (d : Int) by omega, rd_get hdl, wrap_id (by omega) (by omega)]
   refine ev_pos (by omega) (ev_pos (by omega) (ev_pos (by omega) (ev_pos (by simp; omega) ?_)))
   rw [cons_of hdl, List.reverse_cons] at h1
   exact h1
 unfold droppertop_leads.f
 refine Ev.bind (isOrder_feed h hk hkl hs hg hw.1 hwl) (Ev.bind ha ?_)
 have h1 := hback (natI w).length (Nat.le_refl _)
 rw [List.drop_length] at h1
 rw [wrap_id (by omega) (by omega)]
 exact h1
end
end Go.Proofs.YtldifdmfefpglaaDoor.Pure


namespace Go.Proofs.YtldifdmfefpglaaDoor.Plain
open Go.RowKit Go.Proofs.YtldifdmfefpglaaDoor.XFeed Go.Proofs.YtldifdmfefpglaaDoorW.PrintWords Go.Proofs.YtldifdmfefpglaaDoorW.PrintLast Go.Proofs.YtldifdmfefpglaaDoorW.PrintMore
theorem first_at : dropperlaw05_First.f 200 = some true := by kernel_rfl
theorem first_ev : Ev (fun k => dropperlaw05_First.f k) true := Ev.of (dropperlaw05_First.mono) first_at
end Go.Proofs.YtldifdmfefpglaaDoor.Plain


/- An order is told exactly if the goal is reached; it leads there and back; what is reached is shut, and lies in every other shut set with the beginning; and no order there is shorter. No condition but the statement's own. -/
namespace Go.Proofs.YtldifdmfefpglaaDoor.Pure
set_option linter.unusedVariables false
set_option linter.unusedSimpArgs false
open Go.RowKit Go.Proofs.YtldifdmfefpglaaDoor.XFeed Go.Proofs.YtldifdmfefpglaaDoorW.PrintWords Go.Proofs.YtldifdmfefpglaaDoorW.PrintLast Go.Proofs.YtldifdmfefpglaaDoorW.PrintMore
open Go.Proofs.YtldifdmfefpglaaDoor.Plain
open Bfs (nb Walk fin Best Inv bfs inn stp has far)
open Classical
section
variable {n : Nat} {sw : List S47} {fe : List S49} (h : GridOk (n : Int) sw fe) {keep : List Int} (hk : KeepOk (n : Int) keep) (hkl : keep.length ≤ 1000) {s : Nat} (hs : s < 2 ^ sw.length) (hg : goodB sw n fe keep s = true) {ord sh : List Int} (ho : ord.length ≤ 1000) (hsh : sh.length ≤ 10000)
include h hsh in
theorem top_l0 {t : Int} (hall : ∀ x ∈ found (search sw n fe keep s) (2 ^ sw.length), x ∈ sh) : ∀ (d i : Nat), i + d = (found (search sw n fe keep s) (2 ^ sw.length)).length →
  Ev (fun k => droppertop_TopOrder.l0 k (found (search sw n fe keep s) (2 ^ sw.length)) (i : Int) (s : Int) t keep ord sh) true := by
 have hp := pow_le10 h
 have hfl := found_len (search sw n fe keep s) (2 ^ sw.length)
 intro d
 induction d with
 | zero =>
  intro i hi
  refine Ev.step (fun k => by rw [droppertop_TopOrder.l0]) ?_
  exact ev_neg (by omega) (Ev.bind first_ev (Ev.now _))
 | succ d ih =>
  intro i hi
  have hil : i < (found (search sw n fe keep s) (2 ^ sw.length)).length := by omega
  have h1 := holds_val sh (by omega) (found (search sw n fe keep s) (2 ^ sw.length))[i]
  rw [decide_eq_true (hall _ (List.getElem_mem hil))] at h1
  refine Ev.step (fun k => by rw [droppertop_TopOrder.l0]) ?_
  rw [rd_get hil, wrap_succ i (by omega)]
  exact ev_pos (by omega) (ev_pos (by omega) (Ev.bind h1 (ev_pos rfl (ih (i + 1) (by omega)))))
include h hk hkl hs hg hsh
theorem top_j5 {t : Int} : Ev (fun k => droppertop_TopOrder.j5 k (found (search sw n fe keep s) (2 ^ sw.length)) (n : Int) sw fe (s : Int) t keep ord sh) true := by
 have hinv := search_inv (sw := sw) (n := n) (fe := fe) (keep := keep) hs hg
 have no : Ev (fun k => droppertop_TopOrder.j6 k (found (search sw n fe keep s) (2 ^ sw.length)) false (s : Int) t keep ord sh) true := by
  refine Ev.step (fun k => by rw [droppertop_TopOrder.j6]) ?_
  exact ev_neg (by simp) (Ev.bind first_ev (Ev.now _))
 obtain ⟨_, s2⟩ := shut_val (n : Int) sw fe keep (by omega) sh (by omega)
 have e : ansS (n : Int) sw fe keep sh = (B1 sw n fe keep none sh && B2 sw n fe keep sh sh, 0) := by unfold ansS; rw [if_pos h, if_pos hk, Int.toNat_natCast]
 rw [e] at s2
 refine Ev.step (fun k => by rw [droppertop_TopOrder.j5]) ?_
 refine Ev.bind s2 (ev_pos rfl ?_)
 by_cases hb : (B1 sw n fe keep none sh && B2 sw n fe keep sh sh) = true
 ·
  refine ev_pos hb (Ev.bind (holds_val sh (by omega) (s : Int)) ?_)
  rw [Bool.and_eq_true] at hb
  by_cases hm : (s : Int) ∈ sh
  ·
   rw [decide_eq_true hm]
   refine Ev.step (fun k => by rw [droppertop_TopOrder.j6]) ?_
   have hall : ∀ x ∈ found (search sw n fe keep s) (2 ^ sw.length), x ∈ sh := fun x hx => by
    obtain ⟨w, hw, rfl⟩ := (mem_found hinv x).1 hx
    exact shut_all hb.2 hm hw
   exact ev_pos rfl (top_l0 h hsh hall _ 0 (Nat.zero_add _))
  ·
   rw [decide_eq_false hm]
   exact no
 ·
  exact ev_neg hb no
include ho in
theorem top_j2 {t : Nat} {o : List Int} (hol : o.length ≤ 2000) (hmin : ∀ w, Walk (goodB sw n fe keep) sw.length s w → fin s w = t → o.length ≤ w.length) :
  Ev (fun k => droppertop_TopOrder.j2 k (found (search sw n fe keep s) (2 ^ sw.length)) o false (n : Int) sw fe (s : Int) (t : Int) keep ord sh) true := by
 have hp := pow_le10 h
 have hlen := h.2.2.1
 have hz := begE_zero h hk hs hg
 have hinv := search_inv (sw := sw) (n := n) (fe := fe) (keep := keep) hs hg
 have hfl := found_len (search sw n fe keep s) (2 ^ sw.length)
 have h5 := top_j5 h hk hkl hs hg (ord := ord) hsh (t := (t : Int))
 have no : Ev (fun k => droppertop_TopOrder.j3 k (found (search sw n fe keep s) (2 ^ sw.length)) o false (n : Int) sw fe (s : Int) (t : Int) keep ord sh) true := by
  refine Ev.step (fun k => by rw [droppertop_TopOrder.j3]) ?_
  exact ev_neg (by simp) h5
 obtain ⟨_, o2⟩ := isOrder_val (n : Int) sw fe (by omega) keep (by omega) (s : Int) ord (by omega)
 refine Ev.step (fun k => by rw [droppertop_TopOrder.j2]) ?_
 refine ev_neg (by simp) (Ev.bind o2 ?_)
 by_cases he : ordE (n : Int) sw fe keep (s : Int) ord = 0
 ·
  refine ev_pos he ?_
  have hlo : ListOk sw.length ord := by
   by_cases hlo : ListOk sw.length ord
   ·
    exact hlo
   ·
    unfold ordE at he; rw [if_pos hz, if_neg hlo] at he; cases he
  have er : ordR (n : Int) sw fe keep (s : Int) ord = orderB sw n fe keep s ord := by unfold ordR; rw [if_pos he, Int.toNat_natCast, Int.toNat_natCast]
  show Ev (fun k => droppertop_TopOrder.j3 k _ o (ordR (n : Int) sw fe keep (s : Int) ord) (n : Int) sw fe (s : Int) (t : Int) keep ord sh) true
  rw [er]
  cases hob : orderB sw n fe keep s ord with
  | false => exact no
  | true =>
   obtain ⟨w, rfl, hw⟩ := order_walk hlo.2 hob
   have hwl : w.length ≤ 1000 := by have := hlo.1; rw [natI_len] at this; exact this
   refine Ev.step (fun k => by rw [droppertop_TopOrder.j3]) ?_
   refine ev_pos rfl (Ev.bind (after_feed h hs hw hwl) (ev_pos rfl ?_))
   have h1 := holds_val (found (search sw n fe keep s) (2 ^ sw.length)) (by omega) ((fin s w : Nat) : Int)
   rw [decide_eq_true ((mem_found hinv _).2 ⟨w, hw, rfl⟩)] at h1
   refine Ev.bind h1 ?_
   refine Ev.step (fun k => by rw [droppertop_TopOrder.j4]) ?_
   refine ev_neg (by simp) ?_
   by_cases hgt : (o.length : Int) > ((natI w).length : Int)
   ·
    refine ev_pos hgt (ev_neg (fun e => ?_) h5)
    have h2 := hmin w hw (by have e' : ((fin s w : Nat) : Int) = (t : Int) := e; omega)
    rw [natI_len] at hgt
    omega
   ·
    exact ev_neg hgt h5
 ·
  exact ev_neg he no
include ho in
theorem top_main {t : Nat} (ht : t < 2 ^ sw.length) : Ev (fun k => droppertop_TopOrder.j0 k false (n : Int) sw fe (s : Int) (t : Int) keep ord sh) true := by
 have hp := pow_le10 h
 have hlen := h.2.2.1
 have hinv := search_inv (sw := sw) (n := n) (fe := fe) (keep := keep) hs hg
 have hfl := found_len (search sw n fe keep s) (2 ^ sw.length)
 have hrl : (found (search sw n fe keep s) (2 ^ sw.length)).length ≤ 4000000000000000000 := by omega
 obtain ⟨s1, _⟩ := shut_val (n : Int) sw fe keep (by omega) (found (search sw n fe keep s) (2 ^ sw.length)) hrl
 have e : ansS (n : Int) sw fe keep (found (search sw n fe keep s) (2 ^ sw.length)) = (true, 0) := by
  unfold ansS
  obtain ⟨b1, b2⟩ := found_shut (sw := sw) (n := n) (fe := fe) (keep := keep) hs hg
  rw [if_pos h, if_pos hk, Int.toNat_natCast, b1, b2]; rfl
 rw [e] at s1
 have hs1 := holds_val (found (search sw n fe keep s) (2 ^ sw.length)) hrl (s : Int)
 rw [decide_eq_true ((mem_found hinv (s : Int)).2 ⟨[], trivial, rfl⟩)] at hs1
 have ht1 := holds_val (found (search sw n fe keep s) (2 ^ sw.length)) hrl (t : Int)
 refine Ev.step (fun k => by rw [droppertop_TopOrder.j0]) ?_
 refine ev_neg (by simp) (Ev.bind (reach_feed h hk (by omega) hs hg) (Ev.bind (order_feed h hk (by omega) hs hg ht) (Ev.bind s1 (ev_pos rfl ?_))))
 rcases at_toI hinv t with ⟨w, hw, e2⟩ | ⟨hn, e2⟩
 ·
  rw [e2]
  rw [decide_eq_true ((mem_found hinv _).2 ⟨w, hw.1, by rw [hw.2.1]⟩)] at ht1
  have hwl := Bfs.short_len hlen hs hw.short
  refine ev_pos rfl (ev_pos rfl (ev_pos rfl (Ev.bind hs1 (ev_pos rfl (Ev.bind ht1 ?_)))))
  refine Ev.step (fun k => by rw [droppertop_TopOrder.j1]) ?_
  refine ev_neg (by simp) (ev_pos rfl (Ev.bind (leads_val h hk (by omega) hs hg hw) ?_))
  exact top_j2 h hk hkl hs hg ho hsh (by rw [natI_len]; omega) (fun v hv ev => by rw [natI_len]; exact Bfs.sle_len (hw.2.2 v hv ev))
 ·
  rw [e2]
  rw [decide_eq_false (fun hm => by
   obtain ⟨w, hw, ew⟩ := (mem_found hinv _).1 hm
   exact hn w hw (by omega))] at ht1
  refine ev_neg (by decide) (ev_pos rfl (ev_pos rfl (ev_pos rfl (Ev.bind hs1 (ev_pos rfl (Ev.bind ht1 ?_))))))
  refine Ev.step (fun k => by rw [droppertop_TopOrder.j1]) ?_
  refine ev_neg (by simp) (ev_neg (by decide) ?_)
  exact top_j2 h hk hkl hs hg ho hsh (Nat.zero_le _) (fun v hv ev => Nat.zero_le _)
end
theorem TopOrder : droppertop_TopOrder.Pure := by
 intro N sw fe a t keep ord sh hN hsw hfe ha ht hkl hol hsl
 refine Ev.rounds ?_
 have yes : Ev (fun k => droppertop_TopOrder.j0 k true N sw fe a t keep ord sh) true := by
  refine Ev.step (fun k => by rw [droppertop_TopOrder.j0]) ?_
  exact ev_pos rfl (Ev.bind first_ev (Ev.now _))
 unfold droppertop_TopOrder.f
 refine Ev.bind (rvalid_ev N sw fe) ?_
 by_cases h : GridOk N sw fe
 ·
  obtain ⟨n, rfl⟩ := Int.eq_ofNat_of_zero_le (show 0 ≤ N by have := h.1; omega)
  have hlen := h.2.2.1
  refine ev_pos (decide_eq_true h) ?_
  by_cases h1 : (keep.length : Int) > 20
  ·
   exact ev_pos h1 yes
  refine ev_neg h1 ?_
  by_cases h2 : (ord.length : Int) > 200
  ·
   exact ev_pos h2 yes
  refine ev_neg h2 ?_
  by_cases h3 : (sh.length : Int) > 1100
  ·
   exact ev_pos h3 yes
  refine ev_neg h3 (Ev.bind (isKeep_val n sw fe keep (by omega)) ?_)
  by_cases hk : KeepOk (n : Int) keep
  ·
   refine ev_pos (decide_eq_true hk) (Ev.bind (good_val h hk (by omega) a) ?_)
   by_cases hg : (decide (0 ≤ a ∧ a < ((2 ^ sw.length : Nat) : Int)) && goodB sw n fe keep a.toNat) = true
   ·
    refine ev_pos hg ?_
    rw [Bool.and_eq_true, decide_eq_true_eq] at hg
    obtain ⟨s, rfl⟩ := Int.eq_ofNat_of_zero_le hg.1.1
    rw [Int.toNat_natCast] at hg
    have hst : dropperref05_IsState.f (n : Int) sw fe t = some (decide (0 ≤ t ∧ t < ((2 ^ sw.length : Nat) : Int))) := by
     unfold dropperref05_IsState.f
     rw [shl_one _ (by omega)]
     by_cases h0 : 0 ≤ t
     ·
      rw [if_pos h0]; simp [h0]
     ·
      rw [if_neg h0]; simp [h0]
    rw [hst]
    refine ev_some ?_
    by_cases hr : 0 ≤ t ∧ t < ((2 ^ sw.length : Nat) : Int)
    ·
     rw [decide_eq_true hr]
     obtain ⟨t, rfl⟩ := Int.eq_ofNat_of_zero_le hr.1
     exact top_main h hk (by omega) (by omega) hg.2 (by omega) (by omega) (by omega)
    ·
     rw [decide_eq_false hr]
     exact yes
   ·
    exact ev_neg hg yes
  ·
   exact ev_neg (by simpa using hk) yes
 ·
  exact ev_neg (by simpa using h) yes
end Go.Proofs.YtldifdmfefpglaaDoor.Pure

namespace Go.Proofs.YtldifdmfefpglaaDoor.Open
open Go.RowKit Go.Proofs.YtldifdmfefpglaaDoorW.PrintWords Go.Proofs.YtldifdmfefpglaaDoorW.PrintLast Go.Proofs.YtldifdmfefpglaaDoorW.PrintMore
set_option linter.unusedVariables false
set_option linter.unusedSimpArgs false
/-! What an argument of a type reads as, in the print's kinds. -/
def Opens {α : Type} (P : Program) (t : TypeId) (kd : Kd α) (G : α → Prop) : Prop :=
 ∀ (H : Type) (enc : TypeId × Value → H) (W : World) (fuel : Nat) (cs : List Value) (x : DataW H × List MemPlace), DataW.trod enc P W 0 (fun _ => true) true fuel t cs = some x → ∃ a, kd.K W a cs ∧ G a
section
variable {P : Program} {t e : TypeId} {α β : Type} {kd : Kd α} {G : α → Prop}
theorem opens_int {k : IntKind} (hu : P.underlying t = some (.int k)) : Opens P t (Kd.int k) (fun n => (Lit.int k n).wf = true) := by
 intro H enc W fuel cs x h
 obtain ⟨n, rfl, _, hw⟩ := DataW.trod_int hu h
 exact ⟨n, rfl, hw⟩
theorem exists_list {Q : Nat → α → Prop} : ∀ n, (∀ i, i < n → ∃ x, Q i x) → ∃ xs : List α, xs.length = n ∧ ∀ i x, xs[i]? = some x → Q i x := by
 intro n
 induction n with
 | zero => intro _; exact ⟨[], rfl, fun i x h => by simp at h⟩
 | succ n ih =>
  intro h
  obtain ⟨xs, hl, hq⟩ := ih (fun i hi => h i (by omega))
  obtain ⟨x, hx⟩ := h n (by omega)
  refine ⟨xs ++ [x], by simp [hl], fun i y hy => ?_⟩
  by_cases hi : i < n
  ·
   rw [List.getElem?_append_left (by omega)] at hy
   exact hq i y hy
  ·
   rw [List.getElem?_append_right (by omega)] at hy
   have : i - xs.length = 0 := by
    have := (List.getElem?_eq_some_iff.1 hy).1
    simp at this; omega
   rw [this] at hy
   have hin : i = n := by omega
   subst hin
   simp at hy
   subst hy
   exact hx
theorem add_add (a : Addr) (m n : Nat) : (a.add m).add n = a.add (m + n) := by
 unfold Addr.add
 by_cases h1 : m = 0
 ·
  subst h1; simp
 ·
  by_cases h2 : n = 0
  ·
   subst h2; simp [h1]
  ·
   have : ¬ m + n = 0 := by omega
   simp [h1, h2, this, Nat.add_assoc]
theorem opens_slice (hu : P.underlying t = some (.slice e)) (he : Opens P e kd G) (hc : P.cellsOf e = kd.sz) : Opens P t (Kd.slice e kd) (fun l => l.length ≤ 9223372036854775807 ∧ ∀ x ∈ l, G x) := by
 intro H enc W fuel cs x h
 rcases DataW.trod_slice hu h with ⟨rfl, _⟩ | ⟨a, len, cap, elems, rest, n, _, rfl, _, hb, hl, hm, hlen, hel, _, _⟩
 ·
  exact ⟨[], ⟨none, 0, rfl, Nat.le_refl _, rfl, by simp, fun h => absurd h (by simp)⟩, by simp, fun x hx => by simp at hx⟩
 ·
  have hx : ∀ i, i < len → ∃ y : α, (∃ c, c.length = kd.sz ∧ kd.K W y c ∧ ∀ j u, c[j]? = some u → W.cell? (a.add (i * kd.sz + j)) = some u) ∧ G y := by
   intro i hi
   have h1 := hel i hi
   rw [List.getElem?_eq_getElem (by omega)] at h1
   obtain ⟨c, hc1, hc2⟩ := Option.bind_eq_some_iff.1 h1
   obtain ⟨y, hk, hg⟩ := he H enc W n c _ hc2
   obtain ⟨_, hcl, hcell⟩ := World.cells?_some hc1
   refine ⟨y, ⟨c, kd.K_len hk, hk, fun j u hj => ?_⟩, hg⟩
   rw [hc] at hcell
   have := hcell j (by have := (List.getElem?_eq_some_iff.1 hj).1; have := kd.K_len hk; omega)
   rw [← add_add, this, hj]
  obtain ⟨xs, hxl, hxq⟩ := exists_list len hx
  have hmax : len ≤ 9223372036854775807 := by unfold maxLen at hm; omega
  refine ⟨xs, ⟨some a, cap, by rw [hxl], by omega, rfl, by omega, fun _ => ⟨a, rfl, fun j p hj => (hxq j p hj).1⟩⟩, by omega, fun y hy => ?_⟩
  obtain ⟨i, hi, rfl⟩ := List.mem_iff_getElem.1 hy
  exact (hxq i xs[i] (List.getElem?_eq_getElem hi)).2
def OpensF (P : Program) (fs : List Field) (off : Nat) (kd : Kd α) (G : α → Prop) : Prop :=
 ∀ (H : Type) (enc : TypeId × Value → H) (W : World) (fuel : Nat) (cs : List Value) (xs : List (DataW H × List MemPlace)), xs.length = fs.length → cs.length = off + kd.sz →
  (∀ (i : Nat) (f : Field), fs[i]? = some f → DataW.trod enc P W 0 (fun _ => true) true fuel f.type ((cs.drop f.offset).take (P.cellsOf f.type)) = xs[i]?) → ∃ a, kd.K W a (cs.drop off) ∧ G a
theorem opensF_one {f : Field} {off : Nat} (ho : f.offset = off) (hc : P.cellsOf f.type = kd.sz) (h : Opens P f.type kd G) : OpensF P [f] off kd G := by
 intro H enc W fuel cs xs hl hcs hx
 have h0 := hx 0 f rfl
 rw [List.getElem?_eq_getElem (by rw [hl]; simp), ho, hc, List.take_of_length_le (by rw [List.length_drop]; omega)] at h0
 exact h H enc W fuel _ _ h0
theorem opensF_cons {f : Field} {fs : List Field} {off : Nat} {ka : Kd α} {kb : Kd β} {Ga : α → Prop} {Gb : β → Prop} (ho : f.offset = off) (hc : P.cellsOf f.type = ka.sz) (h : Opens P f.type ka Ga) (hr : OpensF P fs (off + ka.sz) kb Gb) :
  OpensF P (f :: fs) off (Kd.pair ka kb) (fun p => Ga p.1 ∧ Gb p.2) := by
 intro H enc W fuel cs xs hl hcs hx
 have hcs' : cs.length = off + (ka.sz + kb.sz) := hcs
 match xs, hl with
 | x0 :: xs', hl =>
  have h0 := hx 0 f rfl
  rw [ho, hc] at h0
  obtain ⟨a, ha, hga⟩ := h H enc W fuel _ x0 h0
  obtain ⟨b, hb, hgb⟩ := hr H enc W fuel cs xs' (by simpa using hl) (by omega) (fun i f' hf' => hx (i + 1) f' (by simpa using hf'))
  refine ⟨(a, b), ⟨_, _, ?_, ha, hb⟩, hga, hgb⟩
  rw [← List.drop_drop, List.take_append_drop]
theorem opens_struct {fs : Array Field} (hu : P.underlying t = some (.struct fs)) (hc : P.cellsOf t = kd.sz) (h : OpensF P fs.toList 0 kd G) : Opens P t kd G := by
 intro H enc W fuel cs x hx
 obtain ⟨xs, n, _, _, hl, hxl, hf⟩ := DataW.trod_struct hu hx
 obtain ⟨a, ha, hg⟩ := h H enc W n cs xs (by rw [hxl]; simp) (by omega) (fun i f hf' => hf i f (by simpa using hf'))
 exact ⟨a, ha, hg⟩
theorem opens_iso {f : β → α} (g : α → β) (hfg : ∀ y, f (g y) = y) (h : Opens P t kd G) : Opens P t (Kd.iso kd f) (fun b => G (f b)) := by
 intro H enc W fuel cs x hx
 obtain ⟨a, ha, hg⟩ := h H enc W fuel cs x hx
 exact ⟨g a, by show kd.K W (f (g a)) cs; rw [hfg]; exact ha, by show G (f (g a)); rw [hfg]; exact hg⟩
theorem agg_of {cs : Array Value} {l : List Value} (h : (Value.agg cs).cells.toList = l) : cs = l.toArray := by
 have h' : cs.toList = l := h
 rw [← h']
end
end Go.Proofs.YtldifdmfefpglaaDoor.Open

/- From the rows' condition on the laid tables of math/bits to the table in the world. -/
namespace Go.Proofs.YtldifdmfefpglaaDoor.Laid
open Go.ChangeShapes Go.WideShapes Go.ChangeAt Go.WideMaps Go.WideElems Go.RowKit Go.Proofs.YtldifdmfefpglaaDoor

abbrev laid2 : List (String × DataW Unit) := [("math/bits.deBruijn32tab", Rows.laid_math_bits_deBruijn32tab), ("math/bits.deBruijn64tab", Rows.laid_math_bits_deBruijn64tab)]
theorem g64 : Tryd.prog.globalNamed "math/bits.deBruijn64tab" = some 1 := by kernel_rfl
theorem t64 : (Tryd.prog.globals[1]?).map (·.type) = some 113 := by kernel_rfl
theorem door_met (os : Os) (args : Array Value) : laidMetH Tryd.prog laid2 ((World.doorLaid Tryd.prog 4000 os).forCall (fun _ _ => 0) ⟨#[], args, []⟩).memory :=
 laidMetH_of_parts3 (fuel := 100) (laidMet_of_run' 100 (by kernel_rfl) (by kernel_rfl)) (by kernel_rfl) (by kernel_rfl)
theorem tabs_of {W : World} (h : laidMetH Tryd.prog laid2 W) : Tab.Tabs W := by
 rw [MakeChecks.laidMetH_plain _ _ _ (by kernel_rfl)] at h
 obtain ⟨ps, ⟨g0, t0, cs0, f0, p0, q0, hg0, ht0, hv0, hd0, ⟨g1, t1, cs1, f1, p1, q1, hg1, ht1, hv1, hd1, _, _⟩, _⟩, _, _⟩ := h
 obtain rfl := Option.some.inj (g64.symm.trans hg1)
 obtain rfl := Option.some.inj (t64.symm.trans ht1)
 obtain ⟨xs, m1, rfl, hx1, hlen, hn3, hel⟩ := DataW.trod_array Tryd.underlying113 hd1
 have hT : (Rows.laid_math_bits_deBruijn64tab : DataW Unit) = DataW.agg (Tab.tab64.map fun n => DataW.lit (.int .u8 n)) := rfl
 rw [hT] at hx1
 simp only [Prod.mk.injEq, DataW.agg.injEq] at hx1
 have c5 : Tryd.prog.cellsOf 5 = 1 := by kernel_rfl
 intro i hi
 have hix : i < xs.length := by omega
 have hlt : i < Tab.tab64.length := by show i < 64; exact hi
 have hi1 := hel i hi
 rw [List.getElem?_eq_getElem hix] at hi1
 obtain ⟨k, e1, e2, _⟩ := DataW.trod_int Tryd.underlying5 hi1
 have hk : (Tab.tab64.map fun n => (DataW.lit (.int .u8 n) : DataW Unit))[i]? = (xs.map fun x => x.1)[i]? := by rw [hx1.1]
 rw [List.getElem?_map, List.getElem?_map, List.getElem?_eq_getElem hix, List.getElem?_eq_getElem hlt, e2] at hk
 have hk2 : Tab.tab64[i] = k := by simpa using hk
 have hc := World.var?_cell hg1 hv1 i
 rw [hc, List.getD_eq_getElem?_getD, List.getElem?_eq_getElem hlt, hk2]
 rw [c5, Nat.mul_one] at e1
 have hd : cs1.toList[i]? = some (.int .u8 k) := by
  have h0 := congrArg (fun l => l[0]?) e1
  simpa [List.getElem?_take, List.getElem?_drop] using h0
 simpa using hd
end Go.Proofs.YtldifdmfefpglaaDoor.Laid

-- Written by wip/xprint.py of this repo, over the kit's print.py: out of the translation; the oracles in it are by hand. Not trusted: Lean checks it.
namespace Go.Proofs.YtldifdmfefpglaaDoor.topOrder
open Go.ChangeShapes Go.WideShapes Go.ChangeAt Go.RowKit Go.Proofs.YtldifdmfefpglaaDoor.Open Go.Proofs.YtldifdmfefpglaaDoor.XFeed Go.Proofs.YtldifdmfefpglaaDoorW.PrintWords Go.Proofs.YtldifdmfefpglaaDoorW.PrintLast Go.Proofs.YtldifdmfefpglaaDoorW.PrintMore
open Go.ChangeMaps (open_string shut_string)
set_option linter.unusedVariables false
set_option linter.unusedSimpArgs false
theorem own : ownKnob Tryd.prog.godebug = none := by kernel_rfl
theorem laidOut : laidOutB Tryd.prog = true := by kernel_rfl
set_option maxRecDepth 100000 in
theorem lifted (os : Os) (started : os.Started) (H : Type) (enc : TypeId × Value → H) :
  ReturnsInHanded {} Tryd.checked os 3 .any (fun w args => (Rows.topOrderSpec.pre enc Tryd.prog Tryd.f3 [] false w args ∧ laidMetH Tryd.prog Laid.laid2 w) ∧ sizedMet enc Tryd.prog Tryd.f3 (OpenSpec.ofChange Rows.topOrderSpec) false w args) (Rows.topOrderSpec.post enc Tryd.prog Tryd.f3 false true false false) := by
 refine returnsInHanded_of_change_and (C := Tryd.checked) (X := fun w _ => laidMetH Tryd.prog Laid.laid2 w) (fun _ _ _ hh h => h.of_heap hh) own started (by kernel_rfl) Tryd.func3
  (ChangeSpec.witness_shaped (enc := enc) (C := Tryd.checked) (os := os) (X := fun w _ => laidMetH Tryd.prog Laid.laid2 w) false (World.doorLaid Tryd.prog 4000 os) #[.agg #[.int .i64 0, .slice none 0 0, .slice none 0 0], .agg #[.int .i64 0, .int .i64 0, .slice none 0 0, .slice none 0 0, .slice none 0 0]] 8 rfl (World.shaped_of_RefB (by kernel_rfl) (by kernel_rfl)) (by kernel_rfl) (by kernel_rfl) (by kernel_rfl) (Laid.door_met os _)) ?_
 intro W base args ds gs before hval0 hW hcnd hsz0 hL _
 have hval : ∀ (j : Nat) t v, Tryd.f3.params[j]? = some t → args[j]? = some v → Value.okWide Tryd.prog W .any base t v := hval0
 have hW' := hW
 obtain ⟨p, q, hA0, hV, rfl, hfz, hnd⟩ := hW
 have hA : DataW.TrodAll enc Tryd.prog W 0 (fun _ => true) true Tryd.f3.params.toList args.toList ds p := hA0
 rw [Tryd.params3] at hA hval
 obtain ⟨v0, vs0, d0, ds0, p0, q0, hargs, rfl, rfl, h0, r0⟩ := trodAll_cons hA
 obtain ⟨v1, vs1, d1, ds1, p1, q1, rfl, rfl, rfl, h1, r1⟩ := trodAll_cons r0
 obtain ⟨rfl, rfl, rfl⟩ := trodAll_nil r1
 obtain rfl : args = #[v0, v1] := by cases args; simp_all
 obtain ⟨rfl, rfl⟩ := trodVars_none hV
 obtain ⟨cs0, rfl, hz0⟩ := okWide_struct Tryd.underlying25 (hval 0 25 v0 rfl rfl)
 have k0 := h0
 have lt0 : ∀ x ∈ p0, x.block < W.heap.size := by obtain ⟨m, hm⟩ := k0; exact DataW.trod_lt m _ _ _ hm
 obtain ⟨fuel0, hf0⟩ := h0
 obtain ⟨⟨u0_0, u0_1, u0_2⟩, hK0, hG0⟩ := (opens_struct Tryd.underlying25 (by kernel_rfl) (opensF_cons rfl (by kernel_rfl) (opens_int Tryd.underlying3) (opensF_cons rfl (by kernel_rfl) (opens_slice Tryd.underlying22 (opens_iso (f := fun x : S47 => (x.f0, x.f1)) (fun p => ⟨p.1, p.2⟩) (fun _ => rfl) (opens_struct Tryd.underlying47 (by kernel_rfl) (opensF_cons rfl (by kernel_rfl) (opens_int Tryd.underlying3) (opensF_one rfl (by kernel_rfl) (opens_int Tryd.underlying3))))) (by kernel_rfl)) (opensF_one rfl (by kernel_rfl) (opens_slice Tryd.underlying23 (opens_iso (f := fun x : S49 => (x.f0, x.f1)) (fun p => ⟨p.1, p.2⟩) (fun _ => rfl) (opens_struct Tryd.underlying49 (by kernel_rfl) (opensF_cons rfl (by kernel_rfl) (opens_int Tryd.underlying3) (opensF_one rfl (by kernel_rfl) (opens_int Tryd.underlying3))))) (by kernel_rfl)))))) H enc W fuel0 _ _ hf0
 obtain ⟨c0_0, r0_0, e0_0, hk0_0, c0_1, r0_1, e0_1, hk0_1, hk0_2⟩ := hK0
 obtain ⟨g0_0, g0_1, g0_2⟩ := hG0
 have hq0_0 := hk0_0
 obtain ⟨A0_1, q0_1, hq0_1, hc0_1, hr0_1⟩ := hk0_1
 obtain ⟨A0_2, q0_2, hq0_2, hc0_2, hr0_2⟩ := hk0_2
 have hq0_0' : c0_0 = _ := hq0_0
 have hq0_1' : c0_1 = _ := hq0_1
 obtain rfl : cs0 = #[.int .i64 u0_0, .slice A0_1 u0_1.length q0_1, .slice A0_2 u0_2.length q0_2] := by
  have h_ := agg_of (l := [.int .i64 u0_0, .slice A0_1 u0_1.length q0_1, .slice A0_2 u0_2.length q0_2]) (cs := cs0) (by rw [e0_0, hq0_0', e0_1, hq0_1', hq0_2]; rfl)
  exact h_
 obtain ⟨cs1, rfl, hz1⟩ := okWide_struct Tryd.underlying28 (hval 1 28 v1 rfl rfl)
 have k1 := h1
 have lt1 : ∀ x ∈ p1, x.block < W.heap.size := by obtain ⟨m, hm⟩ := k1; exact DataW.trod_lt m _ _ _ hm
 obtain ⟨fuel1, hf1⟩ := h1
 obtain ⟨⟨u1_0, u1_1, u1_2, u1_3, u1_4⟩, hK1, hG1⟩ := (opens_struct Tryd.underlying28 (by kernel_rfl) (opensF_cons rfl (by kernel_rfl) (opens_int Tryd.underlying3) (opensF_cons rfl (by kernel_rfl) (opens_int Tryd.underlying3) (opensF_cons rfl (by kernel_rfl) (opens_slice Tryd.underlying26 (opens_int Tryd.underlying3) (by kernel_rfl)) (opensF_cons rfl (by kernel_rfl) (opens_slice Tryd.underlying26 (opens_int Tryd.underlying3) (by kernel_rfl)) (opensF_one rfl (by kernel_rfl) (opens_slice Tryd.underlying26 (opens_int Tryd.underlying3) (by kernel_rfl)))))))) H enc W fuel1 _ _ hf1
 obtain ⟨c1_0, r1_0, e1_0, hk1_0, c1_1, r1_1, e1_1, hk1_1, c1_2, r1_2, e1_2, hk1_2, c1_3, r1_3, e1_3, hk1_3, hk1_4⟩ := hK1
 obtain ⟨g1_0, g1_1, g1_2, g1_3, g1_4⟩ := hG1
 have hq1_0 := hk1_0
 have hq1_1 := hk1_1
 obtain ⟨A1_2, q1_2, hq1_2, hc1_2, hr1_2⟩ := hk1_2
 obtain ⟨A1_3, q1_3, hq1_3, hc1_3, hr1_3⟩ := hk1_3
 obtain ⟨A1_4, q1_4, hq1_4, hc1_4, hr1_4⟩ := hk1_4
 have hq1_0' : c1_0 = _ := hq1_0
 have hq1_1' : c1_1 = _ := hq1_1
 have hq1_2' : c1_2 = _ := hq1_2
 have hq1_3' : c1_3 = _ := hq1_3
 obtain rfl : cs1 = #[.int .i64 u1_0, .int .i64 u1_1, .slice A1_2 u1_2.length q1_2, .slice A1_3 u1_3.length q1_3, .slice A1_4 u1_4.length q1_4] := by
  have h_ := agg_of (l := [.int .i64 u1_0, .int .i64 u1_1, .slice A1_2 u1_2.length q1_2, .slice A1_3 u1_3.length q1_3, .slice A1_4 u1_4.length q1_4]) (cs := cs1) (by rw [e1_0, hq1_0', e1_1, hq1_1', e1_2, hq1_2', e1_3, hq1_3', hq1_4]; rfl)
  exact h_
 clear hA0 hval0 hsz0
 obtain ⟨k, h⟩ := Pure.TopOrder u0_0 u0_1 u0_2 u1_0 u1_1 u1_2 u1_3 u1_4 g0_0 g0_1 g0_2 g1_0 g1_1 g1_2 g1_3 g1_4
 refine (droppertop_TopOrder.calls k u0_0 _ _ u0_1 _ _ u0_2 u1_0 u1_1 _ _ u1_2 _ _ u1_3 _ _ u1_4 true W hr0_1 hc0_1 hr0_2 hc0_2 hr1_2 hc1_2 hr1_3 hc1_3 hr1_4 hc1_4 (Laid.tabs_of hL) h).mono fun e W' ⟨he, bel0⟩ => ?_
 have bel : Below W.heap.size W W' := bel0
 subst he
 exact ⟨_, rfl, _, _, _, [], _, [], hW', trodAll_mk1 (shut_bool Tryd.underlying4 _), (trodAll_cons_mk (Below.trod laidOut (by kernel_rfl) (of_decide_eq_true (by kernel_rfl)) k0 bel lt0) (trodAll_cons_mk (Below.trod laidOut (by kernel_rfl) (of_decide_eq_true (by kernel_rfl)) k1 bel lt1) trodAll_mk0)), rfl, bel.frame _, fun h => by cases h⟩
theorem over : Rows.topOrderRow.holds Tryd.pinned (OpenSpec.ofChange Rows.topOrderSpec) :=
 OpenClaim.holds_of_wide 3 Tryd.f3 rfl rfl rfl rfl rfl rfl rfl ⟨rfl, rfl, rfl, rfl, rfl⟩ rfl rfl rfl rfl rfl (by kernel_rfl) Tryd.func3 (by kernel_rfl)
  (of_decide_eq_true (by kernel_rfl)) (by unfold Func.isWrapper; first | (rw [if_pos (by decide +kernel)]; kernel_rfl) | (rw [if_neg (by decide +kernel)]; exact ⟨rfl, rfl⟩))
  (fun os started H enc _ => lifted os started H enc)
theorem card_holds : Rows.TopOrderCardSaid :=
 Claim7.holds_tied_plain_at .later [] [.data, .data] true (true, "f4c481272acf3cf132a36b03e7898368c7be23d4df9a620cb0d8042a3280c10e") false
  over (fun _ h => by cases h) (by kernel_rfl) (fun _ h => by cases h) topOrder_row_tie rfl ⟨rfl, rfl⟩ (by kernel_rfl) rfl
  (fun f fn hf hfn => by
   obtain rfl : f = 3 := Option.some.inj ((show Tryd.prog.funcNamed "dropper/droppertop.TopOrder" = some 3 by kernel_rfl).symm.trans hf) |>.symm
   obtain rfl : fn = Tryd.f3 := (Option.some.inj (Tryd.func3.symm.trans hfn)).symm
   exact ⟨by kernel_rfl, fun j t ht => by
    rw [Tryd.params3] at ht
    have hall : ∀ t ∈ (#[25, 28] : Array TypeId), Tryd.prog.wantsStandIn t = false := by decide +kernel
    exact hall t (Array.mem_of_getElem? ht)⟩)
  (by kernel_rfl)
#print axioms card_holds
end Go.Proofs.YtldifdmfefpglaaDoor.topOrder
namespace Go.Proofs.YtldifdmfefpglaaDoor
theorem topOrder_holds : Rows.TopOrderCardSaid := topOrder.card_holds
end Go.Proofs.YtldifdmfefpglaaDoor
