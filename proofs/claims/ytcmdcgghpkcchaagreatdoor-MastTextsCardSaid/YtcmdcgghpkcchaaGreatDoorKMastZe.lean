-- Written by wip/pack.py of this repo: texts of this claim, put together.
import Derived.DataReads
import Derived.OpenShut
import Derived.ChangeArms
import Derived.Test.YtcmdcgghpkcchaaGreatDoorRows
import Derived.ProofKit
import Derived.LaidMore
import Derived.Stop.Joined
import Derived.Lib.LaidTab
import Derived.HandedShaped
import Derived.Shelf.Vars
import Derived.ChangeBears2
import Derived.Lay
import Derived.Test.YtcmdcgghpkcchaaGreatDoorKMastZd

/- Which lists are lays, as the program and the reference say it. -/
namespace Go.Proofs.YtcmdcgghpkcchaaGreatDoor.Lay
set_option linter.unusedVariables false
set_option linter.unusedSimpArgs false
open Go.RowKit Go.Proofs.YtcmdcgghpkcchaaGreatDoor.XMast Go.Proofs.YtcmdcgghpkcchaaGreatDoorW.PrintWords Go.Proofs.YtcmdcgghpkcchaaGreatDoorW.PrintLast Go.Proofs.YtcmdcgghpkcchaaGreatDoorW.PrintMore
theorem ev_const {α : Type} {o : Option α} {r : α} (h : o = some r) : Ev (fun _ => o) r := ⟨0, fun _ _ => h⟩
theorem ev_pos {α : Type} {c : Prop} [Decidable c] {a b : Nat → Option α} {r : α} (hc : c) (h : Ev a r) : Ev (fun k => if c then a k else b k) r := Ev.congr (fun k => if_pos hc) h
theorem ev_neg {α : Type} {c : Prop} [Decidable c] {a b : Nat → Option α} {r : α} (hc : ¬ c) (h : Ev b r) : Ev (fun k => if c then a k else b k) r := Ev.congr (fun k => if_neg hc) h
theorem ev_some {α β : Type} {a : α} {f : Nat → α → Option β} {r : β} (h : Ev (fun k => f k a) r) : Ev (fun k => (some a).bind (f k)) r := h
theorem ev_one {α : Type} {g : Nat → Option α} {r s : α} {k : Nat} (hg : ∀ k, LeO (g k) (g (k + 1))) (h : Ev g r) (h' : g k = some s) : s = r := by
 obtain ⟨K, hK⟩ := h
 obtain ⟨K', hK'⟩ := Ev.of hg h'
 have h1 := hK (max K K') (Nat.le_max_left _ _)
 have h2 := hK' (max K K') (Nat.le_max_right _ _)
 exact Option.some.inj (h2.symm.trans h1)
theorem wrap_id {x : Int} (h0 : -9223372036854775808 ≤ x) (h1 : x ≤ 9223372036854775807) : wrap64 x = x := by unfold wrap64; omega
theorem wrap_succ {i n : Nat} (h : i < n) (hn : n ≤ 9223372036854775807) : wrap64 ((i : Int) + 1) = ((i + 1 : Nat) : Int) := by rw [wrap_id] <;> omega
theorem rdSt (l : List St) (i : Nat) (h : i < l.length) : rd_T38 l (i : Int) = l[i] := by simp [rd_T38, List.getD_eq_getElem?_getD, h]
open Classical in
noncomputable def okB (l : List St) : Bool := decide (Norm l ∧ l.length ≤ 60)
theorem okB_iff (l : List St) : okB l = true ↔ Norm l ∧ l.length ≤ 60 := by unfold okB; exact @decide_eq_true_iff _ (_)
theorem okB_no {l : List St} (h : ¬ Norm l) : okB l = false := by rw [Bool.eq_false_iff]; intro h'; exact h ((okB_iff l).1 h').1
open Classical in
theorem okB_len {l : List St} (h : Norm l) : okB l = decide ((l.length : Int) ≤ 60) := by
 rw [Bool.eq_iff_iff, okB_iff, decide_eq_true_iff]
 exact ⟨fun ⟨_, h⟩ => by omega, fun h' => ⟨h, by omega⟩⟩
instance (s : St) : Decidable (isSt s) := inferInstanceAs (Decidable (_ ∧ _))
theorem mst (a b : Int) : mast_isStretch.f a b = some (decide (isSt ⟨a, b⟩)) := by
 unfold mast_isStretch.f mast_isAt.f isSt
 by_cases c1 : a ≥ 0 <;> by_cases c2 : a ≤ 100000 <;> by_cases c3 : b ≥ 0 <;> by_cases c4 : b ≤ 100000 <;> simp [c1, c2, c3, c4]
theorem rst (a b : Int) : dropperref01_isStretch.f a b = some (decide (isSt ⟨a, b⟩)) := by
 unfold dropperref01_isStretch.f dropperref01_isAt.f isSt
 by_cases c1 : a ≥ 0 <;> by_cases c2 : a ≤ 100000 <;> by_cases c3 : b ≥ 0 <;> by_cases c4 : b ≤ 100000 <;> simp [c1, c2, c3, c4]
theorem Norm.at_ {l : List St} (h : Norm l) (i : Nat) (hi : i < l.length) : Lay.isSt l[i] := h.isSt _ (List.getElem_mem hi)
theorem Norm.gap {l : List St} (h : Norm l) (i : Nat) (hi : i + 1 < l.length) : l[i].f1 < l[i + 1].f0 := List.pairwise_iff_getElem.1 h.1 i (i + 1) (by omega) hi (by omega)
theorem norm_step {l : List St} {i : Nat} (hi : i < l.length) (h : Norm (l.take i)) (hs : isSt l[i]) (hg : ∀ h : 0 < i, l[i - 1].f1 < l[i].f0) : Norm (l.take (i + 1)) := by
 rw [List.take_succ_eq_append_getElem hi]
 refine Norm.snoc h (fun u hu => ?_) hs.1 hs.2.2.2.2 hs.2.2.2.1
 rcases Nat.eq_zero_or_pos i with h0 | h0
 ·
  subst h0; simp at hu
 ·
  have h1 := hg h0
  obtain ⟨j, hj, rfl⟩ := List.mem_iff_getElem.1 hu
  simp only [List.length_take] at hj
  rw [List.getElem_take]
  by_cases hji : j = i - 1
  ·
   subst hji; exact h1
  ·
   have h2 := List.pairwise_iff_getElem.1 h.1 j (i - 1) (by simp; omega) (by simp; omega) (by omega)
   rw [List.getElem_take, List.getElem_take] at h2
   have h3 := h.2 l[i - 1] (by rw [List.mem_take_iff_getElem]; exact ⟨i - 1, by omega, rfl⟩)
   omega
theorem mvalid (l : List St) (hl : l.length ≤ 9223372036854775806) : Ev (fun k => mast_Valid.f k l) (okB l) := by
 have H : ∀ (d i : Nat), i + d = l.length → Norm (l.take i) → Ev (fun k => mast_Valid.l0 k l l (l.length : Int) (i : Int)) (okB l) := by
  intro d
  induction d with
  | zero =>
   intro i hi hn
   refine Ev.step (fun k => by rw [mast_Valid.l0]) ?_
   refine ev_neg (by omega) (ev_const ?_)
   rw [List.take_of_length_le (by omega)] at hn
   rw [okB_len hn]
  | succ d ih =>
   intro i hi hn
   have hil : i < l.length := by omega
   refine Ev.step (fun k => by rw [mast_Valid.l0]) ?_
   refine ev_pos (by omega) (ev_pos (by omega) (ev_pos (by omega) ?_))
   rw [rdSt l i hil, mst]
   refine ev_some ?_
   by_cases hs : isSt l[i]
   ·
    refine ev_pos (by simpa using hs) ?_
    have hw := wrap_succ hil (by omega)
    by_cases hi0 : 0 < i
    ·
     have e : wrap64 ((i : Int) - 1) = ((i - 1 : Nat) : Int) := by rw [wrap_id] <;> omega
     rw [e, hw, rdSt l (i - 1) (by omega)]
     refine ev_pos (by omega) (ev_pos (by omega) (ev_pos (by omega) ?_))
     by_cases hg : l[i].f0 ≤ l[i - 1].f1
     ·
      refine ev_pos hg (ev_const ?_)
      rw [okB_no]
      intro h
      have h2 := h.gap (i - 1) (by omega)
      have h3 : l[i - 1 + 1] = l[i] := by congr 1; omega
      rw [h3] at h2
      omega
     ·
      exact ev_neg hg (ih (i + 1) (by omega) (norm_step hil hn hs (fun _ => by omega)))
    ·
     refine ev_neg (by omega) ?_
     rw [hw]
     exact ih (i + 1) (by omega) (norm_step hil hn hs (fun h => absurd h hi0))
   ·
    refine ev_neg (by simpa using hs) (ev_const ?_)
    rw [okB_no]
    intro h
    exact hs (h.at_ i hil)
 exact H l.length 0 (by omega) (by simpa using Norm.nil)
theorem rvalid (l : List St) (hl : l.length ≤ 9223372036854775806) : Ev (fun k => dropperref01_Valid.f k l) (okB l) := by
 have H : ∀ (d i : Nat), i + d = l.length → Norm (l.take i) → Ev (fun k => dropperref01_Valid.l0 k l (i : Int)) (okB l) := by
  intro d
  induction d with
  | zero =>
   intro i hi hn
   refine Ev.step (fun k => by rw [dropperref01_Valid.l0]) ?_
   refine ev_neg (by omega) (ev_const ?_)
   rw [List.take_of_length_le (by omega)] at hn
   rw [okB_len hn]
  | succ d ih =>
   intro i hi hn
   have hil : i < l.length := by omega
   refine Ev.step (fun k => by rw [dropperref01_Valid.l0]) ?_
   refine ev_pos (by omega) (ev_pos (by omega) ?_)
   rw [rdSt l i hil, rst]
   refine ev_some ?_
   by_cases hs : isSt l[i]
   ·
    refine ev_pos (by simpa using hs) ?_
    have hw := wrap_succ hil (by omega)
    by_cases hi0 : 0 < i
    ·
     have e : wrap64 ((i : Int) - 1) = ((i - 1 : Nat) : Int) := by rw [wrap_id] <;> omega
     rw [e, hw, rdSt l (i - 1) (by omega)]
     refine ev_pos (by omega) (ev_pos (by omega) (ev_pos (by omega) ?_))
     by_cases hg : l[i].f0 ≤ l[i - 1].f1
     ·
      refine ev_pos hg (ev_const ?_)
      rw [okB_no]
      intro h
      have h2 := h.gap (i - 1) (by omega)
      have h3 : l[i - 1 + 1] = l[i] := by congr 1; omega
      rw [h3] at h2
      omega
     ·
      exact ev_neg hg (ih (i + 1) (by omega) (norm_step hil hn hs (fun _ => by omega)))
    ·
     refine ev_neg (by omega) ?_
     rw [hw]
     exact ih (i + 1) (by omega) (norm_step hil hn hs (fun h => absurd h hi0))
   ·
    refine ev_neg (by simpa using hs) (ev_const ?_)
    rw [okB_no]
    intro h
    exact hs (h.at_ i hil)
 exact H l.length 0 (by omega) (by simpa using Norm.nil)
theorem mvalid_one {k : Nat} {l : List St} {r : Bool} (hl : l.length ≤ 9223372036854775806) (h : mast_Valid.f k l = some r) : r = okB l := ev_one (mast_Valid.mono l) (mvalid l hl) h
end Go.Proofs.YtcmdcgghpkcchaaGreatDoor.Lay


/- First, the chapter's examples (what it takes of MPlain and MPure, for the seat that does not print the reference). -/
namespace Go.Proofs.YtcmdcgghpkcchaaGreatDoor.Lay
set_option linter.unusedVariables false
set_option linter.unusedSimpArgs false
open Go.RowKit Go.Proofs.YtcmdcgghpkcchaaGreatDoor.XMast Go.Proofs.YtcmdcgghpkcchaaGreatDoorW.PrintWords Go.Proofs.YtcmdcgghpkcchaaGreatDoorW.PrintLast Go.Proofs.YtcmdcgghpkcchaaGreatDoorW.PrintMore
theorem ev_bind1 {α β : Type} {g : Nat → Option α} {f : Nat → α → Option β} {a : α} {r : β} (h : Ev g a) (k : Ev (fun n => f n a) r) : Ev (fun n => (g n).bind (f n)) r := Ev.bind h k
theorem ev_val {α β : Type} {g : Option α} {f : Nat → α → Option β} {a : α} {r : β} (h : g = some a) (k : Ev (fun n => f n a) r) : Ev (fun n => g.bind (f n)) r := by subst h; exact k
def rawOk (l : List St) : Prop := l.length ≤ 200 ∧ ∀ s ∈ l, isSt s
theorem bad_st (x : St) : mast_raw.bad x = !decide (isSt x) := by
 unfold mast_raw.bad
 rw [mst]
 cases decide (isSt x) <;> rfl
theorem mraw (l : List St) : (rawOk l ∧ mast_raw.f l = some 0) ∨ (¬ rawOk l ∧ mast_raw.f l = some 2) := by
 unfold mast_raw.f rawOk
 by_cases h1 : (l.length : Int) > 200
 ·
  exact .inr ⟨fun h => by omega, by rw [if_pos h1]⟩
 ·
  rw [if_neg h1]
  by_cases h2 : l.any mast_raw.bad = true
  ·
   rw [if_pos h2]
   refine .inr ⟨fun h => ?_, rfl⟩
   obtain ⟨x, hx, h3⟩ := List.any_eq_true.1 h2
   rw [bad_st] at h3
   simp [h.2 x hx] at h3
  ·
   rw [if_neg h2]
   refine .inl ⟨⟨by omega, fun s hs => ?_⟩, rfl⟩
   by_cases h3 : isSt s
   ·
    exact h3
   ·
    exact absurd (List.any_eq_true.2 ⟨s, hs, by rw [bad_st]; simp [h3]⟩) h2
theorem Good.perm {ys zs : List Ch} (h : Good ys) (hp : zs.Perm ys) : Good zs := ⟨by rw [hp.length_eq]; exact h.1, fun c hc => h.2 c (hp.mem_iff.1 hc)⟩
theorem good_chg {l : List St} (h : rawOk l) : Good (chg 1 l) := ⟨by rw [chg_length]; have := h.1; omega, fun c hc => chg_mem (.inl rfl) h.2 c hc⟩
def IsLay (Q : Int → Prop) (o : List St) : Prop := Norm o ∧ ∀ x, cov o x ↔ (0 ≤ x ∧ x < 100000 ∧ Q x)
theorem IsLay.same {Q R : Int → Prop} {o o' : List St} (h : IsLay Q o) (h' : IsLay R o') (hq : ∀ x, 0 ≤ x → x < 100000 → (Q x ↔ R x)) : o = o' :=
 Norm.unique h.1 h'.1 fun x => by
  rw [h.2, h'.2]
  constructor
  ·
   rintro ⟨a, b, c⟩; exact ⟨a, b, (hq x a b).1 c⟩
  ·
   rintro ⟨a, b, c⟩; exact ⟨a, b, (hq x a b).2 c⟩
theorem swept_lay (p : Int → Bool) {ys : List Ch} (hg : Good ys) : IsLay (fun x => p (lev ys x) = true) (swept p (srt ys)) := by
 obtain ⟨a, b⟩ := swept_spec p (srt ys) (srt_sorted ys) (hg.perm (srt_perm ys))
 refine ⟨a, fun x => (b x).trans ?_⟩
 rw [lev_perm (srt_perm ys)]
def oftenL (l : List St) (n : Int) : List St := swept (fun lv => decide (n ≤ lv)) (srt (chg 1 l))
theorem often_lay {l : List St} (h : rawOk l) (n : Int) : IsLay (fun x => n ≤ cnt l x) (oftenL l n) := by
 obtain ⟨a, b⟩ := swept_lay (fun lv => decide (n ≤ lv)) (good_chg h)
 refine ⟨a, fun x => (b x).trans ?_⟩
 show (_ ∧ _ ∧ decide (n ≤ lev (chg 1 l) x) = true) ↔ (_ ∧ _ ∧ n ≤ cnt l x)
 rw [lev_chg 1 l x h.2, Int.one_mul, decide_eq_true_iff]
theorem clean_first : mast_Clean.f [⟨5, 9⟩, ⟨0, 5⟩, ⟨20, 30⟩] = some ([⟨0, 9⟩, ⟨20, 30⟩], 0) := by
 have hr : rawOk [⟨5, 9⟩, ⟨0, 5⟩, ⟨20, 30⟩] := ⟨by decide, fun s hs => by
  simp only [List.mem_cons, List.not_mem_nil, or_false] at hs
  rcases hs with rfl | rfl | rfl <;> (unfold isSt; decide)⟩
 have e : oftenL [⟨5, 9⟩, ⟨0, 5⟩, ⟨20, 30⟩] 1 = [⟨0, 9⟩, ⟨20, 30⟩] := by
  refine (often_lay hr 1).same (R := fun x => 1 ≤ cnt [⟨5, 9⟩, ⟨0, 5⟩, ⟨20, 30⟩] x) ⟨?_, fun x => ?_⟩ (fun _ _ _ => Iff.rfl)
  ·
   refine Norm.cons.2 ⟨Norm.cons.2 ⟨Norm.nil, (fun _ h => by cases h), by decide, by decide, by decide⟩, fun u hu => ?_, by decide, by decide, by decide⟩
   rw [List.mem_singleton] at hu
   subst hu
   decide
  ·
   show _ ↔ (_ ∧ _ ∧ 0 < cnt _ x)
   rw [cnt_pos]
   simp only [cov_cons]
   have h := cov_nil x
   constructor
   ·
    rintro (h1 | h1 | h1)
    ·
     refine ⟨by omega, by omega, ?_⟩
     by_cases h2 : x < 5
     ·
      exact .inr (.inl ⟨by omega, by omega⟩)
     ·
      exact .inl ⟨by omega, by omega⟩
    ·
     exact ⟨by omega, by omega, .inr (.inr (.inl h1))⟩
    ·
     exact absurd h1 h
   ·
    rintro ⟨h2, h3, h1 | h1 | h1 | h1⟩
    ·
     exact .inl ⟨by omega, by omega⟩
    ·
     exact .inl ⟨by omega, by omega⟩
    ·
     exact .inr (.inl h1)
    ·
     exact absurd h1 h
 unfold mast_Clean.f mast_Often.f
 rcases mraw [⟨5, 9⟩, ⟨0, 5⟩, ⟨20, 30⟩] with ⟨h, e2⟩ | ⟨h, e2⟩
 ·
  rw [e2]
  show some ((fin (oftenL [⟨5, 9⟩, ⟨0, 5⟩, ⟨20, 30⟩] 1)).1, (fin (oftenL [⟨5, 9⟩, ⟨0, 5⟩, ⟨20, 30⟩] 1)).2) = _
  rw [e]
  rfl
 ·
  exact absurd hr h
theorem first_at : mast_FormatAt.f 12345 = some (⟨#[49, 50, 43, 51, 52, 53]⟩, 0) := by kernel_rfl
theorem first_form : mast_Format.f 10 [⟨0, 9⟩, ⟨20, 30⟩] = some (⟨#[48, 43, 48, 48, 48, 45, 48, 43, 48, 48, 57, 32, 48, 43, 48, 50, 48, 45, 48, 43, 48, 51, 48]⟩, 0) := by kernel_rfl
theorem first_near : mast_Near.f 10 [⟨0, 9⟩, ⟨20, 30⟩] 15 = some (20, 0) := by kernel_rfl
theorem first_ev : Ev (fun k => dropperlaw01_First.f k) true := by
 unfold dropperlaw01_First.f
 refine ev_val first_at (ev_val clean_first (Ev.bind (Ev.of (mast_Format.mono _) first_form) (Ev.bind (Ev.of (mast_Near.mono _ _) first_near) ?_)))
 refine ev_pos rfl (ev_pos rfl (ev_pos rfl (ev_pos rfl (ev_pos ?_ (ev_pos ?_ (Ev.now _))))))
 ·
  exact ByteArray.toList_eq _
 ·
  exact ByteArray.toList_eq _
end Go.Proofs.YtcmdcgghpkcchaaGreatDoor.Lay

namespace Go.Proofs.YtcmdcgghpkcchaaGreatDoor.XMast
open Go.RowKit Go.Proofs.YtcmdcgghpkcchaaGreatDoorW.PrintWords Go.Proofs.YtcmdcgghpkcchaaGreatDoorW.PrintLast Go.Proofs.YtcmdcgghpkcchaaGreatDoorW.PrintMore
attribute [local go_sem] max2_int min2_int max_two min_two max_three min_three max_four min_four   -- for this text's walks alone
set_option linter.unusedVariables false
set_option linter.unusedSimpArgs false
/-! ### dropperref01_ParseAt: function 10 -/
mutual
def dropperref01_ParseAt.l0 : Nat → ByteArray → Int → Int → Option (Int × Int)
 | 0, _, _, _ => none
 | k + 1, x0, x4, x5 => if x5 < (x0.size : Int) then (dropperref01_ParseAt.j1 k x0 x4 x5 (decide (x5 < 8))) else (dropperref01_ParseAt.j1 k x0 x4 x5 false)
def dropperref01_ParseAt.j1 : Nat → ByteArray → Int → Int → Bool → Option (Int × Int)
 | 0, _, _, _, _ => none
 | k + 1, x0, x4, x5, x13 => if x13 = true then (if 0 ≤ x5 then (if x5 < (x0.size : Int) then (if (bt x0 x5) ≥ 48 then (if (bt x0 x5) ≤ 57 then (dropperref01_ParseAt.l0 k x0 (wrap64 ((wrap64 (10 * x4)) + (((bt x0 x5) - 48) % 256))) (wrap64 (x5 + 1))) else (dropperref01_ParseAt.l0 k x0 x4 (wrap64 (x5 + 1)))) else (dropperref01_ParseAt.l0 k x0 x4 (wrap64 (x5 + 1)))) else (none)) else (none)) else ((dropperref01_isAt.f x4).bind fun t149 => (if t149 = true then ((dropperref01_at.f x4).bind fun t150 => (if t150.toList = x0.toList then (some (x4, 0)) else (some (0, 3)))) else (some (0, 3))))
end
def dropperref01_ParseAt.f (k : Nat) (a0 : ByteArray) : Option (Int × Int) := dropperref01_ParseAt.l0 k a0 0 0
set_option maxHeartbeats 8000000 in
set_option maxRecDepth 100000 in
theorem dropperref01_ParseAt.calls (k : Nat) (a0 : ByteArray) (r1 : Int) (r2 : Int) (w : World) (h : dropperref01_ParseAt.f k a0 = some (r1, r2)) :
  Calls Tryz.prog 10 #[.string a0] w fun e w' => e = .returned (.tuple #[.int .i64 r1, .int .i64 r2]) ∧ Drawn0 w w' := by
 have H : (dropperref01_ParseAt.l0 k a0 0 0) = some (r1, r2) := h
 clear h
 have H' := Aside0.mk H
 clear H
 go_enter Tryz.func10, Tryz.ntmps10
 go_wp2
 go_loopg [4, 5] k (fun kq v4 v5 w' => ∃ (x4_1 : Int) (x5_1 : Int), v4 = .int .i64 x4_1 ∧ v5 = .int .i64 x5_1 ∧ Aside0 (dropperref01_ParseAt.l0 kq a0 x4_1 x5_1 = some (r1, r2)) ∧ Aside0 (kq ≤ k) ∧ Drawn0 w w')
 case atStart => exact ⟨(0), (0), rsz, rsz, H', ⟨Nat.le_refl _⟩, drz⟩
 case round =>
  clear H'
  try clear c1
  obtain ⟨x4_1, x5_1, rfl, rfl, HA, HK1, ⟨m1, rfl⟩⟩ := hrel
  cases gk with
  | zero => exact absurd HA.out (by simp [dropperref01_ParseAt.l0])
  | succ k1 =>
   have H := HA.out
   clear HA
   simp only [dropperref01_ParseAt.l0] at H
   have HC2 := Aside0.mk H
   clear H
   go_upto_region 3 with (fail)
   go_cut [13] (fun v13 wc => ∃ (kq : Nat) (x13_1 : Bool), v13 = .bool x13_1 ∧ Aside0 (dropperref01_ParseAt.j1 kq a0 x4_1 x5_1 x13_1 = some (r1, r2)) ∧ Aside0 (kq ≤ k1) ∧ Drawn0 w wc)
   case first =>
    have H := HC2.out
    clear HC2
    by_cases c3 : x5_1 < (a0.size : Int)
    ·
     rw [if_pos c3] at H
     have c3b0 : decide (x5_1 < (a0.size : Int)) = true := decide_eq_true c3
     clear c3
     (first | rw [c3b0] | (simp only [i64_w, i32_w]; rw [c3b0]) | skip)
     have H' := Aside0.mk H
     clear H
     go_wp2
     go_meet
     case rel => exact ⟨_, (decide (x5_1 < 8)), rsz, H', ⟨by have := HK1.out; first | omega | exact Nat.le_refl _⟩, drz⟩
    ·
     rw [if_neg c3] at H
     have c3b0 : decide (x5_1 < (a0.size : Int)) = false := decide_eq_false c3
     clear c3
     (first | rw [c3b0] | (simp only [i64_w, i32_w]; rw [c3b0]) | skip)
     have H' := Aside0.mk H
     clear H
     go_wp2
     go_meet
     case rel => exact ⟨_, (false), rsz, H', ⟨by have := HK1.out; first | omega | exact Nat.le_refl _⟩, drz⟩
   case rest =>
    clear HC2
    (try clear c1); (try clear p2); (try clear c3); (try clear c3b0)
    obtain ⟨kq, x13_1, rfl, HA, HJ1, ⟨mc1, rfl⟩⟩ := hcut
    cases kq with
    | zero => exact absurd HA.out (by simp [dropperref01_ParseAt.j1])
    | succ kj1 =>
     have H := HA.out
     clear HA
     simp only [dropperref01_ParseAt.j1] at H
     by_cases c4 : x13_1 = true
     ·
      subst c4
      rw [if_pos rfl] at H
      by_cases c5 : 0 ≤ x5_1
      ·
       rw [if_pos c5] at H
       have c5b0 : decide (0 ≤ x5_1) = true := decide_eq_true c5
       clear c5
       by_cases c6 : x5_1 < (a0.size : Int)
       ·
        rw [if_pos c6] at H
        have c6b0 : decide (x5_1 < (a0.size : Int)) = true := decide_eq_true c6
        clear c6
        by_cases c8 : (bt a0 x5_1) ≥ 48
        ·
         rw [if_pos c8] at H
         have c8b0 : decide (48 ≤ (bt a0 x5_1)) = true := decide_eq_true c8
         clear c8
         by_cases c10 : (bt a0 x5_1) ≤ 57
         ·
          rw [if_pos c10] at H
          have c10b0 : decide ((bt a0 x5_1) ≤ 57) = true := decide_eq_true c10
          clear c10
          have H' := Aside0.mk H
          clear H
          have p7 : 0 ≤ (x5_1 : Int) := of_decide_eq_true asz
          have q7 : x5_1 < (a0.size : Int) := of_decide_eq_true asz
          have hx7 := bt_at a0 x5_1
          replace p7 := eq_true p7
          replace q7 := eq_true q7
          have p9 : 0 ≤ (x5_1 : Int) := of_decide_eq_true asz
          have q9 : x5_1 < (a0.size : Int) := of_decide_eq_true asz
          have hx9 := bt_at a0 x5_1
          replace p9 := eq_true p9
          replace q9 := eq_true q9
          have p11 : 0 ≤ (x5_1 : Int) := of_decide_eq_true asz
          have q11 : x5_1 < (a0.size : Int) := of_decide_eq_true asz
          have hx11 := bt_at a0 x5_1
          replace p11 := eq_true p11
          replace q11 := eq_true q11
          go_wp2
          go_roundg kj1
          case measure => have := HK1.out; have := HJ1.out; omega
          case rel => exact ⟨(wrap64 ((wrap64 (10 * x4_1)) + (((bt a0 x5_1) - 48) % 256))), (wrap64 (x5_1 + 1)), rsz, rsz, H', ⟨by have := HK1.out; have := HJ1.out; omega⟩, drz⟩
         ·
          rw [if_neg c10] at H
          have c10b0 : decide ((bt a0 x5_1) ≤ 57) = false := decide_eq_false c10
          clear c10
          have H' := Aside0.mk H
          clear H
          have p7 : 0 ≤ (x5_1 : Int) := of_decide_eq_true asz
          have q7 : x5_1 < (a0.size : Int) := of_decide_eq_true asz
          have hx7 := bt_at a0 x5_1
          replace p7 := eq_true p7
          replace q7 := eq_true q7
          have p9 : 0 ≤ (x5_1 : Int) := of_decide_eq_true asz
          have q9 : x5_1 < (a0.size : Int) := of_decide_eq_true asz
          have hx9 := bt_at a0 x5_1
          replace p9 := eq_true p9
          replace q9 := eq_true q9
          go_wp2
          go_roundg kj1
          case measure => have := HK1.out; have := HJ1.out; omega
          case rel => exact ⟨(x4_1), (wrap64 (x5_1 + 1)), rsz, rsz, H', ⟨by have := HK1.out; have := HJ1.out; omega⟩, drz⟩
        ·
         rw [if_neg c8] at H
         have c8b0 : decide (48 ≤ (bt a0 x5_1)) = false := decide_eq_false c8
         clear c8
         have H' := Aside0.mk H
         clear H
         have p7 : 0 ≤ (x5_1 : Int) := of_decide_eq_true asz
         have q7 : x5_1 < (a0.size : Int) := of_decide_eq_true asz
         have hx7 := bt_at a0 x5_1
         replace p7 := eq_true p7
         replace q7 := eq_true q7
         go_wp2
         go_roundg kj1
         case measure => have := HK1.out; have := HJ1.out; omega
         case rel => exact ⟨(x4_1), (wrap64 (x5_1 + 1)), rsz, rsz, H', ⟨by have := HK1.out; have := HJ1.out; omega⟩, drz⟩
       ·
        rw [if_neg c6] at H
        exact absurd H (by simp)
      ·
       rw [if_neg c5] at H
       exact absurd H (by simp)
     ·
      replace c4 := Bool.eq_false_iff.mpr c4
      subst c4
      rw [if_neg (show ¬ (false = true) by decide)] at H
      replace H := Option.bind_eq_some_iff.mp H
      obtain ⟨t149, A120, H⟩ := H
      try dsimp only at H
      have A12 := Aside0.mk A120
      clear A120
      by_cases c13 : t149 = true
      ·
       subst c13
       rw [if_pos rfl] at H
       replace H := Option.bind_eq_some_iff.mp H
       obtain ⟨t150, A140, H⟩ := H
       try dsimp only at H
       have A14 := Aside0.mk A140
       clear A140
       by_cases c15 : t150.toList = a0.toList
       ·
        rw [if_pos c15] at H
        have c15b0 : (t150.toList == a0.toList) = true := beq_iff_eq.mpr c15
        have c15b1 : (t150.toList != a0.toList) = false := bne_eq_false_iff_eq.mpr c15
        clear c15
        simp only [Option.some.injEq, Prod.mk.injEq] at H
        obtain ⟨rfl, rfl⟩ := H
        go_wp2_with (first | ((with_reducible refine gate_callee (f := 23) rfl ?_); refine goesL_ (some 35) rfl rfl Tryz.func23 (by kernel_rfl) rfl #[.int .i64 x4_1] rfl mapz ?_; (with_reducible refine (dropperref01_isAt.calls x4_1 true _ A12.out).mono ?_); rintro e w' ⟨rfl, ⟨nd, rfl⟩⟩; refine ⟨_, rfl, ?_⟩) | (go_at_call 24; (with_reducible refine (dropperref01_at.calls x4_1 t150 _ A14.out).mono ?_); rintro e w' ⟨rfl, ⟨nd, rfl⟩⟩))
        go_ret2
        exact ⟨by first | rfl | (simp; done) | (simp [*]; done), drz⟩
       ·
        rw [if_neg c15] at H
        have c15b0 : (t150.toList == a0.toList) = false := beq_eq_false_iff_ne.mpr c15
        have c15b1 : (t150.toList != a0.toList) = true := bne_iff_ne.mpr c15
        simp only [Option.some.injEq, Prod.mk.injEq] at H
        obtain ⟨rfl, rfl⟩ := H
        go_wp2_with (first | ((with_reducible refine gate_callee (f := 23) rfl ?_); refine goesL_ (some 35) rfl rfl Tryz.func23 (by kernel_rfl) rfl #[.int .i64 x4_1] rfl mapz ?_; (with_reducible refine (dropperref01_isAt.calls x4_1 true _ A12.out).mono ?_); rintro e w' ⟨rfl, ⟨nd, rfl⟩⟩; refine ⟨_, rfl, ?_⟩) | (go_at_call 24; (with_reducible refine (dropperref01_at.calls x4_1 t150 _ A14.out).mono ?_); rintro e w' ⟨rfl, ⟨nd, rfl⟩⟩))
        go_ret2
        exact ⟨by first | rfl | (simp; done) | (simp [*]; done), drz⟩
      ·
       replace c13 := Bool.eq_false_iff.mpr c13
       subst c13
       rw [if_neg (show ¬ (false = true) by decide)] at H
       simp only [Option.some.injEq, Prod.mk.injEq] at H
       obtain ⟨rfl, rfl⟩ := H
       go_wp2_with (first | ((with_reducible refine gate_callee (f := 23) rfl ?_); refine goesL_ (some 35) rfl rfl Tryz.func23 (by kernel_rfl) rfl #[.int .i64 x4_1] rfl mapz ?_; (with_reducible refine (dropperref01_isAt.calls x4_1 false _ A12.out).mono ?_); rintro e w' ⟨rfl, ⟨nd, rfl⟩⟩; refine ⟨_, rfl, ?_⟩))
       go_ret2
       exact ⟨by first | rfl | (simp; done) | (simp [*]; done), drz⟩

/-! ### dropperref01_Parse: function 18 -/
mutual
def dropperref01_Parse.l0 : Nat → ByteArray → List (S38) → Int → Option ((List (S38)) × Int)
 | 0, _, _, _ => none
 | k + 1, x0, x4, x5 => if x5 < (x0.size : Int) then (dropperref01_Parse.j1 k x0 x4 x5 (decide ((x4.length : Int) ≤ 60))) else (dropperref01_Parse.j1 k x0 x4 x5 false)
def dropperref01_Parse.j1 : Nat → ByteArray → List (S38) → Int → Bool → Option ((List (S38)) × Int)
 | 0, _, _, _, _ => none
 | k + 1, x0, x4, x5, x20 => if x20 = true then (dropperref01_Parse.l1 k x0 x4 x5 x5 x5) else ((dropperref01_Valid.f k x4).bind fun t202 => (if t202 = true then ((dropperref01_text.f k x4).bind fun t203 => (if t203.toList = x0.toList then (some (x4, 0)) else (some (([] : List (S38)), 3)))) else (some (([] : List (S38)), 3))))
def dropperref01_Parse.l1 : Nat → ByteArray → List (S38) → Int → Int → Int → Option ((List (S38)) × Int)
 | 0, _, _, _, _, _ => none
 | k + 1, x0, x4, x5, x6, x7 => if x6 < (x0.size : Int) then (if 0 ≤ x6 then (dropperref01_Parse.j3 k x0 x4 x5 x6 x7 ((bt x0 x6) != 32)) else (none)) else (dropperref01_Parse.j3 k x0 x4 x5 x6 x7 false)
def dropperref01_Parse.j3 : Nat → ByteArray → List (S38) → Int → Int → Int → Bool → Option ((List (S38)) × Int)
 | 0, _, _, _, _, _, _ => none
 | k + 1, x0, x4, x5, x6, x7, x32 => if x32 = true then (if 0 ≤ x6 then (if x6 < (x0.size : Int) then (if (bt x0 x6) = 45 then (dropperref01_Parse.l1 k x0 x4 x5 (wrap64 (x6 + 1)) x6) else (dropperref01_Parse.l1 k x0 x4 x5 (wrap64 (x6 + 1)) x7)) else (none)) else (none)) else (if x7 = x5 then (some (([] : List (S38)), 3)) else (if 0 ≤ x5 then (if x5 ≤ x7 then (if x7 ≤ (x0.size : Int) then ((dropperref01_ParseAt.f k (x0.extract (x5 : Int).toNat (x7 : Int).toNat)).bind fun bt195 => (if 0 ≤ (wrap64 (x7 + 1)) then (if (wrap64 (x7 + 1)) ≤ x6 then (if x6 ≤ (x0.size : Int) then ((dropperref01_ParseAt.f k (x0.extract ((wrap64 (x7 + 1)) : Int).toNat (x6 : Int).toNat)).bind fun bt197 => (if bt195.2 = 0 then (if bt197.2 = 0 then (if x4.length < 8796093022208 then (dropperref01_Parse.l0 k x0 (x4 ++ [(⟨bt195.1, bt197.1⟩ : S38)]) (wrap64 (x6 + 1))) else (none)) else (some (([] : List (S38)), 3))) else (some (([] : List (S38)), 3)))) else (none)) else (none)) else (none))) else (none)) else (none)) else (none)))
end
def dropperref01_Parse.f (k : Nat) (a0 : ByteArray) : Option ((List (S38)) × Int) := dropperref01_Parse.l0 k a0 ([] : List (S38)) 0
set_option maxHeartbeats 8000000 in
set_option maxRecDepth 100000 in
theorem dropperref01_Parse.calls (k : Nat) (a0 : ByteArray) (r1 : List (S38)) (r2 : Int) (w : World) (h : dropperref01_Parse.f k a0 = some (r1, r2)) :
  Calls Tryz.prog 18 #[.string a0] w fun e w' => ∃ v0_ : Value, e = .returned (.tuple #[v0_, .int .i64 r2]) ∧ Kd.R k38 38 w' w.heap.size (fun _ => True) v0_ r1 ∧ Below w.heap.size w w' := by
 have hu38 := Tryz.underlying38
 have HB := Aside0.mk (Below.refl w.heap.size w)
 have H : (dropperref01_Parse.l0 k a0 ([] : List (S38)) 0) = some (r1, r2) := h
 clear h
 have H' := Aside0.mk H
 clear H
 go_enter Tryz.func18, Tryz.ntmps18
 go_wp2
 go_loopg [4, 5] k (fun kq v4 v5 w' => ∃ (x4_1 : List (S38)) (x5_1 : Int), v5 = .int .i64 x5_1 ∧ Aside0 (dropperref01_Parse.l0 kq a0 x4_1 x5_1 = some (r1, r2)) ∧ Aside0 (kq ≤ k) ∧ Aside0 (Kd.R k38 38 w' w.heap.size (fun _ => True) v4 x4_1) ∧ Aside0 (Below w.heap.size w w'))
 case atStart => exact ⟨(([] : List (S38))), (0), rsz, H', ⟨Nat.le_refl _⟩, ⟨by first | exact Kd.R_nil _ _ _ _ _ | exact Kd.N_nil _ _ _ _ _ | exact Kd.V_nil _ _ _ _ _ | exact Kd.Q_nil _ _ _ _ _ | exact Kd.S_nil _ _ _ _ _⟩, ⟨bel⟩⟩
 case round =>
  clear H'
  try clear c1
  obtain ⟨x4_1, x5_1, rfl, HA, HK1, HO_4, HB⟩ := hrel
  cases gk with
  | zero => exact absurd HA.out (by simp [dropperref01_Parse.l0])
  | succ k1 =>
   have H := HA.out
   clear HA
   simp only [dropperref01_Parse.l0] at H
   have HC2 := Aside0.mk H
   clear H
   go_upto_region 3 with (fail)
   go_cut [20] (fun v20 wc => ∃ (kq : Nat) (x20_1 : Bool), v20 = .bool x20_1 ∧ Aside0 (dropperref01_Parse.j1 kq a0 x4_1 x5_1 x20_1 = some (r1, r2)) ∧ Aside0 (kq ≤ k1) ∧ Aside0 (Kd.R k38 38 wc w.heap.size (fun _ => True) u4 x4_1) ∧ Aside0 (Below w.heap.size w wc))
   case first =>
    have H := HC2.out
    clear HC2
    by_cases c3 : x5_1 < (a0.size : Int)
    ·
     rw [if_pos c3] at H
     have c3b0 : decide (x5_1 < (a0.size : Int)) = true := decide_eq_true c3
     clear c3
     (first | rw [c3b0] | (simp only [i64_w, i32_w]; rw [c3b0]) | skip)
     have H' := Aside0.mk H
     clear H
     obtain ⟨Ao4, co4, eo4⟩ := Kd.R_slice HO_4.out
     subst eo4
     go_wp2
     go_meet
     case rel => exact ⟨_, (decide ((x4_1.length : Int) ≤ 60)), rsz, H', ⟨by have := HK1.out; first | omega | exact Nat.le_refl _⟩, ⟨by (with_reducible repeat (first | apply Kd.R_alloc | apply Kd.R_drewN | apply Kd.R_drew)); exact HO_4.out⟩, ⟨bel⟩⟩
    ·
     rw [if_neg c3] at H
     have c3b0 : decide (x5_1 < (a0.size : Int)) = false := decide_eq_false c3
     clear c3
     (first | rw [c3b0] | (simp only [i64_w, i32_w]; rw [c3b0]) | skip)
     have H' := Aside0.mk H
     clear H
     go_wp2
     go_meet
     case rel => exact ⟨_, (false), rsz, H', ⟨by have := HK1.out; first | omega | exact Nat.le_refl _⟩, ⟨by (with_reducible repeat (first | apply Kd.R_alloc | apply Kd.R_drewN | apply Kd.R_drew)); exact HO_4.out⟩, ⟨bel⟩⟩
   case rest =>
    clear HC2
    (try clear c1); (try clear p2); (try clear c3); (try clear c3b0)
    obtain ⟨kq, x20_1, rfl, HA, HJ1, HO_4, HB⟩ := hcut
    cases kq with
    | zero => exact absurd HA.out (by simp [dropperref01_Parse.j1])
    | succ kj1 =>
     have H := HA.out
     clear HA
     simp only [dropperref01_Parse.j1] at H
     by_cases c5 : x20_1 = true
     ·
      subst c5
      rw [if_pos rfl] at H
      have H' := Aside0.mk H
      clear H
      go_wp2
      go_loopg [6, 7] kj1 (fun kq v6 v7 w' => ∃ (x6_3 : Int) (x7_3 : Int), v6 = .int .i64 x6_3 ∧ v7 = .int .i64 x7_3 ∧ Aside0 (dropperref01_Parse.l1 kq a0 x4_1 x5_1 x6_3 x7_3 = some (r1, r2)) ∧ Aside0 (kq ≤ kj1) ∧ Aside0 (Kd.R k38 38 w' w.heap.size (fun _ => True) u4 x4_1) ∧ Aside0 (Below w.heap.size w w'))
      case atStart => exact ⟨(x5_1), (x5_1), rsz, rsz, H', ⟨Nat.le_refl _⟩, ⟨by (with_reducible repeat (first | apply Kd.R_alloc | apply Kd.R_drewN | apply Kd.R_drew)); exact HO_4.out⟩, ⟨bel⟩⟩
      case round =>
       clear H'
       (try clear c1); (try clear p2); (try clear c3); (try clear c3b0); (try clear c5); (try clear p2)
       obtain ⟨x6_3, x7_3, rfl, rfl, HA, HK3, HO_4, HB⟩ := hrel
       cases gk with
       | zero => exact absurd HA.out (by simp [dropperref01_Parse.l1])
       | succ k3 =>
        have H := HA.out
        clear HA
        simp only [dropperref01_Parse.l1] at H
        have HC6 := Aside0.mk H
        clear H
        go_upto_region 5 with (fail)
        go_cut [32] (fun v32 wc => ∃ (kq : Nat) (x32_5 : Bool), v32 = .bool x32_5 ∧ Aside0 (dropperref01_Parse.j3 kq a0 x4_1 x5_1 x6_3 x7_3 x32_5 = some (r1, r2)) ∧ Aside0 (kq ≤ k3) ∧ Aside0 (Kd.R k38 38 wc w.heap.size (fun _ => True) u4 x4_1) ∧ Aside0 (Below w.heap.size w wc))
        case first =>
         have H := HC6.out
         clear HC6
         by_cases c7 : x6_3 < (a0.size : Int)
         ·
          rw [if_pos c7] at H
          have c7b0 : decide (x6_3 < (a0.size : Int)) = true := decide_eq_true c7
          clear c7
          (first | rw [c7b0] | (simp only [i64_w, i32_w]; rw [c7b0]) | skip)
          by_cases c8 : 0 ≤ x6_3
          ·
           rw [if_pos c8] at H
           have c8b0 : decide (0 ≤ x6_3) = true := decide_eq_true c8
           clear c8
           have H' := Aside0.mk H
           clear H
           have p9 : 0 ≤ (x6_3 : Int) := of_decide_eq_true asz
           have q9 : x6_3 < (a0.size : Int) := of_decide_eq_true asz
           have hx9 := bt_at a0 x6_3
           replace p9 := eq_true p9
           replace q9 := eq_true q9
           go_wp2
           go_meet
           case rel => exact ⟨_, (((bt a0 x6_3) != 32)), rsz, H', ⟨by have := HK1.out; have := HJ1.out; have := HK3.out; first | omega | exact Nat.le_refl _⟩, ⟨by (with_reducible repeat (first | apply Kd.R_alloc | apply Kd.R_drewN | apply Kd.R_drew)); exact HO_4.out⟩, ⟨bel⟩⟩
          ·
           rw [if_neg c8] at H
           exact absurd H (by simp)
         ·
          rw [if_neg c7] at H
          have c7b0 : decide (x6_3 < (a0.size : Int)) = false := decide_eq_false c7
          clear c7
          (first | rw [c7b0] | (simp only [i64_w, i32_w]; rw [c7b0]) | skip)
          have H' := Aside0.mk H
          clear H
          go_wp2
          go_meet
          case rel => exact ⟨_, (false), rsz, H', ⟨by have := HK1.out; have := HJ1.out; have := HK3.out; first | omega | exact Nat.le_refl _⟩, ⟨by (with_reducible repeat (first | apply Kd.R_alloc | apply Kd.R_drewN | apply Kd.R_drew)); exact HO_4.out⟩, ⟨bel⟩⟩
        case rest =>
         clear HC6
         (try clear c1); (try clear p2); (try clear c3); (try clear c3b0); (try clear c5); (try clear c7); (try clear c7b0); (try clear c8); (try clear c8b0); (try clear p9); (try clear q9); (try clear hx9); (try clear p2); (try clear p9); (try clear q9)
         obtain ⟨kq, x32_5, rfl, HA, HJ5, HO_4, HB⟩ := hcut
         cases kq with
         | zero => exact absurd HA.out (by simp [dropperref01_Parse.j3])
         | succ kj5 =>
          have H := HA.out
          clear HA
          simp only [dropperref01_Parse.j3] at H
          by_cases c10 : x32_5 = true
          ·
           subst c10
           rw [if_pos rfl] at H
           by_cases c11 : 0 ≤ x6_3
           ·
            rw [if_pos c11] at H
            have c11b0 : decide (0 ≤ x6_3) = true := decide_eq_true c11
            clear c11
            by_cases c12 : x6_3 < (a0.size : Int)
            ·
             rw [if_pos c12] at H
             have c12b0 : decide (x6_3 < (a0.size : Int)) = true := decide_eq_true c12
             clear c12
             by_cases c14 : (bt a0 x6_3) = 45
             ·
              rw [if_pos c14] at H
              have c14b0 : ((bt a0 x6_3) == 45) = true := beq_iff_eq.mpr c14
              have c14b1 : ((bt a0 x6_3) != 45) = false := bne_eq_false_iff_eq.mpr c14
              clear c14
              have H' := Aside0.mk H
              clear H
              have p13 : 0 ≤ (x6_3 : Int) := of_decide_eq_true asz
              have q13 : x6_3 < (a0.size : Int) := of_decide_eq_true asz
              have hx13 := bt_at a0 x6_3
              replace p13 := eq_true p13
              replace q13 := eq_true q13
              go_wp2
              go_roundg kj5
              case measure => have := HK1.out; have := HJ1.out; have := HK3.out; have := HJ5.out; omega
              case rel => exact ⟨(wrap64 (x6_3 + 1)), (x6_3), rsz, rsz, H', ⟨by have := HK1.out; have := HJ1.out; have := HK3.out; have := HJ5.out; omega⟩, ⟨by (with_reducible repeat (first | apply Kd.R_alloc | apply Kd.R_drewN | apply Kd.R_drew)); exact HO_4.out⟩, ⟨bel⟩⟩
             ·
              rw [if_neg c14] at H
              have c14b0 : ((bt a0 x6_3) == 45) = false := beq_eq_false_iff_ne.mpr c14
              have c14b1 : ((bt a0 x6_3) != 45) = true := bne_iff_ne.mpr c14
              have H' := Aside0.mk H
              clear H
              have p13 : 0 ≤ (x6_3 : Int) := of_decide_eq_true asz
              have q13 : x6_3 < (a0.size : Int) := of_decide_eq_true asz
              have hx13 := bt_at a0 x6_3
              replace p13 := eq_true p13
              replace q13 := eq_true q13
              go_wp2
              go_roundg kj5
              case measure => have := HK1.out; have := HJ1.out; have := HK3.out; have := HJ5.out; omega
              case rel => exact ⟨(wrap64 (x6_3 + 1)), (x7_3), rsz, rsz, H', ⟨by have := HK1.out; have := HJ1.out; have := HK3.out; have := HJ5.out; omega⟩, ⟨by (with_reducible repeat (first | apply Kd.R_alloc | apply Kd.R_drewN | apply Kd.R_drew)); exact HO_4.out⟩, ⟨bel⟩⟩
            ·
             rw [if_neg c12] at H
             exact absurd H (by simp)
           ·
            rw [if_neg c11] at H
            exact absurd H (by simp)
          ·
           replace c10 := Bool.eq_false_iff.mpr c10
           subst c10
           rw [if_neg (show ¬ (false = true) by decide)] at H
           by_cases c15 : x7_3 = x5_1
           ·
            rw [if_pos c15] at H
            have c15b0 : (x7_3 == x5_1) = true := beq_iff_eq.mpr c15
            have c15b1 : (x7_3 != x5_1) = false := bne_eq_false_iff_eq.mpr c15
            clear c15
            simp only [Option.some.injEq, Prod.mk.injEq] at H
            obtain ⟨rfl, rfl⟩ := H
            go_wp2
            go_ret2
            exact ⟨_, ezz, by first | exact Kd.R_nil _ _ _ _ _ | exact Kd.N_nil _ _ _ _ _ | exact Kd.V_nil _ _ _ _ _ | exact Kd.Q_nil _ _ _ _ _ | exact Kd.S_nil _ _ _ _ _, bel⟩
           ·
            rw [if_neg c15] at H
            have c15b0 : (x7_3 == x5_1) = false := beq_eq_false_iff_ne.mpr c15
            have c15b1 : (x7_3 != x5_1) = true := bne_iff_ne.mpr c15
            by_cases c16 : 0 ≤ x5_1
            ·
             rw [if_pos c16] at H
             have c16b0 := eq_true c16
             have c16b1 : decide (0 ≤ x5_1) = true := decide_eq_true c16
             clear c16
             by_cases c17 : x5_1 ≤ x7_3
             ·
              rw [if_pos c17] at H
              have c17b0 := eq_true c17
              have c17b1 : decide (x5_1 ≤ x7_3) = true := decide_eq_true c17
              clear c17
              by_cases c18 : x7_3 ≤ (a0.size : Int)
              ·
               rw [if_pos c18] at H
               have c18b0 := eq_true c18
               have c18b1 : decide (x7_3 ≤ (a0.size : Int)) = true := decide_eq_true c18
               clear c18
               replace H := Option.bind_eq_some_iff.mp H
               obtain ⟨⟨t195, t196⟩, A190, H⟩ := H
               try dsimp only at H
               have A19 := Aside0.mk A190
               clear A190
               obtain ⟨ji20, hji20⟩ : ∃ j_ : Int, (wrap64 (x7_3 + 1)) = j_ := ⟨_, rfl⟩
               replace H : (if 0 ≤ (ji20) then (if (ji20) ≤ x6_3 then (if x6_3 ≤ (a0.size : Int) then ((dropperref01_ParseAt.f kj5 (a0.extract ((ji20) : Int).toNat (x6_3 : Int).toNat)).bind fun bt197 => (if t196 = 0 then (if bt197.2 = 0 then (if x4_1.length < 8796093022208 then (dropperref01_Parse.l0 kj5 a0 (x4_1 ++ [(⟨t195, bt197.1⟩ : S38)]) (wrap64 (x6_3 + 1))) else (none)) else (some (([] : List (S38)), 3))) else (some (([] : List (S38)), 3)))) else (none)) else (none)) else (none)) = some (r1, r2) := by first | (rw [hji20] at H; exact H) | (simp only [hji20] at H ⊢; exact H)
               (try rw [hji20] at A19)
               have hji20w : (IntKind.i64.wrap (x7_3 + 1)) = ji20 := (i64_w _).trans hji20
               by_cases c21 : 0 ≤ (ji20)
               ·
                rw [if_pos c21] at H
                have c21b0 := eq_true c21
                have c21b1 : decide (0 ≤ (ji20)) = true := decide_eq_true c21
                clear c21
                by_cases c22 : (ji20) ≤ x6_3
                ·
                 rw [if_pos c22] at H
                 have c22b0 := eq_true c22
                 have c22b1 : decide ((ji20) ≤ x6_3) = true := decide_eq_true c22
                 clear c22
                 by_cases c23 : x6_3 ≤ (a0.size : Int)
                 ·
                  rw [if_pos c23] at H
                  have c23b0 := eq_true c23
                  have c23b1 : decide (x6_3 ≤ (a0.size : Int)) = true := decide_eq_true c23
                  clear c23
                  replace H := Option.bind_eq_some_iff.mp H
                  obtain ⟨⟨t197, t198⟩, A240, H⟩ := H
                  try dsimp only at H
                  have A24 := Aside0.mk A240
                  clear A240
                  by_cases c25 : t196 = 0
                  ·
                   rw [if_pos c25] at H
                   have c25b0 : (t196 == 0) = true := beq_iff_eq.mpr c25
                   have c25b1 : (t196 != 0) = false := bne_eq_false_iff_eq.mpr c25
                   clear c25
                   by_cases c26 : t198 = 0
                   ·
                    rw [if_pos c26] at H
                    have c26b0 : (t198 == 0) = true := beq_iff_eq.mpr c26
                    have c26b1 : (t198 != 0) = false := bne_eq_false_iff_eq.mpr c26
                    clear c26
                    by_cases c27 : x4_1.length < 8796093022208
                    ·
                     rw [if_pos c27] at H
                     have LMc27 := Aside0.mk c27
                     clear c27
                     obtain ⟨y199, hy199⟩ : ∃ y_ : List (S38), y_ = (x4_1 ++ [(⟨t195, t197⟩ : S38)]) := ⟨_, rfl⟩
                     replace H : (dropperref01_Parse.l0 kj5 a0 y199 (wrap64 (x6_3 + 1))) = some (r1, r2) := by first | (rw [hy199]; with_reducible exact H) | (have H2_ := (Option.bind_some _ _).symm.trans H; rw [hy199]; with_reducible exact H2_) | (have H2_ := (Option.bind_some _ _).symm.trans H; with_reducible exact H2_) | with_reducible exact H | (rw [hy199]; exact H) | exact H
                     have Ny199 := Aside0.mk hy199
                     clear hy199
                     have H' := Aside0.mk H
                     clear H
                     go_wp2_with (first | ((with_reducible refine gate_callee (f := 10) rfl ?_); refine goesL_ (some 48) rfl rfl Tryz.func10 (by kernel_rfl) rfl #[.string (a0.extract (x5_1 : Int).toNat (x7_3 : Int).toNat)] rfl mapz ?_; (with_reducible refine (dropperref01_ParseAt.calls kj5 (a0.extract (x5_1 : Int).toNat (x7_3 : Int).toNat) t195 t196 _ A19.out).mono ?_); rintro e w' ⟨rfl, ⟨nd, rfl⟩⟩; refine ⟨_, rfl, ?_⟩) | ((with_reducible refine gate_callee (f := 10) rfl ?_); refine goesL_ (some 57) rfl rfl Tryz.func10 (by kernel_rfl) rfl #[.string (a0.extract ((ji20) : Int).toNat (x6_3 : Int).toNat)] rfl (by (try simp only [List.map_toArray, List.map_cons, List.map_nil]); first | done | (simp only [hji20]; rfl) | rfl | (simp only [List.length_drop, List.length_take]; rfl)) ?_; (with_reducible refine (dropperref01_ParseAt.calls kj5 (a0.extract ((ji20) : Int).toNat (x6_3 : Int).toNat) t197 t198 _ A24.out).mono ?_); rintro e w' ⟨rfl, ⟨nd, rfl⟩⟩; refine ⟨_, rfl, ?_⟩) | ((with_reducible refine gate_builtin (b := .append) (xs := #[.tmp 66, .tmp 70]) rfl ?_); (try (refine gate_guard (by rfl) ?_; dsimp only)); at_builtin; refine Kd.R_append k38 (w0 := w) w.heap.size rfl (.tmp 66) (.tmp 70) 29 38 (.agg #[(.int .i64 0), (.int .i64 0)]) 16 rfl Tryz.underlying29 info38 rfl (by decide) (by omega) u4 x4_1 (⟨t195, t197⟩ : S38) [.int .i64 t195, .int .i64 t197] (fun _ => True) (fun _ => False) rfl rfl ?aP (fun _ hk => hk.elim) ?aF ?aO ?aB ?aS ?aL ?_; (case aP => exact k38_mkM _ _ _ (⟨t195, t197⟩ : S38)); (case aB => exact bel); (case aF => exact (fun _ _ => trivial)); (case aO => exact (ownx HO_4)); (case aS => exact (below_size bel)); (case aL => have := LMc27.out; omega); intro v200 w28 ho hb hg hat; rw [← Ny199.out] at ho; have n0_ := Aside0.mk (hb); have n1_ := Aside0.mk (ho); clear HB; clear HO_4; have HB := n0_; have HO201 := n1_; clear n0_ n1_; clear ho hb hg hat))
                     go_roundg kj5
                     case measure => have := HK1.out; have := HJ1.out; have := HK3.out; have := HJ5.out; omega
                     case rel => exact ⟨(y199), (wrap64 (x6_3 + 1)), rsz, H', ⟨by have := HK1.out; have := HJ1.out; have := HK3.out; have := HJ5.out; omega⟩, ⟨by (with_reducible repeat (first | apply Kd.R_alloc | apply Kd.R_drewN | apply Kd.R_drew)); exact HO201.out⟩, ⟨bel⟩⟩
                    ·
                     rw [if_neg c27] at H
                     exact absurd H (by simp)
                   ·
                    rw [if_neg c26] at H
                    have c26b0 : (t198 == 0) = false := beq_eq_false_iff_ne.mpr c26
                    have c26b1 : (t198 != 0) = true := bne_iff_ne.mpr c26
                    simp only [Option.some.injEq, Prod.mk.injEq] at H
                    obtain ⟨rfl, rfl⟩ := H
                    go_wp2_with (first | ((with_reducible refine gate_callee (f := 10) rfl ?_); refine goesL_ (some 48) rfl rfl Tryz.func10 (by kernel_rfl) rfl #[.string (a0.extract (x5_1 : Int).toNat (x7_3 : Int).toNat)] rfl mapz ?_; (with_reducible refine (dropperref01_ParseAt.calls kj5 (a0.extract (x5_1 : Int).toNat (x7_3 : Int).toNat) t195 t196 _ A19.out).mono ?_); rintro e w' ⟨rfl, ⟨nd, rfl⟩⟩; refine ⟨_, rfl, ?_⟩) | ((with_reducible refine gate_callee (f := 10) rfl ?_); refine goesL_ (some 57) rfl rfl Tryz.func10 (by kernel_rfl) rfl #[.string (a0.extract ((ji20) : Int).toNat (x6_3 : Int).toNat)] rfl (by (try simp only [List.map_toArray, List.map_cons, List.map_nil]); first | done | (simp only [hji20]; rfl) | rfl | (simp only [List.length_drop, List.length_take]; rfl)) ?_; (with_reducible refine (dropperref01_ParseAt.calls kj5 (a0.extract ((ji20) : Int).toNat (x6_3 : Int).toNat) t197 t198 _ A24.out).mono ?_); rintro e w' ⟨rfl, ⟨nd, rfl⟩⟩; refine ⟨_, rfl, ?_⟩))
                    go_ret2
                    exact ⟨_, by first | rfl | (simp [errW_none, errW_some] <;> rfl) | (simp only [← hji20]; first | rfl | (simp [errW_none, errW_some] <;> rfl)) | (simp [*, errW_none, errW_some] <;> rfl), by first | exact Kd.R_nil _ _ _ _ _ | exact Kd.N_nil _ _ _ _ _ | exact Kd.V_nil _ _ _ _ _ | exact Kd.Q_nil _ _ _ _ _ | exact Kd.S_nil _ _ _ _ _, bel⟩
                  ·
                   rw [if_neg c25] at H
                   have c25b0 : (t196 == 0) = false := beq_eq_false_iff_ne.mpr c25
                   have c25b1 : (t196 != 0) = true := bne_iff_ne.mpr c25
                   simp only [Option.some.injEq, Prod.mk.injEq] at H
                   obtain ⟨rfl, rfl⟩ := H
                   go_wp2_with (first | ((with_reducible refine gate_callee (f := 10) rfl ?_); refine goesL_ (some 48) rfl rfl Tryz.func10 (by kernel_rfl) rfl #[.string (a0.extract (x5_1 : Int).toNat (x7_3 : Int).toNat)] rfl mapz ?_; (with_reducible refine (dropperref01_ParseAt.calls kj5 (a0.extract (x5_1 : Int).toNat (x7_3 : Int).toNat) t195 t196 _ A19.out).mono ?_); rintro e w' ⟨rfl, ⟨nd, rfl⟩⟩; refine ⟨_, rfl, ?_⟩) | ((with_reducible refine gate_callee (f := 10) rfl ?_); refine goesL_ (some 57) rfl rfl Tryz.func10 (by kernel_rfl) rfl #[.string (a0.extract ((ji20) : Int).toNat (x6_3 : Int).toNat)] rfl (by (try simp only [List.map_toArray, List.map_cons, List.map_nil]); first | done | (simp only [hji20]; rfl) | rfl | (simp only [List.length_drop, List.length_take]; rfl)) ?_; (with_reducible refine (dropperref01_ParseAt.calls kj5 (a0.extract ((ji20) : Int).toNat (x6_3 : Int).toNat) t197 t198 _ A24.out).mono ?_); rintro e w' ⟨rfl, ⟨nd, rfl⟩⟩; refine ⟨_, rfl, ?_⟩))
                   go_ret2
                   exact ⟨_, by first | rfl | (simp [errW_none, errW_some] <;> rfl) | (simp only [← hji20]; first | rfl | (simp [errW_none, errW_some] <;> rfl)) | (simp [*, errW_none, errW_some] <;> rfl), by first | exact Kd.R_nil _ _ _ _ _ | exact Kd.N_nil _ _ _ _ _ | exact Kd.V_nil _ _ _ _ _ | exact Kd.Q_nil _ _ _ _ _ | exact Kd.S_nil _ _ _ _ _, bel⟩
                 ·
                  rw [if_neg c23] at H
                  exact absurd H (by simp)
                ·
                 rw [if_neg c22] at H
                 exact absurd H (by simp)
               ·
                rw [if_neg c21] at H
                exact absurd H (by simp)
              ·
               rw [if_neg c18] at H
               exact absurd H (by simp)
             ·
              rw [if_neg c17] at H
              exact absurd H (by simp)
            ·
             rw [if_neg c16] at H
             exact absurd H (by simp)
     ·
      replace c5 := Bool.eq_false_iff.mpr c5
      subst c5
      rw [if_neg (show ¬ (false = true) by decide)] at H
      replace H := Option.bind_eq_some_iff.mp H
      obtain ⟨t202, A290, H⟩ := H
      try dsimp only at H
      have A29 := Aside0.mk A290
      clear A290
      by_cases c30 : t202 = true
      ·
       subst c30
       rw [if_pos rfl] at H
       replace H := Option.bind_eq_some_iff.mp H
       obtain ⟨t203, A310, H⟩ := H
       try dsimp only at H
       have A31 := Aside0.mk A310
       clear A310
       by_cases c32 : t203.toList = a0.toList
       ·
        rw [if_pos c32] at H
        have c32b0 : (t203.toList == a0.toList) = true := beq_iff_eq.mpr c32
        have c32b1 : (t203.toList != a0.toList) = false := bne_eq_false_iff_eq.mpr c32
        clear c32
        simp only [Option.some.injEq, Prod.mk.injEq] at H
        obtain ⟨rfl, rfl⟩ := H
        obtain ⟨Ao33, co33, eo33⟩ := Kd.R_slice HO_4.out
        subst eo33
        go_wp2_with (first | ((with_reducible refine gate_callee (f := 15) rfl ?_); refine goesL_ (some 75) rfl rfl Tryz.func15 (by kernel_rfl) rfl #[.slice Ao33 x4_1.length co33] rfl mapz ?_; (with_reducible refine (dropperref01_Valid.calls kj1 _ _ x4_1 true _ ?side1 ?side2 A29.out).mono ?_); (case side1 => repeat (first | exact (Kd.R_reads' HO_4.out).2.2 | (with_reducible refine Kd.C_alloc ?_ _) | (with_reducible refine Kd.C_drewN ?_ _) | (with_reducible refine Kd.C_drew ?_))); (case side2 => exact (Kd.R_reads' HO_4.out).2.1); rintro e w34 ⟨rfl, hb⟩; refine ⟨_, rfl, ?_⟩; replace HO_4 := Aside0.mk (Kd.R_below (ownx HO_4) hb); replace HB := Aside0.mk (below_step bel hb); clear hb) | (go_at_call 28; (with_reducible refine (dropperref01_text.calls kj1 _ _ x4_1 t203 _ ?side1 ?side2 A31.out).mono ?_); (case side1 => repeat (first | exact (Kd.R_reads' HO_4.out).2.2 | (with_reducible refine Kd.C_alloc ?_ _) | (with_reducible refine Kd.C_drewN ?_ _) | (with_reducible refine Kd.C_drew ?_))); (case side2 => exact (Kd.R_reads' HO_4.out).2.1); rintro e w' ⟨rfl, ⟨nd, rfl⟩⟩))
        go_ret2
        exact ⟨_, ezz, by (with_reducible repeat (first | apply Kd.R_alloc | apply Kd.R_drewN | apply Kd.R_drew)); exact HO_4.out, bel⟩
       ·
        rw [if_neg c32] at H
        have c32b0 : (t203.toList == a0.toList) = false := beq_eq_false_iff_ne.mpr c32
        have c32b1 : (t203.toList != a0.toList) = true := bne_iff_ne.mpr c32
        simp only [Option.some.injEq, Prod.mk.injEq] at H
        obtain ⟨rfl, rfl⟩ := H
        obtain ⟨Ao35, co35, eo35⟩ := Kd.R_slice HO_4.out
        subst eo35
        go_wp2_with (first | ((with_reducible refine gate_callee (f := 15) rfl ?_); refine goesL_ (some 75) rfl rfl Tryz.func15 (by kernel_rfl) rfl #[.slice Ao35 x4_1.length co35] rfl mapz ?_; (with_reducible refine (dropperref01_Valid.calls kj1 _ _ x4_1 true _ ?side1 ?side2 A29.out).mono ?_); (case side1 => repeat (first | exact (Kd.R_reads' HO_4.out).2.2 | (with_reducible refine Kd.C_alloc ?_ _) | (with_reducible refine Kd.C_drewN ?_ _) | (with_reducible refine Kd.C_drew ?_))); (case side2 => exact (Kd.R_reads' HO_4.out).2.1); rintro e w36 ⟨rfl, hb⟩; refine ⟨_, rfl, ?_⟩; replace HO_4 := Aside0.mk (Kd.R_below (ownx HO_4) hb); replace HB := Aside0.mk (below_step bel hb); clear hb) | (go_at_call 28; (with_reducible refine (dropperref01_text.calls kj1 _ _ x4_1 t203 _ ?side1 ?side2 A31.out).mono ?_); (case side1 => repeat (first | exact (Kd.R_reads' HO_4.out).2.2 | (with_reducible refine Kd.C_alloc ?_ _) | (with_reducible refine Kd.C_drewN ?_ _) | (with_reducible refine Kd.C_drew ?_))); (case side2 => exact (Kd.R_reads' HO_4.out).2.1); rintro e w' ⟨rfl, ⟨nd, rfl⟩⟩))
        go_ret2
        exact ⟨_, ezz, by first | exact Kd.R_nil _ _ _ _ _ | exact Kd.N_nil _ _ _ _ _ | exact Kd.V_nil _ _ _ _ _ | exact Kd.Q_nil _ _ _ _ _ | exact Kd.S_nil _ _ _ _ _, bel⟩
      ·
       replace c30 := Bool.eq_false_iff.mpr c30
       subst c30
       rw [if_neg (show ¬ (false = true) by decide)] at H
       simp only [Option.some.injEq, Prod.mk.injEq] at H
       obtain ⟨rfl, rfl⟩ := H
       obtain ⟨Ao37, co37, eo37⟩ := Kd.R_slice HO_4.out
       subst eo37
       go_wp2_with (first | ((with_reducible refine gate_callee (f := 15) rfl ?_); refine goesL_ (some 75) rfl rfl Tryz.func15 (by kernel_rfl) rfl #[.slice Ao37 x4_1.length co37] rfl mapz ?_; (with_reducible refine (dropperref01_Valid.calls kj1 _ _ x4_1 false _ ?side1 ?side2 A29.out).mono ?_); (case side1 => repeat (first | exact (Kd.R_reads' HO_4.out).2.2 | (with_reducible refine Kd.C_alloc ?_ _) | (with_reducible refine Kd.C_drewN ?_ _) | (with_reducible refine Kd.C_drew ?_))); (case side2 => exact (Kd.R_reads' HO_4.out).2.1); rintro e w38 ⟨rfl, hb⟩; refine ⟨_, rfl, ?_⟩; replace HO_4 := Aside0.mk (Kd.R_below (ownx HO_4) hb); replace HB := Aside0.mk (below_step bel hb); clear hb))
       go_ret2
       exact ⟨_, ezz, by first | exact Kd.R_nil _ _ _ _ _ | exact Kd.N_nil _ _ _ _ _ | exact Kd.V_nil _ _ _ _ _ | exact Kd.Q_nil _ _ _ _ _ | exact Kd.S_nil _ _ _ _ _, bel⟩

/-! ### dropperref01_FormatAt: function 8 -/
def dropperref01_FormatAt.f (a0 : Int) : Option (ByteArray × Int) := (dropperref01_isAt.f a0).bind fun t147 => (if t147 = true then ((dropperref01_at.f a0).bind fun t148 => (some (t148, 0))) else (some ((⟨#[]⟩ : ByteArray), 2)))
end Go.Proofs.YtcmdcgghpkcchaaGreatDoor.XMast

/- Chainages: both write the same text, and read back the same number. -/
namespace Go.Proofs.YtcmdcgghpkcchaaGreatDoor.Chain
set_option linter.unusedVariables false
set_option linter.unusedSimpArgs false
open Go.RowKit Go.Proofs.YtcmdcgghpkcchaaGreatDoor.XMast Go.Proofs.YtcmdcgghpkcchaaGreatDoorW.PrintWords Go.Proofs.YtcmdcgghpkcchaaGreatDoorW.PrintLast Go.Proofs.YtcmdcgghpkcchaaGreatDoorW.PrintMore Go.Proofs.YtcmdcgghpkcchaaGreatDoor.Lay
abbrev dg := dropperref01_Dec.dg 10
def three (m : Int) : List UInt8 := dg (m / 100) ++ dg (m / 10 % 10) ++ dg (m % 10)
def atL (n : Int) : List UInt8 := dg (n / 1000) ++ 43 :: three (n % 1000)
def stp (x : Int) (c : UInt8) : Int := if 48 ≤ c.toNat ∧ c.toNat ≤ 57 then wrap64 (wrap64 (10 * x) + (((c.toNat : Int) - 48) % 256)) else x
def kmOk (q : Nat) : Bool := decide (Lib.itoa (Int.ofNat q) = dg (Int.ofNat q)) && decide (mast_ParseAt.A ⟨(dg (Int.ofNat q)).toArray⟩ = some (Int.ofNat q)) && decide ((43 : UInt8) ∉ dg (Int.ofNat q)) && decide ((dg (Int.ofNat q)).length ≤ 3) && decide ((dg (Int.ofNat q)).foldl stp 0 = Int.ofNat q)
def mOk (m : Nat) : Bool := decide ((Lib.itoa (Int.ofNat (1000 + m))).drop 1 = three (Int.ofNat m)) && decide ((Lib.itoa (Int.ofNat (1000 + m))).length = 4) && decide (mast_ParseAt.A ⟨(three (Int.ofNat m)).toArray⟩ = some (Int.ofNat m)) && decide (three (Int.ofNat m) = [UInt8.ofNat (48 + m / 100), UInt8.ofNat (48 + m / 10 % 10), UInt8.ofNat (48 + m % 10)])
theorem tabK : (List.range 101).all kmOk = true := by kernel_rfl
theorem tabM : (List.range 1000).all mOk = true := by kernel_rfl
theorem kmF (q : Int) (h0 : 0 ≤ q) (h1 : q ≤ 100) : Lib.itoa q = dg q ∧ mast_ParseAt.A ⟨(dg q).toArray⟩ = some q ∧ (43 : UInt8) ∉ dg q ∧ (dg q).length ≤ 3 ∧ (dg q).foldl stp 0 = q := by
 obtain ⟨k, rfl⟩ := Int.eq_ofNat_of_zero_le h0
 have h := List.all_eq_true.1 tabK k (List.mem_range.2 (by omega))
 simp only [kmOk, Bool.and_eq_true, decide_eq_true_eq] at h
 exact ⟨h.1.1.1.1, h.1.1.1.2, h.1.1.2, h.1.2, h.2⟩
theorem mF (m : Nat) (h1 : m < 1000) : (Lib.itoa (1000 + (m : Int))).drop 1 = three m ∧ (Lib.itoa (1000 + (m : Int))).length = 4 ∧ mast_ParseAt.A ⟨(three m).toArray⟩ = some (m : Int) ∧ three m = [UInt8.ofNat (48 + m / 100), UInt8.ofNat (48 + m / 10 % 10), UInt8.ofNat (48 + m % 10)] := by
 have h := List.all_eq_true.1 tabM m (List.mem_range.2 h1)
 simp only [mOk, Bool.and_eq_true, decide_eq_true_eq] at h
 have e : (1000 : Int) + (m : Int) = Int.ofNat (1000 + m) := by simp
 rw [e]
 exact ⟨h.1.1.1, h.1.1.2, h.1.2, h.2⟩
theorem ba {a b : ByteArray} (h : a.data.toList = b.data.toList) : a = b := by
 apply ByteArray.ext
 exact Array.toList_inj.1 h
theorem mat (n : Int) (h0 : 0 ≤ n) (h1 : n ≤ 100000) : mast_at.f n = some ⟨(atL n).toArray⟩ := by
 obtain ⟨k1, k2, k3, k4, k5⟩ := kmF (n / 1000) (by omega) (by omega)
 obtain ⟨m, hm⟩ := Int.eq_ofNat_of_zero_le (show 0 ≤ n % 1000 by omega)
 obtain ⟨m1, m2, m3, m4⟩ := mF m (by omega)
 have s1 : (mast_at.txt (n / 1000)).size ≤ 3 := by
  show (Lib.itoa (n / 1000)).toArray.size ≤ 3
  rw [List.size_toArray, k1]; exact k4
 have s2 : (mast_at.txt (1000 + n % 1000)).size = 4 := by
  show (Lib.itoa (1000 + n % 1000)).toArray.size = 4
  rw [List.size_toArray, hm]; exact m2
 unfold mast_at.f
 rw [if_pos ⟨h0, by omega, by omega, by omega, by omega⟩]
 congr 1
 apply ba
 rw [s2]
 show ((mast_at.txt (n / 1000) ++ (⟨#[43]⟩ : ByteArray)) ++ (mast_at.txt (1000 + n % 1000)).extract 1 4).data.toList = (atL n).toArray.toList
 have e1 : ((mast_at.txt (1000 + n % 1000)).extract 1 4).data.toList = three (n % 1000) := by
  rw [ByteArray.data_extract, Array.toList_extract]
  show ((Lib.itoa (1000 + n % 1000)).toArray.toList).extract 1 4 = _
  rw [hm]
  show ((Lib.itoa (1000 + (m : Int))).drop 1).take (4 - 1) = three m
  rw [List.take_of_length_le (by rw [List.length_drop]; omega)]
  exact m1
 rw [ByteArray.data_append, ByteArray.data_append, Array.toList_append, Array.toList_append, e1]
 show ((Lib.itoa (n / 1000)).toArray.toList ++ [43]) ++ three (n % 1000) = _
 rw [k1]
 simp [atL]
theorem dec (a : Int) (h0 : 0 ≤ a) (h1 : a ≤ 1000000) : dropperref01_Dec.f a = some ⟨(dg a).toArray⟩ := by
 unfold dropperref01_Dec.f
 rw [if_pos ⟨h0, h1⟩]
 rfl
theorem dlen (a : Int) : (⟨(dg a).toArray⟩ : ByteArray).size ≤ 10 := by
 show (dg a).toArray.size ≤ 10
 rw [List.size_toArray]
 exact dropperref01_Dec.len 10 a
theorem rat (n : Int) (h0 : 0 ≤ n) (h1 : n ≤ 100000) : dropperref01_at.f n = some ⟨(atL n).toArray⟩ := by
 have e1 : wrap64 (n.tdiv 1000) = n / 1000 := by rw [Int.tdiv_eq_ediv_of_nonneg h0]; unfold wrap64; omega
 have e0 : n.tmod 1000 = n % 1000 := Int.tmod_eq_emod_of_nonneg h0
 have e2 : wrap64 ((n % 1000).tdiv 100) = n % 1000 / 100 := by rw [Int.tdiv_eq_ediv_of_nonneg (by omega)]; unfold wrap64; omega
 have e3 : (wrap64 ((n % 1000).tdiv 10)).tmod 10 = n % 1000 / 10 % 10 := by
  rw [Int.tdiv_eq_ediv_of_nonneg (by omega), show wrap64 (n % 1000 / 10) = n % 1000 / 10 by unfold wrap64; omega]
  exact Int.tmod_eq_emod_of_nonneg (by omega)
 have e4 : n.tmod 10 = n % 1000 % 10 := by rw [Int.tmod_eq_emod_of_nonneg h0]; omega
 have l1 := dlen (n / 1000)
 have l2 := dlen (n % 1000 / 100)
 have l3 := dlen (n % 1000 / 10 % 10)
 have l4 := dlen (n % 1000 % 10)
 have l0 : (⟨#[43]⟩ : ByteArray).size = 1 := rfl
 unfold dropperref01_at.f
 rw [e1, e0, e2, e3, e4, dec _ (by omega) (by omega), Option.bind_some, if_pos (by omega), dec _ (by omega) (by omega), Option.bind_some, if_pos (by rw [ByteArray.size_append]; omega), dec _ (by omega) (by omega), Option.bind_some, if_pos (by rw [ByteArray.size_append, ByteArray.size_append]; omega), dec _ (by omega) (by omega), Option.bind_some, if_pos (by rw [ByteArray.size_append, ByteArray.size_append, ByteArray.size_append]; omega)]
 congr 1
 apply ba
 simp [atL, three, ByteArray.data_append]
/-! ### reading -/
theorem stp_dot (x : Int) : stp x 43 = x := by unfold stp; rw [if_neg (by decide)]
theorem stp_dig (x : Int) (d : Nat) (hd : d ≤ 9) (h0 : 0 ≤ x) (h1 : x ≤ 1000000) : stp x (UInt8.ofNat (48 + d)) = 10 * x + d := by
 have e : (UInt8.ofNat (48 + d)).toNat = 48 + d := by rw [UInt8.toNat_ofNat']; omega
 unfold stp
 rw [e, if_pos ⟨by omega, by omega⟩, wrap_id (x := 10 * x) (by omega) (by omega)]
 unfold wrap64
 omega
theorem val_at (n : Int) (h0 : 0 ≤ n) (h1 : n ≤ 100000) : (atL n).foldl stp 0 = n ∧ (atL n).length ≤ 7 := by
 obtain ⟨k1, k2, k3, k4, k5⟩ := kmF (n / 1000) (by omega) (by omega)
 obtain ⟨m, hm⟩ := Int.eq_ofNat_of_zero_le (show 0 ≤ n % 1000 by omega)
 obtain ⟨m1, m2, m3, m4⟩ := mF m (by omega)
 have hm' : n % 1000 = (m : Int) := hm
 have s1 := stp_dig (n / 1000) (m / 100) (by omega) (by omega) (by omega)
 have s2 := stp_dig (10 * (n / 1000) + ((m / 100 : Nat) : Int)) (m / 10 % 10) (by omega) (by omega) (by omega)
 have s3 := stp_dig (10 * (10 * (n / 1000) + ((m / 100 : Nat) : Int)) + ((m / 10 % 10 : Nat) : Int)) (m % 10) (by omega) (by omega) (by omega)
 unfold atL
 rw [hm', m4]
 constructor
 ·
  rw [List.foldl_append, List.foldl_cons, k5, stp_dot, List.foldl_cons, List.foldl_cons, List.foldl_cons, List.foldl_nil, s1, s2, s3]
  omega
 ·
  simp
  omega
/-! ### FormatAt -/
theorem mis (x : Int) : mast_isAt.f x = some (decide (0 ≤ x ∧ x ≤ 100000)) := by
 unfold mast_isAt.f
 by_cases h : x ≥ 0
 ·
  rw [if_pos h]; congr 1; by_cases h2 : x ≤ 100000
  ·
   rw [decide_eq_true h2, decide_eq_true ⟨h, h2⟩]
  ·
   rw [decide_eq_false h2, decide_eq_false (fun h3 => h2 h3.2)]
 ·
  rw [if_neg h, decide_eq_false (fun h3 => h h3.1)]
theorem ris (x : Int) : dropperref01_isAt.f x = some (decide (0 ≤ x ∧ x ≤ 100000)) := by
 unfold dropperref01_isAt.f
 by_cases h : x ≥ 0
 ·
  rw [if_pos h]; congr 1; by_cases h2 : x ≤ 100000
  ·
   rw [decide_eq_true h2, decide_eq_true ⟨h, h2⟩]
  ·
   rw [decide_eq_false h2, decide_eq_false (fun h3 => h2 h3.2)]
 ·
  rw [if_neg h, decide_eq_false (fun h3 => h h3.1)]
theorem format (n : Int) : ∃ r, mast_FormatAt.f n = some r ∧ dropperref01_FormatAt.f n = some r := by
 unfold mast_FormatAt.f dropperref01_FormatAt.f
 rw [mis, ris, Option.bind_some, Option.bind_some]
 by_cases h : 0 ≤ n ∧ n ≤ 100000
 ·
  rw [if_pos (decide_eq_true h), if_pos (decide_eq_true h), mat n h.1 h.2, rat n h.1 h.2]
  exact ⟨_, rfl, rfl⟩
 ·
  rw [if_neg (by simpa using h), if_neg (by simpa using h)]
  exact ⟨_, rfl, rfl⟩
/-! ### ParseAt -/
def reads (s : ByteArray) (r : Int × Int) : Prop := (∃ n, 0 ≤ n ∧ n ≤ 100000 ∧ atL n = s.data.toList ∧ r = (n, 0)) ∨ ((∀ n, 0 ≤ n → n ≤ 100000 → atL n ≠ s.data.toList) ∧ r = (0, 3))
theorem reads.unique {s : ByteArray} {r r' : Int × Int} (h : reads s r) (h' : reads s r') : r = r' := by
 rcases h with ⟨n, a, b, c, rfl⟩ | ⟨a, rfl⟩ <;> rcases h' with ⟨n', a', b', c', rfl⟩ | ⟨a', rfl⟩
 ·
  have h1 := (val_at n a b).1
  have h2 := (val_at n' a' b').1
  rw [c] at h1
  rw [c'] at h2
  rw [← h1, ← h2]
 ·
  exact absurd c (a' n a b)
 ·
  exact absurd c' (a n' a' b')
 ·
  rfl
theorem evV {α β : Type} {g : Option α} {f : Nat → α → Option β} {a : α} {r : β} (h : g = some a) (k : Ev (fun n => f n a) r) : Ev (fun n => g.bind (f n)) r := by subst h; exact k
theorem idx : ∀ (x y : List UInt8), (43 : UInt8) ∉ x → Lib.index (x ++ 43 :: y) [43] = (x.length : Int)
 | [], y, _ => by
  rw [List.nil_append, Lib.index, if_pos (by simp [List.isPrefixOf])]
  rfl
 | b :: x, y, h => by
  have hb : b ≠ 43 := fun e => h (by rw [e]; exact List.mem_cons_self)
  have ih := idx x y (fun e => h (List.mem_cons_of_mem _ e))
  have h1 : ¬ ([43].isPrefixOf (b :: (x ++ 43 :: y)) = true) := by
   simp [List.isPrefixOf]
   exact fun e => hb e.symm
  rw [List.cons_append, Lib.index, if_neg h1, ih, if_neg (by simp), List.length_cons]
  omega
theorem cut_dot (x y : List UInt8) (h : (43 : UInt8) ∉ x) : Lib.cut (x ++ 43 :: y) [43] = (x, y, true) := by
 unfold Lib.cut
 rw [idx x y h, if_pos (by omega)]
 have e : ((x.length : Int)).toNat = x.length := by omega
 rw [e, List.take_left']
 ·
  congr 2
  show (x ++ 43 :: y).drop (x.length + 1) = y
  rw [← List.drop_drop, List.drop_left']
  ·
   rfl
  ·
   rfl
 ·
  rfl
theorem cut_len (l : List UInt8) : (Lib.cut l [43]).1.length ≤ l.length ∧ (Lib.cut l [43]).2.1.length ≤ l.length := by
 unfold Lib.cut
 split
 ·
  constructor
  ·
   show (l.take _).length ≤ _
   rw [List.length_take]; omega
  ·
   show (l.drop _).length ≤ _
   rw [List.length_drop]; omega
 ·
  simp
theorem of_list (l : List UInt8) : (⟨l.toArray⟩ : ByteArray).data.toList = l := by simp
theorem mast_reads (s : ByteArray) (hs : s.size ≤ 10000) : ∃ r, mast_ParseAt.f s = some r ∧ reads s r := by
 have hl := cut_len s.data.toList
 have hsz : s.data.toList.length = s.size := Array.length_toList
 have k1 : (mast_ParseAt.km s).size ≤ 1000000 := by
  show (Lib.cut s.data.toList [43]).1.toArray.size ≤ 1000000
  rw [List.size_toArray]; omega
 have k2 : (mast_ParseAt.rest s).size ≤ 1000000 := by
  show (Lib.cut s.data.toList [43]).2.1.toArray.size ≤ 1000000
  rw [List.size_toArray]; omega
 unfold mast_ParseAt.f
 rw [if_pos ⟨by omega, k1, k2⟩]
 by_cases hx : ∃ n, 0 ≤ n ∧ n ≤ 100000 ∧ atL n = s.data.toList
 ·
  obtain ⟨n, h0, h1, h2⟩ := hx
  obtain ⟨a1, a2, a3, a4, a5⟩ := kmF (n / 1000) (by omega) (by omega)
  obtain ⟨m, hm⟩ := Int.eq_ofNat_of_zero_le (show 0 ≤ n % 1000 by omega)
  obtain ⟨m1, m2, m3, m4⟩ := mF m (by omega)
  have hc : Lib.cut s.data.toList [43] = (dg (n / 1000), three (n % 1000), true) := by rw [← h2]; exact cut_dot _ _ a3
  have e1 : mast_ParseAt.km s = ⟨(dg (n / 1000)).toArray⟩ := by unfold mast_ParseAt.km; rw [hc]
  have e2 : mast_ParseAt.rest s = ⟨(three (m : Int)).toArray⟩ := by unfold mast_ParseAt.rest; rw [hc, hm]
  rw [e1, e2, a2, m3]
  refine ⟨(n, 0), ?_, .inl ⟨n, h0, h1, h2, rfl⟩⟩
  show mast_ParseAt.two s (n / 1000) (m : Int) = _
  have ev : wrap64 (wrap64 (n / 1000 * 1000) + (m : Int)) = n := by rw [wrap_id (x := n / 1000 * 1000) (by omega) (by omega), wrap_id (by omega) (by omega)]; omega
  unfold mast_ParseAt.two
  rw [if_neg (by omega), if_neg (by omega), if_neg (by omega), if_neg (by omega), ev, mis, Option.bind_some, if_pos (decide_eq_true ⟨h0, h1⟩), mat n h0 h1, Option.bind_some, if_pos]
  rw [ByteArray.toList_eq, ByteArray.toList_eq, of_list]
  exact h2
 ·
  have no : ∀ n, 0 ≤ n → n ≤ 100000 → atL n ≠ s.data.toList := fun n a b c => hx ⟨n, a, b, c⟩
  refine ⟨(0, 3), ?_, .inr ⟨no, rfl⟩⟩
  cases hA : mast_ParseAt.A (mast_ParseAt.km s) with
  | none => rfl
  | some q =>
   cases hB : mast_ParseAt.A (mast_ParseAt.rest s) with
   | none => rfl
   | some m =>
    show mast_ParseAt.two s q m = some (0, 3)
    unfold mast_ParseAt.two
    by_cases c1 : q < 0
    ·
     rw [if_pos c1]
    by_cases c2 : q > 100000
    ·
     rw [if_neg c1, if_pos c2]
    by_cases c3 : m < 0
    ·
     rw [if_neg c1, if_neg c2, if_pos c3]
    by_cases c4 : m > 999
    ·
     rw [if_neg c1, if_neg c2, if_neg c3, if_pos c4]
    rw [if_neg c1, if_neg c2, if_neg c3, if_neg c4, mis, Option.bind_some]
    generalize wrap64 (wrap64 (q * 1000) + m) = v
    by_cases hv : 0 ≤ v ∧ v ≤ 100000
    ·
     rw [if_pos (decide_eq_true hv), mat v hv.1 hv.2, Option.bind_some, if_neg]
     rw [ByteArray.toList_eq, ByteArray.toList_eq, of_list]
     exact no v hv.1 hv.2
    ·
     rw [if_neg (by simpa using hv)]
theorem ref_end (s : ByteArray) (v : Int) (hv : ∀ n, 0 ≤ n → n ≤ 100000 → atL n = s.data.toList → v = n) (i : Int) : ∃ r, Ev (fun k => dropperref01_ParseAt.j1 k s v i false) r ∧ reads s r := by
 by_cases h : 0 ≤ v ∧ v ≤ 100000
 ·
  by_cases ht : atL v = s.data.toList
  ·
   refine ⟨(v, 0), ?_, .inl ⟨v, h.1, h.2, ht, rfl⟩⟩
   refine Ev.step (fun k => by rw [dropperref01_ParseAt.j1]) (ev_neg (by simp) (evV (ris v) (ev_pos (decide_eq_true h) (evV (rat v h.1 h.2) (ev_pos ?_ (Ev.now _))))))
   rw [ByteArray.toList_eq, ByteArray.toList_eq, of_list]
   exact ht
  ·
   refine ⟨(0, 3), ?_, .inr ⟨fun n a b c => ht (by rw [hv n a b c]; exact c), rfl⟩⟩
   refine Ev.step (fun k => by rw [dropperref01_ParseAt.j1]) (ev_neg (by simp) (evV (ris v) (ev_pos (decide_eq_true h) (evV (rat v h.1 h.2) (ev_neg ?_ (Ev.now _))))))
   rw [ByteArray.toList_eq, ByteArray.toList_eq, of_list]
   exact ht
 ·
  refine ⟨(0, 3), ?_, .inr ⟨fun n a b c => h (by rw [hv n a b c]; exact ⟨a, b⟩), rfl⟩⟩
  exact Ev.step (fun k => by rw [dropperref01_ParseAt.j1]) (ev_neg (by simp) (evV (ris v) (ev_neg (fun e => h (of_decide_eq_true e)) (Ev.now _))))
theorem bt_list (s : ByteArray) (i : Nat) (h : i < s.data.toList.length) : bt s (i : Int) = (s.data.toList[i].toNat : Int) := by
 have h' : (i : Int).toNat < s.size := by
  rw [Array.length_toList] at h
  exact h
 rw [← bt_at s (i : Int) h']
 rfl
theorem ref_reads (s : ByteArray) (hs : s.size ≤ 10000) : ∃ r, Ev (fun k => dropperref01_ParseAt.f k s) r ∧ reads s r := by
 have hsz : s.data.toList.length = s.size := Array.length_toList
 have hv : ∀ n, 0 ≤ n → n ≤ 100000 → atL n = s.data.toList → (s.data.toList.take 8).foldl stp 0 = n := fun n a b c => by
  obtain ⟨h1, h2⟩ := val_at n a b
  rw [← c, List.take_of_length_le (by omega)]
  exact h1
 obtain ⟨r, hr, hrr⟩ := ref_end s ((s.data.toList.take 8).foldl stp 0) hv ((min s.data.toList.length 8 : Nat) : Int)
 refine ⟨r, ?_, hrr⟩
 unfold dropperref01_ParseAt.f
 have H : ∀ (d i : Nat), i + d = min s.data.toList.length 8 → Ev (fun k => dropperref01_ParseAt.l0 k s (((s.data.toList.take 8).take i).foldl stp 0) (i : Int)) r := by
  intro d
  induction d with
  | zero =>
   intro i hi
   have e : i = min s.data.toList.length 8 := by omega
   subst e
   rw [List.take_of_length_le (l := s.data.toList.take 8) (by rw [List.length_take]; omega)]
   refine Ev.step (fun k => by rw [dropperref01_ParseAt.l0]) ?_
   by_cases hc : ((min s.data.toList.length 8 : Nat) : Int) < (s.size : Int)
   ·
    refine ev_pos hc ?_
    rw [decide_eq_false (by omega)]
    exact hr
   ·
    exact ev_neg hc hr
  | succ d ih =>
   intro i hi
   have hil : i < s.data.toList.length := by omega
   have hi8 : i < 8 := by omega
   have ih1 := ih (i + 1) (by omega)
   have hT : i < (s.data.toList.take 8).length := by rw [List.length_take]; omega
   rw [List.take_succ_eq_append_getElem hT, List.foldl_append, List.getElem_take] at ih1
   refine Ev.step (fun k => by rw [dropperref01_ParseAt.l0]) (ev_pos (by omega) ?_)
   rw [decide_eq_true (show (i : Int) < 8 by omega)]
   refine Ev.step (fun k => by rw [dropperref01_ParseAt.j1]) (ev_pos rfl (ev_pos (by omega) (ev_pos (by omega) ?_)))
   rw [bt_list s i hil, wrap_succ (n := s.size) (by omega) (by omega)]
   generalize ((s.data.toList.take 8).take i).foldl stp 0 = X at ih1 ⊢
   generalize s.data.toList[i] = c at ih1 ⊢
   rw [List.foldl_cons, List.foldl_nil] at ih1
   unfold stp at ih1
   by_cases c1 : (c.toNat : Int) ≥ 48
   ·
    by_cases c2 : (c.toNat : Int) ≤ 57
    ·
     rw [if_pos (by omega)] at ih1
     exact ev_pos c1 (ev_pos c2 ih1)
    ·
     rw [if_neg (by omega)] at ih1
     exact ev_pos c1 (ev_neg c2 ih1)
   ·
    rw [if_neg (by omega)] at ih1
    exact ev_neg c1 ih1
 exact H (min s.data.toList.length 8) 0 (by omega)
theorem parse (s : ByteArray) (hs : s.size ≤ 10000) : ∃ r, mast_ParseAt.f s = some r ∧ Ev (fun k => dropperref01_ParseAt.f k s) r := by
 obtain ⟨r, h1, h2⟩ := mast_reads s hs
 obtain ⟨r', h3, h4⟩ := ref_reads s hs
 obtain rfl := h2.unique h4
 exact ⟨r, h1, h3⟩
end Go.Proofs.YtcmdcgghpkcchaaGreatDoor.Chain


/- Texts of lays: what a text of stretches is, and that the program reads just these. -/
namespace Go.Proofs.YtcmdcgghpkcchaaGreatDoor.Segs
set_option linter.unusedVariables false
set_option linter.unusedSimpArgs false
open Go.RowKit Go.Proofs.YtcmdcgghpkcchaaGreatDoor.XMast Go.Proofs.YtcmdcgghpkcchaaGreatDoorW.PrintWords Go.Proofs.YtcmdcgghpkcchaaGreatDoorW.PrintLast Go.Proofs.YtcmdcgghpkcchaaGreatDoorW.PrintMore Go.Proofs.YtcmdcgghpkcchaaGreatDoor.Lay
open Go.Proofs.YtcmdcgghpkcchaaGreatDoor.Chain (atL dg three reads)

def stL (x : St) : List UInt8 := atL x.f0 ++ 45 :: atL x.f1
def inR (x : St) : Prop := (0 ≤ x.f0 ∧ x.f0 ≤ 100000) ∧ (0 ≤ x.f1 ∧ x.f1 ≤ 100000)
theorem tabB : (List.range 101).all (fun q => (dg (Int.ofNat q)).all (fun c => c != 45 && c != 32)) = true := by kernel_rfl
theorem dg_clean (q : Int) (h0 : 0 ≤ q) (h1 : q ≤ 100) : ∀ c ∈ dg q, c ≠ 45 ∧ c ≠ 32 := by
 obtain ⟨n, rfl⟩ := Int.eq_ofNat_of_zero_le h0
 have h := List.all_eq_true.1 tabB n (List.mem_range.2 (by omega))
 intro c hc
 have h2 := List.all_eq_true.1 h c hc
 simpa using h2
theorem at_clean (n : Int) (h0 : 0 ≤ n) (h1 : n ≤ 100000) : ∀ c ∈ atL n, c ≠ 45 ∧ c ≠ 32 := by
 intro c hc
 unfold Chain.atL Chain.three at hc
 rcases List.mem_append.1 hc with hc | hc
 ·
  exact dg_clean _ (by omega) (by omega) c hc
 ·
  rcases List.mem_cons.1 hc with rfl | hc
  ·
   decide
  ·
   rcases List.mem_append.1 hc with hc | hc
   ·
    rcases List.mem_append.1 hc with hc | hc
    ·
     exact dg_clean _ (by omega) (by omega) c hc
    ·
     exact dg_clean _ (by omega) (by omega) c hc
   ·
    exact dg_clean _ (by omega) (by omega) c hc
theorem idx45 : ∀ (x y : List UInt8), (45 : UInt8) ∉ x → Lib.index (x ++ 45 :: y) [45] = (x.length : Int)
 | [], y, _ => by
  rw [List.nil_append, Lib.index, if_pos (by simp [List.isPrefixOf])]
  rfl
 | b :: x, y, h => by
  have hb : b ≠ 45 := fun e => h (by rw [e]; exact List.mem_cons_self)
  have ih := idx45 x y (fun e => h (List.mem_cons_of_mem _ e))
  have h1 : ¬ ([45].isPrefixOf (b :: (x ++ 45 :: y)) = true) := by
   simp [List.isPrefixOf]
   exact fun e => hb e.symm
  rw [List.cons_append, Lib.index, if_neg h1, ih, if_neg (by simp), List.length_cons]
  omega
theorem idx45_none : ∀ (x : List UInt8), (45 : UInt8) ∉ x → Lib.index x [45] = -1
 | [], _ => rfl
 | b :: x, h => by
  have hb : b ≠ 45 := fun e => h (by rw [e]; exact List.mem_cons_self)
  have ih := idx45_none x (fun e => h (List.mem_cons_of_mem _ e))
  have h1 : ¬ ([45].isPrefixOf (b :: x) = true) := by
   simp [List.isPrefixOf]
   exact fun e => hb e.symm
  rw [Lib.index, if_neg h1, ih, if_pos (by simp)]
theorem cut45 (x y : List UInt8) (h : (45 : UInt8) ∉ x) : Lib.cut (x ++ 45 :: y) [45] = (x, y, true) := by
 unfold Lib.cut
 rw [idx45 x y h, if_pos (by omega)]
 have e : ((x.length : Int)).toNat = x.length := by omega
 rw [e, List.take_left']
 ·
  congr 2
  show (x ++ 45 :: y).drop (x.length + 1) = y
  rw [← List.drop_drop, List.drop_left']
  ·
   rfl
  ·
   rfl
 ·
  rfl
theorem cut45_cases (p : List UInt8) : (∃ x y, p = x ++ 45 :: y ∧ Lib.cut p [45] = (x, y, true)) ∨ ((45 : UInt8) ∉ p ∧ Lib.cut p [45] = (p, [], false)) := by
 by_cases h : (45 : UInt8) ∈ p
 ·
  obtain ⟨x, y, e, hx⟩ := List.eq_append_cons_of_mem h
  exact .inl ⟨x, y, e, by rw [e]; exact cut45 x y hx⟩
 ·
  refine .inr ⟨h, ?_⟩
  unfold Lib.cut
  rw [idx45_none p h, if_neg (by omega)]
theorem st_cut (x : St) (h : inR x) : Lib.cut (stL x) [45] = (atL x.f0, atL x.f1, true) := cut45 _ _ (fun e => (at_clean _ h.1.1 h.1.2 _ e).1 rfl)
theorem at_inj {n m : Int} (h0 : 0 ≤ n) (h1 : n ≤ 100000) (h2 : 0 ≤ m) (h3 : m ≤ 100000) (e : atL n = atL m) : n = m := by
 have a := (Chain.val_at n h0 h1).1
 rw [e, (Chain.val_at m h2 h3).1] at a
 exact a.symm
theorem st_inj {x y : St} (hx : inR x) (hy : inR y) (e : stL x = stL y) : x = y := by
 have h := st_cut x hx
 rw [e, st_cut y hy] at h
 have h1 := congrArg Prod.fst h
 have h2 := congrArg (fun z => z.2.1) h
 have e1 := at_inj hy.1.1 hy.1.2 hx.1.1 hx.1.2 h1
 have e2 := at_inj hy.2.1 hy.2.2 hx.2.1 hx.2.2 h2
 cases x
 cases y
 simp only at e1 e2
 rw [e1, e2]
theorem st_space (x : St) (h : inR x) : (32 : UInt8) ∉ stL x := by
 intro e
 rcases List.mem_append.1 e with e | e
 ·
  exact (at_clean _ h.1.1 h.1.2 _ e).2 rfl
 ·
  rcases List.mem_cons.1 e with e | e
  ·
   cases e
  ·
   exact (at_clean _ h.2.1 h.2.2 _ e).2 rfl
theorem st_ne (x : St) : stL x ≠ [] := by unfold stL; simp
theorem at_len (n : Int) (h0 : 0 ≤ n) (h1 : n ≤ 100000) : (atL n).length ≤ 7 := (Chain.val_at n h0 h1).2
theorem reads_at (n : Int) (h0 : 0 ≤ n) (h1 : n ≤ 100000) (s : ByteArray) (hs : s.data.toList = atL n) : mast_ParseAt.f s = some (n, 0) := by
 have hl := at_len n h0 h1
 have hz : s.size = (atL n).length := by rw [← hs]; rfl
 obtain ⟨r, h2, h3⟩ := Chain.mast_reads s (by omega)
 rw [h2, h3.unique (.inl ⟨n, h0, h1, hs.symm, rfl⟩)]
theorem of_list (l : List UInt8) : (⟨l.toArray⟩ : ByteArray).data.toList = l := by simp
theorem step_good (acc : List St) (x : St) (h : inR x) : ParseW.step acc (stL x) = if acc.length < 60 then some (some (acc ++ [x])) else some none := by
 have hc := st_cut x h
 unfold ParseW.step ParseW.fromP ParseW.toP ParseW.ok
 rw [hc, reads_at x.f0 h.1.1 h.1.2 _ (of_list _), reads_at x.f1 h.2.1 h.2.2 _ (of_list _), Option.bind_some, Option.bind_some]
 by_cases hl : acc.length < 60
 ·
  rw [if_pos ⟨rfl, rfl, rfl, hl⟩, if_pos hl]
 ·
  rw [if_neg (fun h => hl h.2.2.2), if_neg hl]
theorem step_bad (acc : List St) (p : List UInt8) (hp : p.length ≤ 10000) (h : ∀ x, inR x → p ≠ stL x) : ParseW.step acc p = some none := by
 have sz : ∀ l : List UInt8, (⟨l.toArray⟩ : ByteArray).size = l.length := fun l => by simp [ByteArray.size]
 unfold ParseW.step ParseW.fromP ParseW.toP ParseW.ok
 rcases cut45_cases p with ⟨x, y, e, hc⟩ | ⟨_, hc⟩
 ·
  have hl : x.length ≤ 10000 ∧ y.length ≤ 10000 := by
   have := congrArg List.length e
   simp at this
   omega
  rw [hc]
  obtain ⟨r1, a1, b1⟩ := Chain.mast_reads ⟨x.toArray⟩ (by rw [sz]; exact hl.1)
  obtain ⟨r2, a2, b2⟩ := Chain.mast_reads ⟨y.toArray⟩ (by rw [sz]; exact hl.2)
  rw [a1, a2, Option.bind_some, Option.bind_some, if_neg]
  rintro ⟨_, h1, h2, _⟩
  rcases b1 with ⟨n, n0, n1, en, rfl⟩ | ⟨_, rfl⟩
  ·
   rcases b2 with ⟨m, m0, m1, em, rfl⟩ | ⟨_, rfl⟩
   ·
    rw [of_list] at en em
    exact h ⟨n, m⟩ ⟨⟨n0, n1⟩, ⟨m0, m1⟩⟩ (by rw [e]; unfold stL; rw [en, em])
   ·
    cases h2
  ·
   cases h1
 ·
  rw [hc]
  obtain ⟨r1, a1, b1⟩ := Chain.mast_reads ⟨p.toArray⟩ (by rw [sz]; exact hp)
  obtain ⟨r2, a2, b2⟩ := Chain.mast_reads ⟨([] : List UInt8).toArray⟩ (by decide)
  rw [a1, a2, Option.bind_some, Option.bind_some, if_neg (fun h => by cases h.1)]
def G (ps : List (List UInt8)) (l : List St) : Prop := ps = l.map stL ∧ ∀ x ∈ l, inR x
theorem G_unique {ps : List (List UInt8)} {l m : List St} (h : G ps l) (k : G ps m) : l = m := by
 obtain ⟨e1, h1⟩ := h
 obtain ⟨e2, h2⟩ := k
 rw [e1] at e2
 clear e1
 induction l generalizing m with
 | nil =>
  cases m with
  | nil => rfl
  | cons y m => simp at e2
 | cons x l ih =>
  cases m with
  | nil => simp at e2
  | cons y m =>
   simp only [List.map_cons, List.cons.injEq] at e2
   rw [st_inj (h1 x (by simp)) (h2 y (by simp)) e2.1, ih (fun z hz => h1 z (by simp [hz])) e2.2 (fun z hz => h2 z (by simp [hz]))]
theorem run_spec : ∀ (ps : List (List UInt8)) (acc : List St), (∀ p ∈ ps, p.length ≤ 10000) → acc.length ≤ 60 →
  (∀ l, G ps l → acc.length + l.length ≤ 60 → ParseW.run ps acc = some (some (acc ++ l))) ∧ ((∀ l, G ps l → 60 < acc.length + l.length) → ParseW.run ps acc = some none)
 | [], acc, hp, ha => by
  refine ⟨fun l hl _ => ?_, fun h => ?_⟩
  ·
   have : l = [] := by
    have := hl.1
    simpa using this.symm
   rw [this, List.append_nil]
   rfl
  ·
   have := h [] ⟨rfl, fun x hx => by cases hx⟩
   simp at this
   omega
 | p :: ps, acc, hp, ha => by
  have hp1 := hp p (by simp)
  have hps : ∀ q ∈ ps, q.length ≤ 10000 := fun q hq => hp q (by simp [hq])
  by_cases hg : ∃ x, inR x ∧ p = stL x
  ·
   obtain ⟨x, hx, rfl⟩ := hg
   have hs := step_good acc x hx
   by_cases hl : acc.length < 60
   ·
    rw [if_pos hl] at hs
    obtain ⟨i1, i2⟩ := run_spec ps (acc ++ [x]) hps (by simp; omega)
    refine ⟨fun l hG hle => ?_, fun h => ?_⟩
    ·
     cases l with
     | nil => have := hG.1; simp at this
     | cons y l =>
      obtain ⟨e, hr⟩ := hG
      simp only [List.map_cons, List.cons.injEq] at e
      have hxy := st_inj hx (hr y (by simp)) e.1
      subst hxy
      rw [ParseW.run, hs, Option.bind_some]
      have := i1 l ⟨e.2, fun z hz => hr z (by simp [hz])⟩ (by simp at hle ⊢; omega)
      simp only [this]
      simp
    ·
     rw [ParseW.run, hs, Option.bind_some]
     refine i2 (fun l hG => ?_)
     have := h (x :: l) ⟨by simp [hG.1], fun z hz => by
      rcases List.mem_cons.1 hz with rfl | hz
      ·
       exact hx
      ·
       exact hG.2 z hz⟩
     simp at this ⊢
     omega
   ·
    rw [if_neg hl] at hs
    refine ⟨fun l hG hle => ?_, fun h => by rw [ParseW.run, hs]; rfl⟩
    cases l with
    | nil => have := hG.1; simp at this
    | cons y l => simp at hle; omega
  ·
   have hs := step_bad acc p hp1 (fun x hx e => hg ⟨x, hx, e⟩)
   refine ⟨fun l hG hle => ?_, fun h => by rw [ParseW.run, hs]; rfl⟩
   cases l with
   | nil => have := hG.1; simp at this
   | cons y l =>
    obtain ⟨e, hr⟩ := hG
    simp only [List.map_cons, List.cons.injEq] at e
    exact absurd ⟨y, hr y (by simp), e.1⟩ hg
/-! texts of lists -/
def joinS : List (List UInt8) → List UInt8
 | [] => []
 | [a] => a
 | a :: b :: l => a ++ 32 :: joinS (b :: l)
def txt (l : List St) : List UInt8 := joinS (l.map stL)
theorem join_split : ∀ s, joinS (SeqW.split s) = s
 | [] => rfl
 | b :: t => by
  have ih := join_split t
  rw [SeqW.split]
  by_cases hb : b = 32
  ·
   rw [if_pos hb]
   cases hs : SeqW.split t with
   | nil => exact absurd hs (SeqW.split_ne t)
   | cons p r =>
    rw [hs] at ih
    rw [joinS, ih, hb]
    rfl
  ·
   rw [if_neg hb]
   cases hs : SeqW.split t with
   | nil => exact absurd hs (SeqW.split_ne t)
   | cons p r =>
    rw [hs] at ih
    simp only
    cases r with
    | nil =>
     rw [joinS] at ih ⊢
     rw [ih]
    | cons q r =>
     rw [joinS] at ih ⊢
     rw [← ih]
     rfl
theorem split_one : ∀ p : List UInt8, (32 : UInt8) ∉ p → SeqW.split p = [p]
 | [], _ => rfl
 | b :: p, h => by
  have hb : b ≠ 32 := fun e => h (by rw [e]; exact List.mem_cons_self)
  rw [SeqW.split, if_neg hb, split_one p (fun e => h (List.mem_cons_of_mem _ e))]
theorem split_app : ∀ (p t : List UInt8), (32 : UInt8) ∉ p → SeqW.split (p ++ 32 :: t) = p :: SeqW.split t
 | [], t, _ => by rw [List.nil_append, SeqW.split, if_pos rfl]
 | b :: p, t, h => by
  have hb : b ≠ 32 := fun e => h (by rw [e]; exact List.mem_cons_self)
  rw [List.cons_append, SeqW.split, if_neg hb, split_app p t (fun e => h (List.mem_cons_of_mem _ e))]
theorem split_txt : ∀ l : List St, l ≠ [] → (∀ x ∈ l, inR x) → SeqW.split (txt l) = l.map stL
 | [], h, _ => absurd rfl h
 | [x], _, h => split_one _ (st_space x (h x (by simp)))
 | x :: y :: l, _, h => by
  have ih := split_txt (y :: l) (by simp) (fun z hz => h z (by simp [hz]))
  show SeqW.split (stL x ++ 32 :: txt (y :: l)) = _
  rw [split_app _ _ (st_space x (h x (by simp))), ih]
  rfl
theorem txt_nil {l : List St} (h : txt l = []) : l = [] := by
 match l, h with
 | [], _ => rfl
 | [x], h => exact absurd h (st_ne x)
 | x :: y :: l, h =>
  have : stL x ++ 32 :: txt (y :: l) = [] := h
  simp at this
def okL (s : List UInt8) (l : List St) : Prop := txt l = s ∧ (∀ x ∈ l, inR x) ∧ Norm l ∧ l.length ≤ 60
theorem okL_G {s : List UInt8} {l : List St} (h : okL s l) (hs : s ≠ []) : G (SeqW.split s) l := by
 obtain ⟨e, h1, _, _⟩ := h
 have hne : l ≠ [] := fun e2 => hs (by rw [← e, e2]; rfl)
 exact ⟨by rw [← e, split_txt l hne h1], h1⟩
theorem G_okL {s : List UInt8} {l : List St} (h : G (SeqW.split s) l) (hn : Norm l) (hl : l.length ≤ 60) : okL s l :=
 ⟨by unfold txt; rw [← h.1, join_split], h.2, hn, hl⟩
theorem okL_unique {s : List UInt8} {l m : List St} (h : okL s l) (k : okL s m) : l = m := by
 by_cases hs : s = []
 ·
  rw [txt_nil (h.1.trans hs), txt_nil (k.1.trans hs)]
 ·
  exact G_unique (okL_G h hs) (okL_G k hs)
def Par (s : List UInt8) (r : List St × Int) : Prop := (∃ l, okL s l ∧ r = (l, 0)) ∨ ((¬ ∃ l, okL s l) ∧ r = ([], 3))
theorem Par.unique {s : List UInt8} {r r' : List St × Int} (h : Par s r) (k : Par s r') : r = r' := by
 rcases h with ⟨l, h, rfl⟩ | ⟨h, rfl⟩ <;> rcases k with ⟨m, k, rfl⟩ | ⟨k, rfl⟩
 ·
  rw [okL_unique h k]
 ·
  exact absurd ⟨l, h⟩ k
 ·
  exact absurd ⟨m, k⟩ h
 ·
  rfl
theorem norm_nil : Norm [] := ⟨List.Pairwise.nil, fun s hs => by cases hs⟩
theorem okB_nil : okB [] = true := (okB_iff []).2 ⟨norm_nil, by decide⟩
theorem mast_par (s : ByteArray) (hs : s.size ≤ 5000) : ∃ r, Ev (fun k => mast_Parse.f k s) r ∧ Par s.data.toList r := by
 have hle : s.data.toList.length = s.size := rfl
 have hps : ∀ p ∈ SeqW.split s.data.toList, p.length ≤ 10000 := fun p hp => by
  have := ParseW.split_len s.data.toList p hp
  omega
 have hf : ∀ k, mast_Parse.f k s = (ParseW.all s.data.toList).bind (ParseW.endF k) := fun k => if_pos (by omega)
 have fin : ∀ l : List St, l.length ≤ 60 → Ev (fun k => ParseW.endF k (some l)) (if okB l = true then (l, 0) else ([], 3)) := by
  intro l hl
  refine Ev.bind (mvalid l (by omega)) ?_
  cases okB l with
  | true => exact Ev.now _
  | false => exact Ev.now _
 by_cases h0 : s.data.toList = []
 ·
  refine ⟨([], 0), Ev.congr hf ?_, .inl ⟨[], ⟨h0.symm, (fun x hx => by cases hx), norm_nil, by decide⟩, rfl⟩⟩
  unfold ParseW.all
  rw [if_pos h0]
  have := fin [] (by decide)
  rw [okB_nil] at this
  exact this
 ·
  by_cases hg : ∃ l, G (SeqW.split s.data.toList) l ∧ l.length ≤ 60
  ·
   obtain ⟨l, hG, hl⟩ := hg
   have hr := (run_spec (SeqW.split s.data.toList) [] hps (by decide)).1 l hG (by simpa using hl)
   refine ⟨if okB l = true then (l, 0) else ([], 3), Ev.congr hf ?_, ?_⟩
   ·
    unfold ParseW.all
    rw [if_neg h0, hr]
    exact fin l hl
   ·
    by_cases hok : okB l = true
    ·
     rw [if_pos hok]
     exact .inl ⟨l, G_okL hG ((okB_iff l).1 hok).1 hl, rfl⟩
    ·
     rw [if_neg hok]
     refine .inr ⟨?_, rfl⟩
     rintro ⟨m, hm⟩
     have e := G_unique hG (okL_G hm h0)
     rw [e] at hok
     exact hok ((okB_iff m).2 ⟨hm.2.2.1, hm.2.2.2⟩)
  ·
   have hr := (run_spec (SeqW.split s.data.toList) [] hps (by decide)).2 (fun l hG => by
    have : ¬ l.length ≤ 60 := fun h => hg ⟨l, hG, h⟩
    simp
    omega)
   refine ⟨([], 3), Ev.congr hf ?_, .inr ⟨?_, rfl⟩⟩
   ·
    unfold ParseW.all
    rw [if_neg h0, hr]
    exact Ev.now _
   ·
    rintro ⟨m, hm⟩
    exact hg ⟨m, okL_G hm h0, hm.2.2.2⟩
end Go.Proofs.YtcmdcgghpkcchaaGreatDoor.Segs


/- Texts of lays: both write the same, and the reference reads just these. -/
namespace Go.Proofs.YtcmdcgghpkcchaaGreatDoor.Segs
set_option linter.unusedVariables false
set_option linter.unusedSimpArgs false
open Go.RowKit Go.Proofs.YtcmdcgghpkcchaaGreatDoor.XMast Go.Proofs.YtcmdcgghpkcchaaGreatDoorW.PrintWords Go.Proofs.YtcmdcgghpkcchaaGreatDoorW.PrintLast Go.Proofs.YtcmdcgghpkcchaaGreatDoorW.PrintMore Go.Proofs.YtcmdcgghpkcchaaGreatDoor.Lay
open Go.Proofs.YtcmdcgghpkcchaaGreatDoor.Chain (atL dg three reads)

def B (l : List UInt8) : ByteArray := ⟨l.toArray⟩
theorem B_size (l : List UInt8) : (B l).size = l.length := by simp [B, ByteArray.size]
theorem B_app (a b : List UInt8) : B a ++ B b = B (a ++ b) := by
 apply ByteArray.ext
 simp [B]
theorem B_of (s : ByteArray) : B s.data.toList = s := by simp [B]
theorem wrap_suc (x : Nat) (h : x < 1000000000) : wrap64 ((x : Int) + 1) = ((x + 1 : Nat) : Int) := by unfold wrap64; omega
theorem joinS_snoc (a : List UInt8) : ∀ l : List (List UInt8), l ≠ [] → joinS (l ++ [a]) = joinS l ++ 32 :: a
 | [], h => absurd rfl h
 | [b], _ => rfl
 | b :: c :: l, _ => by
  have := joinS_snoc a (c :: l) (by simp)
  simp only [List.cons_append] at this ⊢
  rw [joinS, this, joinS]
  simp
theorem txt_snoc (l : List St) (x : St) (h : l ≠ []) : txt (l ++ [x]) = txt l ++ 32 :: stL x := by
 unfold txt
 rw [List.map_append]
 exact joinS_snoc _ _ (by simpa using h)
theorem st_len (x : St) (h : inR x) : (stL x).length ≤ 15 := by
 have h1 := at_len x.f0 h.1.1 h.1.2
 have h2 := at_len x.f1 h.2.1 h.2.2
 unfold stL
 simp
 omega
theorem txt_len : ∀ l : List St, (∀ x ∈ l, inR x) → (txt l).length ≤ 16 * l.length
 | [], _ => Nat.zero_le _
 | [x], h => by
  have := st_len x (h x (by simp))
  show (stL x).length ≤ 16 * 1
  omega
 | x :: y :: l, h => by
  have h1 := st_len x (h x (by simp))
  have h2 := txt_len (y :: l) (fun z hz => h z (by simp [hz]))
  show (stL x ++ 32 :: txt (y :: l)).length ≤ _
  simp only [List.length_append, List.length_cons] at h2 ⊢
  omega
theorem join_lib : ∀ l : List (List UInt8), Lib.join l [32] = joinS l
 | [] => rfl
 | [a] => by simp [Lib.join, List.intercalate, joinS]
 | a :: b :: l => by
  rw [joinS, ← join_lib (b :: l)]
  simp [Lib.join, List.intercalate, List.intersperse]
theorem rd_at (l : List St) (i : Nat) (h : i < l.length) : rd_T38 l (i : Int) = l[i] := by
 simp [rd_T38, h]
theorem rtext (l : List St) (hl : l.length ≤ 60) (hr : ∀ x ∈ l, inR x) : Ev (fun k => dropperref01_text.f k l) (B (txt l)) := by
 have H : ∀ (d i : Nat), i + d = l.length → Ev (fun k => dropperref01_text.l0 k l (B (txt (l.take i))) (i : Int)) (B (txt l)) := by
  intro d
  induction d with
  | zero =>
   intro i hi
   have e : i = l.length := by omega
   rw [e, List.take_length]
   exact Ev.step (fun k => by rw [dropperref01_text.l0]) (ev_neg (by omega) (Ev.now _))
  | succ d ih =>
   intro i hi
   have hil : i < l.length := by omega
   have hx := hr l[i] (List.getElem_mem hil)
   have a0 := Chain.rat l[i].f0 hx.1.1 hx.1.2
   have a1 := Chain.rat l[i].f1 hx.2.1 hx.2.2
   have n0 := at_len l[i].f0 hx.1.1 hx.1.2
   have n1 := at_len l[i].f1 hx.2.1 hx.2.2
   have ih1 := ih (i + 1) (by omega)
   have htl := txt_len (l.take i) (fun z hz => hr z (List.mem_of_mem_take hz))
   have htk : (l.take i).length ≤ 60 := by rw [List.length_take]; omega
   have e45 : (⟨#[45]⟩ : ByteArray) = B [45] := rfl
   have e32 : (⟨#[32]⟩ : ByteArray) = B [32] := rfl
   have es : B (atL l[i].f0) ++ B [45] ++ B (atL l[i].f1) = B (stL l[i]) := by rw [B_app, B_app]; simp [stL]
   have hsl := st_len l[i] hx
   have htake : l.take (i + 1) = l.take i ++ [l[i]] := (List.take_append_getElem hil).symm
   refine Ev.step (fun k => by rw [dropperref01_text.l0]) (ev_pos (by omega) ?_)
   rw [rd_at l i hil, wrap_suc i (by omega)]
   by_cases h0 : i = 0
   ·
    subst h0
    refine ev_neg (by omega) (ev_pos (by omega) (Chain.evV a0 (ev_pos ?_ (Chain.evV a1 (ev_pos ?_ (ev_pos ?_ ?_))))))
    ·
     show (B _).size + 1 ≤ _; rw [B_size]; omega
    ·
     show (B _ ++ B [45]).size + (B _).size ≤ _; rw [B_app, B_size, B_size]; simp; omega
    ·
     show (B _).size + (B _ ++ B [45] ++ B _).size ≤ _; rw [es, B_size, B_size]; omega
    ·
     have : B (txt (l.take 0)) ++ (B (atL l[0].f0) ++ B [45] ++ B (atL l[0].f1)) = B (txt (l.take (0 + 1))) := by
      rw [es, B_app, htake]
      rfl
     rw [← this] at ih1
     exact ih1
   ·
    have hne : l.take i ≠ [] := by
     intro e
     have := congrArg List.length e
     rw [List.length_take, List.length_nil] at this
     omega
    refine ev_pos (by omega) (ev_pos ?_ (ev_pos (by omega) (Chain.evV a0 (ev_pos ?_ (Chain.evV a1 (ev_pos ?_ (ev_pos ?_ ?_)))))))
    ·
     show (B _).size + 1 ≤ _; rw [B_size]; omega
    ·
     show (B _).size + 1 ≤ _; rw [B_size]; omega
    ·
     show (B _ ++ B [45]).size + (B _).size ≤ _; rw [B_app, B_size, B_size]; simp; omega
    ·
     show (B _ ++ B [32]).size + (B _ ++ B [45] ++ B _).size ≤ _; rw [es, B_app, B_size, B_size]; simp; omega
    ·
     have : B (txt (l.take i)) ++ B [32] ++ (B (atL l[i].f0) ++ B [45] ++ B (atL l[i].f1)) = B (txt (l.take (i + 1))) := by
      rw [es, B_app, B_app, htake, txt_snoc _ _ hne]
      simp
     rw [← this] at ih1
     exact ih1
 exact H l.length 0 (by omega)
theorem norm_inR {l : List St} (h : Norm l) : ∀ x ∈ l, inR x := fun x hx => by
 have := h.2 x hx
 exact ⟨⟨this.1, by omega⟩, ⟨by omega, this.2.2⟩⟩
noncomputable def fmt (l : List St) : ByteArray × Int := if okB l = true then (B (txt l), 0) else (B [], 10)
theorem rformat (l : List St) (hl : l.length ≤ 100000) : Ev (fun k => dropperref01_Format.f k l) (fmt l) := by
 unfold dropperref01_Format.f fmt
 refine Ev.bind (rvalid l (by omega)) ?_
 by_cases h : okB l = true
 ·
  obtain ⟨h1, h2⟩ := (okB_iff l).1 h
  rw [if_pos h]
  exact ev_pos h (Ev.bind (rtext l h2 (norm_inR h1)) (Ev.now _))
 ·
  rw [if_neg h]
  exact ev_neg h (Ev.now _)
theorem mformat (l : List St) (hl : l.length ≤ 100000) : Ev (fun k => mast_Format.f k l) (fmt l) := by
 unfold mast_Format.f fmt
 refine Ev.bind (mvalid l (by omega)) ?_
 by_cases h : okB l = true
 ·
  obtain ⟨h1, h2⟩ := (okB_iff l).1 h
  have hr := norm_inR h1
  rw [if_pos h]
  refine ev_pos h ?_
  have H : ∀ (d i : Nat), i + d = l.length → Ev (fun k => mast_Format.l0 k ((l.take i).map (fun x => B (stL x))) l (l.length : Int) (i : Int)) (B (txt l), 0) := by
   intro d
   induction d with
   | zero =>
    intro i hi
    have e : i = l.length := by omega
    rw [e, List.take_length]
    refine Ev.step (fun k => by rw [mast_Format.l0]) (ev_neg (by omega) ?_)
    have hj : strings_Join.f (l.map (fun x => B (stL x))) ⟨#[32]⟩ = some (B (txt l)) := by
     have ht : strings_Join.txt (l.map (fun x => B (stL x))) ⟨#[32]⟩ = txt l := by
      unfold strings_Join.txt txt
      rw [List.map_map, ← join_lib]
      congr 1
     have hlen := txt_len l hr
     unfold strings_Join.f
     rw [ht, if_pos ⟨by simpa using hl, by omega⟩]
     rfl
    exact Chain.evV hj (Ev.now _)
   | succ d ih =>
    intro i hi
    have hil : i < l.length := by omega
    have hx := hr l[i] (List.getElem_mem hil)
    have a0 := Chain.mat l[i].f0 hx.1.1 hx.1.2
    have a1 := Chain.mat l[i].f1 hx.2.1 hx.2.2
    have n0 := at_len l[i].f0 hx.1.1 hx.1.2
    have n1 := at_len l[i].f1 hx.2.1 hx.2.2
    have ih1 := ih (i + 1) (by omega)
    have es : B (atL l[i].f0) ++ B [45] ++ B (atL l[i].f1) = B (stL l[i]) := by rw [B_app, B_app]; simp [stL]
    have htake : l.take (i + 1) = l.take i ++ [l[i]] := (List.take_append_getElem hil).symm
    rw [htake, List.map_append, List.map_singleton, ← es] at ih1
    refine Ev.step (fun k => by rw [mast_Format.l0]) (ev_pos (by omega) (ev_pos (by omega) (ev_pos (by omega) ?_)))
    rw [rd_at l i hil, wrap_suc i (by omega)]
    refine Chain.evV a0 (ev_pos ?_ (Chain.evV a1 (ev_pos ?_ (ev_pos ?_ ?_))))
    ·
     show (B _).size + 1 ≤ _; rw [B_size]; omega
    ·
     show (B _ ++ B [45]).size + (B _).size ≤ _; rw [B_app, B_size, B_size]; simp; omega
    ·
     rw [List.length_map, List.length_take]; omega
    ·
     exact ih1
  exact H l.length 0 (by omega)
 ·
  rw [if_neg h]
  exact ev_neg h (Ev.now _)
/-! ### the reference reads -/
def dashAt : List UInt8 → Nat → Nat → Nat
 | [], i, d => d
 | c :: t, i, d => dashAt t (i + 1) (if c = 45 then i else d)
theorem dash_cases : ∀ (t : List UInt8) (i d : Nat), ((45 : UInt8) ∉ t ∧ dashAt t i d = d) ∨ ∃ x y, t = x ++ 45 :: y ∧ (45 : UInt8) ∉ y ∧ dashAt t i d = i + x.length
 | [], i, d => .inl ⟨by simp, rfl⟩
 | c :: t, i, d => by
  rw [dashAt]
  rcases dash_cases t (i + 1) (if c = 45 then i else d) with ⟨h1, h2⟩ | ⟨x, y, h1, h2, h3⟩
  ·
   by_cases hc : c = 45
   ·
    refine .inr ⟨[], t, by rw [hc]; rfl, h1, ?_⟩
    rw [h2, if_pos hc]
    rfl
   ·
    refine .inl ⟨fun e => ?_, by rw [h2, if_neg hc]⟩
    rcases List.mem_cons.1 e with e | e
    ·
     exact hc e.symm
    ·
     exact h1 e
  ·
   refine .inr ⟨c :: x, y, by rw [h1]; rfl, h2, ?_⟩
   rw [h3, List.length_cons]
   omega
theorem st_split {x y : List UInt8} {z : St} (hz : inR z) (h : x ++ 45 :: y = stL z) (hy : (45 : UInt8) ∉ y) : x = atL z.f0 ∧ y = atL z.f1 := by
 have c0 : (45 : UInt8) ∉ atL z.f0 := fun e => (at_clean _ hz.1.1 hz.1.2 _ e).1 rfl
 have c1 : (45 : UInt8) ∉ atL z.f1 := fun e => (at_clean _ hz.2.1 hz.2.2 _ e).1 rfl
 have hx : (45 : UInt8) ∉ x := by
  intro e
  have h1 := congrArg (List.count 45) h
  unfold stL at h1
  rw [List.count_append, List.count_append, List.count_cons_self, List.count_cons_self, List.count_eq_zero.2 hy, List.count_eq_zero.2 c0, List.count_eq_zero.2 c1] at h1
  have := List.count_pos_iff.2 e
  omega
 have h2 := cut45 x y hx
 rw [h, st_cut z hz] at h2
 exact ⟨(congrArg Prod.fst h2).symm, (congrArg (fun q => q.2.1) h2).symm⟩
theorem at_ne (n : Int) : atL n ≠ [] := by unfold Chain.atL; simp
theorem drop_at {s : ByteArray} {i : Nat} {c : UInt8} {r : List UInt8} (h : s.data.toList.drop i = c :: r) : i < s.size ∧ bt s (i : Int) = (c.toNat : Int) ∧ s.data.toList.drop (i + 1) = r := by
 have hp : i < s.data.toList.length := by
  have := congrArg List.length h
  simp at this
  simp
  omega
 have hc := List.drop_eq_getElem_cons hp
 rw [h] at hc
 obtain ⟨hb, ht⟩ := List.cons.inj hc
 exact ⟨hp, by rw [Chain.bt_list s i hp, ← hb], ht.symm⟩
theorem cut_B (s : ByteArray) (i j : Nat) : s.extract i j = B ((s.data.toList.drop i).take (j - i)) := by
 apply ByteArray.ext
 refine Array.toList_inj.1 ?_
 simp [B, ByteArray.data_extract, List.extract_eq_take_drop]
theorem scan (s : ByteArray) (hs : s.size ≤ 5000) (out : List St) (fr : Nat) (r : List UInt8) (hr : r = [] ∨ ∃ r', r = 32 :: r') (res : List St × Int) : ∀ (t : List UInt8) (i d : Nat), s.data.toList.drop i = t ++ r → i ≤ s.size → (32 : UInt8) ∉ t →
  Ev (fun k => dropperref01_Parse.j3 k s out (fr : Int) ((i + t.length : Nat) : Int) ((dashAt t i d : Nat) : Int) false) res → Ev (fun k => dropperref01_Parse.l1 k s out (fr : Int) (i : Int) (d : Int)) res
 | [], i, d, h1, h2, h3, h4 => by
  rw [List.nil_append] at h1
  refine Ev.step (fun k => by rw [dropperref01_Parse.l1]) ?_
  rcases hr with rfl | ⟨r', rfl⟩
  ·
   have : s.size ≤ i := by
    have := congrArg List.length h1
    simp at this
    omega
   exact ev_neg (by omega) h4
  ·
   obtain ⟨g1, g2, _⟩ := drop_at h1
   refine ev_pos (by omega) (ev_pos (by omega) ?_)
   rw [g2]
   exact h4
 | c :: t, i, d, h1, h2, h3, h4 => by
  rw [List.cons_append] at h1
  obtain ⟨g1, g2, g3⟩ := drop_at h1
  have hc : c ≠ 32 := fun e => h3 (by rw [e]; exact List.mem_cons_self)
  have hcn : ((c.toNat : Int) != 32) = true := by
   rw [bne_iff_ne]
   intro e
   exact hc (UInt8.toNat_inj.1 (by have : (32 : UInt8).toNat = 32 := rfl; omega))
  have ih := scan s hs out fr r hr res t (i + 1) (if c = 45 then i else d) g3 (by omega) (fun e => h3 (List.mem_cons_of_mem _ e))
  rw [show i + 1 + t.length = i + (c :: t).length from by simp; omega] at ih
  have ih := ih h4
  refine Ev.step (fun k => by rw [dropperref01_Parse.l1]) (ev_pos (by omega) (ev_pos (by omega) ?_))
  rw [g2, hcn]
  refine Ev.step (fun k => by rw [dropperref01_Parse.j3]) (ev_pos rfl (ev_pos (by omega) (ev_pos (by omega) ?_)))
  rw [g2, wrap_suc i (by omega)]
  by_cases h45 : c = 45
  ·
   subst h45
   rw [if_pos rfl] at ih
   exact ev_pos rfl ih
  ·
   rw [if_neg h45] at ih
   exact ev_neg (fun e => h45 (UInt8.toNat_inj.1 (by have : (45 : UInt8).toNat = 45 := rfl; omega))) ih
theorem seg_of (l : List UInt8) : ∃ t r, l = t ++ r ∧ (32 : UInt8) ∉ t ∧ (r = [] ∧ SeqW.split l = [t] ∨ ∃ r', r = 32 :: r' ∧ SeqW.split l = t :: SeqW.split r') := by
 by_cases h : (32 : UInt8) ∈ l
 ·
  obtain ⟨t, r, e, ht⟩ := List.eq_append_cons_of_mem h
  exact ⟨t, 32 :: r, e, ht, .inr ⟨r, rfl, by rw [e]; exact split_app t r ht⟩⟩
 ·
  exact ⟨l, [], by simp, h, .inl ⟨rfl, split_one l h⟩⟩
theorem ref_loop (s : ByteArray) (hs : s.size ≤ 5000) : ∀ (m fr : Nat) (out : List St), m = s.size + 1 - fr → fr ≤ s.size + 1 → out.length ≤ fr → (∀ x ∈ out, inR x) →
  (fr ≤ s.size → SeqW.split s.data.toList = out.map stL ++ SeqW.split (s.data.toList.drop fr)) → (fr = s.size + 1 → SeqW.split s.data.toList = out.map stL) → (s.data.toList = [] → out = []) →
  ∃ r, Ev (fun k => dropperref01_Parse.l0 k s out (fr : Int)) r ∧ Par s.data.toList r := by
 intro m
 induction m using Nat.strongRecOn with
 | _ m ihm =>
 intro fr out hm hf hof hin h1 h2 h3
 have hsl : s.data.toList.length = s.size := rfl
 by_cases hA : fr < s.size ∧ out.length ≤ 60
 ·
  obtain ⟨t, r, et, ht, hr⟩ := seg_of (s.data.toList.drop fr)
  have hsp := h1 (by omega)
  have hr2 : r = [] ∨ ∃ r', r = 32 :: r' := by
   rcases hr with ⟨e, _⟩ | ⟨r', e, _⟩
   ·
    exact .inl e
   ·
    exact .inr ⟨r', e⟩
  have hmem : t ∈ SeqW.split s.data.toList := by
   rw [hsp]
   rcases hr with ⟨_, e⟩ | ⟨r', _, e⟩ <;> rw [e] <;> simp
  have hne : s.data.toList ≠ [] := fun e => by rw [e] at hsl; simp at hsl; omega
  have htl : fr + t.length ≤ s.size := by
   have := congrArg List.length et
   rw [List.length_drop, List.length_append] at this
   omega
  have bad : (∀ z, inR z → t ≠ stL z) → Par s.data.toList ([], 3) := by
   intro hb
   refine .inr ⟨?_, rfl⟩
   rintro ⟨l, hl⟩
   obtain ⟨e, hi⟩ := okL_G hl hne
   rw [e] at hmem
   obtain ⟨z, hz, e2⟩ := List.mem_map.1 hmem
   exact hb z (hi z hz) e2.symm
  have start : ∀ res, Ev (fun k => dropperref01_Parse.j3 k s out (fr : Int) ((fr + t.length : Nat) : Int) ((dashAt t fr fr : Nat) : Int) false) res → Ev (fun k => dropperref01_Parse.l0 k s out (fr : Int)) res := by
   intro res he
   refine Ev.step (fun k => by rw [dropperref01_Parse.l0]) (ev_pos (by omega) ?_)
   rw [decide_eq_true (show (out.length : Int) ≤ 60 by omega)]
   refine Ev.step (fun k => by rw [dropperref01_Parse.j1]) (ev_pos rfl ?_)
   exact scan s hs out fr r hr2 res t fr fr et (by omega) ht he
  rcases dash_cases t fr fr with ⟨d1, d2⟩ | ⟨x, y, d1, d2, d3⟩
  ·
   refine ⟨([], 3), start _ ?_, bad (fun z hz e => d1 (by rw [e]; unfold stL; simp))⟩
   rw [d2]
   exact Ev.step (fun k => by rw [dropperref01_Parse.j3]) (ev_neg (by simp) (ev_pos rfl (Ev.now _)))
  ·
   by_cases hx : x = []
   ·
    refine ⟨([], 3), start _ ?_, bad (fun z hz e => ?_)⟩
    ·
     rw [d3, hx, List.length_nil, Nat.add_zero]
     exact Ev.step (fun k => by rw [dropperref01_Parse.j3]) (ev_neg (by simp) (ev_pos rfl (Ev.now _)))
    ·
     have := st_split hz (d1.symm.trans e) d2
     exact at_ne _ (this.1.symm.trans hx)
   ·
    have hxl : 0 < x.length := List.length_pos_iff.2 hx
    have htl2 : t.length = x.length + y.length + 1 := by rw [d1]; simp; omega
    have ex : s.extract fr (fr + x.length) = B x := by
     rw [cut_B, et, d1]
     congr 1
     rw [show fr + x.length - fr = x.length from by omega]
     simp
    have ey : s.extract (fr + x.length + 1) (fr + t.length) = B y := by
     rw [cut_B, show fr + t.length - (fr + x.length + 1) = y.length from by omega]
     congr 1
     rw [Nat.add_assoc, ← List.drop_drop, et, d1, show x ++ 45 :: y ++ r = (x ++ [45]) ++ (y ++ r) from by simp, show x.length + 1 = (x ++ [45]).length from by simp, List.drop_left, List.take_left]
    obtain ⟨r1, p1, q1⟩ := Chain.ref_reads (B x) (by rw [B_size]; omega)
    obtain ⟨r2, p2, q2⟩ := Chain.ref_reads (B y) (by rw [B_size]; omega)
    have walk : ∀ res, Ev (fun k => if r1.2 = 0 then (if r2.2 = 0 then (if out.length < 8796093022208 then (dropperref01_Parse.l0 k s (out ++ [(⟨r1.1, r2.1⟩ : St)]) (wrap64 (((fr + t.length : Nat) : Int) + 1))) else none) else (some (([] : List St), 3))) else (some (([] : List St), 3))) res → Ev (fun k => dropperref01_Parse.j3 k s out (fr : Int) ((fr + t.length : Nat) : Int) ((dashAt t fr fr : Nat) : Int) false) res := by
     intro res he
     rw [d3]
     refine Ev.step (fun k => by rw [dropperref01_Parse.j3]) (ev_neg (by simp) (ev_neg (by omega) (ev_pos (by omega) (ev_pos (by omega) (ev_pos (by omega) ?_)))))
     simp only [Int.toNat_natCast, wrap_suc (fr + x.length) (by omega), ex, ey]
     refine Ev.bind p1 (ev_pos (by omega) (ev_pos (by omega) (ev_pos (by omega) ?_)))
     exact Ev.bind p2 he
    by_cases g1 : r1.2 = 0 ∧ r2.2 = 0
    ·
     obtain ⟨g1, g2⟩ := g1
     have q1' : ∃ n, 0 ≤ n ∧ n ≤ 100000 ∧ atL n = x ∧ r1 = (n, 0) := by
      rcases q1 with ⟨n, n0, n1, en, e⟩ | ⟨_, e⟩
      ·
       exact ⟨n, n0, n1, by rw [en]; exact of_list x, e⟩
      ·
       rw [e] at g1; cases g1
     have q2' : ∃ n, 0 ≤ n ∧ n ≤ 100000 ∧ atL n = y ∧ r2 = (n, 0) := by
      rcases q2 with ⟨n, n0, n1, en, e⟩ | ⟨_, e⟩
      ·
       exact ⟨n, n0, n1, by rw [en]; exact of_list y, e⟩
      ·
       rw [e] at g2; cases g2
     obtain ⟨n, n0, n1, en, rfl⟩ := q1'
     obtain ⟨k2, k0, k1, ek, rfl⟩ := q2'
     have ht2 : t = stL ⟨n, k2⟩ := by rw [d1]; unfold stL; rw [en, ek]
     have hz : inR ⟨n, k2⟩ := ⟨⟨n0, n1⟩, ⟨k0, k1⟩⟩
     obtain ⟨res, e1, e2⟩ := ihm (s.size + 1 - (fr + t.length + 1)) (by omega) (fr + t.length + 1) (out ++ [⟨n, k2⟩]) rfl (by omega) (by simp; omega)
      (fun z hz' => by
       rcases List.mem_append.1 hz' with h | h
       ·
        exact hin z h
       ·
        rw [List.mem_singleton.1 h]; exact hz)
      (fun hle => by
       rcases hr with ⟨er, e⟩ | ⟨r', er, e⟩
       ·
        rw [er, List.append_nil] at et
        have := congrArg List.length et
        rw [List.length_drop] at this
        omega
       ·
        rw [hsp, e, ht2, Nat.add_assoc, ← List.drop_drop, et, er, ← ht2, show t ++ 32 :: r' = (t ++ [32]) ++ r' from by simp, show t.length + 1 = (t ++ [32]).length from by simp, List.drop_left]
        simp
        exact ht2)
      (fun heq => by
       rcases hr with ⟨er, e⟩ | ⟨r', er, e⟩
       ·
        rw [hsp, e, ht2]; simp
       ·
        rw [er] at et
        have := congrArg List.length et
        rw [List.length_drop, List.length_append, List.length_cons] at this
        omega)
      (fun e => absurd e hne)
     refine ⟨res, start _ (walk _ (ev_pos rfl (ev_pos rfl (ev_pos (by omega) ?_)))), e2⟩
     rw [wrap_suc (fr + t.length) (by omega)]
     exact e1
    ·
     refine ⟨([], 3), start _ (walk _ ?_), bad (fun z hz e => ?_)⟩
     ·
      by_cases g2 : r1.2 = 0
      ·
       exact ev_pos g2 (ev_neg (fun h => g1 ⟨g2, h⟩) (Ev.now _))
      ·
       exact ev_neg g2 (Ev.now _)
     ·
      obtain ⟨e1, e2⟩ := st_split hz (d1.symm.trans e) d2
      apply g1
      have u1 : r1 = (z.f0, 0) := q1.unique (.inl ⟨z.f0, hz.1.1, hz.1.2, by rw [← e1]; exact (of_list x).symm, rfl⟩)
      have u2 : r2 = (z.f1, 0) := q2.unique (.inl ⟨z.f1, hz.2.1, hz.2.2, by rw [← e2]; exact (of_list y).symm, rfl⟩)
      rw [u1, u2]
      exact ⟨rfl, rfl⟩
 ·
  have toEnd : ∀ res, Ev (fun k => dropperref01_Parse.j1 k s out (fr : Int) false) res → Ev (fun k => dropperref01_Parse.l0 k s out (fr : Int)) res := by
   intro res he
   refine Ev.step (fun k => by rw [dropperref01_Parse.l0]) ?_
   by_cases hfs : fr < s.size
   ·
    refine ev_pos (by omega) ?_
    rw [decide_eq_false (fun h => hA ⟨hfs, by omega⟩)]
    exact he
   ·
    exact ev_neg (by omega) he
  -- if the text is one of a lay, the lay is what was read
  have key : ∀ l, okL s.data.toList l → l = out := by
   intro l hl
   by_cases hne : s.data.toList = []
   ·
    rw [h3 hne, txt_nil (hl.1.trans hne)]
   ·
    obtain ⟨e, hi⟩ := okL_G hl hne
    by_cases hf1 : fr = s.size + 1
    ·
     exact G_unique ⟨e, hi⟩ ⟨h2 hf1, hin⟩
    ·
     have hsp := h1 (by omega)
     by_cases hf2 : fr = s.size
     ·
      exfalso
      rw [hf2, List.drop_eq_nil_of_le (by omega), e] at hsp
      have : ([] : List UInt8) ∈ l.map stL := by rw [hsp, SeqW.split]; simp
      obtain ⟨z, _, e2⟩ := List.mem_map.1 this
      exact st_ne z e2
     ·
      exfalso
      have h60 : 60 < out.length := by
       have : ¬ out.length ≤ 60 := fun h => hA ⟨by omega, h⟩
       omega
      rw [e] at hsp
      have := congrArg List.length hsp
      rw [List.length_map, List.length_append, List.length_map] at this
      have h60' := hl.2.2.2
      omega
  by_cases hok : okB out = true
  ·
   obtain ⟨o1, o2⟩ := (okB_iff out).1 hok
   by_cases htx : txt out = s.data.toList
   ·
    refine ⟨(out, 0), toEnd _ ?_, .inl ⟨out, ⟨htx, hin, o1, o2⟩, rfl⟩⟩
    refine Ev.step (fun k => by rw [dropperref01_Parse.j1]) (ev_neg (by simp) (Ev.bind (rvalid out (by omega)) (ev_pos hok (Ev.bind (rtext out o2 hin) (ev_pos ?_ (Ev.now _))))))
    rw [ByteArray.toList_eq, ByteArray.toList_eq]
    exact (of_list _).trans htx
   ·
    refine ⟨([], 3), toEnd _ ?_, .inr ⟨?_, rfl⟩⟩
    ·
     refine Ev.step (fun k => by rw [dropperref01_Parse.j1]) (ev_neg (by simp) (Ev.bind (rvalid out (by omega)) (ev_pos hok (Ev.bind (rtext out o2 hin) (ev_neg ?_ (Ev.now _))))))
     rw [ByteArray.toList_eq, ByteArray.toList_eq]
     exact fun e => htx ((of_list _).symm.trans e)
    ·
     rintro ⟨l, hl⟩
     have := key l hl
     rw [this] at hl
     exact htx hl.1
  ·
   refine ⟨([], 3), toEnd _ ?_, .inr ⟨?_, rfl⟩⟩
   ·
    exact Ev.step (fun k => by rw [dropperref01_Parse.j1]) (ev_neg (by simp) (Ev.bind (rvalid out (by omega)) (ev_neg hok (Ev.now _))))
   ·
    rintro ⟨l, hl⟩
    have := key l hl
    rw [this] at hl
    exact hok ((okB_iff out).2 ⟨hl.2.2.1, hl.2.2.2⟩)
theorem ref_par (s : ByteArray) (hs : s.size ≤ 5000) : ∃ r, Ev (fun k => dropperref01_Parse.f k s) r ∧ Par s.data.toList r :=
 ref_loop s hs (s.size + 1) 0 [] rfl (by omega) (by simp) (fun x hx => by cases hx) (fun _ => by simp) (fun h => by omega) (fun _ => rfl)
end Go.Proofs.YtcmdcgghpkcchaaGreatDoor.Segs

namespace Go.Proofs.YtcmdcgghpkcchaaGreatDoor.Open
open Go.RowKit Go.Proofs.YtcmdcgghpkcchaaGreatDoorW.PrintWords Go.Proofs.YtcmdcgghpkcchaaGreatDoorW.PrintLast Go.Proofs.YtcmdcgghpkcchaaGreatDoorW.PrintMore
set_option linter.unusedVariables false
set_option linter.unusedSimpArgs false
/-! What an argument of a type reads as, in the print's kinds. -/
def Opens {α : Type} (P : Program) (t : TypeId) (kd : Kd α) (G : α → Prop) : Prop :=
 ∀ (H : Type) (enc : TypeId × Value → H) (W : World) (fuel : Nat) (cs : List Value) (x : DataW H × List MemPlace), DataW.trod enc P W 0 (fun _ => true) true fuel t cs = some x → ∃ a, kd.K W a cs ∧ G a
section
variable {P : Program} {t e : TypeId} {α β : Type} {kd : Kd α} {G : α → Prop}
theorem opens_int {k : IntKind} (hu : P.underlying t = some (.int k)) : Opens P t (Kd.int k) (fun n => (Lit.int k n).wf = true) := by
 intro H enc W fuel cs x h
 obtain ⟨n, rfl, _, hw⟩ := DataW.trod_int hu h
 exact ⟨n, rfl, hw⟩
theorem opens_bool (hu : P.underlying t = some .bool) : Opens P t Kd.bool (fun _ => True) := by
 intro H enc W fuel cs x h
 obtain ⟨b, rfl, _⟩ := DataW.trod_bool hu h
 exact ⟨b, rfl, trivial⟩
theorem opens_string (hu : P.underlying t = some .string) : Opens P t Kd.string (fun s => s.size ≤ maxLen) := by
 intro H enc W fuel cs x h
 obtain ⟨s, rfl, _, hs⟩ := DataW.trod_string hu h
 exact ⟨s, rfl, hs⟩
theorem exists_list {Q : Nat → α → Prop} : ∀ n, (∀ i, i < n → ∃ x, Q i x) → ∃ xs : List α, xs.length = n ∧ ∀ i x, xs[i]? = some x → Q i x := by
 intro n
 induction n with
 | zero => intro _; exact ⟨[], rfl, fun i x h => by simp at h⟩
 | succ n ih =>
  intro h
  obtain ⟨xs, hl, hq⟩ := ih (fun i hi => h i (by omega))
  obtain ⟨x, hx⟩ := h n (by omega)
  refine ⟨xs ++ [x], by simp [hl], fun i y hy => ?_⟩
  by_cases hi : i < n
  ·
   rw [List.getElem?_append_left (by omega)] at hy
   exact hq i y hy
  ·
   rw [List.getElem?_append_right (by omega)] at hy
   have : i - xs.length = 0 := by
    have := (List.getElem?_eq_some_iff.1 hy).1
    simp at this; omega
   rw [this] at hy
   have hin : i = n := by omega
   subst hin
   simp at hy
   subst hy
   exact hx
theorem add_add (a : Addr) (m n : Nat) : (a.add m).add n = a.add (m + n) := by
 unfold Addr.add
 by_cases h1 : m = 0
 ·
  subst h1; simp
 ·
  by_cases h2 : n = 0
  ·
   subst h2; simp [h1]
  ·
   have : ¬ m + n = 0 := by omega
   simp [h1, h2, this, Nat.add_assoc]
theorem opens_slice (hu : P.underlying t = some (.slice e)) (he : Opens P e kd G) (hc : P.cellsOf e = kd.sz) : Opens P t (Kd.slice e kd) (fun l => l.length ≤ 9223372036854775807 ∧ ∀ x ∈ l, G x) := by
 intro H enc W fuel cs x h
 rcases DataW.trod_slice hu h with ⟨rfl, _⟩ | ⟨a, len, cap, elems, rest, n, _, rfl, _, hb, hl, hm, hlen, hel, _, _⟩
 ·
  exact ⟨[], ⟨none, 0, rfl, Nat.le_refl _, rfl, by simp, fun h => absurd h (by simp)⟩, by simp, fun x hx => by simp at hx⟩
 ·
  have hx : ∀ i, i < len → ∃ y : α, (∃ c, c.length = kd.sz ∧ kd.K W y c ∧ ∀ j u, c[j]? = some u → W.cell? (a.add (i * kd.sz + j)) = some u) ∧ G y := by
   intro i hi
   have h1 := hel i hi
   rw [List.getElem?_eq_getElem (by omega)] at h1
   obtain ⟨c, hc1, hc2⟩ := Option.bind_eq_some_iff.1 h1
   obtain ⟨y, hk, hg⟩ := he H enc W n c _ hc2
   obtain ⟨_, hcl, hcell⟩ := World.cells?_some hc1
   refine ⟨y, ⟨c, kd.K_len hk, hk, fun j u hj => ?_⟩, hg⟩
   rw [hc] at hcell
   have := hcell j (by have := (List.getElem?_eq_some_iff.1 hj).1; have := kd.K_len hk; omega)
   rw [← add_add, this, hj]
  obtain ⟨xs, hxl, hxq⟩ := exists_list len hx
  have hmax : len ≤ 9223372036854775807 := by unfold maxLen at hm; omega
  refine ⟨xs, ⟨some a, cap, by rw [hxl], by omega, rfl, by omega, fun _ => ⟨a, rfl, fun j p hj => (hxq j p hj).1⟩⟩, by omega, fun y hy => ?_⟩
  obtain ⟨i, hi, rfl⟩ := List.mem_iff_getElem.1 hy
  exact (hxq i xs[i] (List.getElem?_eq_getElem hi)).2
def OpensF (P : Program) (fs : List Field) (off : Nat) (kd : Kd α) (G : α → Prop) : Prop :=
 ∀ (H : Type) (enc : TypeId × Value → H) (W : World) (fuel : Nat) (cs : List Value) (xs : List (DataW H × List MemPlace)), xs.length = fs.length → cs.length = off + kd.sz →
  (∀ (i : Nat) (f : Field), fs[i]? = some f → DataW.trod enc P W 0 (fun _ => true) true fuel f.type ((cs.drop f.offset).take (P.cellsOf f.type)) = xs[i]?) → ∃ a, kd.K W a (cs.drop off) ∧ G a
theorem opensF_one {f : Field} {off : Nat} (ho : f.offset = off) (hc : P.cellsOf f.type = kd.sz) (h : Opens P f.type kd G) : OpensF P [f] off kd G := by
 intro H enc W fuel cs xs hl hcs hx
 have h0 := hx 0 f rfl
 rw [List.getElem?_eq_getElem (by rw [hl]; simp), ho, hc, List.take_of_length_le (by rw [List.length_drop]; omega)] at h0
 exact h H enc W fuel _ _ h0
theorem opensF_cons {f : Field} {fs : List Field} {off : Nat} {ka : Kd α} {kb : Kd β} {Ga : α → Prop} {Gb : β → Prop} (ho : f.offset = off) (hc : P.cellsOf f.type = ka.sz) (h : Opens P f.type ka Ga) (hr : OpensF P fs (off + ka.sz) kb Gb) :
  OpensF P (f :: fs) off (Kd.pair ka kb) (fun p => Ga p.1 ∧ Gb p.2) := by
 intro H enc W fuel cs xs hl hcs hx
 have hcs' : cs.length = off + (ka.sz + kb.sz) := hcs
 match xs, hl with
 | x0 :: xs', hl =>
  have h0 := hx 0 f rfl
  rw [ho, hc] at h0
  obtain ⟨a, ha, hga⟩ := h H enc W fuel _ x0 h0
  obtain ⟨b, hb, hgb⟩ := hr H enc W fuel cs xs' (by simpa using hl) (by omega) (fun i f' hf' => hx (i + 1) f' (by simpa using hf'))
  refine ⟨(a, b), ⟨_, _, ?_, ha, hb⟩, hga, hgb⟩
  rw [← List.drop_drop, List.take_append_drop]
theorem opens_struct {fs : Array Field} (hu : P.underlying t = some (.struct fs)) (hc : P.cellsOf t = kd.sz) (h : OpensF P fs.toList 0 kd G) : Opens P t kd G := by
 intro H enc W fuel cs x hx
 obtain ⟨xs, n, _, _, hl, hxl, hf⟩ := DataW.trod_struct hu hx
 obtain ⟨a, ha, hg⟩ := h H enc W n cs xs (by rw [hxl]; simp) (by omega) (fun i f hf' => hf i f (by simpa using hf'))
 exact ⟨a, ha, hg⟩
theorem opens_iso {f : β → α} (g : α → β) (hfg : ∀ y, f (g y) = y) (h : Opens P t kd G) : Opens P t (Kd.iso kd f) (fun b => G (f b)) := by
 intro H enc W fuel cs x hx
 obtain ⟨a, ha, hg⟩ := h H enc W fuel cs x hx
 exact ⟨g a, by show kd.K W (f (g a)) cs; rw [hfg]; exact ha, by show G (f (g a)); rw [hfg]; exact hg⟩
theorem okWide_array {n : Nat} {w : World} {r : Reach} {base : Nat} {v : Value} (ht : P.underlying t = some (.array n e)) (h : Value.okWide P w r base t v) : ∃ cs, v = .agg cs ∧ cs.size = P.cellsOf t := by
 simp only [Value.okWide, ht] at h
 obtain ⟨cs, h1, h2, _⟩ := h
 exact ⟨cs, h1, h2⟩
theorem agg_of {cs : Array Value} {l : List Value} (h : (Value.agg cs).cells.toList = l) : cs = l.toArray := by
 have h' : cs.toList = l := h
 rw [← h']
theorem opens_two (hu : P.underlying t = some (.array 2 e)) (hce : P.cellsOf e = kd.sz) (hc : P.cellsOf t = kd.sz + kd.sz) (h : Opens P e kd G) : Opens P t (Kd.pair kd kd) (fun p => G p.1 ∧ G p.2) := by
 intro H enc W fuel cs x hx
 obtain ⟨xs, n, _, _, hl, hxl, hf⟩ := DataW.trod_array hu hx
 have h0 := hf 0 (by omega)
 have h1 := hf 1 (by omega)
 rw [hce] at h0 h1
 rw [List.getElem?_eq_getElem (by omega)] at h0 h1
 obtain ⟨a, ha, ga⟩ := h H enc W n _ _ h0
 obtain ⟨b, hb, gb⟩ := h H enc W n _ _ h1
 refine ⟨(a, b), ⟨_, _, ?_, ha, hb⟩, ga, gb⟩
 rw [Nat.zero_mul, List.drop_zero, Nat.one_mul, List.take_of_length_le (l := cs.drop kd.sz) (by rw [List.length_drop]; omega), List.take_append_drop]
end
end Go.Proofs.YtcmdcgghpkcchaaGreatDoor.Open


/- From the rows' condition on the laid tables and the world's shape to what the walks ask of the library's variables. -/
namespace Go.Proofs.YtcmdcgghpkcchaaGreatDoor.Laid
set_option linter.unusedVariables false
set_option linter.unusedSimpArgs false
open Go.ChangeShapes Go.WideShapes Go.ChangeAt Go.WideMaps Go.WideElems Go.RowKit Go.Proofs.YtcmdcgghpkcchaaGreatDoor

abbrev laid2 : List (String × DataW Unit) := [("math/bits.deBruijn32tab", Rows.laid_math_bits_deBruijn32tab), ("math/bits.deBruijn64tab", Rows.laid_math_bits_deBruijn64tab), ("internal/strconv.uint64pow10", Rows.laid_internal_strconv_uint64pow10), ("strconv.ErrRange", Rows.laid_strconv_ErrRange), ("strconv.ErrSyntax", Rows.laid_strconv_ErrSyntax)]
theorem ifc {W : World} {fuel : Nat} {t : TypeId} {ms : Array (String × TypeId)} {cs : List Value} {nm : String} {d : DataW Unit} {p : List MemPlace} (hu : Tryz.prog.underlying t = some (.interface ms))
  (h : DataW.trod (fun _ => ()) Tryz.prog W 0 (fun _ => true) false fuel t cs = some (.iface nm d, p)) : ∃ u v, cs = [.iface u v] := by
 cases fuel with
 | zero => simp [DataW.trod] at h
 | succ n =>
  unfold DataW.trod at h
  rw [hu] at h
  split at h
  all_goals first
   | exact ⟨_, _, rfl⟩
   | (exfalso; simp at *; done)
   | (exfalso; simp_all; done)
theorem te1 : (Tryz.prog.globals[1]?).map (·.type) = some 45 := by kernel_rfl
theorem te2 : (Tryz.prog.globals[2]?).map (·.type) = some 45 := by kernel_rfl
theorem tp : (Tryz.prog.globals[5]?).map (·.type) = some 132 := by kernel_rfl
theorem door_met (os : Os) (args : Array Value) : laidMetH Tryz.prog laid2 ((World.doorLaid Tryz.prog 4000 os).forCall (fun _ _ => 0) ⟨#[], args, []⟩).memory :=
 laidMetH_of_parts3 (fuel := 100) (laidMet_of_run' 100 (by kernel_rfl) (by kernel_rfl)) (by kernel_rfl) (by kernel_rfl)
theorem tabs_of {W : World} (h : laidMetH Tryz.prog laid2 W) (hs : W.ShapedOpen Tryz.prog) : Tab.Tabs W := by
 rw [MakeChecks.laidMetH_plain _ _ _ (by kernel_rfl)] at h
 obtain ⟨ps, ⟨g0, t0, cs0, f0, p0, q0, hg0, ht0, hv0, hd0, ⟨g1, t1, cs1, f1, p1, q1, hg1, ht1, hv1, hd1, ⟨g2, t2, cs2, f2, p2, q2, hg2, ht2, hv2, hd2, ⟨g3, t3, cs3, f3, p3, q3, hg3, ht3, hv3, hd3, ⟨g4, t4, cs4, f4, p4, q4, hg4, ht4, hv4, hd4, _, _⟩, _⟩, _⟩, _⟩, _⟩, _, _⟩ := h
 obtain rfl := Option.some.inj (Tab.gpow.symm.trans hg2)
 obtain rfl := Option.some.inj (tp.symm.trans ht2)
 obtain rfl := Option.some.inj (Tab.grng.symm.trans hg3)
 obtain rfl := Option.some.inj (Tab.gsyn.symm.trans hg4)
 refine ⟨?_, ?_, ?_, ?_⟩
 ·
  have hT : (Rows.laid_internal_strconv_uint64pow10 : DataW Unit) = Lib.tabData .u64 Lib.pow10Tab := rfl
  rw [hT] at hd2
  unfold Lib.TabIs
  rw [hv2, ← Lib.cells_of_tab Tryz.underlying132 Tryz.underlying93 (by kernel_rfl) (by kernel_rfl) hd2]
 ·
  exact Go.Proofs.cell_of_shapedOpen_int (zero := #[.int .i64 0]) (t := 3) hs (of_decide_eq_true (by kernel_rfl)) (by kernel_rfl) rfl (by kernel_rfl) (by kernel_rfl) Tryz.underlying3
 ·
  obtain rfl := Option.some.inj (te1.symm.trans ht4)
  obtain ⟨u, v, e⟩ := ifc Tryz.underlying45 hd4
  refine ⟨u, v, ?_⟩
  rw [var?_cell Tab.gsyn hv4 0, ← Array.getElem?_toList, e]
  rfl

 ·
  obtain rfl := Option.some.inj (te2.symm.trans ht3)
  obtain ⟨u, v, e⟩ := ifc Tryz.underlying45 hd3
  refine ⟨u, v, ?_⟩
  rw [var?_cell Tab.grng hv3 0, ← Array.getElem?_toList, e]
  rfl
section
variable {H : Type} {enc : TypeId × Value → H}
theorem and_shaped {a : Assume} {C : Checked} {os : Os} {f : FuncId} {fn : Func} {s : ChangeSpec} {conds : List PathCond} {apart fresh handsOn again : Bool} {X : World → Array Value → Prop}
  (hX : ∀ (w w' : World) (args : Array Value), w.heap = w'.heap → X w args → X w' args)
  (own : ownKnob C.prog.godebug = none) (started : os.Started) (noInit : C.prog.inits.idxOf? f = none) (hfn : C.prog.funcs[f]? = some fn)
  (witness : ∃ (w : World) (tape : Tape) (i : Input), w.os = os ∧ (w.forCall tape i).Shaped C.prog ∧ i.vars = [] ∧ Input.okWide C.prog (w.forCall tape i) .any w.heap.size f i ∧
   ((s.pre enc C.prog fn conds apart (w.forCall tape i).memory i.args ∧ X (w.forCall tape i).memory i.args) ∧ sizedMet enc C.prog fn (OpenSpec.ofChange s) apart (w.forCall tape i).memory i.args) ∧ a.holds C.prog (lone (Frame.enter C.prog f i.args .normal) [] (w.forCall tape i)))
  (contract : ∀ (W : World) (base : Nat) (args : Array Value) (ds gs : List (DataW H)) (before : List MemPlace),
   (∀ (j : Nat) t v, fn.params[j]? = some t → args[j]? = some v → Value.okWide C.prog W .any base t v) →
   DataW.Whole enc C.prog fn.params.toList s.vars apart W args.toList ds gs before →
   conds.all (PathCond.test C.prog ⟨fn.params.toList, ds, s.plain.varTypes C.prog, gs⟩) = true →
   (DataW.weightsEach C.prog (fn.params.toList ++ s.plain.varTypes C.prog) (ds ++ gs)).all (· ≤ reachBytes) = true → X W args → W.ShapedOpen C.prog →
   a.holds C.prog (lone (Frame.enter C.prog f args .normal) [] W) →
   Calls C.prog f args W fun e W' => ∃ v, e = .returned v ∧ s.post enc C.prog fn apart fresh handsOn again W args v W') :
  ReturnsInHanded a C os f .any (fun w args => (s.pre enc C.prog fn conds apart w args ∧ X w args) ∧ sizedMet enc C.prog fn (OpenSpec.ofChange s) apart w args) (s.post enc C.prog fn apart fresh handsOn again) := by
 refine returnsInHanded_of_calls own started noInit witness ?_
 intro w tape i _ hsh _ hok hpre hholds
 obtain ⟨_, _, _, fn', hfn', _, _, _, _, hval⟩ := hok
 obtain rfl : fn' = fn := Option.some.inj (hfn'.symm.trans hfn)
 obtain ⟨⟨⟨ds, gs, before, hw, hc⟩, hx⟩, hz⟩ := hpre
 refine (contract (w.forCall tape i) w.heap.size i.args ds gs before hval (DataW.Whole.of_heap (w' := w.forCall tape i) (by rfl) hw) hc (hz.weights hw) (hX _ _ _ (by rfl) hx) hsh hholds).mono fun e W' ⟨v, he, hp⟩ => ?_
 subst he
 exact ChangeSpec.post_blind hp
end
end Go.Proofs.YtcmdcgghpkcchaaGreatDoor.Laid


/- From the rows' condition on the laid tables and the world's shape to what the walks ask of the library's variables. -/
namespace Go.Proofs.YtcmdcgghpkcchaaGreatDoor.Laid7
set_option linter.unusedVariables false
set_option linter.unusedSimpArgs false
open Go.ChangeShapes Go.WideShapes Go.ChangeAt Go.WideMaps Go.WideElems Go.RowKit Go.Proofs.YtcmdcgghpkcchaaGreatDoor

abbrev laid2 : List (String × DataW Unit) := [("math/bits.deBruijn32tab", Rows.laid_math_bits_deBruijn32tab), ("math/bits.deBruijn64tab", Rows.laid_math_bits_deBruijn64tab), ("internal/strconv.uint64pow10", Rows.laid_internal_strconv_uint64pow10), ("unicode/utf8.acceptRanges", Rows.laid_unicode_utf8_acceptRanges), ("strconv.ErrRange", Rows.laid_strconv_ErrRange), ("strconv.ErrSyntax", Rows.laid_strconv_ErrSyntax), ("unicode/utf8.first", Rows.laid_unicode_utf8_first)]
theorem te1 : (Tryz.prog.globals[1]?).map (·.type) = some 45 := by kernel_rfl
theorem te2 : (Tryz.prog.globals[2]?).map (·.type) = some 45 := by kernel_rfl
theorem tp : (Tryz.prog.globals[5]?).map (·.type) = some 132 := by kernel_rfl
theorem door_met (os : Os) (args : Array Value) : laidMetH Tryz.prog laid2 ((World.laidAll Tryz.prog os laid2).forCall (fun _ _ => 0) ⟨#[], args, []⟩).memory := by
 rw [MakeChecks.laidMetH_plain _ _ _ (by kernel_rfl)]
 exact laidMet_laidAll _ (by kernel_rfl) (by kernel_rfl)
theorem tabs_of {W : World} (h : laidMetH Tryz.prog laid2 W) (hs : W.ShapedOpen Tryz.prog) : Tab.Tabs W := by
 rw [MakeChecks.laidMetH_plain _ _ _ (by kernel_rfl)] at h
 obtain ⟨ps, ⟨g0, t0, cs0, f0, p0, q0, hg0, ht0, hv0, hd0, ⟨g1, t1, cs1, f1, p1, q1, hg1, ht1, hv1, hd1, ⟨g2, t2, cs2, f2, p2, q2, hg2, ht2, hv2, hd2, ⟨g3, t3, cs3, f3, p3, q3, hg3, ht3, hv3, hd3, ⟨g4, t4, cs4, f4, p4, q4, hg4, ht4, hv4, hd4, ⟨g5, t5, cs5, f5, p5, q5, hg5, ht5, hv5, hd5, ⟨g6, t6, cs6, f6, p6, q6, hg6, ht6, hv6, hd6, _, _⟩, _⟩, _⟩, _⟩, _⟩, _⟩, _⟩, _, _⟩ := h
 obtain rfl := Option.some.inj (Tab.gpow.symm.trans hg2)
 obtain rfl := Option.some.inj (tp.symm.trans ht2)
 obtain rfl := Option.some.inj (Tab.grng.symm.trans hg4)
 obtain rfl := Option.some.inj (Tab.gsyn.symm.trans hg5)
 refine ⟨?_, ?_, ?_, ?_⟩
 ·
  have hT : (Rows.laid_internal_strconv_uint64pow10 : DataW Unit) = Lib.tabData .u64 Lib.pow10Tab := rfl
  rw [hT] at hd2
  unfold Lib.TabIs
  rw [hv2, ← Lib.cells_of_tab Tryz.underlying132 Tryz.underlying93 (by kernel_rfl) (by kernel_rfl) hd2]
 ·
  exact Go.Proofs.cell_of_shapedOpen_int (zero := #[.int .i64 0]) (t := 3) hs (of_decide_eq_true (by kernel_rfl)) (by kernel_rfl) rfl (by kernel_rfl) (by kernel_rfl) Tryz.underlying3
 ·
  obtain rfl := Option.some.inj (te1.symm.trans ht5)
  obtain ⟨u, v, e⟩ := Laid.ifc Tryz.underlying45 hd5
  refine ⟨u, v, ?_⟩
  rw [var?_cell Tab.gsyn hv5 0, ← Array.getElem?_toList, e]
  rfl

 ·
  obtain rfl := Option.some.inj (te2.symm.trans ht4)
  obtain ⟨u, v, e⟩ := Laid.ifc Tryz.underlying45 hd4
  refine ⟨u, v, ?_⟩
  rw [var?_cell Tab.grng hv4 0, ← Array.getElem?_toList, e]
  rfl
end Go.Proofs.YtcmdcgghpkcchaaGreatDoor.Laid7
