-- Written by wip/pack.py of this repo: texts of this claim, put together.
import Derived.Test.YteikgnaikeleaaaKLoopd
/- Plain circuits are read as what they are of; sets and letters; what least sets tell. -/
namespace Go.Proofs.Yteikgnaikeleaaa
set_option linter.unusedVariables false

theorem leastF_congr {f g : Nat → Bool} (h : ∀ x, x < 256 → f x = g x) : leastF f = leastF g := by
 have e : stepF f = stepF g := by
  funext out n
  unfold stepF
  rw [h n.val n.isLt]
 unfold leastF
 rw [e]
theorem plainF_congr {f g : Nat → Bool} (h : ∀ x, x < 256 → f x = g x) : plainF f = plainF g := by
 unfold plainF leastT
 rw [leastF_congr h, h 0 (by decide), h 255 (by decide)]
theorem least_true {f : Nat → Bool} (hf : Good f) {n : Fin 256} (h : n ∈ leastF f) : f n.val = true := by
 have hm := (least_mem hf n).1 h
 unfold minF at hm
 simp only [Bool.and_eq_true] at hm
 exact hm.1
theorem least_any {f : Nat → Bool} (hf : Good f) (x : Nat) (hx : x < 256) : (leastF f).any (fun n => partOf n.val x) = f x := by
 cases h : f x with
 | true =>
  obtain ⟨a, h1, h2⟩ := min_below f x hx h
  exact List.any_eq_true.2 ⟨a, (least_mem hf a).2 h1, h2⟩
 | false =>
  refine Bool.eq_false_iff.2 (fun h2 => ?_)
  obtain ⟨a, h3, h4⟩ := List.any_eq_true.1 h2
  have := hf.mono a.val x (fun i hi => (part_iff _ _ a.isLt hx).1 h4 i hi) (least_true hf h3)
  rw [h] at this
  cases this
theorem textN_letters (n : Nat) : ∀ b ∈ textN n, isL b = true := by
 intro b hb
 unfold textN at hb
 obtain ⟨i, hi, h⟩ := List.mem_filterMap.1 hb
 have h8 := List.mem_range.1 hi
 split at h
 ·
  obtain rfl := Option.some.inj h
  have : ∀ i : Fin 8, isL (UInt8.ofNat (97 + i.val)) = true := by decide
  exact this ⟨i, h8⟩
 ·
  cases h
theorem textN_ne (n : Nat) (h : n < 256) (h0 : n ≠ 0) : textN n ≠ [] := by
 have : ∀ n : Fin 256, n.val ≠ 0 → textN n.val ≠ [] := by decide +kernel
 exact this ⟨n, h⟩ h0
theorem letters_branch : ∀ l : List UInt8, l ≠ [] → (∀ b ∈ l, isL b = true) → GB l (l.map litM)
 | [], h, _ => absurd rfl h
 | [b], _, h => GB.one _ _ (GP.lit b (h b (by simp)))
 | b :: c :: l, _, h => by
  have := letters_branch (c :: l) (by simp) (fun x hx => h x (by simp [hx]))
  exact GB.cons [b] (c :: l) _ _ (GP.lit b (h b (by simp))) this
theorem cond_text (n x : Nat) (hn : n < 256) (hx : x < 256) : condB ((textN n).map litM) x = partOf n x := by
 rw [Bool.eq_iff_iff, part_iff n x hn hx]
 unfold condB textN
 rw [List.all_map, List.all_eq_true]
 constructor
 ·
  intro h j hj
  have h8 := bit_lt n j hn hj
  have := h (UInt8.ofNat (97 + j)) (List.mem_filterMap.2 ⟨j, List.mem_range.2 h8, by rw [if_pos hj]⟩)
  have e : ∀ j : Fin 8, (UInt8.ofNat (97 + j.val)).toNat - 97 = j.val := by decide
  simp only [Function.comp_apply, litM] at this
  rw [e ⟨j, h8⟩] at this
  exact this
 ·
  intro h b hb
  obtain ⟨j, hj, hb⟩ := List.mem_filterMap.1 hb
  have h8 := List.mem_range.1 hj
  split at hb
  ·
   rename_i hbit
   obtain rfl := Option.some.inj hb
   have e : ∀ j : Fin 8, (UInt8.ofNat (97 + j.val)).toNat - 97 = j.val := by decide
   simp only [Function.comp_apply, litM]
   rw [e ⟨j, h8⟩]
   exact h j hbit
  ·
   cases hb
theorem plain_circ : ∀ l : List (Fin 256), l ≠ [] → (∀ n ∈ l, n.val ≠ 0) → GC (joinL (l.map (fun n => textN n.val))) (l.map (fun n => (textN n.val).map litM))
 | [], h, _ => absurd rfl h
 | [n], _, h => GC.one _ _ (letters_branch _ (textN_ne n.val n.isLt (h n (by simp))) (textN_letters _))
 | n :: m :: l, _, h => by
  have := plain_circ (m :: l) (by simp) (fun x hx => h x (by simp [hx]))
  exact GC.cons _ _ _ _ (letters_branch _ (textN_ne n.val n.isLt (h n (by simp))) (textN_letters _)) this
theorem parse_plain {f : Nat → Bool} (hf : Good f) (hl : (leastT f).length ≤ 40) : ∃ m, parseL (leastT f) = some m ∧ ∀ x, x < 256 → m.f x = f x := by
 have hne : leastF f ≠ [] := by
  intro e
  have h := least_any hf 255 (by decide)
  rw [e, hf.full] at h
  cases h
 have h0 : ∀ n ∈ leastF f, n.val ≠ 0 := by
  intro n hn e
  have := least_true hf hn
  rw [e, hf.zero] at this
  cases this
 have g := plain_circ _ hne h0
 refine ⟨_, by unfold parseL; rw [show parseC (leastT f) = some _ from of_parse g hl]; rfl, fun x hx => ?_⟩
 show condC _ x = f x
 rw [← least_any hf x hx]
 unfold condC
 rw [List.any_map]
 congr 1
 funext n
 exact cond_text n.val x n.isLt hx
/-! sets and their texts -/
theorem text_or (j : Nat) (hj : j < 8) (out : Nat) (h : out < 2 ^ j) : textN (out ||| 2 ^ j) = textN out ++ [UInt8.ofNat (97 + j)] := by
 have h9 : ∀ (j : Fin 8) (out : Fin 256), out.val < 2 ^ j.val → textN (out.val ||| 2 ^ j.val) = textN out.val ++ [UInt8.ofNat (97 + j.val)] := by decide +kernel
 exact h9 ⟨j, hj⟩ ⟨out, Nat.lt_trans h (Nat.pow_lt_pow_right (by decide) hj)⟩ h
theorem setL_text : ∀ (t : List UInt8) (out : Nat) (c : Nat) (k : Nat), c ≤ 8 → out < 2 ^ c → setL t out ((c : Int) - 1) = some k → textN k = textN out ++ t
 | [], out, c, k, hc, ho, h => by rw [setL] at h; obtain rfl := Option.some.inj h; simp
 | b :: t, out, c, k, hc, ho, h => by
  rw [setL] at h
  split at h
  case isFalse => cases h
  rename_i hi
  have hb := (isL_iff b).1 hi.1
  have e : ((b.toNat : Int) - 97) = (((b.toNat - 97 + 1 : Nat) : Int) - 1) := by omega
  have hlt : out < 2 ^ (b.toNat - 97) := Nat.lt_of_lt_of_le ho (Nat.pow_le_pow_right (by decide) (by omega))
  rw [e] at h
  have := setL_text t _ (b.toNat - 97 + 1) k (by omega) (or_lt_next out _ (by omega) hlt) h
  have eb : UInt8.ofNat (97 + (b.toNat - 97)) = b := by
   apply UInt8.toNat_inj.1
   have := b.toNat_lt
   simp
   omega
  rw [this, text_or _ (by omega) _ hlt, eb]
  simp
theorem set_is {q : List UInt8} {k : Nat} (h : setL q 0 (-1) = some k) : q = textN k := by
 have := setL_text q 0 0 k (by decide) (by decide) h
 rw [this]
 rfl
theorem textN_inj {a b : Nat} (ha : a < 256) (hb : b < 256) (h : textN a = textN b) : a = b := by
 have h1 := set_text a ha
 rw [h, set_text b hb] at h1
 exact (Option.some.inj h1).symm
theorem textN_has (n i : Nat) (hi : i < 8) : (UInt8.ofNat (97 + i) ∈ textN n) ↔ n.testBit i = true := by
 unfold textN
 rw [List.mem_filterMap]
 constructor
 ·
  rintro ⟨j, hj, h⟩
  split at h
  ·
   rename_i hb
   have h8 := List.mem_range.1 hj
   have e : ∀ i j : Fin 8, UInt8.ofNat (97 + j.val) = UInt8.ofNat (97 + i.val) → j = i := by decide
   have := e ⟨i, hi⟩ ⟨j, h8⟩ (Option.some.inj h)
   rw [← show j = i from congrArg Fin.val this]
   exact hb
  ·
   cases h
 ·
  intro h
  exact ⟨i, List.mem_range.2 hi, by rw [if_pos h]⟩
theorem textN_letter (n : Nat) (b : UInt8) (h : b ∈ textN n) : ∃ i, i < 8 ∧ b = UInt8.ofNat (97 + i) ∧ n.testBit i = true := by
 unfold textN at h
 obtain ⟨i, hi, h⟩ := List.mem_filterMap.1 h
 split at h
 ·
  rename_i hb
  exact ⟨i, List.mem_range.1 hi, (Option.some.inj h).symm, hb⟩
 ·
  cases h
theorem letter_val (i : Nat) (hi : i < 8) : ((UInt8.ofNat (97 + i)).toNat : Int) = 97 + i := by
 have : ∀ i : Fin 8, (UInt8.ofNat (97 + i.val)).toNat = 97 + i.val := by decide
 have h := this ⟨i, hi⟩
 simp only at h
 rw [h]
 omega
/-! cuts -/
theorem cutG_eq (f : Nat → Bool) : ∀ x, x < 256 → cutG f x = cutF f x := fun x h => cutG_at f x h
theorem least_cut (f : Nat → Bool) : leastF (cutF f) = leastF (cutG f) := leastF_congr (fun x h => (cutG_at f x h).symm)
theorem cut_cut (f : Nat → Bool) (x : Nat) (h : x < 256) : cutF (cutF f) x = f x := by
 have : ∀ k : Fin 256, 255 ^^^ (255 ^^^ k.val) = k.val := by decide +kernel
 unfold cutF
 rw [this ⟨x, h⟩, Bool.not_not]
theorem cutF_congr {f g : Nat → Bool} (h : ∀ x, x < 256 → f x = g x) : ∀ x, x < 256 → cutF f x = cutF g x := fun x hx => by
 have : 255 ^^^ x < 256 := Nat.xor_lt_two_pow (n := 8) (by decide) hx
 unfold cutF
 rw [h _ this]
theorem least_meets {f : Nat → Bool} (hf : Good f) (x : Nat) (hx : x < 256) : (leastF f).all (fun n => (n.val &&& x) != 0) = cutF f x := by
 have hc : 255 ^^^ x < 256 := Nat.xor_lt_two_pow (n := 8) (by decide) hx
 have h1 := least_any hf (255 ^^^ x) hc
 have e : ∀ n : Fin 256, ((n.val &&& x) != 0) = !partOf n.val (255 ^^^ x) := by
  intro n
  unfold partOf
  have : 255 ^^^ (255 ^^^ x) = x := by
   have : ∀ k : Fin 256, 255 ^^^ (255 ^^^ k.val) = k.val := by decide +kernel
   exact this ⟨x, hx⟩
  rw [this]
  rfl
 unfold cutF
 rw [← h1, List.not_any_eq_all_not]
 congr 1
 funext n
 exact e n
theorem cuts_meet {f : Nat → Bool} (hf : Good f) (x : Nat) (hx : x < 256) : (leastF (cutF f)).all (fun n => (n.val &&& x) != 0) = f x := by
 rw [least_cut, least_meets (cutG_good hf) x hx, ← cut_cut f x hx]
 exact cutF_congr (cutG_eq f) x hx
theorem cuts_any {f : Nat → Bool} (hf : Good f) (x : Nat) (hx : x < 256) : (leastF (cutF f)).any (fun n => partOf n.val x) = cutF f x := by
 rw [least_cut, least_any (cutG_good hf) x hx, cutG_at f x hx]
theorem least_same {f g : Nat → Bool} (hf : Good f) (hg : Good g) (h : leastF f = leastF g) : ∀ x, x < 256 → f x = g x := fun x hx => by
 rw [← least_any hf x hx, h, least_any hg x hx]
theorem sameF_iff (f g : Nat → Bool) : sameF f g = true ↔ ∀ x, x < 256 → f x = g x := by
 unfold sameF
 rw [List.all_eq_true]
 exact ⟨fun h x hx => beq_iff_eq.1 (h x (List.mem_range.2 hx)), fun h x hx => beq_iff_eq.2 (h x (List.mem_range.1 hx))⟩
theorem withinF_iff (f g : Nat → Bool) : withinF f g = true ↔ ∀ x, x < 256 → f x = true → g x = true := by
 unfold withinF
 rw [List.all_eq_true]
 constructor
 ·
  intro h x hx hf
  have := h x (List.mem_range.2 hx)
  rw [hf] at this
  simpa using this
 ·
  intro h x hx
  cases hf : f x with
  | false => rfl
  | true => rw [h x (List.mem_range.1 hx) hf]; rfl
theorem same_within (f g : Nat → Bool) : sameF f g = (withinF f g && withinF g f) := by
 rw [Bool.eq_iff_iff, Bool.and_eq_true, sameF_iff, withinF_iff, withinF_iff]
 constructor
 ·
  exact fun h => ⟨fun x hx hf => by rw [← h x hx]; exact hf, fun x hx hf => by rw [h x hx]; exact hf⟩
 ·
  rintro ⟨h1, h2⟩ x hx
  rw [Bool.eq_iff_iff]
  exact ⟨h1 x hx, h2 x hx⟩
theorem differ_none (f g : Nat → Bool) : (differF f g = none) ↔ sameF f g = true := by
 unfold differF
 rw [List.find?_eq_none, sameF_iff]
 constructor
 ·
  intro h x hx
  have := h ⟨x, hx⟩ (all_inF _)
  simpa using this
 ·
  intro h n _
  simp [h n.val n.isLt]
/-! letters that are idle or needed -/
theorem fold_idle : ∀ (l : List (Fin 256)) (a i : Nat), i < 8 → (l.foldl (fun out n => out &&& (255 ^^^ n.val)) a).testBit i = true → a.testBit i = true ∧ ∀ n ∈ l, n.val.testBit i = false
 | [], a, i, hi, h => ⟨h, fun n hn => by cases hn⟩
 | m :: l, a, i, hi, h => by
  obtain ⟨h1, h2⟩ := fold_idle l _ i hi h
  rw [Nat.testBit_and, bit_xor _ _ hi, Bool.and_eq_true] at h1
  refine ⟨h1.1, fun n hn => ?_⟩
  rcases List.mem_cons.1 hn with rfl | hn
  ·
   simpa using h1.2
  ·
   exact h2 n hn
def less (n i : Nat) : Nat := n &&& (255 - 2 ^ i)
theorem less_bits (n i j : Nat) (hi : i < 8) (hn : n < 256) : (less n i).testBit j = (n.testBit j && decide (j ≠ i)) := by
 unfold less
 rw [Nat.testBit_and, without_bit i j hi]
 cases h : n.testBit j with
 | false => rfl
 | true => rw [decide_eq_true (bit_lt n j hn h)]; simp
theorem less_256 (n i : Nat) (hn : n < 256) : less n i < 256 := and_lt n _ hn
theorem idle_same {f : Nat → Bool} (hf : Good f) (s : List UInt8) (i n : Nat) (hi : i < 8) (hn : n < 256) (h : (idleF s f).testBit i = true) : f (less n i) = f n := by
 obtain ⟨_, h2⟩ := fold_idle (leastF f) _ i hi h
 rw [← least_any hf n hn, ← least_any hf _ (less_256 n i hn), Bool.eq_iff_iff, List.any_eq_true, List.any_eq_true]
 constructor
 ·
  rintro ⟨a, ha, hp⟩
  refine ⟨a, ha, (part_iff _ _ a.isLt hn).2 (fun j hj => ?_)⟩
  have := (part_iff _ _ a.isLt (less_256 n i hn)).1 hp j hj
  rw [less_bits n i j hi hn, Bool.and_eq_true] at this
  exact this.1
 ·
  rintro ⟨a, ha, hp⟩
  refine ⟨a, ha, (part_iff _ _ a.isLt (less_256 n i hn)).2 (fun j hj => ?_)⟩
  have := (part_iff _ _ a.isLt hn).1 hp j hj
  rw [less_bits n i j hi hn, this, Bool.true_and, decide_eq_true_iff]
  intro e
  have := h2 a ha
  rw [e] at hj
  rw [hj] at this
  cases this
theorem needs_none {f : Nat → Bool} (hf : Good f) (i n : Nat) (hi : i < 8) (hn : n < 256) (h : (needsF f).testBit i = true) : f (less n i) = false := by
 rw [needs_bit hf i hi] at h
 cases hq : f (less n i) with
 | false => rfl
 | true =>
  have := hf.mono (less n i) (255 - 2 ^ i) (fun j hj => by
   rw [less_bits n i j hi hn, Bool.and_eq_true] at hj
   rw [without_bit i j hi, decide_eq_true (bit_lt n j hn hj.1)]
   exact hj.2) hq
  rw [this] at h
  cases h
theorem text_less (n i : Nat) (hn : n < 256) (hi : i < 8) : (textN n).filter (fun b => b != UInt8.ofNat (97 + i)) = textN (less n i) := by
 have h9 : ∀ (n : Fin 256) (i : Fin 8), (textN n.val).filter (fun b => b != UInt8.ofNat (97 + i.val)) = textN (less n.val i.val) := by decide +kernel
 exact h9 ⟨n, hn⟩ ⟨i, hi⟩
end Go.Proofs.Yteikgnaikeleaaa

namespace Go.Proofs.Yteikgnaikeleaaa.XLoop
open Go.RowKit Go.Proofs.YteikgnaikeleaaaW.PrintWords Go.Proofs.YteikgnaikeleaaaW.PrintLast Go.Proofs.YteikgnaikeleaaaW.PrintMore
attribute [local go_sem] max2_int min2_int max_two min_two max_three min_three max_four min_four   -- for this text's walks alone
set_option linter.unusedVariables false
set_option linter.unusedSimpArgs false
/-! ### loop_Conducts: function 25 -/
def loop_Conducts.f (a0 : ByteArray) (a1 : ByteArray) : Option (Bool × Int) := some ((condR a0.data.toList a1.data.toList).1, (condR a0.data.toList a1.data.toList).2)
theorem loop_Conducts.calls (a0 : ByteArray) (a1 : ByteArray) (r1 : Bool) (r2 : Int) (w : World) (h : loop_Conducts.f a0 a1 = some (r1, r2)) :
  Calls Try.prog 25 #[.string a0, .string a1] w fun e w' => e = .returned (.tuple #[.bool r1, .int .i64 r2]) ∧ Below w.heap.size w w' := by
 obtain ⟨rfl, rfl⟩ := Prod.mk.inj (Option.some.inj h)
 have hc := conducts_calls a0.data.toList a1.data.toList w
 simp only [tx_data] at hc
 exact hc

end Go.Proofs.Yteikgnaikeleaaa.XLoop