-- Written by wip/pack.py of this repo: texts of this claim, put together.
import Derived.Lib.Bytealg
import Derived.Sort.Statements
import Derived.Shelf.SlSortCmp.Insertion
import Derived.Lib.QuietBelow
import Derived.Laws.Tables
import Derived.Test.YteikgnaikeleaaaKLoopb
namespace Go.Proofs.Yteikgnaikeleaaa
open Go.RowKit Go.Proofs.YteikgnaikeleaaaW.PrintWords Go.Proofs.YteikgnaikeleaaaW.PrintLast Go.Proofs.YteikgnaikeleaaaW.PrintMore
set_option linter.unusedVariables false

def withinF (f g : Nat → Bool) : Bool := (List.range 256).all (fun i => !f i || g i)
def withinR (s t : List UInt8) : Bool × Int := match parseL s, parseL t with | some m, some n => (withinF m.f n.f, 0) | _, _ => (false, 90)
theorem withinF_true {f g : Nat → Bool} (h : ∀ i, i < 256 → f i = true → g i = true) : withinF f g = true := by
 unfold withinF
 rw [List.all_eq_true]
 intro i hi
 have := h i (List.mem_range.1 hi)
 cases hf : f i <;> simp_all
theorem withinF_false {f g : Nat → Bool} {i : Nat} (hi : i < 256) (h1 : f i = true) (h2 : g i = false) : withinF f g = false := by
 unfold withinF
 rw [List.all_eq_false]
 exact ⟨i, List.mem_range.2 hi, by simp [h1, h2]⟩
set_option maxHeartbeats 8000000 in
set_option maxRecDepth 1000000 in
theorem within_calls (s t : List UInt8) (w : World) : Calls Try.prog 31 #[.string (tx s), .string (tx t)] w fun e w' => e = .returned (.tuple #[.bool (withinR s t).1, .int .i64 (withinR s t).2]) ∧ Below w.heap.size w w' := by
 have HP := Aside0.mk (two_calls s t w)
 unfold TwoPost at HP
 unfold withinR
 have bad : Calls Try.prog 70 #[.string (tx s), .string (tx t)] w (fun e w' => e = .returned (.tuple #[.pointer none, .pointer none, .int .i64 90]) ∧ Below w.heap.size w w') → Calls Try.prog 31 #[.string (tx s), .string (tx t)] w fun e w' => e = .returned (.tuple #[.bool false, .int .i64 90]) ∧ Below w.heap.size w w' := by
  intro hq
  have HQ := Aside0.mk hq
  clear hq HP
  go_enter Try.func31, Try.ntmps31
  go_wp2_with (first | (go_at_call 70; refine HQ.out.mono ?_; rintro e W' ⟨rfl, hb⟩; have HB := Aside0.mk hb; clear hb))
  go_ret2
  exact ⟨rfl, HB.out⟩
 cases hc : parseL s with
 | none =>
  rw [hc] at HP
  exact bad (HP.out.mono (by rintro e w' ⟨hb, rfl⟩; exact ⟨rfl, hb⟩))
 | some m =>
  cases hd : parseL t with
  | none =>
   rw [hc, hd] at HP
   exact bad (HP.out.mono (by rintro e w' ⟨hb, rfl⟩; exact ⟨rfl, hb⟩))
  | some n =>
   rw [hc, hd] at HP
   clear bad
   obtain ⟨f, hf⟩ : ∃ f, f = m.f := ⟨_, rfl⟩
   obtain ⟨f2, hf2⟩ : ∃ f, f = n.f := ⟨_, rfl⟩
   simp only [← hf, ← hf2] at HP ⊢
   clear hc hd hf hf2
   go_enter Try.func31, Try.ntmps31
   go_wp2_with (first | (go_at_call 70; refine HP.out.mono ?_; rintro e W' ⟨hb, g, g2, rfl, hh, hh2⟩; have HB0 := Aside0.mk hb; have HH0 := Aside0.mk hh; have HH20 := Aside0.mk hh2; clear hb hh hh2))
   go_loopg [22] 257 (fun kq v22 W => ∃ x : Nat, v22 = .int .i64 x ∧ Aside0 (x + kq = 257) ∧ Aside0 (x ≤ 256) ∧ Aside0 (∀ i, i < x → f i = true → f2 i = true) ∧ Aside0 (W.heap[g]? = some (.cells (tbl f) 67 (0, 0))) ∧ Aside0 (W.heap[g2]? = some (.cells (tbl f2) 67 (0, 0))) ∧ Aside0 (Below w.heap.size w W))
   case atStart => exact ⟨0, rfl, ⟨rfl⟩, ⟨by decide⟩, ⟨fun i hi => absurd hi (Nat.not_lt_zero _)⟩, HH0, HH20, HB0⟩
   case round =>
    clear HH0 HH20 HB0
    obtain ⟨x, rfl, HK, HX, HI, HH, HH2, HB⟩ := hrel
    by_cases hx : x < 256
    ·
     have h1 : decide ((x : Int) < 256) = true := decide_eq_true (by omega)
     have h0 : (0 : Int) ≤ (x : Int) ∧ (x : Int) < 256 := by omega
     have c1 := tbl_cell HH.out x hx
     have c2 := tbl_cell HH2.out x hx
     have HX1 : Aside0 (x < 256) := ⟨hx⟩
     have hnx := next_nat x hx
     clear hx
     by_cases hb : f x = true
     ·
      rw [hb] at c1
      by_cases hb2 : f2 x = true
      ·
       rw [hb2] at c2
       go_wp2
       go_quiet (fail)
       go_wp2
       go_roundg (256 - x)
       case measure => have := HK.out; have := HX1.out; omega
       case rel => exact ⟨x + 1, by first | rfl | rw [hnx], ⟨by have := HX1.out; omega⟩, ⟨HX1.out⟩, ⟨fun i hi he => by
        rcases Nat.lt_succ_iff_lt_or_eq.1 hi with h | rfl
        ·
         exact HI.out i h he
        ·
         exact hb2⟩, ⟨tbl_drewN HH.out _⟩, ⟨tbl_drewN HH2.out _⟩, ⟨pw_below_drewN HB.out _⟩⟩
      ·
       rw [Bool.eq_false_iff.mpr hb2] at c2
       go_wp2
       go_quiet (fail)
       go_wp2
       go_ret2
       rw [withinF_false HX1.out hb (Bool.eq_false_iff.mpr hb2)]
       exact ⟨rfl, pw_below_drewN HB.out _⟩
     ·
      rw [Bool.eq_false_iff.mpr hb] at c1
      go_wp2
      go_quiet (fail)
      go_wp2
      go_roundg (256 - x)
      case measure => have := HK.out; have := HX1.out; omega
      case rel => exact ⟨x + 1, by first | rfl | rw [hnx], ⟨by have := HX1.out; omega⟩, ⟨HX1.out⟩, ⟨fun i hi he => by
       rcases Nat.lt_succ_iff_lt_or_eq.1 hi with h | rfl
       ·
        exact HI.out i h he
       ·
        exact absurd he hb⟩, ⟨tbl_drewN HH.out _⟩, ⟨tbl_drewN HH2.out _⟩, ⟨pw_below_drewN HB.out _⟩⟩
    ·
     have h1 : decide ((x : Int) < 256) = false := decide_eq_false (by omega)
     go_wp2
     go_ret2
     rw [withinF_true (fun i hi => HI.out i (by omega))]
     exact ⟨rfl, HB.out⟩
def countF (f : Nat → Bool) (k : Int) : Nat := ((List.range 256).filter (fun i => f i && decide ((sizeN i : Int) = k))).length
def countTo (f : Nat → Bool) (k : Int) (x : Nat) : Nat := ((List.range x).filter (fun i => f i && decide ((sizeN i : Int) = k))).length
theorem countTo_succ (f : Nat → Bool) (k : Int) (x : Nat) : countTo f k (x + 1) = countTo f k x + if f x && decide ((sizeN x : Int) = k) then 1 else 0 := by
 unfold countTo
 rw [List.range_succ, List.filter_append, List.length_append]
 congr 1
 by_cases h : (f x && decide ((sizeN x : Int) = k)) = true
 ·
  simp [h]
 ·
  simp [h]
theorem countTo_le (f : Nat → Bool) (k : Int) : ∀ x, countTo f k x ≤ x
 | 0 => by simp [countTo]
 | x + 1 => by
  have := countTo_le f k x
  rw [countTo_succ]
  split <;> omega
def numberR (s : List UInt8) (k : Int) : Int × Int := match parseL s with | none => (0, 90) | some m => if k < 0 ∨ 8 < k then (0, 2) else ((countF m.f k : Int), 0)
set_option maxHeartbeats 8000000 in
set_option maxRecDepth 1000000 in
theorem numberOf_calls (s : List UInt8) (k : Int) (w : World) : Calls Try.prog 32 #[.string (tx s), .int .i64 k] w fun e w' => e = .returned (.tuple #[.int .i64 (numberR s k).1, .int .i64 (numberR s k).2]) ∧ Below w.heap.size w w' := by
 have HP := Aside0.mk (open_ s w)
 unfold OpenPost at HP
 unfold numberR
 cases hc : parseL s with
 | none =>
  rw [hc] at HP
  go_enter Try.func32, Try.ntmps32
  go_wp2_with (first | (go_at_call 57; refine HP.out.mono ?_; rintro e W' ⟨hb, rfl⟩; have HB := Aside0.mk hb; clear hb))
  go_ret2
  exact ⟨rfl, HB.out⟩
 | some m =>
  rw [hc] at HP
  obtain ⟨f, hf⟩ : ∃ f, f = m.f := ⟨_, rfl⟩
  simp only [← hf] at HP ⊢
  clear hc hf
  by_cases hk : k < 0 ∨ 8 < k
  ·
   simp only [if_pos hk]
   by_cases h0 : k < 0
   ·
    have d0 : decide (k < 0) = true := decide_eq_true h0
    go_enter Try.func32, Try.ntmps32
    go_wp2_with (first | (go_at_call 57; refine HP.out.mono ?_; rintro e W' ⟨hb, g, hg, rfl, hh⟩; have HB := Aside0.mk hb; clear hb))
    go_ret2
    exact ⟨rfl, HB.out⟩
   ·
    have d0 : decide (k < 0) = false := decide_eq_false h0
    have d1 : decide (8 < k) = true := decide_eq_true (by omega)
    go_enter Try.func32, Try.ntmps32
    go_wp2_with (first | (go_at_call 57; refine HP.out.mono ?_; rintro e W' ⟨hb, g, hg, rfl, hh⟩; have HB := Aside0.mk hb; clear hb))
    go_ret2
    exact ⟨rfl, HB.out⟩
  ·
   simp only [if_neg hk]
   have d0 : decide (k < 0) = false := decide_eq_false (by omega)
   have d1 : decide (8 < k) = false := decide_eq_false (by omega)
   go_enter Try.func32, Try.ntmps32
   go_wp2_with (first | (go_at_call 57; refine HP.out.mono ?_; rintro e W' ⟨hb, g, hg, rfl, hh⟩; have HB0 := Aside0.mk hb; have HH0 := Aside0.mk hh; clear hb hh))
   go_loopg [28, 8] 257 (fun kq v28 v8 W => ∃ x : Nat, v28 = .int .i64 x ∧ v8 = .int .i64 (countTo f k x) ∧ Aside0 (x + kq = 257) ∧ Aside0 (x ≤ 256) ∧ Aside0 (W.heap[g]? = some (.cells (tbl f) 67 (0, 0))) ∧ Aside0 (Below w.heap.size w W))
   case atStart => exact ⟨0, rfl, rfl, ⟨rfl⟩, ⟨by decide⟩, HH0, HB0⟩
   case round =>
    clear HH0 HB0
    obtain ⟨x, rfl, rfl, HK, HX, HH, HB⟩ := hrel
    by_cases hx : x < 256
    ·
     have h1 : decide ((x : Int) < 256) = true := decide_eq_true (by omega)
     have h0 : (0 : Int) ≤ (x : Int) ∧ (x : Int) < 256 := by omega
     have c1 := tbl_cell HH.out x hx
     have HX1 : Aside0 (x < 256) := ⟨hx⟩
     have hnx := next_nat x hx
     have hle := countTo_le f k x
     have hnc : wrap64 ((countTo f k x : Int) + 1) = ((countTo f k x + 1 : Nat) : Int) := next_nat _ (by omega)
     have hcv : IntKind.u64.wrap (x : Int) = (x : Int) := by
      have : ∀ i : Fin 256, IntKind.u64.wrap (i.val : Int) = (i.val : Int) := by decide +kernel
      exact this ⟨x, hx⟩
     have HO : Aside0 (∀ W, Calls Try.prog 73 #[.int .u64 x] W fun e w' => e = .returned (.int .i64 (sizeN x)) ∧ w' = W) := ⟨ones_calls x hx⟩
     have HS := Aside0.mk (countTo_succ f k x)
     clear hx hle
     by_cases hb : f x = true
     ·
      rw [hb] at c1
      by_cases hb2 : (sizeN x : Int) = k
      ·
       have e2 : ((sizeN x : Int) == k) = true := by simpa using hb2
       have HS2 : Aside0 (countTo f k (x + 1) = countTo f k x + 1) := ⟨by rw [HS.out, hb, hb2]; simp⟩
       clear hb2
       go_wp2
       go_quiet (fail)
       go_wp2_with (go_at_call 73; refine (HO.out _).mono ?_; rintro e w' ⟨rfl, hw⟩; rw [hw]; clear hw w')
       go_roundg (256 - x)
       case measure => have := HK.out; have := HX1.out; omega
       case rel => exact ⟨x + 1, by first | rfl | rw [hnx], by rw [HS2.out]; first | rfl | rw [hnc], ⟨by have := HX1.out; omega⟩, ⟨HX1.out⟩, ⟨tbl_drewN HH.out _⟩, ⟨pw_below_drewN HB.out _⟩⟩
      ·
       have e2 : ((sizeN x : Int) == k) = false := by simpa using hb2
       have HS2 : Aside0 (countTo f k (x + 1) = countTo f k x) := ⟨by rw [HS.out, hb, decide_eq_false hb2]; simp⟩
       clear hb2
       go_wp2
       go_quiet (fail)
       go_wp2_with (go_at_call 73; refine (HO.out _).mono ?_; rintro e w' ⟨rfl, hw⟩; rw [hw]; clear hw w')
       go_roundg (256 - x)
       case measure => have := HK.out; have := HX1.out; omega
       case rel => exact ⟨x + 1, by first | rfl | rw [hnx], by rw [HS2.out], ⟨by have := HX1.out; omega⟩, ⟨HX1.out⟩, ⟨tbl_drewN HH.out _⟩, ⟨pw_below_drewN HB.out _⟩⟩
     ·
      rw [Bool.eq_false_iff.mpr hb] at c1
      have HS2 : Aside0 (countTo f k (x + 1) = countTo f k x) := ⟨by rw [HS.out, Bool.eq_false_iff.mpr hb]; simp⟩
      go_wp2
      go_quiet (fail)
      go_wp2
      go_roundg (256 - x)
      case measure => have := HK.out; have := HX1.out; omega
      case rel => exact ⟨x + 1, by first | rfl | rw [hnx], by rw [HS2.out], ⟨by have := HX1.out; omega⟩, ⟨HX1.out⟩, ⟨tbl_drewN HH.out _⟩, ⟨pw_below_drewN HB.out _⟩⟩
    ·
     have h1 : decide ((x : Int) < 256) = false := decide_eq_false (by omega)
     have hx6 : x = 256 := by have := HX.out; omega
     subst hx6
     go_wp2
     go_ret2
     exact ⟨rfl, HB.out⟩
end Go.Proofs.Yteikgnaikeleaaa

namespace Go.Proofs.Yteikgnaikeleaaa
open Go.RowKit Go.Proofs.YteikgnaikeleaaaW.PrintWords Go.Proofs.YteikgnaikeleaaaW.PrintLast Go.Proofs.YteikgnaikeleaaaW.PrintMore
set_option linter.unusedVariables false

def lettersFrom (n : Int) : Nat → Nat → List UInt8
 | 0, _ => []
 | k + 1, i => if (Go.bits .and .i64 (n / 2 ^ i) 1 == 1) = true then UInt8.ofNat (97 + i) :: lettersFrom n k (i + 1) else lettersFrom n k (i + 1)

theorem letter_at (i : Nat) (h : i < 8) : ((⟨#[97, 98, 99, 100, 101, 102, 103, 104]⟩ : ByteArray)[i]'h) = UInt8.ofNat (97 + i) := by
 have k : ∀ j : Fin 8, ((⟨#[97, 98, 99, 100, 101, 102, 103, 104]⟩ : ByteArray)[j.val]'(j.isLt)) = UInt8.ofNat (97 + j.val) := by decide
 exact k ⟨i, h⟩

set_option maxHeartbeats 8000000 in
set_option maxRecDepth 1000000 in
theorem textOf_calls (n : Int) (w : World) :
  Calls Try.prog 72 #[.int .i64 n] w fun e w' => e = .returned (.string ⟨(lettersFrom n 8 0).toArray⟩) ∧ Below w.heap.size w w' := by
 have h0 : Lib.IsBuilder 95 5 w.heap.size w.heap.size [] (w.alloc (.cells #[.pointer none, .slice none 0 0] 95)) := Lib.fresh_isBuilder 95 5 w
 go_enter Try.func72, Try.ntmps72
 go_wp2
 go_loopg [5] 9 (fun kq v5 w' => ∃ (i : Nat) (l : List UInt8), v5 = .int .i64 i ∧ Aside0 (i + kq = 9) ∧ Aside0 (1 ≤ kq) ∧ Aside0 (l ++ lettersFrom n (8 - i) i = lettersFrom n 8 0) ∧ Aside0 (l.length ≤ i) ∧ Aside0 (Lib.IsBuilder 95 5 w.heap.size w.heap.size (Lib.byteCells l) w') ∧ Aside0 (Below w.heap.size w w'))
 case atStart => exact ⟨0, [], rfl, ⟨rfl⟩, ⟨by decide⟩, ⟨rfl⟩, ⟨Nat.le_refl _⟩, ⟨h0⟩, ⟨(Below.refl _ w).alloc (Nat.le_refl _) _⟩⟩
 case round =>
  obtain ⟨i, l, rfl, HK, HK1, HE, HLn, HI, HB⟩ := hrel
  cases gk with
  | zero => exact absurd HK1.out (by decide)
  | succ k1 =>
   have hBs : w.heap.size ≤ wr.heap.size := HB.out.size
   by_cases hi : i < 8
   ·
    have hib : decide ((i : Int) < 8) = true := decide_eq_true (by omega)
    have hE := HE.out
    rw [show 8 - i = (8 - (i + 1)) + 1 by omega, lettersFrom] at hE
    by_cases hbit : (Go.bits .and .i64 (n / 2 ^ i) 1 == 1) = true
    ·
     rw [if_pos hbit] at hE
     go_wp2_with (first | (go_at_call 98; refine (Try.Builder_WriteByte w.heap.size w.heap.size (Lib.byteCells l) _ wr HI.out (by have := HLn.out; simp [Lib.byteCells]; omega) hBs).mono ?_; rintro e W3 ⟨rfl, hb3, hb4⟩))
     go_roundg k1
     case measure => omega
     case rel =>
      rw [letter_at i hi] at hb3
      refine ⟨i + 1, l ++ [UInt8.ofNat (97 + i)], by simp, ⟨by have := HK.out; omega⟩, ⟨by have := HK.out; omega⟩, ⟨by rw [← hE]; simp⟩, ⟨by have := HLn.out; simp; omega⟩, ⟨?_⟩, ⟨HB.out.trans hb4⟩⟩
      rw [Lib.byteCells_append]
      exact Or.inr hb3
    ·
     rw [if_neg hbit] at hE
     replace hbit := Bool.eq_false_iff.mpr hbit
     go_wp2
     go_roundg k1
     case measure => omega
     case rel => exact ⟨i + 1, l, by simp, ⟨by have := HK.out; omega⟩, ⟨by have := HK.out; omega⟩, ⟨hE⟩, ⟨by have := HLn.out; omega⟩, HI, HB⟩
   ·
    have hib : decide ((i : Int) < 8) = false := decide_eq_false (by omega)
    go_wp2_with (first | (go_at_call 93; refine (Try.Builder_String_any w.heap.size w.heap.size l wr HI.out hBs).mono ?_; rintro e W3 ⟨rfl, hb3⟩))
    go_ret
    have e8 : 8 - i = 0 := by omega
    have := HE.out
    rw [e8] at this
    rw [← this]
    exact ⟨by simp [lettersFrom], HB.out.trans hb3⟩
end Go.Proofs.Yteikgnaikeleaaa

/- Texts of sets, once more: with the count of draws, which never falls. -/
namespace Go.Proofs.Yteikgnaikeleaaa
open Go.RowKit Go.Proofs.YteikgnaikeleaaaW.PrintWords Go.Proofs.YteikgnaikeleaaaW.PrintLast Go.Proofs.YteikgnaikeleaaaW.PrintMore
set_option linter.unusedVariables false

section
variable {P : Program}
theorem run_append_oneD (w : World) (base : Nat) (t ty e : TypeId) (i : TypeInfo) (z : Value) (ht : P.underlying t = some (.slice e)) (hi : P.info? e = some i) (hz : i.zero = some z)
  (hsize : i.size = 1) (hby : i.bytes = 1) (hzs : z.cells.size = 1)
  (v : Value) (n : Nat) (xs : List Value) (hown : w.ownsRow base e 1 v n xs)
  (a : Addr) (c : Nat) (u : Value) (hnews : w.cell? (a.add 0) = some u) (h1 : u.oneCell' = true)
  (h63 : n + 1 ≤ 1000000) (hbase : base ≤ w.heap.size) :
  ∃ v' w', (Builtin.append_ #[t, t] ty #[v, .slice (some a) 1 c]).run P w = .ok v' w' ∧ w'.ownsRow base e 1 v' (n + 1) (xs ++ [u]) ∧ w.grownBy w' v.ownBlock ∧ w.drawn ≤ w'.drawn := by
 have hn : ∀ (j : Nat) (x : Value), [u][j]? = some x → w.cell? (a.add j) = some x := by
  intro j x hj
  cases j with
  | zero => simp at hj; subst hj; exact hnews
  | succ j => simp at hj
 obtain ⟨v', w', hr, h2, h3, _⟩ := run_append_own (P := P) w base t ty e i z 1 1 ht hi hz hsize hby hzs (by decide) v n xs hown a 1 c [u] rfl hn (by simpa using h1) (by unfold maxLen; omega) (by omega) hbase
 refine ⟨v', w', hr, h2, h3, ?_⟩
 rcases hown.2 with ⟨rfl, rfl⟩ | ⟨g, cap, cur, rfl, hbg, hg, hnc, hcm, hcs, htake⟩
 ·
  have hq := run_append_nil (P := P) w t ty e i z ht hi hz a 1 c [u] (by rw [hsize]; rfl) hn (by decide) (by decide) (by rw [hby]; decide)
  rw [hr] at hq
  have := congrArg (fun r => match r with | Result.ok _ w => w.drawn | _ => 0) hq
  simp only at this
  rw [this]
  simp
 ·
  by_cases hroom : n + 1 ≤ cap
  ·
   have hq := run_append_room (P := P) w t ty e i ht hi g n cap cur hg a 1 c [u] (by rw [hsize]; rfl) hn (by simpa using h1) hroom (by rw [hsize, hcs]; simp; omega)
   rw [hr] at hq
   have := congrArg (fun r => match r with | Result.ok _ w => w.drawn | _ => 0) hq
   simp only at this
   rw [this]
   simp
  ·
   have holds : ∀ j u, xs[j]? = some u → w.cell? ((⟨g, 0, none⟩ : Addr).add j) = some u := hown.cells (g := g) rfl
   have hq := run_append_grow (P := P) w t ty e i z ht hi hz ⟨g, 0, none⟩ n cap xs (by rw [hsize]; exact hown.1) holds a 1 c [u] (by rw [hsize]; rfl) hn (by omega) (by omega) (growslice_fits (by omega) (by rw [hby]; omega))
   rw [hr] at hq
   have := congrArg (fun r => match r with | Result.ok _ w => w.drawn | _ => 0) hq
   simp only at this
   rw [this]
   simp
theorem wpList_append_oneD (w : World) {ops : Array Oper} {rest : List Oper} {o : Oper} {a : Act} {Q : Exit → Act → World → Prop} (hgd : o.guard = none) (s x : Operand) (t : TypeId)
  (ho : o.op = .call { callee := .builtin .append, args := #[s, x], argTypes := #[t, t] })
  (base : Nat) (e : TypeId) (i : TypeInfo) (z : Value) (ht : P.underlying t = some (.slice e)) (hi : P.info? e = some i) (hz : i.zero = some z)
  (hsize : i.size = 1) (hby : i.bytes = 1) (hzs : z.cells.size = 1)
  (v : Value) (n : Nat) (xs : List Value) (hs : a.eval s = v) (hown : w.ownsRow base e 1 v n xs)
  (ad : Addr) (c : Nat) (u : Value) (hx : a.eval x = .slice (some ad) 1 c) (hnews : w.cell? (ad.add 0) = some u) (h1 : u.oneCell' = true)
  (h63 : n + 1 ≤ 1000000) (hbase : base ≤ w.heap.size)
  (h : ∀ v' w', w'.ownsRow base e 1 v' (n + 1) (xs ++ [u]) → w.grownBy w' v.ownBlock → w.drawn ≤ w'.drawn → wpList P ops Q rest (a.put o.dst v') w') : wpList P ops Q (o :: rest) a w :=
 wpList_plain hgd fun _ hK => by
  obtain ⟨v', w', hr, h2, h3, h4⟩ := run_append_oneD (P := P) w base t o.type e i z ht hi hz hsize hby hzs v n xs hown ad c u hnews h1 h63 hbase
  unfold Oper.wp execOp
  simp only [ho, resolve, invoke, builtin, Sem.run_bind, Sem.run_pure, Result.andThen_ok, List.map_toArray, List.map_cons, List.map_nil, hs, hx, hr]
  exact hK _ _ (h v' w' h2 h3 h4)
end
theorem info5 : (Try.prog.info? 5).map (fun i => (i.zero, i.size, i.bytes)) = some (some (.int .u8 0), 1, 1) := by kernel_rfl
set_option maxHeartbeats 2000000 in
set_option maxRecDepth 100000 in
theorem writeByteD (B b : Nat) (bs : List Value) (c : Int) (w : World) (h : Lib.IsBuilder 95 5 B b bs w) (hlen : bs.length + 1 ≤ 1000000) (hBw : B ≤ w.heap.size) :
  Calls Try.prog 98 #[.pointer (some ⟨b, 0, none⟩), .int .u8 c] w fun e w' => e = .returned .nilIface ∧ Lib.BuilderAt 95 5 B b (.pointer (some ⟨b, 0, none⟩)) (bs ++ [.int .u8 c]) w' ∧ Below B w w' ∧ w.drawn ≤ w'.drawn := by
 obtain ⟨i0, hi, hz0, hz1, hz2⟩ := info_parts info5
 have hcc : Calls Try.prog 113 #[.pointer (some ⟨b, 0, none⟩)] w fun e w' => e = .returned (.tuple #[]) ∧ (Lib.BuilderAt 95 5 B b (.pointer (some ⟨b, 0, none⟩)) bs w' ∧ Below B w w' ∧ w.drawn ≤ w'.drawn) := by
  rcases h with h | h
  ·
   refine (show Calls Try.prog 113 #[.pointer (some ⟨b, 0, none⟩)] w _ from Any.Builder_copyCheck_fresh Try.lays240 Try.Builder_X72_240 b w h.cell0 h.shape h.frozen0).mono ?_
   rintro e w' ⟨rfl, rfl⟩
   exact ⟨rfl, h.used _, (Below.refl B w).setCell (p := ⟨b, 0, none⟩) h.1 _, Nat.le_refl _⟩
  ·
   refine (show Calls Try.prog 113 #[.pointer (some ⟨b, 0, none⟩)] w _ from Any.Builder_copyCheck_used Try.lays240 Try.Builder_X72_240 b w h.cell0).mono ?_
   rintro e w' ⟨rfl, rfl⟩
   exact ⟨rfl, h, Below.refl B _, Nat.le_refl _⟩
 have HCC := Aside0.mk hcc
 clear hcc h
 go_enter Try.func98, Try.ntmps98
 go_wp2_with (go_at_call 113; refine HCC.out.mono ?_)
 rintro e w1 ⟨rfl, h1, hb1, hd1⟩
 obtain ⟨hB, v, hbk, hown, hne⟩ := h1
 have c0 : w1.cell? ⟨b, 0, none⟩ = some (.pointer (some ⟨b, 0, none⟩)) := by rw [Lib.cell_of_heap hbk]; rfl
 have c1 : w1.cell? ⟨b, 1, none⟩ = some v := by rw [Lib.cell_of_heap hbk]; rfl
 go_wp2_with (at_builtin; refine wpList_append_oneD _ rfl _ _ 93 rfl B 5 i0 (.int .u8 0) Try.underlying93 hi hz0 hz1 hz2 rfl _ _ _ rfl (hown.alloc _) ⟨w1.heap.size, 0, none⟩ 1 (.int .u8 c) rfl (by simp [Addr.add]) rfl hlen (by have := hb1.size; simp; omega) ?_)
 intro v' w2 hown' hgrow hdr
 have hlt : b < w1.heap.size := by
  rcases Nat.lt_or_ge b w1.heap.size with h' | h'
  ·
   exact h'
  ·
   simp [Array.getElem?_eq_none h'] at hbk
 have hb2 : w2.heap[b]? = some (.cells #[.pointer (some ⟨b, 0, none⟩), v] 95 (0, 0)) := by
  rw [hgrow.block b (by simp; omega) (fun e => hne e.symm), Lib.alloc_old w1 _ b hlt]
  exact hbk
 have d0 : w2.cell? ⟨b, 0, none⟩ = some (.pointer (some ⟨b, 0, none⟩)) := by rw [Lib.cell_of_heap hb2]; rfl
 have d1 : w2.cell? ⟨b, 1, none⟩ = some v := by rw [Lib.cell_of_heap hb2]; rfl
 have f1 : w2.frozen? ⟨b, 1, none⟩ = false := Lib.frozen_of_heap hb2 1
 obtain ⟨g, cap, rfl⟩ : ∃ g cap, v' = .slice (some ⟨g, 0, none⟩) (bs.length + 1) cap := by
  rcases hown'.2 with ⟨_, h0⟩ | ⟨g, cap, cur, hv, _⟩
  ·
   omega
  ·
   exact ⟨g, cap, hv⟩
 go_wp2
 go_ret
 refine ⟨rfl, ?_, ?_, ?_⟩
 ·
  exact Lib.BuilderAt.put (T := 95) (e := 5) hB hb2 (bs' := bs ++ [.int .u8 c]) (by simpa using hown') (by decide)
 ·
  exact ((hb1.alloc (by have := hb1.size; omega) _).grown hgrow (by have := hb1.size; simp; omega) (fun k hk => (hown.lt k hk).1)).setCell (p := ⟨b, 1, none⟩) hB _
 ·
  have : w1.drawn ≤ w2.drawn := by simpa using hdr
  simp
  omega
set_option maxHeartbeats 2000000 in
set_option maxRecDepth 100000 in
theorem stringD (B b : Nat) (l : List UInt8) (w : World) (h : Lib.BuilderAt 95 5 B b (.pointer (some ⟨b, 0, none⟩)) (Lib.byteCells l) w) (h0 : l ≠ []) :
  Calls Try.prog 93 #[.pointer (some ⟨b, 0, none⟩)] w fun e w' => e = .returned (.string ⟨l.toArray⟩) ∧ Below B w w' ∧ w.drawn ≤ w'.drawn := by
 obtain ⟨hB, v, hbk, hown, hne⟩ := h
 have hl0 : l.length ≠ 0 := by simpa using h0
 rw [Lib.byteCells_length] at hown
 obtain ⟨g, cap, cur, rfl, hbg, hg, hnc, hcm, hcs, htake⟩ : ∃ g cap cur, v = .slice (some ⟨g, 0, none⟩) l.length cap ∧ B ≤ g ∧ w.heap[g]? = some (.cells cur 5 (0, 0)) ∧ l.length ≤ cap ∧ cap ≤ maxLen ∧ cur.size = cap * 1 ∧ cur.toList.take (l.length * 1) = Lib.byteCells l := by
  rcases hown.2 with ⟨_, hz⟩ | ⟨g, cap, cur, hv, r⟩
  ·
   exact absurd hz hl0
  ·
   exact ⟨g, cap, cur, hv, r⟩
 have c1 : w.drew.cell? ⟨b, 1, none⟩ = some (.slice (some ⟨g, 0, none⟩) l.length cap) := by
  have : w.drew.heap[b]? = some (.cells #[.pointer (some ⟨b, 0, none⟩), .slice (some ⟨g, 0, none⟩) l.length cap] 95 (0, 0)) := hbk
  rw [Lib.cell_of_heap this]; rfl
 have hSD : (Builtin.unsafeSliceData_ #[93] 118 #[.slice (some ⟨g, 0, none⟩) l.length cap]).run Try.prog w.drew = .ok (.pointer (some ⟨g, 0, none⟩)) w.drew :=
  Lib.run_unsafeSliceData_row _ _ _ _ _ _ (by omega)
 have hUS : (Builtin.unsafeString_ #[118, 3] 9 #[.pointer (some ⟨g, 0, none⟩), .int .i64 l.length]).run Try.prog w.drew = .ok (.string ⟨l.toArray⟩) (w.drew.freeze ⟨g, 0, none⟩ l.length) := by
  refine Lib.run_unsafeString_row w.drew 118 3 9 5 Try.underlying118 (by kernel_rfl) g cur.size (by have hg' : w.drew.heap[g]? = some (.cells cur 5 (0, 0)) := hg; simp [World.shape?, hg']) l h0 (by omega) (by unfold maxLen at hcm; omega) ?_
  intro j x hx
  have := hown.cells (g := g) rfl j (.int .u8 x.toNat) (by simp [Lib.byteCells, hx])
  exact this
 go_enter Try.func93, Try.ntmps93
 go_wp2
 go_region
 all_goals (go_wp2; go_ret; exact ⟨rfl, Lib.below_freeze (Below.drew (Below.refl B w)) (p := ⟨g, 0, none⟩) hbg _, by unfold World.freeze; split <;> simp⟩)
set_option maxHeartbeats 2000000 in
set_option maxRecDepth 100000 in
theorem stringD_nil (b : Nat) (p : Value) (w : World) (hbk : w.heap[b]? = some (.cells #[p, .slice none 0 0] 95 (0, 0))) :
  Calls Try.prog 93 #[.pointer (some ⟨b, 0, none⟩)] w fun e w' => e = .returned (.string ⟨#[]⟩) ∧ Below w.heap.size w w' ∧ w.drawn ≤ w'.drawn := by
 have hUS : ∀ (W : World) (q : Option Addr), (Builtin.unsafeString_ #[118, 3] 9 #[.pointer q, .int .i64 0]).run Try.prog W = .ok (.string .empty) W := fun W q => Lib.run_unsafeString_none W _ _ _ q
 have c1 : w.drew.cell? ⟨b, 1, none⟩ = some (.slice none 0 0) := by
  have : w.drew.heap[b]? = some (.cells #[p, .slice none 0 0] 95 (0, 0)) := hbk
  rw [Lib.cell_of_heap this]; rfl
 have hSD : (Builtin.unsafeSliceData_ #[93] 118 #[.slice none 0 0]).run Try.prog w.drew = .ok (.pointer none) w.drew := rfl
 go_enter Try.func93, Try.ntmps93
 go_wp2
 go_region
 all_goals (go_wp2; go_ret; exact ⟨rfl, Below.drew (Below.refl _ w), by simp⟩)
def Bst (w0 : World) (l : List UInt8) (w : World) : Prop :=
 (l = [] ∧ w.heap[w0.heap.size]? = some (.cells #[.pointer none, .slice none 0 0] 95 (0, 0))) ∨ (l ≠ [] ∧ Lib.BuilderAt 95 5 w0.heap.size w0.heap.size (.pointer (some ⟨w0.heap.size, 0, none⟩)) (Lib.byteCells l) w)
structure Up (w w' : World) : Prop where
 below : Below w.heap.size w w'
 drawn : w.drawn ≤ w'.drawn
theorem Up.trans {a b c : World} (h : Up a b) (k : Up b c) : Up a c := ⟨below_step h.below k.below, Nat.le_trans h.drawn k.drawn⟩
set_option maxHeartbeats 8000000 in
set_option maxRecDepth 1000000 in
theorem textOfD (n : Int) (w : World) : Calls Try.prog 72 #[.int .i64 n] w fun e w' => e = .returned (.string ⟨(lettersFrom n 8 0).toArray⟩) ∧ Up w w' := by
 have h0 : Lib.IsBuilder 95 5 w.heap.size w.heap.size [] (w.alloc (.cells #[.pointer none, .slice none 0 0] 95)) := Lib.fresh_isBuilder 95 5 w
 go_enter Try.func72, Try.ntmps72
 go_wp2
 go_loopg [5] 9 (fun kq v5 w' => ∃ (i : Nat) (l : List UInt8), v5 = .int .i64 i ∧ Aside0 (i + kq = 9) ∧ Aside0 (1 ≤ kq) ∧ Aside0 (l ++ lettersFrom n (8 - i) i = lettersFrom n 8 0) ∧ Aside0 (l.length ≤ i) ∧ Aside0 (Bst w l w') ∧ Aside0 (Up w w'))
 case atStart => exact ⟨0, [], rfl, ⟨rfl⟩, ⟨by decide⟩, ⟨rfl⟩, ⟨Nat.le_refl _⟩, ⟨.inl ⟨rfl, by show (w.heap.push _)[w.heap.size]? = _; simp⟩⟩, ⟨(Below.refl _ w).alloc (Nat.le_refl _) _, by simp⟩⟩
 case round =>
  obtain ⟨i, l, rfl, HK, HK1, HE, HLn, HI, HB⟩ := hrel
  cases gk with
  | zero => exact absurd HK1.out (by decide)
  | succ k1 =>
   have hBs : w.heap.size ≤ wr.heap.size := HB.out.below.size
   by_cases hi : i < 8
   ·
    have hib : decide ((i : Int) < 8) = true := decide_eq_true (by omega)
    have hE := HE.out
    rw [show 8 - i = (8 - (i + 1)) + 1 by omega, lettersFrom] at hE
    by_cases hbit : (Go.bits .and .i64 (n / 2 ^ i) 1 == 1) = true
    ·
     rw [if_pos hbit] at hE
     have hIB : Aside0 (Lib.IsBuilder 95 5 w.heap.size w.heap.size (Lib.byteCells l) wr) := ⟨by
      rcases HI.out with ⟨rfl, hh⟩ | ⟨_, hh⟩
      ·
       exact .inl ⟨Nat.le_refl _, .slice none 0 0, hh, World.ownsRow_nil _ _ _ _, by simp [Value.ownBlock]⟩
      ·
       exact .inr hh⟩
     go_wp2_with (first | (go_at_call 98; refine (writeByteD w.heap.size w.heap.size (Lib.byteCells l) _ wr hIB.out (by have := HLn.out; simp [Lib.byteCells]; omega) hBs).mono ?_; rintro e W3 ⟨rfl, hb3, hb4, hb5⟩))
     go_roundg k1
     case measure => omega
     case rel =>
      rw [letter_at i hi] at hb3
      refine ⟨i + 1, l ++ [UInt8.ofNat (97 + i)], by simp, ⟨by have := HK.out; omega⟩, ⟨by have := HK.out; omega⟩, ⟨by rw [← hE]; simp⟩, ⟨by have := HLn.out; simp; omega⟩, ⟨.inr ⟨by simp, ?_⟩⟩, ⟨HB.out.below.trans hb4, Nat.le_trans HB.out.drawn hb5⟩⟩
      rw [Lib.byteCells_append]
      exact hb3
    ·
     rw [if_neg hbit] at hE
     replace hbit := Bool.eq_false_iff.mpr hbit
     go_wp2
     go_roundg k1
     case measure => omega
     case rel => exact ⟨i + 1, l, by simp, ⟨by have := HK.out; omega⟩, ⟨by have := HK.out; omega⟩, ⟨hE⟩, ⟨by have := HLn.out; omega⟩, HI, HB⟩
   ·
    have hib : decide ((i : Int) < 8) = false := decide_eq_false (by omega)
    have e8 : 8 - i = 0 := by omega
    have hE := HE.out
    rw [e8] at hE
    have hST : Aside0 (Calls Try.prog 93 #[.pointer (some ⟨w.heap.size, 0, none⟩)] wr fun e w' => e = .returned (.string ⟨l.toArray⟩) ∧ Below w.heap.size wr w' ∧ wr.drawn ≤ w'.drawn) := ⟨by
     rcases HI.out with ⟨rfl, hh⟩ | ⟨hne, hh⟩
     ·
      refine (stringD_nil w.heap.size (.pointer none) wr hh).mono ?_
      rintro e w' ⟨rfl, h1, h2⟩
      exact ⟨rfl, h1.mono hBs, h2⟩
     ·
      exact stringD w.heap.size w.heap.size l wr hh hne⟩
    go_wp2_with (first | (go_at_call 93; refine hST.out.mono ?_; rintro e W3 ⟨rfl, hb3, hb4⟩))
    go_ret
    rw [← hE]
    exact ⟨by simp [lettersFrom], HB.out.below.trans hb3, Nat.le_trans HB.out.drawn hb4⟩
end Go.Proofs.Yteikgnaikeleaaa

/- The order of sets: by their lengths, then byte by byte; it is that of a number. -/
namespace Go.Proofs.Yteikgnaikeleaaa
open Go.RowKit Go.Sort
set_option linter.unusedVariables false
set_option maxRecDepth 100000

def cfN (a b : Fin 256) : Int := if (sizeN a.val : Int) - sizeN b.val ≠ 0 then (sizeN a.val : Int) - sizeN b.val else Lib.compareBytes (textN a.val) (textN b.val)
def rev8 (n : Nat) : Nat := (n % 2) * 128 + (n / 2 % 2) * 64 + (n / 4 % 2) * 32 + (n / 8 % 2) * 16 + (n / 16 % 2) * 8 + (n / 32 % 2) * 4 + (n / 64 % 2) * 2 + n / 128 % 2
def keyN (n : Nat) : Nat := sizeN n * 256 + (255 - rev8 n)
theorem key_lt : ∀ a b : Fin 256, decide (cfN a b < 0) = decide (keyN a.val < keyN b.val) := by decide +kernel
theorem key_inv : ∀ a : Fin 256, rev8 (255 - keyN a.val % 256) = a.val := by decide +kernel
theorem key_inj {a b : Fin 256} (h : keyN a.val = keyN b.val) : a = b := by
 apply Fin.ext
 rw [← key_inv a, ← key_inv b, h]
theorem cf_swo : SWO (ltOf cfN) := by
 have hk : ∀ a b, ltOf cfN a b = decide (keyN a.val < keyN b.val) := fun a b => key_lt a b
 refine ⟨fun x => by simp [hk], fun x y z h1 h2 => ?_, fun x y z h1 h2 => ?_⟩
 ·
  simp only [hk, decide_eq_true_eq] at *
  omega
 ·
  simp only [hk, decide_eq_false_iff_not] at *
  omega
theorem cf_total : ∀ x y, ltOf cfN x y = false → ltOf cfN y x = false → x = y := by
 intro x y h1 h2
 have hk : ∀ a b, ltOf cfN a b = decide (keyN a.val < keyN b.val) := fun a b => key_lt a b
 simp only [hk, decide_eq_false_iff_not] at h1 h2
 exact key_inj (by omega)
def allF : List (Fin 256) := (List.range 256).map (Fin.ofNat 256)
def orderF : List (Fin 256) := order.map (Fin.ofNat 256)
theorem order_perm : (allF.isPerm orderF) = true := by decide +kernel
def sortedB : List (Fin 256) → Bool
 | [] => true
 | [_] => true
 | a :: b :: l => decide (keyN a.val < keyN b.val) && sortedB (b :: l)
theorem pair_of {l : List (Fin 256)} (h : sortedB l = true) : l.Pairwise (fun a b => keyN a.val < keyN b.val) := by
 induction l with
 | nil => exact List.Pairwise.nil
 | cons a l ih =>
  cases l with
  | nil => exact List.pairwise_singleton _ _
  | cons b l =>
   simp only [sortedB, Bool.and_eq_true, decide_eq_true_eq] at h
   have ih' := ih h.2
   refine List.pairwise_cons.2 ⟨fun c hc => ?_, ih'⟩
   rcases List.mem_cons.1 hc with rfl | hc
   ·
    exact h.1
   ·
    exact Nat.lt_trans h.1 ((List.pairwise_cons.1 ih').1 c hc)
theorem order_sorted : sortedB orderF = true := by decide +kernel
theorem orderF_val : orderF.map (fun x => (x.val : Nat)) = order := by decide +kernel
end Go.Proofs.Yteikgnaikeleaaa

namespace Go.Proofs.Yteikgnaikeleaaa
open Go.RowKit Go.Sort
set_option linter.unusedVariables false

theorem sort_gen {α : Type} (K : α → Nat) (lt : α → α → Bool) (hk : ∀ a b, lt a b = decide (K a < K b)) (inj : ∀ a b, K a = K b → a = b) {l o : List α} (hp : l.Perm o) (ho : o.Pairwise (fun a b => K a < K b)) : (l.mergeSort fun x y => !lt y x) = o := by
 have h1 : (l.mergeSort fun x y => !lt y x).Pairwise (fun a b => K a ≤ K b) := by
  refine (List.pairwise_mergeSort (le := fun x y => !lt y x) ?_ ?_ l).imp ?_
  ·
   intro a b c h1 h2
   simp only [hk, Bool.not_eq_true', decide_eq_false_iff_not] at *
   omega
  ·
   intro a b
   simp only [hk, Bool.or_eq_true, Bool.not_eq_true', decide_eq_false_iff_not]
   omega
  ·
   intro a b h
   simp only [hk, Bool.not_eq_true', decide_eq_false_iff_not] at h
   omega
 have h2 : o.Pairwise (fun a b => K a ≤ K b) := ho.imp (fun h => Nat.le_of_lt h)
 have h3 : (l.mergeSort fun x y => !lt y x).Perm o := (List.mergeSort_perm _ _).trans hp
 exact List.Perm.eq_of_pairwise (le := fun a b => K a ≤ K b) (fun a b _ _ k1 k2 => inj _ _ (Nat.le_antisymm k1 k2)) h1 h2 h3
def keyF (a : Fin 256) : Nat := keyN a.val
theorem hperm : allF.Perm orderF := List.isPerm_iff.1 order_perm
theorem hpair : orderF.Pairwise (fun a b => keyF a < keyF b) := by
 unfold keyF
 exact pair_of order_sorted
theorem hkey (a b : Fin 256) : ltOf cfN a b = decide (keyF a < keyF b) := by
 unfold keyF
 exact key_lt a b
theorem hinj (a b : Fin 256) (h : keyF a = keyF b) : a = b := by
 unfold keyF at h
 exact key_inj h
theorem sort_all : (allF.mergeSort fun x y => !(ltOf cfN) y x) = orderF := by
 have h1 := hperm
 have h2 := hpair
 generalize orderF = o at h1 h2 ⊢
 generalize allF = l at h1 ⊢
 exact sort_gen keyF (ltOf cfN) hkey hinj h1 h2
end Go.Proofs.Yteikgnaikeleaaa

/- sorted: all sets in their order. -/
namespace Go.Proofs.Yteikgnaikeleaaa
open Go.RowKit Go.Sort Go.Proofs.YteikgnaikeleaaaW.PrintWords Go.Proofs.YteikgnaikeleaaaW.PrintLast Go.Proofs.YteikgnaikeleaaaW.PrintMore
set_option linter.unusedVariables false

theorem text_eq (n : Nat) (h : n < 256) : lettersFrom (n : Int) 8 0 = textN n := by
 have : ∀ n : Fin 256, lettersFrom (n.val : Int) 8 0 = textN n.val := by decide +kernel
 exact this ⟨n, h⟩
theorem size_le (n : Nat) : sizeN n ≤ 8 := by
 unfold sizeN
 exact Nat.le_trans (List.length_filter_le _ _) (by simp)
def orV (x y : Int) : Int := if x ≠ 0 then x else y
set_option maxHeartbeats 8000000 in
set_option maxRecDepth 1000000 in
theorem or_calls (g : Nat) (x y : Int) (w : World) (h : w.heap[g]? = some (.cells #[.int .i64 x, .int .i64 y] 3 (0, 0))) :
  Calls Try.prog 96 #[.slice (some ⟨g, 0, none⟩) 2 2] w fun e w' => e = .returned (.int .i64 (orV x y)) ∧ w' = w := by
 obtain ⟨c0, c1⟩ := bc2 h
 go_enter Try.func96, Try.ntmps96
 go_wp2
 go_loopg [8] 3 (fun kq v8 W => ∃ i : Nat, v8 = .int .i64 i ∧ Aside0 (i + kq = 3) ∧ Aside0 (i ≤ 2) ∧ Aside0 (i ≥ 1 → x = 0) ∧ Aside0 (i ≥ 2 → y = 0) ∧ Aside0 (W = w))
 case atStart => exact ⟨0, rfl, ⟨rfl⟩, ⟨by decide⟩, ⟨by omega⟩, ⟨by omega⟩, ⟨rfl⟩⟩
 case round =>
  obtain ⟨i, rfl, HK, HI, HX, HY, ⟨rfl⟩⟩ := hrel
  by_cases h0 : i = 0
  ·
   subst h0
   have d : decide (((0 : Nat) : Int) < 2) = true := rfl
   by_cases hx : x = 0
   ·
    have e : (x != 0) = false := by simpa using hx
    have HX0 := Aside0.mk hx
    clear hx
    go_wp2
    go_roundg 2
    case measure => have := HK.out; omega
    case rel => exact ⟨1, rfl, ⟨rfl⟩, ⟨by decide⟩, ⟨fun _ => HX0.out⟩, ⟨by omega⟩, ⟨rfl⟩⟩
   ·
    have e : (x != 0) = true := by simpa using hx
    go_wp2
    go_ret
    have : orV x y = x := if_pos hx
    rw [this]
    exact ⟨rfl, rfl⟩
  ·
   by_cases h1 : i = 1
   ·
    subst h1
    have d : decide (((1 : Nat) : Int) < 2) = true := rfl
    have hx := HX.out (by decide)
    by_cases hy : y = 0
    ·
     have e : (y != 0) = false := by simpa using hy
     have HY0 := Aside0.mk hy
     have HX0 := Aside0.mk hx
     clear hy hx
     go_wp2
     go_roundg 1
     case measure => have := HK.out; omega
     case rel => exact ⟨2, rfl, ⟨rfl⟩, ⟨by decide⟩, ⟨fun _ => HX0.out⟩, ⟨fun _ => HY0.out⟩, ⟨rfl⟩⟩
    ·
     have e : (y != 0) = true := by simpa using hy
     have HX0 := Aside0.mk hx
     clear hx
     go_wp2
     go_ret
     have : orV x y = y := if_neg (fun h => h HX0.out)
     rw [this]
     exact ⟨rfl, rfl⟩
   ·
    have h2 : i = 2 := by have := HI.out; omega
    subst h2
    have d : decide (((2 : Nat) : Int) < 2) = false := rfl
    have hx := HX.out (by decide)
    have hy := HY.out (by decide)
    go_wp2
    go_ret
    have : orV x y = 0 := by rw [hx, hy]; rfl
    rw [this]
    exact ⟨rfl, rfl⟩
theorem u64_small (n : Nat) (h : n < 256) : IntKind.u64.wrap (n : Int) = (n : Int) := by
 have : ∀ i : Fin 256, IntKind.u64.wrap (i.val : Int) = (i.val : Int) := by decide +kernel
 exact this ⟨n, h⟩
set_option maxHeartbeats 8000000 in
set_option maxRecDepth 1000000 in
theorem cmp_calls (a b : Fin 256) (w : World) : Calls Try.prog 95 #[.int .i64 (a.val : Nat), .int .i64 (b.val : Nat)] w fun e w' => e = .returned (.int .i64 (cfN a b)) ∧ Up w w' := by
 obtain ⟨a, ha⟩ := a
 obtain ⟨b, hb⟩ := b
 have ua := u64_small a ha
 have ub := u64_small b hb
 have hw : wrap64 ((sizeN a : Int) - sizeN b) = (sizeN a : Int) - sizeN b := by
  have := size_le a
  have := size_le b
  unfold wrap64
  omega
 have HA : Aside0 (∀ W, Calls Try.prog 73 #[.int .u64 a] W fun e w' => e = .returned (.int .i64 (sizeN a)) ∧ w' = W) := ⟨ones_calls a ha⟩
 have HB : Aside0 (∀ W, Calls Try.prog 73 #[.int .u64 b] W fun e w' => e = .returned (.int .i64 (sizeN b)) ∧ w' = W) := ⟨ones_calls b hb⟩
 have HTA : Aside0 (∀ W, Calls Try.prog 72 #[.int .i64 a] W fun e w' => e = .returned (.string (tx (textN a))) ∧ Up W w') := ⟨fun W => by rw [← text_eq a ha]; exact textOfD a W⟩
 have HTB : Aside0 (∀ W, Calls Try.prog 72 #[.int .i64 b] W fun e w' => e = .returned (.string (tx (textN b))) ∧ Up W w') := ⟨fun W => by rw [← text_eq b hb]; exact textOfD b W⟩
 go_enter Try.func95, Try.ntmps95
 go_wp2_with (first | (go_at_call 73; first | (with_reducible refine (HA.out _).mono ?_; rintro e w' ⟨rfl, hw⟩; rw [hw]; clear hw w') | (with_reducible refine (HB.out _).mono ?_; rintro e w' ⟨rfl, hw⟩; rw [hw]; clear hw w')) | (go_at_call 72; first | (with_reducible refine (HTA.out _).mono ?_; rintro e w1 ⟨rfl, hu⟩; have HU1 := Aside0.mk hu; clear hu) | (with_reducible refine (HTB.out _).mono ?_; rintro e w2 ⟨rfl, hu⟩; have HU2 := Aside0.mk hu; clear hu)) | (go_at_call 97; refine (Try.strings_Compare _ _ _).mono ?_; rintro e w' ⟨rfl, hw⟩; rw [hw]; clear hw w') | (go_at_call 96; refine (or_calls _ _ _ _ (blk_new _ _)).mono ?_; rintro e w' ⟨rfl, hw⟩; rw [hw]; clear hw w'))
 go_ret
 exact ⟨rfl, HU1.out.trans (HU2.out.trans ⟨(Below.refl _ _).alloc (Nat.le_refl _) _, by simp⟩)⟩
def encF (x : Fin 256) : Value := .int .i64 (x.val : Nat)
theorem up_grown {w w' : World} (h : Up w w') : ∃ q os', w' = grow (w.drewN q) os' := by
 obtain ⟨p, hp⟩ := regrown_of_below h.below
 have h2 : w'.drawn = p.d := by rw [hp]; rfl
 have h3 := h.drawn
 rw [h2] at h3
 refine ⟨p.d - w.drawn, p.os, ?_⟩
 rw [hp]
 show grow (redrawn w p.d) p.os = grow (redrawn w (w.drawn + (p.d - w.drawn))) p.os
 rw [Nat.add_sub_cancel' h3]
def fKd : Kd (Fin 256) := Kd.scalar encF (fun _ => rfl)
theorem heap_sort1 {w : World} {g n : Nat} {os : Array Obj} {cur : Array Value} {e : TypeId} {fr : Nat × Nat} (d : Array (Fin 256)) (hb : w.heap[g]? = some (.cells cur e fr)) :
  (sortWorld encF w g 0 n d os).heap[g]? = some (.cells (putCells encF 0 d cur) e fr) := by
 have hg : g < w.heap.size := (Array.getElem?_eq_some_iff.1 hb).1
 unfold sortWorld
 rw [heap_grow_old _ _ (by simpa using hg)]
 simp [putRow, mapBlock, Sort.ahead, Array.getElem?_modify, hb, onCells]
theorem grownBy_sort1 {w : World} {g n : Nat} {os : Array Obj} (d : Array (Fin 256)) : w.grownBy (sortWorld encF w g 0 n d os) (some g) := by
 unfold sortWorld
 refine ⟨rfl, rfl, rfl, by simp, fun j hk hne => ?_⟩
 rw [heap_grow_old _ _ (by simpa using hk)]
 have : g ≠ j := fun e => hne (by rw [e])
 simp [putRow, mapBlock, Sort.ahead, Array.getElem?_modify, this]
theorem put_cells1 (cur : Array Value) (ys : List (Fin 256)) (h : ys.length ≤ cur.size) : (putCells encF 0 ys.toArray cur).toList.take ys.length = ys.map encF := by
 apply List.ext_getElem?
 intro j
 by_cases hj : j < ys.length
 ·
  rw [List.getElem?_take_of_lt hj, Array.getElem?_toList]
  have hc : j < cur.size := by omega
  have hz : 0 ≤ j ∧ j < 0 + ys.toArray.size := by simpa using hj
  simp only [putCells, Array.getElem?_mapIdx, Array.getElem?_eq_getElem hc, Option.map_some]
  rw [if_pos hz]
  simp [hj]
 ·
  rw [List.getElem?_take_eq_none (by omega), List.getElem?_eq_none (by simp; omega)]
theorem reps_flat {xs : List (Fin 256)} {cs : List Value} (h : Reps (fun x (cs : List Value) => cs = [encF x]) 1 xs cs) : cs = xs.map encF := by
 induction xs generalizing cs with
 | nil =>
  have := h.1
  simp at this
  simpa using this
 | cons x xs ih =>
  obtain ⟨h1, h2⟩ := h
  have h3 := h2 0 x rfl
  rw [Nat.zero_mul, List.drop_zero] at h3
  have h5 : Reps (fun x (cs : List Value) => cs = [encF x]) 1 xs (cs.drop 1) := by
   refine ⟨by rw [List.length_drop, h1, List.length_cons]; omega, fun j p hj => ?_⟩
   have h6 := h2 (j + 1) p (by simpa using hj)
   rw [Nat.add_mul, Nat.one_mul] at h6
   rw [List.drop_drop, Nat.add_comm 1]
   exact h6
  have h7 := ih h5
  cases cs with
  | nil => simp at h1
  | cons c cs =>
   simp at h3 h7
   rw [h3, h7]
   rfl
theorem reps_map (xs : List (Fin 256)) : Reps (fun x (cs : List Value) => cs = [encF x]) 1 xs (xs.map encF) := by
 refine ⟨by simp, fun j p hj => ?_⟩
 obtain ⟨hl, rfl⟩ := List.getElem?_eq_some_iff.1 hj
 rw [Nat.mul_one]
 apply List.ext_getElem?
 intro i
 cases i with
 | zero => simp [hl]
 | succ i =>
  simp
  omega
theorem row_open {e base : Nat} {w : World} {ok : Nat → Prop} {v : Value} {xs : List (Fin 256)} (h : fKd.R e w base ok v xs) (hx : xs ≠ []) :
  ∃ g cap cur, v = .slice (some ⟨g, 0, none⟩) xs.length cap ∧ base ≤ g ∧ w.heap[g]? = some (.cells cur e (0, 0)) ∧ xs.length ≤ cap ∧ cap ≤ maxLen ∧ cur.size = cap ∧ cur.toList.take xs.length = xs.map encF := by
 obtain ⟨hok, inner, ho, hr⟩ := h
 have hr0 : Reps (fun x (cs : List Value) => cs = [encF x]) 1 xs inner := hr
 obtain rfl := reps_flat hr0
 have ho' : w.ownsRow base e 1 v xs.length (xs.map encF) := ho
 rcases ho'.2 with ⟨_, h0⟩ | ⟨g, cap, cur, rfl, hg, hh, hnc, hcm, hcs, ht⟩
 ·
  exact absurd (List.length_eq_zero_iff.1 h0) hx
 ·
  exact ⟨g, cap, cur, rfl, hg, hh, hnc, hcm, by simpa using hcs, by simpa using ht⟩
theorem row_close {e base g cap : Nat} {w : World} {ok : Nat → Prop} {cur : Array Value} (xs : List (Fin 256)) (hg : base ≤ g) (hok : ok g) (hh : w.heap[g]? = some (.cells cur e (0, 0))) (hnc : xs.length ≤ cap) (hcm : cap ≤ maxLen) (hcs : cur.size = cap) (ht : cur.toList.take xs.length = xs.map encF) : fKd.R e w base ok (.slice (some ⟨g, 0, none⟩) xs.length cap) xs := by
 refine ⟨fun k hk => ?_, xs.map encF, ?_, reps_map xs⟩
 ·
  have : g = k := by simpa [Value.ownBlock] using hk
  rw [← this]; exact hok
 ·
  show w.ownsRow base e 1 _ xs.length (xs.map encF)
  exact ⟨by simp, .inr ⟨g, cap, cur, rfl, hg, hh, hnc, hcm, by simpa using hcs, by simpa using ht⟩⟩
theorem info3 : (Try.prog.info? 3).map (fun i => (i.zero, i.size, i.bytes)) = some (some (.int .i64 0), 1, 8) := by kernel_rfl
theorem enter95 (args : Array Value) (w : World) : (callFunc 95 args).run Try.prog w = .ok (.enter 95 args) w := by kernel_rfl
def firstF (n : Nat) : List (Fin 256) := (List.range n).map (Fin.ofNat 256)
set_option maxHeartbeats 8000000 in
set_option maxRecDepth 1000000 in
theorem sorted_calls (w : World) : Calls Try.prog 71 #[] w fun e w' => ∃ v, e = .returned v ∧ fKd.R 3 w' w.heap.size (fun _ => True) v orderF ∧ Below w.heap.size w w' := by
 go_enter Try.func71, Try.ntmps71
 go_wp2
 go_loopg [3, 1] 257 (fun kq v3 v1 W => ∃ x : Nat, v3 = .int .i64 x ∧ Aside0 (x + kq = 257) ∧ Aside0 (x ≤ 256) ∧ Aside0 (fKd.R 3 W w.heap.size (fun _ => True) v1 (firstF x)) ∧ Aside0 (Below w.heap.size w W))
 case atStart => exact ⟨0, rfl, ⟨rfl⟩, ⟨by decide⟩, ⟨Kd.R_nil _ _ _ _ _⟩, ⟨Below.refl _ _⟩⟩
 case round =>
  obtain ⟨x, rfl, HK, HX, HR, HB⟩ := hrel
  by_cases hx : x < 256
  ·
   have h1 : decide ((x : Int) < 256) = true := decide_eq_true (by omega)
   have hnx := next_nat x hx
   have HX1 := Aside0.mk hx
   have HE : Aside0 (fKd.M wr w.heap.size (fun _ => False) (Fin.ofNat 256 x) [.int .i64 (x : Nat)]) := ⟨by
    show [Value.int .i64 (x : Nat)] = [encF (Fin.ofNat 256 x)]
    unfold encF
    have : (Fin.ofNat 256 x).val = x := Nat.mod_eq_of_lt hx
    rw [this]⟩
   have HL : Aside0 ((firstF x).length = x) := ⟨by simp [firstF]⟩
   clear hx
   go_wp2_with ((with_reducible refine gate_builtin (b := .append) (xs := #[.tmp 6, .tmp 8]) rfl ?_); at_builtin; refine Kd.R_append fKd (w0 := w) w.heap.size rfl (.tmp 6) (.tmp 8) 46 3 (.int .i64 0) 8 rfl Try.underlying46 info3 rfl Nat.one_pos (by omega) u1 (firstF x) (Fin.ofNat 256 x) [.int .i64 (x : Nat)] (fun _ => True) (fun _ => False) rfl rfl HE.out (fun _ hk => hk.elim) (fun _ _ => trivial) HR.out HB.out HB.out.size (by have := HL.out; have := HX1.out; omega) ?_; intro v1 w1 ho hb hg hat; have HO9 := Aside0.mk ho; have HB9 := Aside0.mk hb; clear ho hb hg hat)
   go_roundg (256 - x)
   case measure => have := HK.out; have := HX1.out; omega
   case rel =>
    refine ⟨x + 1, by first | rfl | rw [hnx], ⟨by have := HX1.out; omega⟩, ⟨HX1.out⟩, ⟨?_⟩, HB9⟩
    have : firstF (x + 1) = firstF x ++ [Fin.ofNat 256 x] := by
     unfold firstF
     rw [List.range_succ, List.map_append]
     rfl
    rw [this]
    exact HO9.out
  ·
   have h1 : decide ((x : Int) < 256) = false := decide_eq_false (by omega)
   have hx6 : x = 256 := by have := HX.out; omega
   subst hx6
   have hne : firstF 256 ≠ [] := by decide
   obtain ⟨g, cap, cur, hu, hg, hh, hnc, hcm, hcs, ht⟩ := row_open HR.out hne
   subst hu
   have hlen : (firstF 256).length = 256 := by simp [firstF]
   have hgl : g < wr.heap.size := blk_lt hh
   have hH : Holds encF wr g 0 (firstF 256).toArray := by
    intro j hj
    have hj' : j < (firstF 256).length := by simpa using hj
    refine ⟨?_, by simp [World.frozen?, hh]⟩
    have h2 : (cur.toList.take (firstF 256).length)[j]? = ((firstF 256).map encF)[j]? := by rw [ht]
    rw [List.getElem?_take_of_lt hj'] at h2
    simp only [World.cell?, hh, Nat.zero_add]
    simp only [Option.isSome_none, Bool.false_eq_true, if_false]
    rw [← Array.getElem?_toList, h2]
    simp [hj']
   have hcmp : CmpLays1 Try.prog 95 #[] encF cfN g 0 (firstF 256).toArray.size wr := by
    intro m os dk hs a b
    refine (cmp_calls a b _).mono ?_
    rintro e w' ⟨rfl, hu⟩
    exact ⟨rfl, up_grown hu⟩
   have HSF := Aside0.mk (Try.slices_SortFunc_total encF (fun _ => rfl) cfN cf_swo 95 #[] g 0 cap (firstF 256).toArray wr enter95 hcmp hH hgl (by simp [hlen]) cf_total)
   have hsa : ((firstF 256).toArray.toList.mergeSort fun x y => !(ltOf cfN) y x) = orderF := sort_all
   rw [hsa, List.size_toArray] at HSF
   have HC : Aside0 (orderF.length = (firstF 256).length) := ⟨by decide +kernel⟩
   have HD := Aside0.mk (And.intro hg (And.intro hh (And.intro hnc (And.intro hcm hcs))))
   clear hH hcmp hsa hh hg hnc hcm hcs ht
   go_wp2_with (go_at_call 94; refine HSF.out.mono ?_; rintro e w' ⟨rfl, n, os, hw⟩; have HW := Aside0.mk hw; clear hw)
   go_ret
   have hw := HW.out
   obtain ⟨hg, hh, hnc, hcm, hcs⟩ := HD.out
   refine ⟨_, rfl, ?_, ?_⟩
   ·
    have hl6 : orderF.length = 256 := by rw [HC.out]; simp [firstF]
    have hnc' : orderF.length ≤ cap := by rw [HC.out]; exact hnc
    have hh2 : w'.heap[g]? = some (.cells (putCells encF 0 orderF.toArray cur) 3 (0, 0)) := by
     rw [hw]
     exact heap_sort1 _ hh
    have hr := row_close (base := w.heap.size) (ok := fun _ => True) orderF hg trivial hh2 hnc' hcm (by simpa [putCells] using hcs) (put_cells1 _ _ (by omega))
    rw [hl6] at hr
    exact hr
   ·
    rw [hw]
    exact HB.out.grown (grownBy_sort1 _) HB.out.size (fun k e => by cases e; exact hg)
end Go.Proofs.Yteikgnaikeleaaa

namespace Go.Proofs.Yteikgnaikeleaaa
open Go.RowKit Go.Proofs.YteikgnaikeleaaaW.PrintWords Go.Proofs.YteikgnaikeleaaaW.PrintLast Go.Proofs.YteikgnaikeleaaaW.PrintMore
set_option linter.unusedVariables false

theorem text_calls (n : Nat) (h : n < 256) (w : World) : Calls Try.prog 72 #[.int .i64 n] w fun e w' => e = .returned (.string (tx (textN n))) ∧ Below w.heap.size w w' := by
 refine (textOfD n w).mono ?_
 rintro e w' ⟨rfl, hu⟩
 exact ⟨by rw [text_eq n h]; rfl, hu.below⟩
theorem ord_len : orderF.length = 256 := by decide +kernel
theorem ord_at {w : World} {A : Option Addr} (h : fKd.C w A 256 orderF) (x : Nat) (hx : x < 256) : ∃ ad, A = some ad ∧ w.cell? (ad.add x) = some (.int .i64 ((orderF[x]'(by rw [ord_len]; exact hx)).val : Nat)) := by
 obtain ⟨ad, cs, e, _, hk, hcell⟩ := ReadsRow.get_ h 0 (x : Int) (by omega) (by omega)
 have hk' : cs = [encF (orderF.getD x 0)] := hk
 have hg : orderF.getD x 0 = orderF[x]'(by rw [ord_len]; exact hx) := by
  have : x < orderF.length := by rw [ord_len]; exact hx
  simp [List.getD_eq_getElem?_getD, this]
 rw [hg] at hk'
 have := hcell 0 (encF (orderF[x]'(by rw [ord_len]; exact hx))) (by rw [hk']; rfl)
 have hs : fKd.sz = 1 := rfl
 rw [hs] at this
 simp only [Int.toNat_natCast, Nat.mul_one, Nat.add_zero] at this
 exact ⟨ad, e, this⟩
def differF (f g : Nat → Bool) : Option (Fin 256) := orderF.find? (fun n => f n.val != g n.val)
def differR (s t : List UInt8) : List UInt8 × Int := match parseL s, parseL t with
 | some m, some n => (match differF m.f n.f with | some k => (textN k.val, 0) | none => ([], 5))
 | _, _ => ([], 90)
set_option maxHeartbeats 8000000 in
set_option maxRecDepth 1000000 in
theorem differ_calls (s t : List UInt8) (w : World) : Calls Try.prog 30 #[.string (tx s), .string (tx t)] w fun e w' => e = .returned (.tuple #[.string (tx (differR s t).1), .int .i64 (differR s t).2]) ∧ Below w.heap.size w w' := by
 have HP := Aside0.mk (two_calls s t w)
 unfold TwoPost at HP
 unfold differR
 have bad : Calls Try.prog 70 #[.string (tx s), .string (tx t)] w (fun e w' => e = .returned (.tuple #[.pointer none, .pointer none, .int .i64 90]) ∧ Below w.heap.size w w') → Calls Try.prog 30 #[.string (tx s), .string (tx t)] w fun e w' => e = .returned (.tuple #[.string (tx []), .int .i64 90]) ∧ Below w.heap.size w w' := by
  intro hq
  have HQ := Aside0.mk hq
  clear hq HP
  go_enter Try.func30, Try.ntmps30
  go_wp2_with (first | (go_at_call 70; refine HQ.out.mono ?_; rintro e W' ⟨rfl, hb⟩; have HB := Aside0.mk hb; clear hb))
  go_ret2
  exact ⟨rfl, HB.out⟩
 cases hc : parseL s with
 | none =>
  rw [hc] at HP
  exact bad (HP.out.mono (by rintro e w' ⟨hb, rfl⟩; exact ⟨rfl, hb⟩))
 | some m =>
  cases hd : parseL t with
  | none =>
   rw [hc, hd] at HP
   exact bad (HP.out.mono (by rintro e w' ⟨hb, rfl⟩; exact ⟨rfl, hb⟩))
  | some n =>
   rw [hc, hd] at HP
   clear bad
   obtain ⟨f, hf⟩ : ∃ f, f = m.f := ⟨_, rfl⟩
   obtain ⟨f2, hf2⟩ : ∃ f, f = n.f := ⟨_, rfl⟩
   simp only [← hf, ← hf2] at HP ⊢
   clear hc hd hf hf2
   obtain ⟨X, hX⟩ : ∃ X, X = (match differF f f2 with | some k => (textN k.val, 0) | none => ([], 5) : List UInt8 × Int) := ⟨_, rfl⟩
   rw [← hX]
   have HX0 := Aside0.mk hX
   clear hX
   go_enter Try.func30, Try.ntmps30
   go_wp2_with (first | (go_at_call 70; refine HP.out.mono ?_; rintro e W' ⟨hb, g, g2, rfl, hh, hh2⟩; have HB0 := Aside0.mk hb; have HH0 := Aside0.mk hh; have HH20 := Aside0.mk hh2; clear hb hh hh2) | (go_at_call 71; refine (sorted_calls _).mono ?_; rintro e W2 ⟨v, rfl, ho, hb⟩; obtain ⟨A, c, rfl, _, hr⟩ := Kd.R_reads ho; rw [ord_len] at hr ⊢; have HR := Aside0.mk hr; have HB1 := Aside0.mk (below_step HB0.out hb); have HH1 := Aside0.mk (blk_below HH0.out hb); have HH21 := Aside0.mk (blk_below HH20.out hb); clear hb ho hr))
   go_loopg [23] 257 (fun kq v23 W => ∃ x : Nat, v23 = .int .i64 x ∧ Aside0 (x + kq = 257) ∧ Aside0 (x ≤ 256) ∧ Aside0 ((orderF.drop x).find? (fun n => f n.val != f2 n.val) = differF f f2) ∧ Aside0 (Below W2.heap.size W2 W))
   case atStart => exact ⟨0, rfl, ⟨rfl⟩, ⟨by decide⟩, ⟨rfl⟩, ⟨Below.refl _ _⟩⟩
   case round =>
    obtain ⟨x, rfl, HK, HX, HD, HB⟩ := hrel
    by_cases hx : x < 256
    ·
     have h1 : decide ((x : Int) < 256) = true := decide_eq_true (by omega)
     have hnx := next_nat x hx
     have HX1 := Aside0.mk hx
     have hxl : x < orderF.length := by rw [ord_len]; exact hx
     obtain ⟨ad, rfl, hcell⟩ := ord_at (Kd.C_below HR.out HB.out) x hx
     have hd := HD.out
     rw [List.drop_eq_getElem_cons hxl, List.find?_cons] at hd
     generalize orderF[x] = k at hd hcell
     have hk := k.isLt
     have h0 : (0 : Int) ≤ (k.val : Int) ∧ (k.val : Int) < 256 := by omega
     have h00 : (0 : Int) ≤ (x : Int) ∧ (x : Int) < 256 := by omega
     have HHa := Aside0.mk (blk_below HH1.out HB.out)
     have HHb := Aside0.mk (blk_below HH21.out HB.out)
     have c1 := tbl_cell HHa.out k.val hk
     have c2 := tbl_cell HHb.out k.val hk
     clear hx hxl
     by_cases hb : (f k.val != f2 k.val) = true
     ·
      rw [hb] at hd
      have HD2 : Aside0 (differF f f2 = some k) := ⟨hd.symm⟩
      have e1 : (f k.val == f2 k.val) = false := by simpa using hb
      have e2 : (f k.val ^^ f2 k.val) = true := by simpa using hb
      have e3 : (!(f k.val == f2 k.val)) = true := by rw [e1]; rfl
      clear hd
      have HT : Aside0 (∀ W, Calls Try.prog 72 #[.int .i64 (k.val : Nat)] W fun e w' => e = .returned (.string (tx (textN k.val))) ∧ Below W.heap.size W w') := ⟨text_calls k.val hk⟩
      go_wp2
      go_quiet (fail)
      go_wp2_with (go_at_call 72; refine (HT.out _).mono ?_; rintro e w' ⟨rfl, hb⟩; have HB2 := Aside0.mk hb; clear hb)
      go_ret2
      rw [HX0.out, HD2.out]
      exact ⟨rfl, below_step HB1.out (below_step (pw_below_drewN HB.out _) HB2.out)⟩
     ·
      have hb' := Bool.eq_false_iff.mpr hb
      rw [hb'] at hd
      have HD2 := Aside0.mk hd
      have e1 : (f k.val == f2 k.val) = true := by simpa using hb
      have e2 : (f k.val ^^ f2 k.val) = false := by simpa using hb
      have e3 : (!(f k.val == f2 k.val)) = false := by rw [e1]; rfl
      clear hd hb
      go_wp2
      go_quiet (fail)
      go_wp2
      go_roundg (256 - x)
      case measure => have := HK.out; have := HX1.out; omega
      case rel => exact ⟨x + 1, by first | rfl | rw [hnx], ⟨by have := HX1.out; omega⟩, ⟨HX1.out⟩, HD2, ⟨pw_below_drewN HB.out _⟩⟩
    ·
     have h1 : decide ((x : Int) < 256) = false := decide_eq_false (by omega)
     have hd := HD.out
     rw [List.drop_eq_nil_of_le (by rw [ord_len]; omega)] at hd
     have HD2 : Aside0 (differF f f2 = none) := ⟨hd.symm⟩
     clear hd
     go_wp2
     go_ret2
     rw [HX0.out, HD2.out]
     exact ⟨rfl, below_step HB1.out HB.out⟩
end Go.Proofs.Yteikgnaikeleaaa

namespace Go.Proofs.Yteikgnaikeleaaa.Idx
def idxFrom {α : Type} (p : α → Bool) (l : List α) : Int := if l.any p then (l.findIdx p : Int) else -1
theorem idxFrom_at {α : Type} {p : α → Bool} {l : List α} {i : Nat} (hi : i < l.length) (hp : p l[i] = true) (hb : ∀ j (h : j < l.length), j < i → p l[j] = false) : idxFrom p l = i := by
 have ha : l.any p = true := List.any_eq_true.2 ⟨l[i], List.getElem_mem hi, hp⟩
 have hf : l.findIdx p = i := by
  rw [List.findIdx_eq hi]
  exact ⟨hp, fun j hj => hb j _ hj⟩
 simp [idxFrom, ha, hf]
theorem idxFrom_none {α : Type} {p : α → Bool} {l : List α} (hb : ∀ j (h : j < l.length), j < l.length → p l[j] = false) : idxFrom p l = -1 := by
 have ha : l.any p = false := by
  rw [List.any_eq_false]
  intro x hx
  obtain ⟨j, hj, rfl⟩ := List.mem_iff_getElem.1 hx
  simp [hb j hj hj]
 simp [idxFrom, ha]
theorem idx_ge {α : Type} (p : α → Bool) (l : List α) : decide (0 ≤ idxFrom p l) = l.any p := by
 unfold idxFrom
 by_cases h : l.any p = true
 ·
  simp [h]
 ·
  have h2 : l.any p = false := by simpa using h
  simp [h2]
end Go.Proofs.Yteikgnaikeleaaa.Idx

/- Bits of numbers below 256. -/
namespace Go.Proofs.Yteikgnaikeleaaa
open Go.RowKit
set_option linter.unusedVariables false

set_option maxHeartbeats 8000000 in
theorem part_index (a b : Nat) (ha : a < 256) (hb : b < 256) : (Go.bits .andNot .i64 (a : Int) (b : Int) == 0) = partOf a b := by
 have : ∀ a b : Fin 256, (Go.bits .andNot .i64 (a.val : Int) (b.val : Int) == 0) = partOf a.val b.val := by decide +kernel
 exact this ⟨a, ha⟩ ⟨b, hb⟩
set_option maxHeartbeats 8000000 in
theorem and_bits (a b : Nat) (ha : a < 256) (hb : b < 256) : Go.bits .and .i64 (a : Int) (b : Int) = ((a &&& b : Nat) : Int) := by
 have : ∀ a b : Fin 256, Go.bits .and .i64 (a.val : Int) (b.val : Int) = ((a.val &&& b.val : Nat) : Int) := by decide +kernel
 exact this ⟨a, ha⟩ ⟨b, hb⟩
set_option maxHeartbeats 8000000 in
theorem or_bits2 (a b : Nat) (ha : a < 256) (hb : b < 256) : Go.bits .or .i64 (a : Int) (b : Int) = ((a ||| b : Nat) : Int) := by
 have : ∀ a b : Fin 256, Go.bits .or .i64 (a.val : Int) (b.val : Int) = ((a.val ||| b.val : Nat) : Int) := by decide +kernel
 exact this ⟨a, ha⟩ ⟨b, hb⟩
set_option maxHeartbeats 8000000 in
theorem not_bits (a b : Nat) (ha : a < 256) (hb : b < 256) : Go.bits .andNot .i64 (a : Int) (b : Int) = ((a &&& (255 ^^^ b) : Nat) : Int) := by
 have : ∀ a b : Fin 256, Go.bits .andNot .i64 (a.val : Int) (b.val : Int) = ((a.val &&& (255 ^^^ b.val) : Nat) : Int) := by decide +kernel
 exact this ⟨a, ha⟩ ⟨b, hb⟩
end Go.Proofs.Yteikgnaikeleaaa

/- least: the sets of which something holds, and of no part of them. -/
namespace Go.Proofs.Yteikgnaikeleaaa
open Go.RowKit Go.Proofs.YteikgnaikeleaaaW.PrintWords Go.Proofs.YteikgnaikeleaaaW.PrintLast Go.Proofs.YteikgnaikeleaaaW.PrintMore
set_option linter.unusedVariables false

theorem lf_rd_get (l : List Int) (x : Int) (h0 : 0 ≤ x) (h1 : x < (l.length : Int)) : ∃ h : x.toNat < l.length, rd l x = l[x.toNat] := by
 have h : x.toNat < l.length := by omega
 exact ⟨h, by simp [rd, List.getD_eq_getElem?_getD, h]⟩
set_option maxHeartbeats 2000000 in
set_option maxRecDepth 100000 in
theorem lf_index (c : Nat) (cs : Array Value) (p : Int → Bool) (A0 : Option Addr) (c0 : Nat) (l0 : List Int) (w : World) (hr0 : Kd.C (Kd.int .i64) w A0 l0.length l0) (hc0 : l0.length ≤ c0)
  (he : ∀ (vs : Array Value) (W : World), (callFunc c vs).run Try.prog W = .ok (.enter c vs) W)
  (hf : ∀ (x : Int), x ∈ l0 → ∀ (W : World), Below w.heap.size w W → Calls Try.prog c (#[.int .i64 x] ++ cs) W fun e w' => e = .returned (.bool (p x)) ∧ Below W.heap.size W w') :
  Calls Try.prog 108 #[.slice A0 l0.length c0, .func (.func c) #[] cs] w fun e w' => e = .returned (.int .i64 (Idx.idxFrom p l0)) ∧ Below w.heap.size w w' := by
 have hl : l0.length ≤ 9223372036854775807 := hr0.2.1
 have HR := Aside0.mk hr0
 have HF := Aside0.mk hf
 clear hr0 hf
 go_enter Try.func108, Try.ntmps108
 go_wp2
 go_loopg [5, 8] l0.length (fun kq v5 v8 w' => ∃ x : Int, v8 = .int .i64 x ∧ Aside0 (0 ≤ x ∧ x ≤ l0.length ∧ ∀ j (h : j < l0.length), (j : Int) < x → p l0[j] = false) ∧ Aside0 (kq = l0.length - x.toNat) ∧ Aside0 (Below w.heap.size w w'))
 case atStart => exact ⟨0, rfl, ⟨by omega, by omega, fun _ _ h => by omega⟩, ⟨rfl⟩, ⟨Below.refl _ _⟩⟩
 case round =>
  obtain ⟨x, rfl, HI, HK, HB⟩ := hrel
  by_cases hlt : x < (l0.length : Int)
  ·
   have h1 : decide (x < (l0.length : Int)) = true := decide_eq_true hlt
   have p1 : 0 ≤ x := HI.out.1
   have HR0 := Aside0.mk (Kd.C_below HR.out HB.out)
   obtain ⟨ad, e1, hx0⟩ := Kd.at_int HR0.out x p1 hlt
   cases e1
   have HX := Aside0.mk (And.intro p1 hlt)
   have HM : Aside0 ((rd l0 x) ∈ l0) := ⟨by obtain ⟨h2, h3⟩ := lf_rd_get l0 x p1 hlt; rw [h3]; exact List.getElem_mem h2⟩
   replace p1 := eq_true p1
   replace hlt := eq_true hlt
   by_cases hp : p (rd l0 x) = true
   ·
    go_wp2_with (go_simp; with_reducible refine (HF.out (rd l0 x) HM.out _ HB.out).mono ?_; rintro e w' ⟨rfl, hb⟩; have HB2 := Aside0.mk hb; clear hb)
    go_ret
    obtain ⟨h2, h3⟩ := lf_rd_get l0 x HX.out.1 HX.out.2
    rw [h3] at hp
    refine ⟨?_, below_step HB.out HB2.out⟩
    rw [Idx.idxFrom_at h2 hp (fun j hj hl => HI.out.2.2 j hj (by omega)), Int.toNat_of_nonneg HX.out.1]; rfl
   ·
    replace hp := Bool.eq_false_iff.mpr hp
    go_wp2_with (go_simp; with_reducible refine (HF.out (rd l0 x) HM.out _ HB.out).mono ?_; rintro e w' ⟨rfl, hb⟩; have HB2 := Aside0.mk hb; clear hb)
    go_roundg (l0.length - (x + 1).toNat)
    case measure => have := HX.out; have := HK.out; omega
    case rel =>
     obtain ⟨h2, h3⟩ := lf_rd_get l0 x HX.out.1 HX.out.2
     have hw : wrap64 (x + 1) = x + 1 := by unfold wrap64; have := HX.out; omega
     refine ⟨x + 1, by first | rfl | rw [hw], ⟨by have := HX.out; omega, by have := HX.out; omega, fun j hj hl => ?_⟩, ⟨rfl⟩, ⟨below_step HB.out HB2.out⟩⟩
     by_cases hjx : (j : Int) < x
     ·
      exact HI.out.2.2 j hj hjx
     ·
      have : j = x.toNat := by omega
      subst this
      rw [← h3]; exact hp
  ·
   have h1 : decide (x < (l0.length : Int)) = false := decide_eq_false hlt
   go_wp2
   go_ret
   refine ⟨?_, HB.out⟩
   rw [Idx.idxFrom_none (fun j hj hl => HI.out.2.2 j hj (by omega))]; rfl
theorem lf_contains (c : Nat) (cs : Array Value) (p : Int → Bool) (A0 : Option Addr) (c0 : Nat) (l0 : List Int) (w : World) (hr0 : Kd.C (Kd.int .i64) w A0 l0.length l0) (hc0 : l0.length ≤ c0)
  (he : ∀ (vs : Array Value) (W : World), (callFunc c vs).run Try.prog W = .ok (.enter c vs) W)
  (hf : ∀ (x : Int), x ∈ l0 → ∀ (W : World), Below w.heap.size w W → Calls Try.prog c (#[.int .i64 x] ++ cs) W fun e w' => e = .returned (.bool (p x)) ∧ Below W.heap.size W w') :
  Calls Try.prog 86 #[.slice A0 l0.length c0, .func (.func c) #[] cs] w fun e w' => e = .returned (.bool (l0.any p)) ∧ Below w.heap.size w w' := by
 have HR0 := Aside0.mk hr0
 have HF := Aside0.mk hf
 clear hr0 hf
 have hz := Aside0.mk (Idx.idx_ge p l0)
 go_enter Try.func86, Try.ntmps86
 go_wp2_with (go_at_call 108; refine (lf_index c cs p _ _ l0 _ HR0.out hc0 he HF.out).mono ?_; rintro e w' ⟨rfl, hb⟩; have HB := Aside0.mk hb; clear hb)
 go_ret
 exact ⟨by rw [← hz.out]; rfl, HB.out⟩
set_option maxHeartbeats 2000000 in
set_option maxRecDepth 100000 in
theorem less_calls (g a b : Nat) (ha : a < 256) (hb : b < 256) (w : World) (h : w.cell? ⟨g, 0, none⟩ = some (.int .i64 b)) :
  Calls Try.prog 87 #[.int .i64 a, .pointer (some ⟨g, 0, none⟩)] w fun e w' => e = .returned (.bool (partOf a b)) ∧ w' = w := by
 have hp := part_index a b ha hb
 go_enter Try.func87, Try.ntmps87
 go_wp2
 go_ret
 exact ⟨rfl, rfl⟩
theorem enter87 (args : Array Value) (w : World) : (callFunc 87 args).run Try.prog w = .ok (.enter 87 args) w := by kernel_rfl
def intsOf (l : List (Fin 256)) : List Int := l.map (fun x => ((x.val : Nat) : Int))
theorem C_ints {w : World} {A : Option Addr} {n : Nat} {l : List (Fin 256)} (h : fKd.C w A n l) : (Kd.int .i64).C w A n (intsOf l) := by
 obtain ⟨h1, h2, h3⟩ := h
 refine ⟨by simpa [intsOf] using h1, h2, fun hn => ?_⟩
 obtain ⟨ad, e, hc⟩ := h3 hn
 refine ⟨ad, e, fun j p hj => ?_⟩
 simp only [intsOf, List.getElem?_map, Option.map_eq_some_iff] at hj
 obtain ⟨x, hx, rfl⟩ := hj
 obtain ⟨c, hl, hk, hcell⟩ := hc j x hx
 exact ⟨c, hl, (hk : c = [encF x]), hcell⟩
theorem any_calls (g : Nat) (b : Nat) (hb : b < 256) (l : List (Fin 256)) (A : Option Addr) (c : Nat) (w : World) (hr : fKd.C w A l.length l) (hc : l.length ≤ c) (hg : w.cell? ⟨g, 0, none⟩ = some (.int .i64 b)) :
  Calls Try.prog 86 #[.slice A l.length c, .func (.func 87) #[] #[.pointer (some ⟨g, 0, none⟩)]] w fun e w' => e = .returned (.bool (l.any (fun x => partOf x.val b))) ∧ Below w.heap.size w w' := by
 have hlen : (intsOf l).length = l.length := by simp [intsOf]
 have h := lf_contains 87 #[.pointer (some ⟨g, 0, none⟩)] (fun z => partOf z.toNat b) A c (intsOf l) w (by rw [hlen]; exact C_ints hr) (by rw [hlen]; exact hc) enter87 (fun x hx W hW => by
  obtain ⟨y, _, rfl⟩ := List.mem_map.1 hx
  refine (less_calls g y.val b y.isLt hb W ((hW.cell (World.block_lt_of_cell? w _ hg)).trans hg)).mono ?_
  rintro e w' ⟨rfl, rfl⟩
  exact ⟨rfl, Below.refl _ _⟩)
 rw [hlen] at h
 have ha : (intsOf l).any (fun z => partOf z.toNat b) = l.any (fun x => partOf x.val b) := by
  simp [intsOf, List.any_map, Function.comp_def]
 rw [ha] at h
 exact h
def stepF (is : Nat → Bool) (out : List (Fin 256)) (n : Fin 256) : List (Fin 256) := if is n.val && !out.any (fun a => partOf a.val n.val) then out ++ [n] else out
def leastF (is : Nat → Bool) : List (Fin 256) := orderF.foldl (stepF is) []
set_option maxHeartbeats 8000000 in
set_option maxRecDepth 1000000 in
theorem least_calls (fid : FuncId) (p : Value) (is : Nat → Bool) (w : World)
  (he : ∀ (vs : Array Value) (W : World), (callFunc fid vs).run Try.prog W = .ok (.enter fid vs) W)
  (hf : ∀ (n : Nat), n < 256 → ∀ (W : World), Below w.heap.size w W → Calls Try.prog fid #[p, .int .i64 n] W fun e w' => e = .returned (.bool (is n)) ∧ w' = W) :
  Calls Try.prog 59 #[.func (.func fid) #[p] #[]] w fun e w' => ∃ v, e = .returned v ∧ fKd.R 3 w' w.heap.size (fun _ => True) v (leastF is) ∧ Below w.heap.size w w' := by
 have HF := Aside0.mk hf
 clear hf
 go_enter Try.func59, Try.ntmps59
 go_wp2_with (go_at_call 71; refine (sorted_calls _).mono ?_; rintro e W2 ⟨v, rfl, ho, hb⟩; obtain ⟨A, c, rfl, _, hr⟩ := Kd.R_reads ho; rw [ord_len] at hr ⊢; have HR := Aside0.mk hr; have HB1 := Aside0.mk hb; clear hb ho hr)
 go_loopg [8, 3] 257 (fun kq v8 v3 W => ∃ (x : Nat) (out : List (Fin 256)), v8 = .int .i64 x ∧ Aside0 (x + kq = 257) ∧ Aside0 (x ≤ 256) ∧ Aside0 ((orderF.drop x).foldl (stepF is) out = leastF is) ∧ Aside0 (out.length ≤ x) ∧ Aside0 (Below W2.heap.size W2 W) ∧ Aside0 (fKd.R 3 W W2.heap.size (fun _ => True) v3 out))
 case atStart => exact ⟨0, [], rfl, ⟨rfl⟩, ⟨by decide⟩, ⟨rfl⟩, ⟨Nat.le_refl _⟩, ⟨Below.refl _ _⟩, ⟨Kd.R_nil _ _ _ _ _⟩⟩
 case round =>
  obtain ⟨x, out, rfl, HK, HX, HD, HL, HB, HO⟩ := hrel
  obtain ⟨A3, c3, rfl⟩ := Kd.R_slice HO.out
  by_cases hx : x < 256
  ·
   have h1 : decide ((x : Int) < 256) = true := decide_eq_true (by omega)
   have hnx := next_nat x hx
   have HX1 := Aside0.mk hx
   have hxl : x < orderF.length := by rw [ord_len]; exact hx
   obtain ⟨ad, rfl, hcell⟩ := ord_at (Kd.C_below HR.out HB.out) x hx
   have hd := HD.out
   rw [List.drop_eq_getElem_cons hxl, List.foldl_cons] at hd
   generalize orderF[x] = k at hd hcell
   have hk := k.isLt
   have h0 : (0 : Int) ≤ (k.val : Int) ∧ (k.val : Int) < 256 := by omega
   have h00 : (0 : Int) ≤ (x : Int) ∧ (x : Int) < 256 := by omega
   clear hx hxl
   obtain ⟨W3, hW3⟩ : ∃ W3, W3 = wr.alloc (.cells #[.int .i64 (k.val : Nat)] 3) := ⟨_, rfl⟩
   have HB3 : Aside0 (Below wr.heap.size wr W3) := ⟨by rw [hW3]; exact (Below.refl _ wr).alloc (Nat.le_refl _) _⟩
   have HG3 : Aside0 (W3.heap[wr.heap.size]? = some (.cells #[.int .i64 (k.val : Nat)] 3 (0, 0))) := ⟨by rw [hW3]; exact blk_new wr _⟩
   have HO3 := Aside0.mk (Kd.R_below HO.out HB3.out)
   have HBB := Aside0.mk (below_step HB.out HB3.out)
   have HFK := Aside0.mk (HF.out k.val hk W3 (below_step HB1.out HBB.out))
   have HW3 := Aside0.mk hW3
   have hcl := bc1 HG3.out
   obtain ⟨hnc, hcc, hrc⟩ := Kd.R_reads' HO3.out
   have HANY := Aside0.mk (any_calls wr.heap.size k.val hk out A3 c3 W3 hrc (by omega) hcl)
   clear hW3 hnc hcc hrc
   by_cases hi : is k.val = true
   ·
    rw [hi] at HFK
    by_cases ha : out.any (fun x => partOf x.val k.val) = true
    ·
     rw [ha] at HANY
     have HD2 : Aside0 ((orderF.drop (x + 1)).foldl (stepF is) out = leastF is) := ⟨by rw [← hd, stepF, hi, ha]; rfl⟩
     clear hd hi ha hcl
     go_wp2_with (first | (rw [← HW3.out]; with_reducible refine HFK.out.mono ?_; rintro e W' ⟨rfl, hw⟩; rw [hw]; clear hw W'; have hcl := bc1 HG3.out) | (go_at_call 86; refine HANY.out.mono ?_; rintro e W4 ⟨rfl, hb⟩; have HB4 := Aside0.mk hb; have hcl4 := bc1 (blk_below HG3.out hb); clear hb))
     go_roundg (256 - x)
     case measure => have := HK.out; have := HX1.out; omega
     case rel => exact ⟨x + 1, out, by first | rfl | rw [hnx], ⟨by have := HX1.out; omega⟩, ⟨HX1.out⟩, HD2, ⟨by have := HL.out; omega⟩, ⟨below_step HBB.out HB4.out⟩, ⟨Kd.R_below HO3.out HB4.out⟩⟩
    ·
     rw [Bool.eq_false_iff.mpr ha] at HANY
     have HD2 : Aside0 ((orderF.drop (x + 1)).foldl (stepF is) (out ++ [k]) = leastF is) := ⟨by rw [← hd, stepF, hi, Bool.eq_false_iff.mpr ha]; rfl⟩
     have HE : Aside0 (∀ W, fKd.M W W2.heap.size (fun _ => False) k [.int .i64 (k.val : Nat)]) := ⟨fun W => rfl⟩
     clear hd hi ha hcl
     go_wp2_with (first | (rw [← HW3.out]; with_reducible refine HFK.out.mono ?_; rintro e W' ⟨rfl, hw⟩; rw [hw]; clear hw W'; have hcl := bc1 HG3.out) | (go_at_call 86; refine HANY.out.mono ?_; rintro e W4 ⟨rfl, hb⟩; have HB4 := Aside0.mk hb; have hcl4 := bc1 (blk_below HG3.out hb); clear hb) | ((with_reducible refine gate_builtin (b := .append) (xs := #[.tmp 21, .tmp 23]) rfl ?_); at_builtin; refine Kd.R_append fKd (w0 := W2) W2.heap.size rfl (.tmp 21) (.tmp 23) 46 3 (.int .i64 0) 8 rfl Try.underlying46 info3 rfl Nat.one_pos (by omega) (.slice A3 out.length c3) out k [.int .i64 (k.val : Nat)] (fun _ => True) (fun _ => False) rfl rfl (HE.out _) (fun _ hk => hk.elim) (fun _ _ => trivial) (Kd.R_below HO3.out HB4.out) (below_step HBB.out HB4.out) (below_step HBB.out HB4.out).size (by have := HL.out; have := HX1.out; omega) ?_; intro v1 w1 ho hb hg hat; have HO9 := Aside0.mk ho; have HB9 := Aside0.mk hb; clear ho hb hg hat))
     go_roundg (256 - x)
     case measure => have := HK.out; have := HX1.out; omega
     case rel => exact ⟨x + 1, out ++ [k], by first | rfl | rw [hnx], ⟨by have := HX1.out; omega⟩, ⟨HX1.out⟩, HD2, ⟨by have := HL.out; simp; omega⟩, HB9, HO9⟩
   ·
    rw [Bool.eq_false_iff.mpr hi] at HFK
    have HD2 : Aside0 ((orderF.drop (x + 1)).foldl (stepF is) out = leastF is) := ⟨by rw [← hd, stepF, Bool.eq_false_iff.mpr hi]; rfl⟩
    clear hd hi hcl
    go_wp2_with (first | (rw [← HW3.out]; with_reducible refine HFK.out.mono ?_; rintro e W' ⟨rfl, hw⟩; rw [hw]; clear hw W'))
    go_roundg (256 - x)
    case measure => have := HK.out; have := HX1.out; omega
    case rel => exact ⟨x + 1, out, by first | rfl | rw [hnx], ⟨by have := HX1.out; omega⟩, ⟨HX1.out⟩, HD2, ⟨by have := HL.out; omega⟩, HBB, HO3⟩
  ·
   have h1 : decide ((x : Int) < 256) = false := decide_eq_false (by omega)
   have hd := HD.out
   rw [List.drop_eq_nil_of_le (by rw [ord_len]; omega)] at hd
   have hd2 : out = leastF is := hd
   have HD2 := Aside0.mk hd2
   clear hd hd2
   go_wp2
   go_ret
   refine ⟨_, rfl, ?_, below_step HB1.out HB.out⟩
   rw [← HD2.out]
   exact Kd.R_lower HO.out HB1.out.size
end Go.Proofs.Yteikgnaikeleaaa

namespace Go.Proofs.Yteikgnaikeleaaa
open Go.RowKit Go.Proofs.YteikgnaikeleaaaW.PrintWords Go.Proofs.YteikgnaikeleaaaW.PrintLast Go.Proofs.YteikgnaikeleaaaW.PrintMore
set_option linter.unusedVariables false

set_option maxHeartbeats 2000000 in
set_option maxRecDepth 100000 in
theorem path_calls (g n : Nat) (hn : n < 256) (f : Nat → Bool) (w : World) (h : w.heap[g]? = some (.cells (tbl f) 67 (0, 0))) :
  Calls Try.prog 60 #[.pointer (some ⟨g, 0, none⟩), .int .i64 n] w fun e w' => e = .returned (.bool (f n)) ∧ w' = w := by
 have c := tbl_cell h n hn
 have h0 : (0 : Int) ≤ (n : Int) ∧ (n : Int) < 256 := by omega
 go_enter Try.func60, Try.ntmps60
 go_wp2
 go_ret
 exact ⟨rfl, rfl⟩
set_option maxHeartbeats 2000000 in
set_option maxRecDepth 100000 in
theorem cut_calls (g n : Nat) (hn : n < 256) (f : Nat → Bool) (w : World) (h : w.heap[g]? = some (.cells (tbl f) 67 (0, 0))) :
  Calls Try.prog 63 #[.pointer (some ⟨g, 0, none⟩), .int .i64 n] w fun e w' => e = .returned (.bool (cutF f n)) ∧ w' = w := by
 obtain ⟨h1, h2⟩ := cut_index n hn
 have h0 : (0 : Int) ≤ ((255 ^^^ n : Nat) : Int) ∧ ((255 ^^^ n : Nat) : Int) < 256 := by omega
 obtain ⟨kk, hkk⟩ : ∃ kk, kk = 255 ^^^ n := ⟨_, rfl⟩
 have hcf : cutF f n = !f kk := by rw [hkk]; rfl
 rw [← hkk] at h0 h1 h2
 have c := tbl_cell h kk h2
 rw [hcf]
 clear hcf hkk
 go_enter Try.func63, Try.ntmps63
 go_wp2
 go_ret
 exact ⟨rfl, rfl⟩
theorem enter60 (args : Array Value) (w : World) : (callFunc 60 args).run Try.prog w = .ok (.enter 60 args) w := by kernel_rfl
theorem enter63 (args : Array Value) (w : World) : (callFunc 63 args).run Try.prog w = .ok (.enter 63 args) w := by kernel_rfl
theorem paths_least (g : Nat) (f : Nat → Bool) (w : World) (h : w.heap[g]? = some (.cells (tbl f) 67 (0, 0))) :
  Calls Try.prog 59 #[.func (.func 60) #[.pointer (some ⟨g, 0, none⟩)] #[]] w fun e w' => ∃ v, e = .returned v ∧ fKd.R 3 w' w.heap.size (fun _ => True) v (leastF f) ∧ Below w.heap.size w w' :=
 least_calls 60 _ f w enter60 (fun n hn W hW => path_calls g n hn f W (blk_below h hW))
theorem cuts_least (g : Nat) (f : Nat → Bool) (w : World) (h : w.heap[g]? = some (.cells (tbl f) 67 (0, 0))) :
  Calls Try.prog 59 #[.func (.func 63) #[.pointer (some ⟨g, 0, none⟩)] #[]] w fun e w' => ∃ v, e = .returned v ∧ fKd.R 3 w' w.heap.size (fun _ => True) v (leastF (cutF f)) ∧ Below w.heap.size w w' :=
 least_calls 63 _ (cutF f) w enter63 (fun n hn W hW => cut_calls g n hn f W (blk_below h hW))
theorem stepF_len (is : Nat → Bool) (out : List (Fin 256)) (n : Fin 256) : (stepF is out n).length ≤ out.length + 1 := by
 unfold stepF
 split <;> simp
theorem foldF_len (is : Nat → Bool) : ∀ (l out : List (Fin 256)), (l.foldl (stepF is) out).length ≤ out.length + l.length
 | [], out => by simp
 | n :: l, out => by
  have h1 := foldF_len is l (stepF is out n)
  have h2 := stepF_len is out n
  rw [List.foldl_cons, List.length_cons]
  omega
theorem leastF_len (is : Nat → Bool) : (leastF is).length ≤ 256 := by
 have := foldF_len is orderF []
 rw [ord_len] at this
 simpa [leastF] using this
theorem row_at {w : World} {A : Option Addr} {l : List (Fin 256)} (h : fKd.C w A l.length l) (x : Nat) (hx : x < l.length) : ∃ ad, A = some ad ∧ w.cell? (ad.add x) = some (.int .i64 (l[x].val : Nat)) := by
 obtain ⟨ad, cs, e, _, hk, hcell⟩ := ReadsRow.get_ h 0 (x : Int) (by omega) (by omega)
 have hk' : cs = [encF (l.getD x 0)] := hk
 have hg : l.getD x 0 = l[x] := by simp [List.getD_eq_getElem?_getD, hx]
 rw [hg] at hk'
 have := hcell 0 (encF l[x]) (by rw [hk']; rfl)
 have hs : fKd.sz = 1 := rfl
 rw [hs] at this
 simp only [Int.toNat_natCast, Nat.mul_one, Nat.add_zero] at this
 exact ⟨ad, e, this⟩
def textsOf (l : List (Fin 256)) : List ByteArray := l.map (fun x => tx (textN x.val))
theorem info9 : (Try.prog.info? 9).map (fun i => (i.zero, i.size, i.bytes)) = some (some (.string ⟨#[]⟩), 1, 16) := by kernel_rfl
set_option maxHeartbeats 8000000 in
set_option maxRecDepth 1000000 in
theorem texts_calls (l : List (Fin 256)) (A : Option Addr) (c : Nat) (w : World) (hl : l.length ≤ 256) (hr : fKd.C w A l.length l) :
  Calls Try.prog 58 #[.slice A l.length c] w fun e w' => ∃ v, e = .returned v ∧ Kd.string.R 9 w' w.heap.size (fun _ => True) v (textsOf l) ∧ Below w.heap.size w w' := by
 have HR := Aside0.mk hr
 have HL := Aside0.mk hl
 clear hr hl
 go_enter Try.func58, Try.ntmps58
 go_wp2
 go_loopg [8, 3] (l.length + 1) (fun kq v8 v3 W => ∃ (x : Nat), v8 = .int .i64 x ∧ Aside0 (x + kq = l.length + 1) ∧ Aside0 (x ≤ l.length) ∧ Aside0 (Below w.heap.size w W) ∧ Aside0 (Kd.string.R 9 W w.heap.size (fun _ => True) v3 (textsOf (l.take x))))
 case atStart => exact ⟨0, rfl, ⟨by omega⟩, ⟨by omega⟩, ⟨Below.refl _ _⟩, ⟨Kd.R_nil _ _ _ _ _⟩⟩
 case round =>
  obtain ⟨x, rfl, HK, HX, HB, HO⟩ := hrel
  by_cases hx : x < l.length
  ·
   have h1 : decide ((x : Int) < (l.length : Int)) = true := decide_eq_true (by omega)
   have hnx : wrap64 ((x : Int) + 1) = ((x + 1 : Nat) : Int) := by have := HL.out; unfold wrap64; omega
   have HX1 := Aside0.mk hx
   obtain ⟨ad, rfl, hcell⟩ := row_at (Kd.C_below HR.out HB.out) x hx
   have htk : l.take (x + 1) = l.take x ++ [l[x]] := (List.take_append_getElem hx).symm
   generalize l[x] = k at hcell htk
   have h00 : (0 : Int) ≤ (x : Int) ∧ (x : Int) < (l.length : Int) := by omega
   have HTK : Aside0 (textsOf (l.take (x + 1)) = textsOf (l.take x) ++ [tx (textN k.val)]) := ⟨by rw [htk]; simp [textsOf]⟩
   have HLL : Aside0 ((textsOf (l.take x)).length ≤ x) := ⟨by simp [textsOf]; omega⟩
   have HT : Aside0 (∀ W, Calls Try.prog 72 #[.int .i64 (k.val : Nat)] W fun e w' => e = .returned (.string (tx (textN k.val))) ∧ Below W.heap.size W w') := ⟨text_calls k.val k.isLt⟩
   have HE : Aside0 (∀ W, Kd.string.M W w.heap.size (fun _ => False) (tx (textN k.val)) [.string (tx (textN k.val))]) := ⟨fun W => rfl⟩
   clear hx htk
   go_wp2_with (first | (go_at_call 72; refine (HT.out _).mono ?_; rintro e W4 ⟨rfl, hb⟩; have HB4 := Aside0.mk (below_step HB.out hb); have HO4 := Aside0.mk (Kd.R_below HO.out hb); clear hb) | ((with_reducible refine gate_builtin (b := .append) (xs := #[.tmp 12, .tmp 15]) rfl ?_); at_builtin; refine Kd.R_append Kd.string (w0 := w) w.heap.size rfl (.tmp 12) (.tmp 15) 24 9 (.string ⟨#[]⟩) 16 rfl Try.underlying24 info9 rfl Nat.one_pos (by omega) u3 (textsOf (l.take x)) (tx (textN k.val)) [.string (tx (textN k.val))] (fun _ => True) (fun _ => False) rfl rfl (HE.out _) (fun _ hk => hk.elim) (fun _ _ => trivial) HO4.out HB4.out HB4.out.size (by have := HLL.out; have := HX1.out; have := HL.out; omega) ?_; intro v1 w1 ho hb hg hat; have HO9 := Aside0.mk ho; have HB9 := Aside0.mk hb; clear ho hb hg hat))
   go_roundg (l.length - x)
   case measure => have := HK.out; have := HX1.out; omega
   case rel => exact ⟨x + 1, by first | rfl | rw [hnx], ⟨by have := HX1.out; omega⟩, ⟨HX1.out⟩, HB9, ⟨by rw [HTK.out]; exact HO9.out⟩⟩
  ·
   have h1 : decide ((x : Int) < (l.length : Int)) = false := decide_eq_false (by omega)
   have ho := HO.out
   rw [List.take_of_length_le (by omega)] at ho
   have HO2 := Aside0.mk ho
   clear ho
   go_wp2
   go_ret
   exact ⟨_, rfl, HO2.out, HB.out⟩
def pathsR (s : List UInt8) : List ByteArray × Int := match parseL s with | none => ([], 90) | some m => (textsOf (leastF m.f), 0)
def cutsR (s : List UInt8) : List ByteArray × Int := match parseL s with | none => ([], 90) | some m => (textsOf (leastF (cutF m.f)), 0)
set_option maxHeartbeats 8000000 in
set_option maxRecDepth 1000000 in
theorem paths_calls (s : List UInt8) (w : World) : Calls Try.prog 16 #[.string (tx s)] w fun e w' => ∃ v, e = .returned (.tuple #[v, .int .i64 (pathsR s).2]) ∧ Kd.string.R 9 w' w.heap.size (fun _ => True) v (pathsR s).1 ∧ Below w.heap.size w w' := by
 have HP := Aside0.mk (open_ s w)
 unfold OpenPost at HP
 unfold pathsR
 cases hc : parseL s with
 | none =>
  rw [hc] at HP
  go_enter Try.func16, Try.ntmps16
  go_wp2_with (first | (go_at_call 57; refine HP.out.mono ?_; rintro e W' ⟨hb, rfl⟩; have HB := Aside0.mk hb; clear hb))
  go_ret2
  exact ⟨_, rfl, Kd.R_nil _ _ _ _ _, HB.out⟩
 | some m =>
  rw [hc] at HP
  go_enter Try.func16, Try.ntmps16
  go_wp2_with (first | (go_at_call 57; refine HP.out.mono ?_; rintro e W' ⟨hb, g, hg, rfl, hh⟩; have HB := Aside0.mk hb; have HC := Aside0.mk (paths_least g m.f W' hh); clear hb hg hh) | (go_at_call 59; refine HC.out.mono ?_; rintro e W2 ⟨v, rfl, ho, hb⟩; obtain ⟨A, c, rfl, _, hr⟩ := Kd.R_reads ho; have HB2 := Aside0.mk (below_step HB.out hb); have HT := Aside0.mk (texts_calls (leastF m.f) A c W2 (leastF_len _) hr); clear ho hb hr) | (go_at_call 58; refine HT.out.mono ?_; rintro e W3 ⟨v, rfl, ho, hb⟩; have HO3 := Aside0.mk (Kd.R_lower ho HB2.out.size); have HB3 := Aside0.mk (below_step HB2.out hb); clear ho hb))
  go_ret2
  exact ⟨_, rfl, HO3.out, HB3.out⟩
set_option maxHeartbeats 8000000 in
set_option maxRecDepth 1000000 in
theorem cuts_calls (s : List UInt8) (w : World) : Calls Try.prog 18 #[.string (tx s)] w fun e w' => ∃ v, e = .returned (.tuple #[v, .int .i64 (cutsR s).2]) ∧ Kd.string.R 9 w' w.heap.size (fun _ => True) v (cutsR s).1 ∧ Below w.heap.size w w' := by
 have HP := Aside0.mk (open_ s w)
 unfold OpenPost at HP
 unfold cutsR
 cases hc : parseL s with
 | none =>
  rw [hc] at HP
  go_enter Try.func18, Try.ntmps18
  go_wp2_with (first | (go_at_call 57; refine HP.out.mono ?_; rintro e W' ⟨hb, rfl⟩; have HB := Aside0.mk hb; clear hb))
  go_ret2
  exact ⟨_, rfl, Kd.R_nil _ _ _ _ _, HB.out⟩
 | some m =>
  rw [hc] at HP
  go_enter Try.func18, Try.ntmps18
  go_wp2_with (first | (go_at_call 57; refine HP.out.mono ?_; rintro e W' ⟨hb, g, hg, rfl, hh⟩; have HB := Aside0.mk hb; have HC := Aside0.mk (cuts_least g m.f W' hh); clear hb hg hh) | (go_at_call 59; refine HC.out.mono ?_; rintro e W2 ⟨v, rfl, ho, hb⟩; obtain ⟨A, c, rfl, _, hr⟩ := Kd.R_reads ho; have HB2 := Aside0.mk (below_step HB.out hb); have HT := Aside0.mk (texts_calls (leastF (cutF m.f)) A c W2 (leastF_len _) hr); clear ho hb hr) | (go_at_call 58; refine HT.out.mono ?_; rintro e W3 ⟨v, rfl, ho, hb⟩; have HO3 := Aside0.mk (Kd.R_lower ho HB2.out.size); have HB3 := Aside0.mk (below_step HB2.out hb); clear ho hb))
  go_ret2
  exact ⟨_, rfl, HO3.out, HB3.out⟩
end Go.Proofs.Yteikgnaikeleaaa

namespace Go.Proofs.Yteikgnaikeleaaa.XLoop
open Go.RowKit Go.Proofs.YteikgnaikeleaaaW.PrintWords Go.Proofs.YteikgnaikeleaaaW.PrintLast Go.Proofs.YteikgnaikeleaaaW.PrintMore
attribute [local go_sem] max2_int min2_int max_two min_two max_three min_three max_four min_four   -- for this text's walks alone
set_option linter.unusedVariables false
set_option linter.unusedSimpArgs false
/-! ### loop_Paths: function 16 -/
def loop_Paths.f (a0 : ByteArray) : Option ((List ByteArray) × Int) := some ((pathsR a0.data.toList).1, (pathsR a0.data.toList).2)
theorem loop_Paths.calls (a0 : ByteArray) (r1 : List ByteArray) (r2 : Int) (w : World) (h : loop_Paths.f a0 = some (r1, r2)) :
  Calls Try.prog 16 #[.string a0] w fun e w' => ∃ v0_ : Value, e = .returned (.tuple #[v0_, .int .i64 r2]) ∧ Kd.R Kd.string 9 w' w.heap.size (fun _ => True) v0_ r1 ∧ Below w.heap.size w w' := by
 obtain ⟨rfl, rfl⟩ := Prod.mk.inj (Option.some.inj h)
 have hc := paths_calls a0.data.toList w
 simp only [tx_data] at hc
 exact hc

/-! ### loop_Cuts: function 18 -/
def loop_Cuts.f (a0 : ByteArray) : Option ((List ByteArray) × Int) := some ((cutsR a0.data.toList).1, (cutsR a0.data.toList).2)
theorem loop_Cuts.calls (a0 : ByteArray) (r1 : List ByteArray) (r2 : Int) (w : World) (h : loop_Cuts.f a0 = some (r1, r2)) :
  Calls Try.prog 18 #[.string a0] w fun e w' => ∃ v0_ : Value, e = .returned (.tuple #[v0_, .int .i64 r2]) ∧ Kd.R Kd.string 9 w' w.heap.size (fun _ => True) v0_ r1 ∧ Below w.heap.size w w' := by
 obtain ⟨rfl, rfl⟩ := Prod.mk.inj (Option.some.inj h)
 have hc := cuts_calls a0.data.toList w
 simp only [tx_data] at hc
 exact hc

/-! ### dropperlaw09_SameTexts: function 20 -/
def dropperlaw09_SameTexts.l0 : Nat → List ByteArray → List ByteArray → Int → Option (Bool)
 | 0, _, _, _ => none
 | k + 1, x0, x1, x5 => if x5 < (x0.length : Int) then (if 0 ≤ x5 then (if x5 < (x1.length : Int) then (if (rdOf ByteArray.empty x0 x5).toList = (rdOf ByteArray.empty x1 x5).toList then (dropperlaw09_SameTexts.l0 k x0 x1 (wrap64 (x5 + 1))) else (some false)) else (none)) else (none)) else (some true)
def dropperlaw09_SameTexts.f (k : Nat) (l0 : List ByteArray) (l1 : List ByteArray) : Option (Bool) := if (l0.length : Int) = (l1.length : Int) then (dropperlaw09_SameTexts.l0 k l0 l1 0) else (some false)
set_option maxHeartbeats 8000000 in
set_option maxRecDepth 100000 in
theorem dropperlaw09_SameTexts.calls (k : Nat) (A0 : Option Addr) (c0 : Nat) (l0 : List ByteArray) (A1 : Option Addr) (c1 : Nat) (l1 : List ByteArray) (r : Bool) (w : World) (hr0 : Kd.C Kd.string w A0 l0.length l0) (hc0 : l0.length ≤ c0) (hr1 : Kd.C Kd.string w A1 l1.length l1) (hc1 : l1.length ≤ c1) (h : dropperlaw09_SameTexts.f k l0 l1 = some r) :
  Calls Try.prog 20 #[.slice A0 l0.length c0, .slice A1 l1.length c1] w fun e w' => e = .returned (.bool r) ∧ Drawn0 w w' := by
 have HR0 := Aside0.mk hr0
 have HC0 := Aside0.mk hc0
 clear hr0 hc0
 have HR1 := Aside0.mk hr1
 have HC1 := Aside0.mk hc1
 clear hr1 hc1
 have H : (if (l0.length : Int) = (l1.length : Int) then (dropperlaw09_SameTexts.l0 k l0 l1 0) else (some false)) = some r := h
 clear h
 by_cases c3 : (l0.length : Int) = (l1.length : Int)
 ·
  rw [if_pos c3] at H
  have c3b0 : ((l0.length : Int) == (l1.length : Int)) = true := beq_iff_eq.mpr c3
  have c3b1 : ((l0.length : Int) != (l1.length : Int)) = false := bne_eq_false_iff_eq.mpr c3
  have c3b2 : (l0.length == l1.length) = true := by first | simpa using c3 | (simp at c3 ⊢; omega)
  clear c3
  have H' := Aside0.mk H
  clear H
  go_enter Try.func20, Try.ntmps20
  go_wp2
  repeat (go_quiet (fail); try go_wp2)
  go_loopg [5] k (fun kq v5 w' => ∃ (x5_1 : Int), v5 = .int .i64 x5_1 ∧ Aside0 (dropperlaw09_SameTexts.l0 kq l0 l1 x5_1 = some r) ∧ Aside0 (kq ≤ k) ∧ Drawn0 w w')
  case atStart => exact ⟨(0), rsz, H', ⟨Nat.le_refl _⟩, drz⟩
  case round =>
   clear H'
   (try clear c1); (try clear c2); (try clear p2); (try clear c3); (try clear c3b0); (try clear c3b1); (try clear c3b2)
   obtain ⟨x5_1, rfl, HA, HK1, ⟨m1, rfl⟩⟩ := hrel
   cases gk with
   | zero => exact absurd HA.out (by simp [dropperlaw09_SameTexts.l0])
   | succ k1 =>
    have H := HA.out
    clear HA
    simp only [dropperlaw09_SameTexts.l0] at H
    by_cases c4 : x5_1 < (l0.length : Int)
    ·
     rw [if_pos c4] at H
     have c4b0 : decide (x5_1 < (l0.length : Int)) = true := decide_eq_true c4
     clear c4
     by_cases c5 : 0 ≤ x5_1
     ·
      rw [if_pos c5] at H
      have c5b0 : decide (0 ≤ x5_1) = true := decide_eq_true c5
      clear c5
      by_cases c6 : x5_1 < (l1.length : Int)
      ·
       rw [if_pos c6] at H
       have c6b0 : decide (x5_1 < (l1.length : Int)) = true := decide_eq_true c6
       clear c6
       by_cases c7 : (rdOf ByteArray.empty l0 x5_1).toList = (rdOf ByteArray.empty l1 x5_1).toList
       ·
        rw [if_pos c7] at H
        have c7b0 : ((rdOf ByteArray.empty l0 x5_1).toList == (rdOf ByteArray.empty l1 x5_1).toList) = true := beq_iff_eq.mpr c7
        have c7b1 : ((rdOf ByteArray.empty l0 x5_1).toList != (rdOf ByteArray.empty l1 x5_1).toList) = false := bne_eq_false_iff_eq.mpr c7
        clear c7
        have H' := Aside0.mk H
        clear H
        have p101 : 0 ≤ (x5_1 : Int) := of_decide_eq_true asz
        have q101 : x5_1 < (l0.length : Int) := of_decide_eq_true asz
        obtain ⟨ad101, e101, hx101_0⟩ := Kd.at_string HR0.out x5_1 p101 q101
        cases e101
        replace p101 := eq_true p101
        replace q101 := eq_true q101
        have p102 : 0 ≤ (x5_1 : Int) := of_decide_eq_true asz
        have q102 : x5_1 < (l1.length : Int) := of_decide_eq_true asz
        obtain ⟨ad102, e102, hx102_0⟩ := Kd.at_string HR1.out x5_1 p102 q102
        cases e102
        replace p102 := eq_true p102
        replace q102 := eq_true q102
        go_wp2
        repeat (go_quiet (fail); try go_wp2)
        go_roundg k1
        case measure => have := HK1.out; omega
        case rel => exact ⟨(wrap64 (x5_1 + 1)), rsz, H', ⟨by have := HK1.out; omega⟩, drz⟩
       ·
        rw [if_neg c7] at H
        have c7b0 : ((rdOf ByteArray.empty l0 x5_1).toList == (rdOf ByteArray.empty l1 x5_1).toList) = false := beq_eq_false_iff_ne.mpr c7
        have c7b1 : ((rdOf ByteArray.empty l0 x5_1).toList != (rdOf ByteArray.empty l1 x5_1).toList) = true := bne_iff_ne.mpr c7
        obtain rfl := Option.some.inj H
        have p101 : 0 ≤ (x5_1 : Int) := of_decide_eq_true asz
        have q101 : x5_1 < (l0.length : Int) := of_decide_eq_true asz
        obtain ⟨ad101, e101, hx101_0⟩ := Kd.at_string HR0.out x5_1 p101 q101
        cases e101
        replace p101 := eq_true p101
        replace q101 := eq_true q101
        have p102 : 0 ≤ (x5_1 : Int) := of_decide_eq_true asz
        have q102 : x5_1 < (l1.length : Int) := of_decide_eq_true asz
        obtain ⟨ad102, e102, hx102_0⟩ := Kd.at_string HR1.out x5_1 p102 q102
        cases e102
        replace p102 := eq_true p102
        replace q102 := eq_true q102
        go_wp2
        repeat (go_quiet (fail); try go_wp2)
        go_ret
        exact ⟨by first | rfl | (simp; done) | (simp [*]; done), drz⟩
      ·
       rw [if_neg c6] at H
       exact absurd H (by simp)
     ·
      rw [if_neg c5] at H
      exact absurd H (by simp)
    ·
     rw [if_neg c4] at H
     have c4b0 : decide (x5_1 < (l0.length : Int)) = false := decide_eq_false c4
     clear c4
     obtain rfl := Option.some.inj H
     go_wp2
     repeat (go_quiet (fail); try go_wp2)
     go_ret
     exact ⟨by first | rfl | (simp; done) | (simp [*]; done), drz⟩
 ·
  rw [if_neg c3] at H
  have c3b0 : ((l0.length : Int) == (l1.length : Int)) = false := beq_eq_false_iff_ne.mpr c3
  have c3b1 : ((l0.length : Int) != (l1.length : Int)) = true := bne_iff_ne.mpr c3
  have c3b2 : (l0.length == l1.length) = false := by first | simpa using c3 | (simp at c3 ⊢; omega)
  obtain rfl := Option.some.inj H
  go_enter Try.func20, Try.ntmps20
  go_wp2
  repeat (go_quiet (fail); try go_wp2)
  go_ret
  exact ⟨by first | rfl | (simp; done) | (simp [*]; done), drz⟩

end Go.Proofs.Yteikgnaikeleaaa.XLoop
namespace Go.Proofs.Yteikgnaikeleaaa
open Go.RowKit Go.Proofs.YteikgnaikeleaaaW.PrintWords Go.Proofs.YteikgnaikeleaaaW.PrintLast Go.Proofs.YteikgnaikeleaaaW.PrintMore
set_option linter.unusedVariables false

theorem join_eq : ∀ l : List (List UInt8), Lib.join l [43] = joinL l
 | [] => rfl
 | [a] => by simp [Lib.join, List.intercalate, joinL]
 | a :: b :: l => by
  rw [joinL, ← join_eq (b :: l)]
  simp [Lib.join, List.intercalate, List.intersperse]
theorem join_texts (l0 : List ByteArray) (A0 : Option Addr) (c0 : Nat) (w : World) (hr0 : Kd.C Kd.string w A0 l0.length l0) (hc0 : l0.length ≤ c0) (hl : l0.length ≤ 100000) (hb : (joinL (l0.map (·.data.toList))).length ≤ 1000000) :
  Calls Try.prog 101 #[.slice A0 l0.length c0, .string ⟨#[43]⟩] w fun e w' => e = .returned (.string (tx (joinL (l0.map (·.data.toList))))) ∧ Below w.heap.size w w' := by
 cases l0 with
 | nil =>
  refine (Try.strings_Join_none A0 c0 ⟨#[43]⟩ w).mono ?_
  rintro e w' ⟨rfl, rfl⟩
  exact ⟨rfl, Below.refl _ _⟩
 | cons x l =>
  have hcell : ∀ j, j < (x :: l).length → ∃ ad, A0 = some ad ∧ w.cell? (ad.add j) = some (.string ((x :: l).getD j ByteArray.empty)) := by
   intro j hj
   obtain ⟨ad, e1, hx⟩ := Kd.at_string hr0 (j : Int) (by omega) (by omega)
   refine ⟨ad, e1, ?_⟩
   rw [Int.toNat_natCast] at hx
   rw [hx]; simp [rdOf]
  obtain ⟨ad, rfl, h0⟩ := hcell 0 (by simp)
  have hsp : ad.spot = none := by
   have e : ad.add 0 = ad := by simp [Addr.add]
   rw [e] at h0
   unfold World.cell? at h0
   split at h0
   ·
    split at h0
    ·
     cases h0
    ·
     rename_i hs; simpa using hs
   ·
    cases h0
  obtain ⟨b, off, sp⟩ := ad
  simp only at hsp
  subst hsp
  have hj := join_eq ((x :: l).map (·.data.toList))
  refine (Try.strings_Join b off c0 (x :: l) ⟨#[43]⟩ w (fun j y hj => ?_) ?_ (by omega) hc0 (by have hs : (⟨#[43]⟩ : ByteArray).data.toList = [43] := rfl; rw [hs, hj]; omega)).mono ?_
  ·
   have hjl : j < (x :: l).length := (List.getElem?_eq_some_iff.1 hj).1
   obtain ⟨ad, e1, hx⟩ := hcell j hjl
   cases e1
   have e : (⟨b, off, none⟩ : Addr).add j = ⟨b, off + j, none⟩ := by unfold Addr.add; split <;> simp_all
   rw [e, List.getD_eq_getElem?_getD, hj] at hx
   exact hx
  ·
   have := World.block_lt_of_cell? _ _ h0
   unfold Addr.add at this
   split at this <;> simpa using this
  ·
   rintro e w' ⟨rfl, hb⟩
   refine ⟨?_, hb⟩
   have hs : (⟨#[43]⟩ : ByteArray).data.toList = [43] := rfl
   rw [hs, hj]
   rfl
theorem joinL_len : ∀ l : List (List UInt8), (∀ d ∈ l, d.length ≤ 8) → (joinL l).length ≤ 9 * l.length
 | [], _ => by simp [joinL]
 | [a], h => by have := h a (by simp); simp [joinL]; omega
 | a :: b :: l, h => by
  have h1 := joinL_len (b :: l) (fun d hd => h d (by simp [hd]))
  have h2 := h a (by simp)
  rw [joinL]
  simp only [List.length_append, List.length_cons] at h1 ⊢
  omega
theorem textN_len (n : Nat) : (textN n).length ≤ 8 := by
 unfold textN
 exact Nat.le_trans (List.length_filterMap_le _ _) (by simp)
def leastT (f : Nat → Bool) : List UInt8 := joinL ((leastF f).map (fun x => textN x.val))
def plainF (f : Nat → Bool) : List UInt8 × Int := if f 0 || !f 255 then ([], 5) else if 40 < (leastT f).length then ([], 4) else (leastT f, 0)
theorem textsOf_data (l : List (Fin 256)) : (textsOf l).map (·.data.toList) = l.map (fun x => textN x.val) := by
 simp [textsOf, Function.comp_def, tx]
set_option maxHeartbeats 8000000 in
set_option maxRecDepth 1000000 in
theorem plain_table (g : Nat) (f : Nat → Bool) (w : World) (hh : w.heap[g]? = some (.cells (tbl f) 67 (0, 0))) :
  Calls Try.prog 74 #[.pointer (some ⟨g, 0, none⟩)] w fun e w' => e = .returned (.tuple #[.string (tx (plainF f).1), .int .i64 (plainF f).2]) ∧ Below w.heap.size w w' := by
 have c0 := tbl_cell hh 0 (by decide)
 have c1 := tbl_cell hh 255 (by decide)
 have HC := Aside0.mk (paths_least g f w hh)
 clear hh
 cases h0 : f 0 with
 | true =>
  have hp : plainF f = ([], 5) := by unfold plainF; rw [h0]; rfl
  rw [hp]
  rw [h0] at c0
  clear hp h0
  go_enter Try.func74, Try.ntmps74
  go_wp2
  go_ret2
  exact ⟨rfl, Below.refl _ _⟩
 | false =>
  rw [h0] at c0
  cases h1 : f 255 with
  | false =>
   have hp : plainF f = ([], 5) := by unfold plainF; rw [h0, h1]; rfl
   rw [hp]
   rw [h1] at c1
   clear hp h0 h1
   go_enter Try.func74, Try.ntmps74
   go_wp2
   go_ret2
   exact ⟨rfl, Below.refl _ _⟩
  | true =>
   rw [h1] at c1
   have hp : plainF f = if 40 < (leastT f).length then ([], 4) else (leastT f, 0) := by unfold plainF; rw [h0, h1]; rfl
   have hlen : (textsOf (leastF f)).length ≤ 256 := by simp only [textsOf, List.length_map]; exact leastF_len f
   have hjl : (joinL ((textsOf (leastF f)).map (·.data.toList))).length ≤ 1000000 := by
    have h2 := joinL_len ((textsOf (leastF f)).map (·.data.toList)) (by
     rw [textsOf_data]
     intro d hd
     obtain ⟨x, _, rfl⟩ := List.mem_map.1 hd
     exact textN_len _)
    rw [List.length_map] at h2
    omega
   have hjt : joinL ((textsOf (leastF f)).map (·.data.toList)) = leastT f := by rw [textsOf_data]; rfl
   rw [hjt] at hjl
   have HJ : Aside0 (∀ (A : Option Addr) (c : Nat) (W : World), (textsOf (leastF f)).length ≤ c → Kd.string.C W A (textsOf (leastF f)).length (textsOf (leastF f)) → Calls Try.prog 101 #[.slice A (textsOf (leastF f)).length c, .string ⟨#[43]⟩] W fun e w' => e = .returned (.string (tx (leastT f))) ∧ Below W.heap.size W w') := ⟨fun A c W hc hr => by
    have := join_texts (textsOf (leastF f)) A c W hr hc (by omega) (by rw [hjt]; exact hjl)
    rw [hjt] at this
    exact this⟩
   have hsz := tx_size (leastT f)
   clear h0 h1 hlen hjt hjl
   by_cases hl : 40 < (leastT f).length
   ·
    rw [if_pos hl] at hp
    rw [hp]
    have d4 : decide ((40 : Int) < (tx (leastT f)).size) = true := decide_eq_true (by rw [hsz]; omega)
    clear hp hl hsz
    go_enter Try.func74, Try.ntmps74
    go_wp2_with (first | (go_at_call 59; refine HC.out.mono ?_; rintro e W2 ⟨v, rfl, ho, hb⟩; obtain ⟨A, c, rfl, _, hr⟩ := Kd.R_reads ho; have HB2 := Aside0.mk hb; have HT := Aside0.mk (texts_calls (leastF f) A c W2 (leastF_len _) hr); clear ho hb hr) | (go_at_call 58; refine HT.out.mono ?_; rintro e W3 ⟨v, rfl, ho, hb⟩; obtain ⟨A, c, rfl, hcc, hr⟩ := Kd.R_reads ho; have HB3 := Aside0.mk (below_step HB2.out hb); have HJ2 := Aside0.mk (HJ.out A c W3 hcc hr); clear ho hb hcc hr) | (go_at_call 101; refine HJ2.out.mono ?_; rintro e W4 ⟨rfl, hb⟩; have HB4 := Aside0.mk (below_step HB3.out hb); clear hb))
    go_ret2
    exact ⟨rfl, HB4.out⟩
   ·
    rw [if_neg hl] at hp
    rw [hp]
    have d4 : decide ((40 : Int) < (tx (leastT f)).size) = false := decide_eq_false (by rw [hsz]; omega)
    clear hp hl hsz
    go_enter Try.func74, Try.ntmps74
    go_wp2_with (first | (go_at_call 59; refine HC.out.mono ?_; rintro e W2 ⟨v, rfl, ho, hb⟩; obtain ⟨A, c, rfl, _, hr⟩ := Kd.R_reads ho; have HB2 := Aside0.mk hb; have HT := Aside0.mk (texts_calls (leastF f) A c W2 (leastF_len _) hr); clear ho hb hr) | (go_at_call 58; refine HT.out.mono ?_; rintro e W3 ⟨v, rfl, ho, hb⟩; obtain ⟨A, c, rfl, hcc, hr⟩ := Kd.R_reads ho; have HB3 := Aside0.mk (below_step HB2.out hb); have HJ2 := Aside0.mk (HJ.out A c W3 hcc hr); clear ho hb hcc hr) | (go_at_call 101; refine HJ2.out.mono ?_; rintro e W4 ⟨rfl, hb⟩; have HB4 := Aside0.mk (below_step HB3.out hb); clear hb))
    go_ret2
    exact ⟨rfl, HB4.out⟩
def plainR (s : List UInt8) : List UInt8 × Int := match parseL s with | none => ([], 90) | some m => plainF m.f
set_option maxHeartbeats 8000000 in
set_option maxRecDepth 1000000 in
theorem plain_calls (s : List UInt8) (w : World) : Calls Try.prog 34 #[.string (tx s)] w fun e w' => e = .returned (.tuple #[.string (tx (plainR s).1), .int .i64 (plainR s).2]) ∧ Below w.heap.size w w' := by
 have HP := Aside0.mk (open_ s w)
 unfold OpenPost at HP
 unfold plainR
 cases hc : parseL s with
 | none =>
  rw [hc] at HP
  go_enter Try.func34, Try.ntmps34
  go_wp2_with (first | (go_at_call 57; refine HP.out.mono ?_; rintro e W' ⟨hb, rfl⟩; have HB := Aside0.mk hb; clear hb))
  go_ret2
  exact ⟨rfl, HB.out⟩
 | some m =>
  rw [hc] at HP
  go_enter Try.func34, Try.ntmps34
  go_wp2_with (first | (go_at_call 57; refine HP.out.mono ?_; rintro e W' ⟨hb, g, hg, rfl, hh⟩; have HB := Aside0.mk hb; have HC := Aside0.mk (plain_table g m.f W' hh); clear hb hg hh) | (go_at_call 74; refine HC.out.mono ?_; rintro e W2 ⟨rfl, hb⟩; have HB2 := Aside0.mk (below_step HB.out hb); clear hb))
  go_ret2
  exact ⟨rfl, HB2.out⟩
/-! the letters of a circuit -/
theorem indexByte_ge (l : List UInt8) (c : UInt8) : decide (0 ≤ Lib.indexByte l c) = l.contains c := by
 have h : ∀ l : List UInt8, -1 ≤ Lib.indexByte l c ∧ (0 ≤ Lib.indexByte l c ↔ l.contains c = true) := by
  intro l
  induction l with
  | nil => simp [Lib.indexByte]
  | cons b l ih =>
   rw [Lib.indexByte, List.contains_cons]
   by_cases hb : (b == c) = true
   ·
    rw [if_pos hb]
    have : b = c := by simpa using hb
    subst this
    simp
   ·
    rw [if_neg hb]
    have hb' : (c == b) = false := by
     simp at hb ⊢
     exact fun e => hb e.symm
    rw [hb', Bool.false_or]
    by_cases hm : (Lib.indexByte l c == -1) = true
    ·
     rw [if_pos hm]
     have : Lib.indexByte l c = -1 := by simpa using hm
     have := ih.2
     constructor
     ·
      omega
     ·
      rw [← this]; omega
    ·
     rw [if_neg hm]
     have : Lib.indexByte l c ≠ -1 := by simpa using hm
     have h1 := ih.1
     constructor
     ·
      omega
     ·
      rw [← ih.2]; omega
 have h2 := (h l).2
 cases hc : l.contains c with
 | true => exact decide_eq_true (h2.2 hc)
 | false => exact decide_eq_false (fun h3 => by rw [h2.1 h3] at hc; cases hc)
def allTo (s : List UInt8) (i : Nat) : Nat := (List.range i).foldl (fun out i => if s.contains (UInt8.ofNat (97 + i)) then out ||| 2 ^ i else out) 0
theorem allTo_succ (s : List UInt8) (i : Nat) : allTo s (i + 1) = if s.contains (UInt8.ofNat (97 + i)) then allTo s i ||| 2 ^ i else allTo s i := by
 unfold allTo
 rw [List.range_succ, List.foldl_append]
 rfl
theorem allTo_lt (s : List UInt8) : ∀ i, i ≤ 8 → allTo s i < 256
 | 0, _ => by simp [allTo]
 | i + 1, h => by
  have := allTo_lt s i (by omega)
  rw [allTo_succ]
  split
  ·
   exact or_lt this (by omega)
  ·
   exact this
def lettersR (s : List UInt8) : List UInt8 × Int := match parseL s with | none => ([], 90) | some _ => (textN (allTo s 8), 0)
set_option maxHeartbeats 8000000 in
set_option maxRecDepth 1000000 in
theorem valid_calls (s : List UInt8) (w : World) : Calls Try.prog 49 #[.string (tx s)] w fun e w' => e = .returned (.bool (parseL s).isSome) ∧ Below w.heap.size w w' := by
 have HP := Aside0.mk (parse_calls ib s w)
 unfold ParsePost at HP
 unfold parseL
 cases hc : parseC s with
 | none =>
  rw [hc] at HP
  go_enter Try.func49, Try.ntmps49
  go_wp2_with (first | (go_at_call 68; refine HP.out.mono ?_; rintro e W' ⟨hb, rfl⟩; have HB := Aside0.mk hb; clear hb))
  go_ret
  exact ⟨rfl, HB.out⟩
 | some c =>
  rw [hc] at HP
  go_enter Try.func49, Try.ntmps49
  go_wp2_with (first | (go_at_call 68; refine HP.out.mono ?_; rintro e W' ⟨hb, v, rfl, hr, hsm⟩; have HB := Aside0.mk hb; clear hb hr hsm))
  go_ret
  exact ⟨rfl, HB.out⟩
theorem shl_bit (i : Nat) (h : i < 8) : IntKind.i64.wrap (2 ^ i) = wrap64 (2 ^ i) := by rw [i64_w]
set_option maxHeartbeats 8000000 in
set_option maxRecDepth 1000000 in
theorem letters_calls (s : List UInt8) (w : World) : Calls Try.prog 47 #[.string (tx s)] w fun e w' => e = .returned (.tuple #[.string (tx (lettersR s).1), .int .i64 (lettersR s).2]) ∧ Below w.heap.size w w' := by
 have HP := Aside0.mk (valid_calls s w)
 unfold lettersR
 cases hc : parseL s with
 | none =>
  rw [hc] at HP
  go_enter Try.func47, Try.ntmps47
  go_wp2_with (first | (go_at_call 49; refine HP.out.mono ?_; rintro e W' ⟨rfl, hb⟩; have HB := Aside0.mk hb; clear hb))
  go_ret2
  exact ⟨rfl, HB.out⟩
 | some m =>
  rw [hc] at HP
  clear hc
  go_enter Try.func47, Try.ntmps47
  go_wp2_with (first | (go_at_call 49; refine HP.out.mono ?_; rintro e W' ⟨rfl, hb⟩; have HB0 := Aside0.mk hb; clear hb))
  go_loopg [9, 4] 9 (fun kq v9 v4 W => ∃ i : Nat, v9 = .int .i64 i ∧ v4 = .int .i64 (allTo s i : Nat) ∧ Aside0 (i + kq = 9) ∧ Aside0 (i ≤ 8) ∧ Aside0 (Below w.heap.size w W))
  case atStart => exact ⟨0, rfl, rfl, ⟨rfl⟩, ⟨by decide⟩, HB0⟩
  case round =>
   obtain ⟨i, rfl, rfl, HK, HI, HB⟩ := hrel
   by_cases hi : i < 8
   ·
    have h1 : decide ((i : Int) < 8) = true := decide_eq_true (by omega)
    have h0 : (0 : Int) ≤ (i : Int) ∧ (i : Int) < 8 := by omega
    have hnx : wrap64 ((i : Int) + 1) = ((i + 1 : Nat) : Int) := by unfold wrap64; omega
    have HI1 := Aside0.mk hi
    have HIB : Aside0 (∀ (h : i < 8) (W : World), Calls Try.prog 82 #[.string (tx s), .int .u8 ((((⟨#[97, 98, 99, 100, 101, 102, 103, 104]⟩ : ByteArray)[i]'h).toNat : Nat) : Int)] W fun e w' => e = .returned (.int .i64 (Lib.indexByte s (UInt8.ofNat (97 + i)))) ∧ w' = W) := ⟨fun hh W => by
     have h := Try.strings_IndexByte (tx s) ((UInt8.ofNat (97 + i)).toNat : Int) W
     rw [u8_back] at h
     rw [letter_at i hh]
     exact h⟩
    have hge := indexByte_ge s (UInt8.ofNat (97 + i))
    have hor := or_bits (allTo_lt s i (by omega)) hi
    have HS := Aside0.mk (allTo_succ s i)
    generalize UInt8.ofNat (97 + i) = ch at HIB hge HS
    have hsz : (i : Int) < ((⟨#[97, 98, 99, 100, 101, 102, 103, 104]⟩ : ByteArray).size : Int) := by show (i : Int) < 8; omega
    by_cases hb : s.contains ch = true
    ·
     rw [hb] at hge
     have HS2 : Aside0 (allTo s (i + 1) = allTo s i ||| 2 ^ i) := ⟨by rw [HS.out, hb]; rfl⟩
     clear hb
     go_wp2_with (first | (go_at_call 82; refine (HIB.out _ _).mono ?_; rintro e w' ⟨rfl, hw⟩; rw [hw]; clear hw w'))
     go_roundg (8 - i)
     case measure => have := HK.out; have := HI1.out; omega
     case rel => exact ⟨i + 1, by first | rfl | rw [hnx], by rw [HS2.out], ⟨by have := HI1.out; omega⟩, ⟨HI1.out⟩, HB⟩
    ·
     rw [Bool.eq_false_iff.mpr hb] at hge
     have HS2 : Aside0 (allTo s (i + 1) = allTo s i) := ⟨by rw [HS.out, Bool.eq_false_iff.mpr hb]; rfl⟩
     clear hb
     go_wp2_with (first | (go_at_call 82; refine (HIB.out _ _).mono ?_; rintro e w' ⟨rfl, hw⟩; rw [hw]; clear hw w'))
     go_roundg (8 - i)
     case measure => have := HK.out; have := HI1.out; omega
     case rel => exact ⟨i + 1, by first | rfl | rw [hnx], by rw [HS2.out], ⟨by have := HI1.out; omega⟩, ⟨HI1.out⟩, HB⟩
   ·
    have h1 : decide ((i : Int) < 8) = false := decide_eq_false (by omega)
    have hi8 : i = 8 := by have := HI.out; omega
    subst hi8
    have HT : Aside0 (∀ W, Calls Try.prog 72 #[.int .i64 (allTo s 8 : Nat)] W fun e w' => e = .returned (.string (tx (textN (allTo s 8)))) ∧ Below W.heap.size W w') := ⟨text_calls _ (allTo_lt s 8 (by decide))⟩
    go_wp2_with (go_at_call 72; refine (HT.out _).mono ?_; rintro e W4 ⟨rfl, hb⟩; have HB4 := Aside0.mk (below_step HB.out hb); clear hb)
    go_ret2
    exact ⟨rfl, HB4.out⟩
end Go.Proofs.Yteikgnaikeleaaa

namespace Go.Proofs.Yteikgnaikeleaaa
open Go.RowKit Go.Proofs.YteikgnaikeleaaaW.PrintWords Go.Proofs.YteikgnaikeleaaaW.PrintLast Go.Proofs.YteikgnaikeleaaaW.PrintMore
set_option linter.unusedVariables false

/-! a + that is not within brackets -/
theorem wideL_step (b : UInt8) (l : List UInt8) (k : Int) : wideL (b :: l) k = if b = 40 then wideL l (k + 1) else if b = 41 then wideL l (k - 1) else if b = 43 ∧ k = 0 then true else wideL l k := rfl
set_option maxHeartbeats 8000000 in
set_option maxRecDepth 1000000 in
theorem wide_calls (d : List UInt8) (hd : asc d) (hl : d.length ≤ 1000000) (w : World) :
  Calls Try.prog 91 #[.string (tx d)] w fun e w' => e = .returned (.bool (wideL d 0)) ∧ Below w.heap.size w w' := by
 have HD := Aside0.mk hd
 have HL := Aside0.mk hl
 clear hd hl
 obtain ⟨X, hX⟩ : ∃ X, X = wideL d 0 := ⟨_, rfl⟩
 rw [← hX]
 have HX0 := Aside0.mk hX.symm
 clear hX
 go_enter Try.func91, Try.ntmps91
 go_wp2
 go_loopg [3] (d.length + 1) (fun kq v3 W => ∃ (pos : Nat) (k : Int), v3 = .int .i64 k ∧ Aside0 (pos + kq = d.length + 1) ∧ Aside0 (pos ≤ d.length) ∧ Aside0 (-pos ≤ k ∧ k ≤ pos) ∧ Aside0 (wideL (d.drop pos) k = X) ∧ Aside0 (W = w.iter (tx d) pos))
 case atStart => exact ⟨0, 0, rfl, ⟨by omega⟩, ⟨by omega⟩, ⟨by omega⟩, HX0, ⟨rfl⟩⟩
 case round =>
  clear HX0
  obtain ⟨pos, k, rfl, HK, HP, HB, HX, ⟨rfl⟩⟩ := hrel
  by_cases hp : pos < d.length
  ·
   have hp' : pos < (tx d).size := by rw [tx_size]; exact hp
   have hg : (tx d)[pos]'hp' = d[pos]'hp := tx_get d pos hp'
   have ha : ((tx d)[pos]'hp').toNat < 128 := by rw [hg]; exact HD.out _ (List.getElem_mem hp)
   have hnx : ∀ ty, (Instr.next (.pointer (some ⟨w.heap.size, 0, none⟩)) true ty).run Try.prog (w.iter (tx d) pos) = .ok (.tuple #[.bool true, .int .i64 pos, .int .i32 (d[pos]'hp).toNat]) (w.iter (tx d) (pos + 1)) := fun ty => by
    have h := run_next_ascii (P := Try.prog) w (tx d) pos ty hp' ha
    rw [hg] at h
    exact h
   have hx := HX.out
   rw [List.drop_eq_getElem_cons hp, wideL_step] at hx
   have HP1 := Aside0.mk hp
   have hw1 : wrap64 (k + 1) = k + 1 := by have := HB.out; have := HL.out; unfold wrap64; omega
   have hw2 : wrap64 (k - 1) = k - 1 := by have := HB.out; have := HL.out; unfold wrap64; omega
   clear hg ha hp'
   generalize d[pos]'hp = b at hx hnx
   clear hp
   by_cases h0 : b = 40
   ·
    rw [if_pos h0] at hx
    have HX2 := Aside0.mk hx
    subst h0
    clear hx
    have e0 : (((40 : UInt8).toNat : Int) == 40) = true := rfl
    go_wp2
    go_roundg (d.length - pos)
    case measure => have := HK.out; have := HP1.out; omega
    case rel => exact ⟨pos + 1, k + 1, by first | rfl | rw [hw1], ⟨by have := HP1.out; omega⟩, ⟨HP1.out⟩, ⟨by have := HB.out; omega⟩, HX2, ⟨rfl⟩⟩
   ·
    rw [if_neg h0] at hx
    have e0 : ((b.toNat : Int) == 40) = false := by
     have := bne_of (l := []) h0
     simpa [nextB] using this
    by_cases h1 : b = 41
    ·
     rw [if_pos h1] at hx
     have HX2 := Aside0.mk hx
     subst h1
     clear hx h0
     have e1 : (((41 : UInt8).toNat : Int) == 41) = true := rfl
     go_wp2
     go_roundg (d.length - pos)
     case measure => have := HK.out; have := HP1.out; omega
     case rel => exact ⟨pos + 1, k - 1, by first | rfl | rw [hw2], ⟨by have := HP1.out; omega⟩, ⟨HP1.out⟩, ⟨by have := HB.out; omega⟩, HX2, ⟨rfl⟩⟩
    ·
     rw [if_neg h1] at hx
     have e1 : ((b.toNat : Int) == 41) = false := by
      have := bne_of (l := []) h1
      simpa [nextB] using this
     by_cases h2 : b = 43
     ·
      subst h2
      have e2 : (((43 : UInt8).toNat : Int) == 43) = true := rfl
      by_cases hk : k = 0
      ·
       rw [if_pos ⟨rfl, hk⟩] at hx
       have HX2 := Aside0.mk hx
       have e3 : (k == 0) = true := by simpa using hk
       clear hx h0 h1 hk
       go_wp2
       go_ret
       rw [← HX2.out]
       exact ⟨rfl, (Below.refl _ w).alloc (Nat.le_refl _) _⟩
      ·
       rw [if_neg (fun h => hk h.2)] at hx
       have HX2 := Aside0.mk hx
       have e3 : (k == 0) = false := by simpa using hk
       clear hx h0 h1 hk
       go_wp2
       go_roundg (d.length - pos)
       case measure => have := HK.out; have := HP1.out; omega
       case rel => exact ⟨pos + 1, k, rfl, ⟨by have := HP1.out; omega⟩, ⟨HP1.out⟩, ⟨by have := HB.out; omega⟩, HX2, ⟨rfl⟩⟩
     ·
      rw [if_neg (fun h => h2 h.1)] at hx
      have e2 : ((b.toNat : Int) == 43) = false := by
       have := bne_of (l := []) h2
       simpa [nextB] using this
      have HX2 := Aside0.mk hx
      clear hx h0 h1 h2
      go_wp2
      go_roundg (d.length - pos)
      case measure => have := HK.out; have := HP1.out; omega
      case rel => exact ⟨pos + 1, k, rfl, ⟨by have := HP1.out; omega⟩, ⟨HP1.out⟩, ⟨by have := HB.out; omega⟩, HX2, ⟨rfl⟩⟩
  ·
   have hnx : ∀ ty, (Instr.next (.pointer (some ⟨w.heap.size, 0, none⟩)) true ty).run Try.prog (w.iter (tx d) pos) = _ := fun ty => run_next_end w (tx d) pos ty (by rw [tx_size]; exact hp)
   have hx := HX.out
   rw [List.drop_eq_nil_of_le (by omega)] at hx
   have HX2 : Aside0 (false = X) := ⟨hx⟩
   clear hx
   go_wp2
   go_ret
   rw [← HX2.out]
   exact ⟨rfl, (Below.refl _ w).alloc (Nat.le_refl _) _⟩
end Go.Proofs.Yteikgnaikeleaaa

namespace Go.Proofs.Yteikgnaikeleaaa
open Go.RowKit Go.Proofs.YteikgnaikeleaaaW.PrintWords Go.Proofs.YteikgnaikeleaaaW.PrintLast Go.Proofs.YteikgnaikeleaaaW.PrintMore
set_option linter.unusedVariables false

theorem abc_one (i : Nat) (h : i < 8) : (⟨#[97, 98, 99, 100, 101, 102, 103, 104]⟩ : ByteArray).extract i (i + 1) = tx [UInt8.ofNat (97 + i)] := by
 have : ∀ i : Fin 8, ((⟨#[97, 98, 99, 100, 101, 102, 103, 104]⟩ : ByteArray).extract i.val (i.val + 1)).data = (tx [UInt8.ofNat (97 + i.val)]).data := by decide +kernel
 exact ByteArray.ext (this ⟨i, h⟩)
set_option maxHeartbeats 8000000 in
set_option maxRecDepth 1000000 in
theorem lit_dual (b : UInt8) (h : isL b = true) (w : World) :
  Calls Try.prog 161 #[.int .i64 ((b.toNat : Int) - 97)] w fun e w' => e = .returned (.string (tx (litM b).d)) ∧ Below w.heap.size w w' := by
 have h1 := (isL_iff' b).1 h
 obtain ⟨i, hi⟩ : ∃ i : Nat, (b.toNat : Int) - 97 = (i : Int) := ⟨b.toNat - 97, by omega⟩
 have h8 : i < 8 := by omega
 have hb : UInt8.ofNat (97 + i) = b := by
  have : 97 + i = b.toNat := by omega
  rw [this]; simp
 have hx := abc_one i h8
 rw [hb] at hx
 rw [hi]
 have hw : wrap64 ((i : Int) + 1) = ((i + 1 : Nat) : Int) := by unfold wrap64; omega
 have h0 : (0 : Int) ≤ (i : Int) := by omega
 have hsz : (((⟨#[97, 98, 99, 100, 101, 102, 103, 104]⟩ : ByteArray).size : Nat) : Int) = 8 := rfl
 have h9 : (i : Int) + 1 ≤ 8 := by omega
 have h10 : (0 : Int) ≤ (i : Int) + 1 := by omega
 have h11 : (i : Int) ≤ (i : Int) + 1 := by omega
 have ht : ((i : Int) + 1).toNat = i + 1 := by omega
 clear hi hb h1
 go_enter Try.func161, Try.ntmps161
 go_wp2
 go_ret
 exact ⟨rfl, Below.refl _ _⟩
theorem dmeth_lit (i : Int) (w : World) : (method 255 122 (.int .i64 i) "dropper/loop.dual").run Try.prog w = .ok (161, .int .i64 i) w := by kernel_rfl
theorem dmeth_circ (a : Option Addr) (n c : Nat) (w : World) : (method 255 61 (.slice a n c) "dropper/loop.dual").run Try.prog w = .ok (69, .slice a n c) w := by kernel_rfl
theorem enter161 (args : Array Value) (w : World) : (callFunc 161 args).run Try.prog w = .ok (.enter 161 args) w := by kernel_rfl
theorem enter69 (args : Array Value) (w : World) : (callFunc 69 args).run Try.prog w = .ok (.enter 69 args) w := by kernel_rfl
def lim : Nat := 1000000
def DualB (n : Nat) : Prop := ∀ (b : List Mean) (A : Option Addr) (c : Nat) (w : World), b.length ≤ 100000 → (dualB b).length ≤ lim → (partKd n).C w A b.length b →
 Calls Try.prog 90 #[.slice A b.length c] w fun e w' => e = .returned (.string (tx (dualB b))) ∧ Below w.heap.size w w'
def DualC (n : Nat) : Prop := ∀ (c : List (List Mean)) (A : Option Addr) (cc : Nat) (w : World), small c → (dualC c).length ≤ lim → (branchKd n).C w A c.length c →
 Calls Try.prog 69 #[.slice A c.length cc] w fun e w' => e = .returned (.string (tx (dualC c))) ∧ Below w.heap.size w w'
theorem join_mem : ∀ (l : List (List UInt8)) (d : List UInt8), d ∈ l → d.length ≤ (joinL l).length
 | [], d, h => by cases h
 | [a], d, h => by rw [List.mem_singleton.1 h]; exact Nat.le_refl _
 | a :: b :: l, d, h => by
  rw [joinL, List.length_append, List.length_cons]
  rcases List.mem_cons.1 h with rfl | h
  ·
   omega
  ·
   have := join_mem (b :: l) d h
   omega
def dtexts (b : List Mean) : List ByteArray := b.map (fun m => tx m.d)
theorem dtexts_data (b : List Mean) : (dtexts b).map (·.data.toList) = b.map (·.d) := by simp [dtexts, Function.comp_def, tx]
set_option maxHeartbeats 8000000 in
set_option maxRecDepth 1000000 in
theorem dualB_of (n : Nat) (HC : ∀ (m : Mean) v w, m.d.length ≤ lim → (partKd n).K w m [v] → ∃ T u f, v = .iface T u ∧ (∀ w, (method 255 T u "dropper/loop.dual").run Try.prog w = .ok (f, u) w) ∧ (∀ args w, (callFunc f args).run Try.prog w = .ok (.enter f args) w) ∧ Calls Try.prog f #[u] w fun e w' => e = .returned (.string (tx m.d)) ∧ Below w.heap.size w w') : DualB n := by
 intro b A c w hbl hdl hr
 have HBL := Aside0.mk hbl
 have HDL := Aside0.mk hdl
 have HR := Aside0.mk hr
 have HCA := Aside0.mk HC
 have HJ : Aside0 (∀ (A : Option Addr) (c : Nat) (W : World), (dtexts b).length ≤ c → Kd.string.C W A (dtexts b).length (dtexts b) → Calls Try.prog 101 #[.slice A (dtexts b).length c, .string ⟨#[43]⟩] W fun e w' => e = .returned (.string (tx (dualB b))) ∧ Below W.heap.size W w') := ⟨fun A c W hc hr => by
  have hjt : joinL ((dtexts b).map (·.data.toList)) = dualB b := by rw [dtexts_data]; rfl
  have := join_texts (dtexts b) A c W hr hc (by simpa [dtexts] using hbl) (by rw [hjt]; exact hdl)
  rw [hjt] at this
  exact this⟩
 clear HC hr hbl hdl
 go_enter Try.func90, Try.ntmps90
 go_wp2
 go_loopg [8, 3] (b.length + 1) (fun kq v8 v3 W => ∃ (x : Nat), v8 = .int .i64 x ∧ Aside0 (x + kq = b.length + 1) ∧ Aside0 (x ≤ b.length) ∧ Aside0 (Below w.heap.size w W) ∧ Aside0 (Kd.string.R 9 W w.heap.size (fun _ => True) v3 (dtexts (b.take x))))
 case atStart => exact ⟨0, rfl, ⟨by omega⟩, ⟨by omega⟩, ⟨Below.refl _ _⟩, ⟨Kd.R_nil _ _ _ _ _⟩⟩
 case round =>
  obtain ⟨x, rfl, HK, HX, HB, HO⟩ := hrel
  by_cases hx : x < b.length
  ·
   have h1 : decide ((x : Int) < (b.length : Int)) = true := decide_eq_true (by omega)
   have hnx : wrap64 ((x : Int) + 1) = ((x + 1 : Nat) : Int) := by have := HBL.out; unfold wrap64; omega
   have HX1 := Aside0.mk hx
   obtain ⟨ad, cs, rfl, hcl, hk, hcell⟩ := (Kd.C_below HR.out HB.out).get_ (litM 97) (x : Int) (by omega) (by omega)
   rw [partKd_sz] at hcl
   obtain ⟨v, rfl⟩ : ∃ v, cs = [v] := List.length_eq_one_iff.1 hcl
   have hc0 := hcell 0 v rfl
   rw [partKd_sz] at hc0
   simp only [Int.toNat_natCast, Nat.mul_one, Nat.add_zero] at hc0 hk
   have hg : b.getD x (litM 97) = b[x]'hx := by simp [List.getD_eq_getElem?_getD, hx]
   rw [hg] at hk
   have hdl : (b[x]'hx).d.length ≤ lim := Nat.le_trans (join_mem _ _ (List.mem_map.2 ⟨_, List.getElem_mem hx, rfl⟩)) HDL.out
   obtain ⟨T, u, f, rfl, hm, hcf, hcalls⟩ := HCA.out _ _ _ hdl hk
   have HCL := Aside0.mk hcalls
   have htk : b.take (x + 1) = b.take x ++ [b[x]'hx] := (List.take_append_getElem hx).symm
   have HTK : Aside0 (dtexts (b.take (x + 1)) = dtexts (b.take x) ++ [tx (b[x]'hx).d]) := ⟨by rw [htk]; unfold dtexts; rw [List.map_append]; rfl⟩
   have HLL : Aside0 ((dtexts (b.take x)).length ≤ x) := ⟨by simp [dtexts]; omega⟩
   generalize b[x]'hx = m at HCL HTK
   have HE : Aside0 (∀ W, Kd.string.M W w.heap.size (fun _ => False) (tx m.d) [.string (tx m.d)]) := ⟨fun W => rfl⟩
   have h0 : (0 : Int) ≤ (x : Int) ∧ (x : Int) < (b.length : Int) := by omega
   clear hcalls hk hcell hcl hg hdl htk
   go_wp2_with (first | (go_simp; with_reducible refine HCL.out.mono ?_; rintro e W4 ⟨rfl, hb⟩; have HB4 := Aside0.mk (below_step HB.out hb); have HO4 := Aside0.mk (Kd.R_below HO.out hb); clear hb) | ((with_reducible refine gate_builtin (b := .append) (xs := #[.tmp 12, .tmp 15]) rfl ?_); at_builtin; refine Kd.R_append Kd.string (w0 := w) w.heap.size rfl (.tmp 12) (.tmp 15) 24 9 (.string ⟨#[]⟩) 16 rfl Try.underlying24 info9 rfl Nat.one_pos (by omega) u3 (dtexts (b.take x)) (tx m.d) [.string (tx m.d)] (fun _ => True) (fun _ => False) rfl rfl (HE.out _) (fun _ hk => hk.elim) (fun _ _ => trivial) HO4.out HB4.out HB4.out.size (by have := HLL.out; have := HX1.out; have := HBL.out; omega) ?_; intro v1 w1 ho hb hg hat; have HO9 := Aside0.mk ho; have HB9 := Aside0.mk hb; clear ho hb hg hat))
   go_roundg (b.length - x)
   case measure => have := HK.out; have := HX1.out; omega
   case rel => exact ⟨x + 1, by first | rfl | rw [hnx], ⟨by have := HX1.out; omega⟩, ⟨HX1.out⟩, HB9, ⟨by rw [HTK.out]; exact HO9.out⟩⟩
  ·
   have h1 : decide ((x : Int) < (b.length : Int)) = false := decide_eq_false (by omega)
   have ho := HO.out
   rw [List.take_of_length_le (by omega)] at ho
   obtain ⟨A3, c3, rfl, hcc, hr⟩ := Kd.R_reads ho
   have HJ2 := Aside0.mk (HJ.out A3 c3 wr hcc hr)
   clear ho hcc hr
   go_wp2_with (go_at_call 101; refine HJ2.out.mono ?_; rintro e W4 ⟨rfl, hb⟩; have HB4 := Aside0.mk (below_step HB.out hb); clear hb)
   go_ret
   exact ⟨rfl, HB4.out⟩
theorem own_below {w w1 : World} {base : Nat} {e : TypeId} {size n : Nat} {v : Value} {xs : List Value} (h : w.ownsRow base e size v n xs) (hb : Below w.heap.size w w1) : w1.ownsRow base e size v n xs := own_move h (fun k hk => hb.block k (own_lt h k hk))
theorem bld_below {w w1 : World} {B b : Nat} {bs : List Value} (h : Lib.IsBuilder 95 5 B b bs w) (hb : Below w.heap.size w w1) : Lib.IsBuilder 95 5 B b bs w1 := by
 rcases h with ⟨h1, v, h2, h3, h4⟩ | ⟨h1, v, h2, h3, h4⟩
 ·
  exact .inl ⟨h1, v, blk_below h2 hb, own_below h3 hb, h4⟩
 ·
  exact .inr ⟨h1, v, blk_below h2 hb, own_below h3 hb, h4⟩
def flatD (c : List (List Mean)) : List UInt8 := c.flatMap (fun b => wrapL (dualB b))
theorem flatD_snoc (c : List (List Mean)) (b : List Mean) : flatD (c ++ [b]) = flatD c ++ wrapL (dualB b) := by simp [flatD]
theorem flat_le (c : List (List Mean)) (b : List Mean) (h : b ∈ c) : (dualB b).length ≤ (flatD c).length := by
 unfold flatD
 rw [List.length_flatMap]
 have h1 : (wrapL (dualB b)).length ≤ (c.map (fun b => (wrapL (dualB b)).length)).sum := by
  induction c with
  | nil => cases h
  | cons a c ih =>
   rw [List.map_cons, List.sum_cons]
   rcases List.mem_cons.1 h with rfl | h
   ·
    omega
   ·
    have := ih h
    omega
 have h2 : (dualB b).length ≤ (wrapL (dualB b)).length := by
  unfold wrapL
  split <;> simp <;> omega
 omega
theorem flat_take (c : List (List Mean)) (x : Nat) : (flatD (c.take x)).length ≤ (flatD c).length := by
 have h : flatD c = flatD (c.take x) ++ flatD (c.drop x) := by
  unfold flatD
  rw [← List.flatMap_append, List.take_append_drop]
 rw [h, List.length_append]
 omega
theorem dualC_one (b : List Mean) : dualC [b] = dualB b := rfl
theorem dualC_more {c : List (List Mean)} (h : c.length ≠ 1) : dualC c = flatD c := by
 unfold dualC
 split
 ·
  rename_i b
  exact absurd rfl h
 ·
  rfl
theorem tx_append (a b : List UInt8) : tx a ++ tx b = tx (a ++ b) := by
 apply ByteArray.ext
 simp [tx]
theorem asc_branch (n : Nat) (w : World) (b : List Mean) (A : Option Addr) (k : Nat) (h : (partKd n).C w A k b) : asc (dualB b) := asc_dualB b (row_all (p := fun m => asc m.d) h (fun m cs hm => part_asc n _ m cs hm))
set_option maxHeartbeats 8000000 in
set_option maxRecDepth 1000000 in
theorem dualC_of (n : Nat) (HC : DualB n) : DualC n := by
 intro b A c w hsm hdl hr
 obtain ⟨hasc, hcl0, hbl0⟩ := hsm
 have HCL0 := Aside0.mk hcl0
 have HBL0 := Aside0.mk hbl0
 have HR := Aside0.mk hr
 have HCA := Aside0.mk HC
 have hat : ∀ (x : Nat) (hx : x < b.length) (W : World), Below w.heap.size w W → ∃ ad A2 c2, A = some ad ∧ W.cell? (ad.add x) = some (.slice A2 (b[x]'hx).length c2) ∧ (partKd n).C W A2 (b[x]'hx).length (b[x]'hx) := by
  intro x hx W hW
  obtain ⟨ad, cs, e, hcl, hk, hcell⟩ := (Kd.C_below HR.out hW).get_ [] (x : Int) (by omega) (by omega)
  obtain ⟨v, rfl⟩ : ∃ v, cs = [v] := List.length_eq_one_iff.1 hcl
  have hc0 := hcell 0 v rfl
  rw [show (branchKd n).sz = 1 from rfl] at hc0
  simp only [Int.toNat_natCast, Nat.mul_one, Nat.add_zero] at hc0 hk
  have hg : b.getD x [] = b[x]'hx := by simp [List.getD_eq_getElem?_getD, hx]
  rw [hg] at hk
  obtain ⟨A2, c2, hv2, _, hr2⟩ := hk
  obtain rfl := (List.cons.inj hv2).1
  exact ⟨ad, A2, c2, e, hc0, hr2⟩
 by_cases h1 : b.length = 1
 ·
  obtain ⟨b0, rfl⟩ := List.length_eq_one_iff.1 h1
  obtain ⟨ad, A2, c2, rfl, hcell, hr2⟩ := hat 0 (by simp) w (Below.refl _ _)
  have HCL := Aside0.mk (HC b0 A2 c2 w (hbl0 b0 (by simp)) hdl hr2)
  have hl1 : (((List.length [b0] : Nat) : Int) == 1) = true := rfl
  have hcell' : w.cell? ad = some (.slice A2 b0.length c2) := by
   have e : ad.add 0 = ad := by simp [Addr.add]
   rw [e] at hcell
   exact hcell
  rw [dualC_one]
  clear hcell hat HC hasc hcl0 hbl0 hr hr2 h1
  go_enter Try.func69, Try.ntmps69
  go_wp2_with (go_at_call 90; refine HCL.out.mono ?_; rintro e W4 ⟨rfl, hb⟩; have HB4 := Aside0.mk hb; clear hb)
  go_ret
  exact ⟨rfl, HB4.out⟩
 ·
  rw [dualC_more h1] at hdl ⊢
  have hne : ((b.length : Int) == 1) = false := by
   apply beq_eq_false_iff_ne.mpr
   omega
  have HDL := Aside0.mk hdl
  have HAT := Aside0.mk hat
  have h0 : Lib.IsBuilder 95 5 w.heap.size w.heap.size [] (w.alloc (.cells #[.pointer none, .slice none 0 0] 95)) := Lib.fresh_isBuilder 95 5 w
  have H0 := Aside0.mk h0
  clear hat HC hasc hcl0 hbl0 hr h1 hdl h0
  go_enter Try.func69, Try.ntmps69
  go_wp2
  go_loopg [16] (b.length + 1) (fun kq v16 W => ∃ (x : Nat), v16 = .int .i64 x ∧ Aside0 (x + kq = b.length + 1) ∧ Aside0 (x ≤ b.length) ∧ Aside0 (Below w.heap.size w W) ∧ Aside0 (Lib.IsBuilder 95 5 w.heap.size w.heap.size (Lib.byteCells (flatD (b.take x))) W))
  case atStart => exact ⟨0, rfl, ⟨by omega⟩, ⟨by omega⟩, ⟨(Below.refl _ w).alloc (Nat.le_refl _) _⟩, H0⟩
  case round =>
   obtain ⟨x, rfl, HK, HX, HB, HI⟩ := hrel
   by_cases hx : x < b.length
   ·
    have h1 : decide ((x : Int) < (b.length : Int)) = true := decide_eq_true (by omega)
    have hnx : wrap64 ((x : Int) + 1) = ((x + 1 : Nat) : Int) := by have := HCL0.out; unfold wrap64; omega
    have HX1 := Aside0.mk hx
    obtain ⟨ad, A2, c2, rfl, hcell, hr2⟩ := HAT.out x hx wr HB.out
    have hdb : (dualB (b[x]'hx)).length ≤ lim := Nat.le_trans (flat_le b _ (List.getElem_mem hx)) HDL.out
    have HCL := Aside0.mk (HCA.out (b[x]'hx) A2 c2 wr (HBL0.out _ (List.getElem_mem hx)) hdb hr2)
    have hac := asc_branch n _ _ _ _ hr2
    have htk : b.take (x + 1) = b.take x ++ [b[x]'hx] := (List.take_append_getElem hx).symm
    have HTK : Aside0 (flatD (b.take (x + 1)) = flatD (b.take x) ++ wrapL (dualB (b[x]'hx))) := ⟨by rw [htk, flatD_snoc]⟩
    have HLL : Aside0 ((flatD (b.take (x + 1))).length ≤ lim) := ⟨Nat.le_trans (flat_take b (x + 1)) HDL.out⟩
    generalize b[x]'hx = m at HCL HTK hcell hac hdb
    obtain ⟨d, hd⟩ : ∃ d, d = dualB m := ⟨_, rfl⟩
    rw [← hd] at HCL HTK hac hdb
    have HWD : Aside0 (∀ W, Calls Try.prog 91 #[.string (tx d)] W fun e w' => e = .returned (.bool (wideL d 0)) ∧ Below W.heap.size W w') := ⟨wide_calls d hac hdb⟩
    have h00 : (0 : Int) ≤ (x : Int) ∧ (x : Int) < (b.length : Int) := by omega
    clear htk hr2 hd hac
    have HWR : Aside0 (wrapL d = if wideL d 0 then 40 :: (d ++ [41]) else d) := ⟨rfl⟩
    by_cases hw : wideL d 0 = true
    ·
     rw [hw] at HWD HWR
     have HT2 : Aside0 (flatD (b.take (x + 1)) = flatD (b.take x) ++ (40 :: (d ++ [41]))) := ⟨by rw [HTK.out, HWR.out]; rfl⟩
     have hcat : ((⟨#[40]⟩ : ByteArray) ++ tx d) ++ (⟨#[41]⟩ : ByteArray) = tx (40 :: (d ++ [41])) := by
      have e1 : (⟨#[40]⟩ : ByteArray) = tx [40] := rfl
      have e2 : (⟨#[41]⟩ : ByteArray) = tx [41] := rfl
      rw [e1, e2, tx_append, tx_append]
      rfl
     have hsz := tx_size d
     have hdb2 : d.length ≤ 1000000 := hdb
     have HT3 : Aside0 ((flatD (b.take x)).length + (40 :: (d ++ [41])).length ≤ 1000000) := ⟨by have := HLL.out; rw [HT2.out, List.length_append] at this; exact this⟩
     go_wp2_with (first | (go_at_call 90; refine HCL.out.mono ?_; rintro e W4 ⟨rfl, hb⟩; have HB4 := Aside0.mk (below_step HB.out hb); have HI4 := Aside0.mk (bld_below HI.out hb); clear hb) | (go_at_call 91; refine (HWD.out _).mono ?_; rintro e W5 ⟨rfl, hb⟩; have HB5 := Aside0.mk (below_step HB4.out hb); have HI5 := Aside0.mk (bld_below HI4.out hb); clear hb) | (go_at_call 92; refine (Try.Builder_WriteString w.heap.size w.heap.size _ (tx (40 :: (d ++ [41]))) _ HI5.out (by rw [tx_size]; have := HT3.out; simp [Lib.byteCells_length] at this ⊢; omega) HB5.out.size).mono ?_; rintro e W6 ⟨rfl, hb3, hb4⟩; have HI6 := Aside0.mk hb3; have HB6 := Aside0.mk (HB5.out.trans hb4); clear hb3 hb4))
     go_roundg (b.length - x)
     case measure => have := HK.out; have := HX1.out; omega
     case rel =>
      refine ⟨x + 1, by first | rfl | rw [hnx], ⟨by have := HX1.out; omega⟩, ⟨HX1.out⟩, HB6, ⟨?_⟩⟩
      rw [HT2.out, Lib.byteCells_append]
      exact Or.inr HI6.out
    ·
     have hw' := Bool.eq_false_iff.mpr hw
     rw [hw'] at HWD HWR
     have HT2 : Aside0 (flatD (b.take (x + 1)) = flatD (b.take x) ++ d) := ⟨by rw [HTK.out, HWR.out]; rfl⟩
     have hsz := tx_size d
     have HT3 : Aside0 ((flatD (b.take x)).length + d.length ≤ 1000000) := ⟨by have := HLL.out; rw [HT2.out, List.length_append] at this; exact this⟩
     clear hw hw'
     go_wp2_with (first | (go_at_call 90; refine HCL.out.mono ?_; rintro e W4 ⟨rfl, hb⟩; have HB4 := Aside0.mk (below_step HB.out hb); have HI4 := Aside0.mk (bld_below HI.out hb); clear hb) | (go_at_call 91; refine (HWD.out _).mono ?_; rintro e W5 ⟨rfl, hb⟩; have HB5 := Aside0.mk (below_step HB4.out hb); have HI5 := Aside0.mk (bld_below HI4.out hb); clear hb) | (go_at_call 92; refine (Try.Builder_WriteString w.heap.size w.heap.size _ (tx d) _ HI5.out (by rw [tx_size]; have := HT3.out; simp [Lib.byteCells_length] at this ⊢; omega) HB5.out.size).mono ?_; rintro e W6 ⟨rfl, hb3, hb4⟩; have HI6 := Aside0.mk hb3; have HB6 := Aside0.mk (HB5.out.trans hb4); clear hb3 hb4))
     go_roundg (b.length - x)
     case measure => have := HK.out; have := HX1.out; omega
     case rel =>
      refine ⟨x + 1, by first | rfl | rw [hnx], ⟨by have := HX1.out; omega⟩, ⟨HX1.out⟩, HB6, ⟨?_⟩⟩
      rw [HT2.out, Lib.byteCells_append]
      exact Or.inr HI6.out
   ·
    have h1 : decide ((x : Int) < (b.length : Int)) = false := decide_eq_false (by omega)
    have hi := HI.out
    rw [List.take_of_length_le (by omega)] at hi
    have HI2 := Aside0.mk hi
    clear hi
    go_wp2_with (first | (go_at_call 93; refine (Try.Builder_String_any w.heap.size w.heap.size (flatD b) wr HI2.out HB.out.size).mono ?_; rintro e W3 ⟨rfl, hb3⟩; have HB3 := Aside0.mk (HB.out.trans hb3); clear hb3))
    go_ret
    exact ⟨rfl, HB3.out⟩
theorem dual_lit {m : Mean} {v : Value} (h : litK m [v]) (w : World) : ∃ T u f, v = .iface T u ∧ (∀ w, (method 255 T u "dropper/loop.dual").run Try.prog w = .ok (f, u) w) ∧ (∀ args w, (callFunc f args).run Try.prog w = .ok (.enter f args) w) ∧ Calls Try.prog f #[u] w fun e w' => e = .returned (.string (tx m.d)) ∧ Below w.heap.size w w' := by
 obtain ⟨b, hb, rfl, hv⟩ := h
 obtain rfl := (List.cons.inj hv).1
 exact ⟨_, _, 161, rfl, fun w => dmeth_lit _ w, enter161, lit_dual b hb w⟩
theorem dual_all : ∀ n, DualB n ∧ DualC n
 | 0 => by
  have h : DualB 0 := dualB_of 0 (fun m v w _ hk => dual_lit hk w)
  exact ⟨h, dualC_of 0 h⟩
 | n + 1 => by
  have ih := (dual_all n).2
  have h : DualB (n + 1) := dualB_of (n + 1) (fun m v w hl hk => by
   rcases (partKd_succ n w m [v]).1 hk with hk | ⟨c, u, rfl, hsm, hv, A, cc, hu, _, hr⟩
   ·
    exact dual_lit hk w
   ·
    obtain rfl := (List.cons.inj hv).1
    obtain rfl := (List.cons.inj hu).1
    exact ⟨_, _, 69, rfl, fun w => dmeth_circ _ _ _ w, enter69, ih c A cc w hsm hl hr⟩)
  exact ⟨h, dualC_of (n + 1) h⟩
end Go.Proofs.Yteikgnaikeleaaa

/- The text of a dual is no longer than four times the circuit. -/
namespace Go.Proofs.Yteikgnaikeleaaa
set_option linter.unusedVariables false

def sumD (b : List Mean) : Nat := (b.map (fun m => m.d.length + 1)).sum
def sumE (c : List (List Mean)) : Nat := (c.map (fun b => (dualB b).length + 2)).sum
theorem sumD_snoc (b : List Mean) (m : Mean) : sumD (b ++ [m]) = sumD b + (m.d.length + 1) := by simp [sumD]
theorem sumE_snoc (c : List (List Mean)) (b : List Mean) : sumE (c ++ [b]) = sumE c + ((dualB b).length + 2) := by simp [sumE]
theorem join_len : ∀ l : List (List UInt8), (joinL l).length + 1 ≤ (l.map (fun d => d.length + 1)).sum + 1
 | [] => by simp [joinL]
 | [a] => by simp [joinL]
 | a :: b :: l => by
  have := join_len (b :: l)
  rw [joinL]
  simp only [List.length_append, List.length_cons, List.map_cons, List.sum_cons] at this ⊢
  omega
theorem join_len2 : ∀ l : List (List UInt8), l ≠ [] → (joinL l).length + 1 ≤ (l.map (fun d => d.length + 1)).sum
 | [], h => absurd rfl h
 | [a], _ => by simp [joinL]
 | a :: b :: l, _ => by
  have := join_len2 (b :: l) (by simp)
  rw [joinL]
  simp only [List.length_append, List.length_cons, List.map_cons, List.sum_cons] at this ⊢
  omega
theorem dualB_len (b : List Mean) (h : b ≠ []) : (dualB b).length + 1 ≤ sumD b := by
 have := join_len2 (b.map (·.d)) (by simpa using h)
 rw [List.map_map] at this
 exact this
theorem wrap_len (d : List UInt8) : (wrapL d).length ≤ d.length + 2 := by
 unfold wrapL
 split <;> simp
theorem dualC_len (c : List (List Mean)) : (dualC c).length ≤ sumE c := by
 have hf : (c.flatMap (fun b => wrapL (dualB b))).length ≤ sumE c := by
  induction c with
  | nil => simp
  | cons b c ih =>
   have := wrap_len (dualB b)
   rw [List.flatMap_cons, List.length_append]
   simp only [sumE, List.map_cons, List.sum_cons] at ih ⊢
   omega
 unfold dualC
 split
 ·
  rename_i b
  simp [sumE]
 ·
  exact hf
theorem parts_len {P : PF} (hP : ∀ l m t, P l = some (m, t) → m.d.length + 3 + 4 * t.length ≤ 4 * l.length) : ∀ k acc l b t, partsL P k acc l = some (b, t) → sumD b + 4 * t.length ≤ sumD acc + 4 * l.length ∧ acc.length ≤ b.length
 | 0, _, _, _, _, h => by simp [partsL] at h
 | k + 1, acc, [], b, t, h => by simp [partsL] at h; obtain ⟨rfl, rfl⟩ := h; simp
 | k + 1, acc, c :: l, b, t, h => by
  rw [partsL] at h
  split at h
  ·
   simp at h; obtain ⟨rfl, rfl⟩ := h; simp
  ·
   cases hp : P (c :: l) with
   | none => simp [hp] at h
   | some x =>
    obtain ⟨m, l'⟩ := x
    simp only [hp] at h
    have h1 := hP _ _ _ hp
    have h2 := parts_len hP k _ _ _ _ h
    rw [sumD_snoc, List.length_append] at h2
    simp only [List.length_cons, List.length_nil] at h1 h2 ⊢
    omega
theorem circ_len {P : PF} (hP : ∀ l m t, P l = some (m, t) → m.d.length + 3 + 4 * t.length ≤ 4 * l.length) : ∀ k acc l c t, circL P k acc l = some (c, t) → sumE c + 4 * t.length + 1 ≤ sumE acc + 4 * l.length
 | 0, _, _, _, _, h => by simp [circL] at h
 | k + 1, acc, l, c, t, h => by
  rw [circL] at h
  cases hp : P l with
  | none => simp [hp] at h
  | some x =>
   obtain ⟨m, l1⟩ := x
   simp only [hp] at h
   have h1 := hP _ _ _ hp
   cases hq : partsL P (l1.length + 1) [m] l1 with
   | none => simp [hq] at h
   | some y =>
    obtain ⟨b, l2⟩ := y
    simp only [hq] at h
    obtain ⟨h2, h3⟩ := parts_len hP _ _ _ _ _ hq
    have hne : b ≠ [] := by
     rintro rfl
     simp at h3
    have h4 := dualB_len b hne
    have h5 : sumD [m] = m.d.length + 1 := by simp [sumD]
    cases l2 with
    | nil =>
     simp at h
     obtain ⟨rfl, rfl⟩ := h
     rw [sumE_snoc]
     simp at h2 ⊢
     omega
    | cons d l3 =>
     simp only at h
     simp only [List.length_cons] at h2
     split at h
     ·
      have := circ_len hP k _ _ _ _ h
      rw [sumE_snoc] at this
      omega
     ·
      simp at h
      obtain ⟨rfl, rfl⟩ := h
      rw [sumE_snoc]
      simp only [List.length_cons]
      omega
theorem part_len : ∀ n l m t, pPart n l = some (m, t) → m.d.length + 3 + 4 * t.length ≤ 4 * l.length
 | 0, _, _, _, h => by simp [pPart] at h
 | n + 1, [], _, _, h => by simp [pPart] at h
 | n + 1, b :: l, m, t, h => by
  rw [pPart] at h
  split at h
  ·
   simp at h
   obtain ⟨rfl, rfl⟩ := h
   simp [litM]
   omega
  ·
   split at h
   ·
    cases hc : circL (pPart n) (l.length + 1) [] l with
    | none => simp [hc] at h
    | some x =>
     obtain ⟨c, l1⟩ := x
     rw [hc] at h
     have := circ_len (fun l m t => part_len n l m t) _ _ _ _ _ hc
     split at h
     ·
      rename_i e
      simp at e h
      obtain ⟨rfl, rfl⟩ := h
      obtain ⟨rfl, rfl⟩ := e
      have h2 := dualC_len c
      simp only [meanC, List.length_cons, sumE, List.map_nil, List.sum_nil] at *
      omega
     ·
      simp at h
   ·
    simp at h
theorem parse_len {s : List UInt8} {c : List (List Mean)} (h : parseC s = some c) : (dualC c).length ≤ 160 := by
 unfold parseC at h
 split at h
 ·
  rename_i hs
  cases hc : circL (pPart (s.length + 1)) (s.length + 1) [] s with
  | none => simp [hc] at h
  | some x =>
   obtain ⟨c', l1⟩ := x
   rw [hc] at h
   cases l1 with
   | nil =>
    simp at h
    subst h
    have h1 := circ_len (part_len _) _ _ _ _ _ hc
    have h2 := dualC_len c'
    simp only [sumE, List.map_nil, List.sum_nil] at *
    omega
   | cons d l => simp at h
 ·
  simp at h
end Go.Proofs.Yteikgnaikeleaaa

namespace Go.Proofs.Yteikgnaikeleaaa
open Go.RowKit Go.Proofs.YteikgnaikeleaaaW.PrintWords Go.Proofs.YteikgnaikeleaaaW.PrintLast Go.Proofs.YteikgnaikeleaaaW.PrintMore
set_option linter.unusedVariables false

def dualR (s : List UInt8) : List UInt8 × Int := match parseC s with | none => ([], 90) | some c => if 40 < (dualC c).length then ([], 4) else (dualC c, 0)
set_option maxHeartbeats 8000000 in
set_option maxRecDepth 1000000 in
theorem dual_calls (s : List UInt8) (w : World) : Calls Try.prog 28 #[.string (tx s)] w fun e w' => e = .returned (.tuple #[.string (tx (dualR s).1), .int .i64 (dualR s).2]) ∧ Below w.heap.size w w' := by
 have HP := Aside0.mk (parse_calls ib s w)
 unfold ParsePost at HP
 unfold dualR
 cases hc : parseC s with
 | none =>
  rw [hc] at HP
  go_enter Try.func28, Try.ntmps28
  go_wp2_with (first | (go_at_call 68; refine HP.out.mono ?_; rintro e W' ⟨hb, rfl⟩; have HB := Aside0.mk hb; clear hb))
  go_ret2
  exact ⟨rfl, HB.out⟩
 | some c =>
  rw [hc] at HP
  have hl := parse_len hc
  have HL : Aside0 ((dualC c).length ≤ lim) := ⟨by unfold lim; omega⟩
  have hsz := tx_size (dualC c)
  clear hc hl
  by_cases h4 : 40 < (dualC c).length
  ·
   simp only [if_pos h4]
   have d4 : decide ((40 : Int) < (tx (dualC c)).size) = true := decide_eq_true (by rw [hsz]; omega)
   clear hsz h4
   go_enter Try.func28, Try.ntmps28
   go_wp2_with (first | (go_at_call 68; refine HP.out.mono ?_; rintro e W' ⟨hb, v, rfl, hr, hsm⟩; obtain ⟨A, cc, rfl, hl, hcc⟩ := Kd.R_reads hr; have HB := Aside0.mk hb; have HC := Aside0.mk ((dual_all _).2 c A cc W' hsm HL.out hcc); clear hb hr hl hcc hsm) | (go_at_call 69; refine HC.out.mono ?_; rintro e W2 ⟨rfl, hb⟩; have HB2 := Aside0.mk (below_step HB.out hb); clear hb))
   go_ret2
   exact ⟨rfl, HB2.out⟩
  ·
   simp only [if_neg h4]
   have d4 : decide ((40 : Int) < (tx (dualC c)).size) = false := decide_eq_false (by rw [hsz]; omega)
   clear hsz h4
   go_enter Try.func28, Try.ntmps28
   go_wp2_with (first | (go_at_call 68; refine HP.out.mono ?_; rintro e W' ⟨hb, v, rfl, hr, hsm⟩; obtain ⟨A, cc, rfl, hl, hcc⟩ := Kd.R_reads hr; have HB := Aside0.mk hb; have HC := Aside0.mk ((dual_all _).2 c A cc W' hsm HL.out hcc); clear hb hr hl hcc hsm) | (go_at_call 69; refine HC.out.mono ?_; rintro e W2 ⟨rfl, hb⟩; have HB2 := Aside0.mk (below_step HB.out hb); clear hb))
   go_ret2
   exact ⟨rfl, HB2.out⟩
end Go.Proofs.Yteikgnaikeleaaa

namespace Go.Proofs.Yteikgnaikeleaaa.XLoop
open Go.RowKit Go.Proofs.YteikgnaikeleaaaW.PrintWords Go.Proofs.YteikgnaikeleaaaW.PrintLast Go.Proofs.YteikgnaikeleaaaW.PrintMore
attribute [local go_sem] max2_int min2_int max_two min_two max_three min_three max_four min_four   -- for this text's walks alone
set_option linter.unusedVariables false
set_option linter.unusedSimpArgs false
/-! ### loop_Dual: function 28 -/
def loop_Dual.f (a0 : ByteArray) : Option (ByteArray × Int) := some (tx (dualR a0.data.toList).1, (dualR a0.data.toList).2)
theorem loop_Dual.calls (a0 : ByteArray) (r1 : ByteArray) (r2 : Int) (w : World) (h : loop_Dual.f a0 = some (r1, r2)) :
  Calls Try.prog 28 #[.string a0] w fun e w' => e = .returned (.tuple #[.string r1, .int .i64 r2]) ∧ Below w.heap.size w w' := by
 obtain ⟨rfl, rfl⟩ := Prod.mk.inj (Option.some.inj h)
 have hc := dual_calls a0.data.toList w
 simp only [tx_data] at hc
 exact hc

/-! ### dropperlaw09_First: function 15 -/
def dropperlaw09_First.f (k : Nat)  : Option (Bool) := (loop_Paths.f (⟨#[97, 40, 98, 43, 99, 41]⟩ : ByteArray)).bind fun bt103 => ((loop_Cuts.f (⟨#[97, 40, 98, 43, 99, 41]⟩ : ByteArray)).bind fun bt107 => ((loop_Dual.f (⟨#[97, 40, 98, 43, 99, 41]⟩ : ByteArray)).bind fun bt111 => (if bt103.2 = 0 then (if bt107.2 = 0 then (if bt111.2 = 0 then ((dropperlaw09_SameTexts.f k bt103.1 (([(⟨#[97, 98]⟩ : ByteArray), (⟨#[97, 99]⟩ : ByteArray)] : List ByteArray))).bind fun t116 => (if t116 = true then ((dropperlaw09_SameTexts.f k bt107.1 (([(⟨#[97]⟩ : ByteArray), (⟨#[98, 99]⟩ : ByteArray)] : List ByteArray))).bind fun t120 => (if t120 = true then (some (bt111.1.toList == ([97, 43, 98, 99] : List UInt8))) else (some false))) else (some false))) else (some false)) else (some false)) else (some false))))
set_option maxHeartbeats 8000000 in
set_option maxRecDepth 100000 in
theorem dropperlaw09_First.calls (k : Nat)  (r : Bool) (w : World) (h : dropperlaw09_First.f k  = some r) :
  Calls Try.prog 15 #[] w fun e w' => e = .returned (.bool r) ∧ Below w.heap.size w w' := by
 have HB := Aside0.mk (Below.refl w.heap.size w)
 have H : ((loop_Paths.f (⟨#[97, 40, 98, 43, 99, 41]⟩ : ByteArray)).bind fun bt103 => ((loop_Cuts.f (⟨#[97, 40, 98, 43, 99, 41]⟩ : ByteArray)).bind fun bt107 => ((loop_Dual.f (⟨#[97, 40, 98, 43, 99, 41]⟩ : ByteArray)).bind fun bt111 => (if bt103.2 = 0 then (if bt107.2 = 0 then (if bt111.2 = 0 then ((dropperlaw09_SameTexts.f k bt103.1 (([(⟨#[97, 98]⟩ : ByteArray), (⟨#[97, 99]⟩ : ByteArray)] : List ByteArray))).bind fun t116 => (if t116 = true then ((dropperlaw09_SameTexts.f k bt107.1 (([(⟨#[97]⟩ : ByteArray), (⟨#[98, 99]⟩ : ByteArray)] : List ByteArray))).bind fun t120 => (if t120 = true then (some (bt111.1.toList == ([97, 43, 98, 99] : List UInt8))) else (some false))) else (some false))) else (some false)) else (some false)) else (some false))))) = some r := h
 clear h
 replace H := Option.bind_eq_some_iff.mp H
 obtain ⟨⟨t103, t104⟩, A10, H⟩ := H
 try dsimp only at H
 have A1 := Aside0.mk A10
 clear A10
 replace H := Option.bind_eq_some_iff.mp H
 obtain ⟨⟨t107, t108⟩, A20, H⟩ := H
 try dsimp only at H
 have A2 := Aside0.mk A20
 clear A20
 replace H := Option.bind_eq_some_iff.mp H
 obtain ⟨⟨t111, t112⟩, A30, H⟩ := H
 try dsimp only at H
 have A3 := Aside0.mk A30
 clear A30
 by_cases c4 : t104 = 0
 ·
  rw [if_pos c4] at H
  have c4b0 : (t104 == 0) = true := beq_iff_eq.mpr c4
  have c4b1 : (t104 != 0) = false := bne_eq_false_iff_eq.mpr c4
  clear c4
  by_cases c5 : t108 = 0
  ·
   rw [if_pos c5] at H
   have c5b0 : (t108 == 0) = true := beq_iff_eq.mpr c5
   have c5b1 : (t108 != 0) = false := bne_eq_false_iff_eq.mpr c5
   clear c5
   by_cases c6 : t112 = 0
   ·
    rw [if_pos c6] at H
    have c6b0 : (t112 == 0) = true := beq_iff_eq.mpr c6
    have c6b1 : (t112 != 0) = false := bne_eq_false_iff_eq.mpr c6
    clear c6
    obtain ⟨y113, hy113⟩ : ∃ y_ : List ByteArray, y_ = (([(⟨#[97, 98]⟩ : ByteArray), (⟨#[97, 99]⟩ : ByteArray)] : List ByteArray)) := ⟨_, rfl⟩
    replace H : ((dropperlaw09_SameTexts.f k t103 y113).bind fun t116 => (if t116 = true then ((dropperlaw09_SameTexts.f k t107 (([(⟨#[97]⟩ : ByteArray), (⟨#[98, 99]⟩ : ByteArray)] : List ByteArray))).bind fun t120 => (if t120 = true then (some (t111.toList == ([97, 43, 98, 99] : List UInt8))) else (some false))) else (some false))) = some r := by first | (rw [hy113]; with_reducible exact H) | (have H2_ := (Option.bind_some _ _).symm.trans H; rw [hy113]; with_reducible exact H2_) | (have H2_ := (Option.bind_some _ _).symm.trans H; with_reducible exact H2_) | with_reducible exact H | (rw [hy113]; exact H) | exact H
    have Ny113 := Aside0.mk hy113
    clear hy113
    replace H := Option.bind_eq_some_iff.mp H
    obtain ⟨t116, A70, H⟩ := H
    try dsimp only at H
    have A7 := Aside0.mk A70
    clear A70
    by_cases c8 : t116 = true
    ·
     subst c8
     rw [if_pos rfl] at H
     obtain ⟨y117, hy117⟩ : ∃ y_ : List ByteArray, y_ = (([(⟨#[97]⟩ : ByteArray), (⟨#[98, 99]⟩ : ByteArray)] : List ByteArray)) := ⟨_, rfl⟩
     replace H : ((dropperlaw09_SameTexts.f k t107 y117).bind fun t120 => (if t120 = true then (some (t111.toList == ([97, 43, 98, 99] : List UInt8))) else (some false))) = some r := by first | (rw [hy117]; with_reducible exact H) | (have H2_ := (Option.bind_some _ _).symm.trans H; rw [hy117]; with_reducible exact H2_) | (have H2_ := (Option.bind_some _ _).symm.trans H; with_reducible exact H2_) | with_reducible exact H | (rw [hy117]; exact H) | exact H
     have Ny117 := Aside0.mk hy117
     clear hy117
     replace H := Option.bind_eq_some_iff.mp H
     obtain ⟨t120, A90, H⟩ := H
     try dsimp only at H
     have A9 := Aside0.mk A90
     clear A90
     by_cases c10 : t120 = true
     ·
      subst c10
      rw [if_pos rfl] at H
      obtain rfl := Option.some.inj H
      go_enter Try.func15, Try.ntmps15
      go_wp2_with (first | ((with_reducible refine gate_callee (f := 16) rfl ?_); refine goesL_ (some 8) rfl rfl Try.func16 (by kernel_rfl) rfl #[.string (⟨#[97, 40, 98, 43, 99, 41]⟩ : ByteArray)] rfl mapz ?_; (with_reducible refine (loop_Paths.calls (⟨#[97, 40, 98, 43, 99, 41]⟩ : ByteArray) t103 t104 _ A1.out).mono ?_); rintro e w11 ⟨v105, rfl, ho0, hb⟩; refine ⟨_, rfl, ?_⟩; have HO106 := Aside0.mk (Kd.R_lower ho0 (below_size bel)); replace HB := Aside0.mk (below_step bel hb); (try clear hb); (try clear hb2); (try clear hk); (try clear hi); (try clear ho0)) | ((with_reducible refine gate_callee (f := 18) rfl ?_); refine goesL_ (some 12) rfl rfl Try.func18 (by kernel_rfl) rfl #[.string (⟨#[97, 40, 98, 43, 99, 41]⟩ : ByteArray)] rfl mapz ?_; (with_reducible refine (loop_Cuts.calls (⟨#[97, 40, 98, 43, 99, 41]⟩ : ByteArray) t107 t108 _ A2.out).mono ?_); rintro e w12 ⟨v109, rfl, ho0, hb⟩; refine ⟨_, rfl, ?_⟩; have HO110 := Aside0.mk (Kd.R_lower (Kd.R_new' ho0 (Kd.R_lt (ownx HO106))) (below_size bel)); replace HO106 := Aside0.mk (Kd.R_elder' (ownx HO106) (Kd.R_base ho0) hb); replace HB := Aside0.mk (below_step bel hb); (try clear hb); (try clear hb2); (try clear hk); (try clear hi); (try clear ho0)) | ((with_reducible refine gate_callee (f := 28) rfl ?_); refine goesL_ (some 16) rfl rfl Try.func28 (by kernel_rfl) rfl #[.string (⟨#[97, 40, 98, 43, 99, 41]⟩ : ByteArray)] rfl mapz ?_; (with_reducible refine (loop_Dual.calls (⟨#[97, 40, 98, 43, 99, 41]⟩ : ByteArray) t111 t112 _ A3.out).mono ?_); rintro e w13 ⟨rfl, hb⟩; refine ⟨_, rfl, ?_⟩; replace HO106 := Aside0.mk (Kd.R_below (ownx HO106) hb); replace HO110 := Aside0.mk (Kd.R_below (ownx HO110) hb); replace HB := Aside0.mk (below_step bel hb); clear hb) | ((with_reducible refine gate_dst (N := 31) rfl ?_); (try (refine gate_guard (by rfl) ?_; dsimp only)); refine Kd.R_lit Kd.string _ 9 ?hg (N := 31) ?hd (xs := ([(⟨#[97, 98]⟩ : ByteArray), (⟨#[97, 99]⟩ : ByteArray)] : List ByteArray)) (inner := [.string (⟨#[97, 98]⟩ : ByteArray), .string (⟨#[97, 99]⟩ : ByteArray)]) (ok := fun _ => True) (okp := fun _ => True) ?hr ?hp (fun _ hk => hk) trivial (Below.refl _ _) (Nat.le_refl _) (by simp) ?_; (case hd => rfl); (case hg => rfl); (case hr => first | (go_simp; done) | (go_simp; rfl)); (case hp => exact (Reps.one (show Kd.M Kd.string _ _ _ (⟨#[97, 98]⟩ : ByteArray) [.string (⟨#[97, 98]⟩ : ByteArray)] from rfl) (Reps.one (show Kd.M Kd.string _ _ _ (⟨#[97, 99]⟩ : ByteArray) [.string (⟨#[97, 99]⟩ : ByteArray)] from rfl) (Reps.none _ _)))); intro v114 w14 ho15 hb hg_ hnew_; clear hg_ hnew_; (first | rw [← Ny113.out] at ho15 | (simp only [Int.reduceToNat] at ho15; rw [← Ny113.out] at ho15)); have HO115 := Aside0.mk (Kd.R_lower (Kd.R_new' (Kd.R_new' ho15 (Kd.R_lt (ownx HO106))) (Kd.R_lt (ownx HO110))) (below_size bel)); replace HO106 := Aside0.mk (Kd.R_elder' (ownx HO106) (Kd.R_base ho15) hb); replace HO110 := Aside0.mk (Kd.R_elder' (ownx HO110) (Kd.R_base ho15) hb); replace HB := Aside0.mk (below_step bel hb); clear hb ho15; obtain ⟨Ao16, co16, eo16⟩ := Kd.R_slice HO106.out; subst eo16; obtain ⟨Ao17, co17, eo17⟩ := Kd.R_slice HO115.out; subst eo17) | (go_at_call 20; (with_reducible refine (dropperlaw09_SameTexts.calls k _ _ t103 _ _ y113 true _ ?side1 ?side2 ?side3 ?side4 A7.out).mono ?_); (case side1 => repeat (first | exact (Kd.R_reads' HO106.out).2.2 | (with_reducible refine Kd.C_alloc ?_ _) | (with_reducible refine Kd.C_drewN ?_ _) | (with_reducible refine Kd.C_drew ?_))); (case side2 => exact (Kd.R_reads' HO106.out).2.1); (case side3 => repeat (first | exact (Kd.R_reads' HO115.out).2.2 | (with_reducible refine Kd.C_alloc ?_ _) | (with_reducible refine Kd.C_drewN ?_ _) | (with_reducible refine Kd.C_drew ?_))); (case side4 => exact (Kd.R_reads' HO115.out).2.1); rintro e w' ⟨rfl, ⟨nd, rfl⟩⟩) | ((with_reducible refine gate_dst (N := 36) rfl ?_); (try (refine gate_guard (by rfl) ?_; dsimp only)); refine Kd.R_lit Kd.string _ 9 ?hg (N := 36) ?hd (xs := ([(⟨#[97]⟩ : ByteArray), (⟨#[98, 99]⟩ : ByteArray)] : List ByteArray)) (inner := [.string (⟨#[97]⟩ : ByteArray), .string (⟨#[98, 99]⟩ : ByteArray)]) (ok := fun _ => True) (okp := fun _ => True) ?hr ?hp (fun _ hk => hk) trivial (Below.refl _ _) (Nat.le_refl _) (by simp) ?_; (case hd => rfl); (case hg => rfl); (case hr => first | (go_simp; done) | (go_simp; rfl)); (case hp => exact (Reps.one (show Kd.M Kd.string _ _ _ (⟨#[97]⟩ : ByteArray) [.string (⟨#[97]⟩ : ByteArray)] from rfl) (Reps.one (show Kd.M Kd.string _ _ _ (⟨#[98, 99]⟩ : ByteArray) [.string (⟨#[98, 99]⟩ : ByteArray)] from rfl) (Reps.none _ _)))); intro v118 w18 ho19 hb hg_ hnew_; clear hg_ hnew_; (first | rw [← Ny117.out] at ho19 | (simp only [Int.reduceToNat] at ho19; rw [← Ny117.out] at ho19)); have HO119 := Aside0.mk (Kd.R_lower (Kd.R_new' (Kd.R_new' (Kd.R_new' ho19 (Kd.R_lt (ownx HO106))) (Kd.R_lt (ownx HO110))) (Kd.R_lt (ownx HO115))) (below_size bel)); replace HO106 := Aside0.mk (Kd.R_elder' (ownx HO106) (Kd.R_base ho19) hb); replace HO110 := Aside0.mk (Kd.R_elder' (ownx HO110) (Kd.R_base ho19) hb); replace HO115 := Aside0.mk (Kd.R_elder' (ownx HO115) (Kd.R_base ho19) hb); replace HB := Aside0.mk (below_step bel hb); clear hb ho19; obtain ⟨Ao20, co20, eo20⟩ := Kd.R_slice HO110.out; subst eo20; obtain ⟨Ao21, co21, eo21⟩ := Kd.R_slice HO119.out; subst eo21) | (go_at_call 20; (with_reducible refine (dropperlaw09_SameTexts.calls k _ _ t107 _ _ y117 true _ ?side1 ?side2 ?side3 ?side4 A9.out).mono ?_); (case side1 => repeat (first | exact (Kd.R_reads' HO110.out).2.2 | (with_reducible refine Kd.C_alloc ?_ _) | (with_reducible refine Kd.C_drewN ?_ _) | (with_reducible refine Kd.C_drew ?_))); (case side2 => exact (Kd.R_reads' HO110.out).2.1); (case side3 => repeat (first | exact (Kd.R_reads' HO119.out).2.2 | (with_reducible refine Kd.C_alloc ?_ _) | (with_reducible refine Kd.C_drewN ?_ _) | (with_reducible refine Kd.C_drew ?_))); (case side4 => exact (Kd.R_reads' HO119.out).2.1); rintro e w' ⟨rfl, ⟨nd, rfl⟩⟩))
      go_ret
      exact ⟨ezz, bel⟩
     ·
      replace c10 := Bool.eq_false_iff.mpr c10
      subst c10
      rw [if_neg (show ¬ (false = true) by decide)] at H
      obtain rfl := Option.some.inj H
      go_enter Try.func15, Try.ntmps15
      go_wp2_with (first | ((with_reducible refine gate_callee (f := 16) rfl ?_); refine goesL_ (some 8) rfl rfl Try.func16 (by kernel_rfl) rfl #[.string (⟨#[97, 40, 98, 43, 99, 41]⟩ : ByteArray)] rfl mapz ?_; (with_reducible refine (loop_Paths.calls (⟨#[97, 40, 98, 43, 99, 41]⟩ : ByteArray) t103 t104 _ A1.out).mono ?_); rintro e w22 ⟨v105, rfl, ho0, hb⟩; refine ⟨_, rfl, ?_⟩; have HO106 := Aside0.mk (Kd.R_lower ho0 (below_size bel)); replace HB := Aside0.mk (below_step bel hb); (try clear hb); (try clear hb2); (try clear hk); (try clear hi); (try clear ho0)) | ((with_reducible refine gate_callee (f := 18) rfl ?_); refine goesL_ (some 12) rfl rfl Try.func18 (by kernel_rfl) rfl #[.string (⟨#[97, 40, 98, 43, 99, 41]⟩ : ByteArray)] rfl mapz ?_; (with_reducible refine (loop_Cuts.calls (⟨#[97, 40, 98, 43, 99, 41]⟩ : ByteArray) t107 t108 _ A2.out).mono ?_); rintro e w23 ⟨v109, rfl, ho0, hb⟩; refine ⟨_, rfl, ?_⟩; have HO110 := Aside0.mk (Kd.R_lower (Kd.R_new' ho0 (Kd.R_lt (ownx HO106))) (below_size bel)); replace HO106 := Aside0.mk (Kd.R_elder' (ownx HO106) (Kd.R_base ho0) hb); replace HB := Aside0.mk (below_step bel hb); (try clear hb); (try clear hb2); (try clear hk); (try clear hi); (try clear ho0)) | ((with_reducible refine gate_callee (f := 28) rfl ?_); refine goesL_ (some 16) rfl rfl Try.func28 (by kernel_rfl) rfl #[.string (⟨#[97, 40, 98, 43, 99, 41]⟩ : ByteArray)] rfl mapz ?_; (with_reducible refine (loop_Dual.calls (⟨#[97, 40, 98, 43, 99, 41]⟩ : ByteArray) t111 t112 _ A3.out).mono ?_); rintro e w24 ⟨rfl, hb⟩; refine ⟨_, rfl, ?_⟩; replace HO106 := Aside0.mk (Kd.R_below (ownx HO106) hb); replace HO110 := Aside0.mk (Kd.R_below (ownx HO110) hb); replace HB := Aside0.mk (below_step bel hb); clear hb) | ((with_reducible refine gate_dst (N := 31) rfl ?_); (try (refine gate_guard (by rfl) ?_; dsimp only)); refine Kd.R_lit Kd.string _ 9 ?hg (N := 31) ?hd (xs := ([(⟨#[97, 98]⟩ : ByteArray), (⟨#[97, 99]⟩ : ByteArray)] : List ByteArray)) (inner := [.string (⟨#[97, 98]⟩ : ByteArray), .string (⟨#[97, 99]⟩ : ByteArray)]) (ok := fun _ => True) (okp := fun _ => True) ?hr ?hp (fun _ hk => hk) trivial (Below.refl _ _) (Nat.le_refl _) (by simp) ?_; (case hd => rfl); (case hg => rfl); (case hr => first | (go_simp; done) | (go_simp; rfl)); (case hp => exact (Reps.one (show Kd.M Kd.string _ _ _ (⟨#[97, 98]⟩ : ByteArray) [.string (⟨#[97, 98]⟩ : ByteArray)] from rfl) (Reps.one (show Kd.M Kd.string _ _ _ (⟨#[97, 99]⟩ : ByteArray) [.string (⟨#[97, 99]⟩ : ByteArray)] from rfl) (Reps.none _ _)))); intro v114 w25 ho26 hb hg_ hnew_; clear hg_ hnew_; (first | rw [← Ny113.out] at ho26 | (simp only [Int.reduceToNat] at ho26; rw [← Ny113.out] at ho26)); have HO115 := Aside0.mk (Kd.R_lower (Kd.R_new' (Kd.R_new' ho26 (Kd.R_lt (ownx HO106))) (Kd.R_lt (ownx HO110))) (below_size bel)); replace HO106 := Aside0.mk (Kd.R_elder' (ownx HO106) (Kd.R_base ho26) hb); replace HO110 := Aside0.mk (Kd.R_elder' (ownx HO110) (Kd.R_base ho26) hb); replace HB := Aside0.mk (below_step bel hb); clear hb ho26; obtain ⟨Ao27, co27, eo27⟩ := Kd.R_slice HO106.out; subst eo27; obtain ⟨Ao28, co28, eo28⟩ := Kd.R_slice HO115.out; subst eo28) | (go_at_call 20; (with_reducible refine (dropperlaw09_SameTexts.calls k _ _ t103 _ _ y113 true _ ?side1 ?side2 ?side3 ?side4 A7.out).mono ?_); (case side1 => repeat (first | exact (Kd.R_reads' HO106.out).2.2 | (with_reducible refine Kd.C_alloc ?_ _) | (with_reducible refine Kd.C_drewN ?_ _) | (with_reducible refine Kd.C_drew ?_))); (case side2 => exact (Kd.R_reads' HO106.out).2.1); (case side3 => repeat (first | exact (Kd.R_reads' HO115.out).2.2 | (with_reducible refine Kd.C_alloc ?_ _) | (with_reducible refine Kd.C_drewN ?_ _) | (with_reducible refine Kd.C_drew ?_))); (case side4 => exact (Kd.R_reads' HO115.out).2.1); rintro e w' ⟨rfl, ⟨nd, rfl⟩⟩) | ((with_reducible refine gate_dst (N := 36) rfl ?_); (try (refine gate_guard (by rfl) ?_; dsimp only)); refine Kd.R_lit Kd.string _ 9 ?hg (N := 36) ?hd (xs := ([(⟨#[97]⟩ : ByteArray), (⟨#[98, 99]⟩ : ByteArray)] : List ByteArray)) (inner := [.string (⟨#[97]⟩ : ByteArray), .string (⟨#[98, 99]⟩ : ByteArray)]) (ok := fun _ => True) (okp := fun _ => True) ?hr ?hp (fun _ hk => hk) trivial (Below.refl _ _) (Nat.le_refl _) (by simp) ?_; (case hd => rfl); (case hg => rfl); (case hr => first | (go_simp; done) | (go_simp; rfl)); (case hp => exact (Reps.one (show Kd.M Kd.string _ _ _ (⟨#[97]⟩ : ByteArray) [.string (⟨#[97]⟩ : ByteArray)] from rfl) (Reps.one (show Kd.M Kd.string _ _ _ (⟨#[98, 99]⟩ : ByteArray) [.string (⟨#[98, 99]⟩ : ByteArray)] from rfl) (Reps.none _ _)))); intro v118 w29 ho30 hb hg_ hnew_; clear hg_ hnew_; (first | rw [← Ny117.out] at ho30 | (simp only [Int.reduceToNat] at ho30; rw [← Ny117.out] at ho30)); have HO119 := Aside0.mk (Kd.R_lower (Kd.R_new' (Kd.R_new' (Kd.R_new' ho30 (Kd.R_lt (ownx HO106))) (Kd.R_lt (ownx HO110))) (Kd.R_lt (ownx HO115))) (below_size bel)); replace HO106 := Aside0.mk (Kd.R_elder' (ownx HO106) (Kd.R_base ho30) hb); replace HO110 := Aside0.mk (Kd.R_elder' (ownx HO110) (Kd.R_base ho30) hb); replace HO115 := Aside0.mk (Kd.R_elder' (ownx HO115) (Kd.R_base ho30) hb); replace HB := Aside0.mk (below_step bel hb); clear hb ho30; obtain ⟨Ao31, co31, eo31⟩ := Kd.R_slice HO110.out; subst eo31; obtain ⟨Ao32, co32, eo32⟩ := Kd.R_slice HO119.out; subst eo32) | (go_at_call 20; (with_reducible refine (dropperlaw09_SameTexts.calls k _ _ t107 _ _ y117 false _ ?side1 ?side2 ?side3 ?side4 A9.out).mono ?_); (case side1 => repeat (first | exact (Kd.R_reads' HO110.out).2.2 | (with_reducible refine Kd.C_alloc ?_ _) | (with_reducible refine Kd.C_drewN ?_ _) | (with_reducible refine Kd.C_drew ?_))); (case side2 => exact (Kd.R_reads' HO110.out).2.1); (case side3 => repeat (first | exact (Kd.R_reads' HO119.out).2.2 | (with_reducible refine Kd.C_alloc ?_ _) | (with_reducible refine Kd.C_drewN ?_ _) | (with_reducible refine Kd.C_drew ?_))); (case side4 => exact (Kd.R_reads' HO119.out).2.1); rintro e w' ⟨rfl, ⟨nd, rfl⟩⟩))
      go_ret
      exact ⟨ezz, bel⟩
    ·
     replace c8 := Bool.eq_false_iff.mpr c8
     subst c8
     rw [if_neg (show ¬ (false = true) by decide)] at H
     obtain rfl := Option.some.inj H
     go_enter Try.func15, Try.ntmps15
     go_wp2_with (first | ((with_reducible refine gate_callee (f := 16) rfl ?_); refine goesL_ (some 8) rfl rfl Try.func16 (by kernel_rfl) rfl #[.string (⟨#[97, 40, 98, 43, 99, 41]⟩ : ByteArray)] rfl mapz ?_; (with_reducible refine (loop_Paths.calls (⟨#[97, 40, 98, 43, 99, 41]⟩ : ByteArray) t103 t104 _ A1.out).mono ?_); rintro e w33 ⟨v105, rfl, ho0, hb⟩; refine ⟨_, rfl, ?_⟩; have HO106 := Aside0.mk (Kd.R_lower ho0 (below_size bel)); replace HB := Aside0.mk (below_step bel hb); (try clear hb); (try clear hb2); (try clear hk); (try clear hi); (try clear ho0)) | ((with_reducible refine gate_callee (f := 18) rfl ?_); refine goesL_ (some 12) rfl rfl Try.func18 (by kernel_rfl) rfl #[.string (⟨#[97, 40, 98, 43, 99, 41]⟩ : ByteArray)] rfl mapz ?_; (with_reducible refine (loop_Cuts.calls (⟨#[97, 40, 98, 43, 99, 41]⟩ : ByteArray) t107 t108 _ A2.out).mono ?_); rintro e w34 ⟨v109, rfl, ho0, hb⟩; refine ⟨_, rfl, ?_⟩; have HO110 := Aside0.mk (Kd.R_lower (Kd.R_new' ho0 (Kd.R_lt (ownx HO106))) (below_size bel)); replace HO106 := Aside0.mk (Kd.R_elder' (ownx HO106) (Kd.R_base ho0) hb); replace HB := Aside0.mk (below_step bel hb); (try clear hb); (try clear hb2); (try clear hk); (try clear hi); (try clear ho0)) | ((with_reducible refine gate_callee (f := 28) rfl ?_); refine goesL_ (some 16) rfl rfl Try.func28 (by kernel_rfl) rfl #[.string (⟨#[97, 40, 98, 43, 99, 41]⟩ : ByteArray)] rfl mapz ?_; (with_reducible refine (loop_Dual.calls (⟨#[97, 40, 98, 43, 99, 41]⟩ : ByteArray) t111 t112 _ A3.out).mono ?_); rintro e w35 ⟨rfl, hb⟩; refine ⟨_, rfl, ?_⟩; replace HO106 := Aside0.mk (Kd.R_below (ownx HO106) hb); replace HO110 := Aside0.mk (Kd.R_below (ownx HO110) hb); replace HB := Aside0.mk (below_step bel hb); clear hb) | ((with_reducible refine gate_dst (N := 31) rfl ?_); (try (refine gate_guard (by rfl) ?_; dsimp only)); refine Kd.R_lit Kd.string _ 9 ?hg (N := 31) ?hd (xs := ([(⟨#[97, 98]⟩ : ByteArray), (⟨#[97, 99]⟩ : ByteArray)] : List ByteArray)) (inner := [.string (⟨#[97, 98]⟩ : ByteArray), .string (⟨#[97, 99]⟩ : ByteArray)]) (ok := fun _ => True) (okp := fun _ => True) ?hr ?hp (fun _ hk => hk) trivial (Below.refl _ _) (Nat.le_refl _) (by simp) ?_; (case hd => rfl); (case hg => rfl); (case hr => first | (go_simp; done) | (go_simp; rfl)); (case hp => exact (Reps.one (show Kd.M Kd.string _ _ _ (⟨#[97, 98]⟩ : ByteArray) [.string (⟨#[97, 98]⟩ : ByteArray)] from rfl) (Reps.one (show Kd.M Kd.string _ _ _ (⟨#[97, 99]⟩ : ByteArray) [.string (⟨#[97, 99]⟩ : ByteArray)] from rfl) (Reps.none _ _)))); intro v114 w36 ho37 hb hg_ hnew_; clear hg_ hnew_; (first | rw [← Ny113.out] at ho37 | (simp only [Int.reduceToNat] at ho37; rw [← Ny113.out] at ho37)); have HO115 := Aside0.mk (Kd.R_lower (Kd.R_new' (Kd.R_new' ho37 (Kd.R_lt (ownx HO106))) (Kd.R_lt (ownx HO110))) (below_size bel)); replace HO106 := Aside0.mk (Kd.R_elder' (ownx HO106) (Kd.R_base ho37) hb); replace HO110 := Aside0.mk (Kd.R_elder' (ownx HO110) (Kd.R_base ho37) hb); replace HB := Aside0.mk (below_step bel hb); clear hb ho37; obtain ⟨Ao38, co38, eo38⟩ := Kd.R_slice HO106.out; subst eo38; obtain ⟨Ao39, co39, eo39⟩ := Kd.R_slice HO115.out; subst eo39) | (go_at_call 20; (with_reducible refine (dropperlaw09_SameTexts.calls k _ _ t103 _ _ y113 false _ ?side1 ?side2 ?side3 ?side4 A7.out).mono ?_); (case side1 => repeat (first | exact (Kd.R_reads' HO106.out).2.2 | (with_reducible refine Kd.C_alloc ?_ _) | (with_reducible refine Kd.C_drewN ?_ _) | (with_reducible refine Kd.C_drew ?_))); (case side2 => exact (Kd.R_reads' HO106.out).2.1); (case side3 => repeat (first | exact (Kd.R_reads' HO115.out).2.2 | (with_reducible refine Kd.C_alloc ?_ _) | (with_reducible refine Kd.C_drewN ?_ _) | (with_reducible refine Kd.C_drew ?_))); (case side4 => exact (Kd.R_reads' HO115.out).2.1); rintro e w' ⟨rfl, ⟨nd, rfl⟩⟩))
     go_ret
     exact ⟨ezz, bel⟩
   ·
    rw [if_neg c6] at H
    have c6b0 : (t112 == 0) = false := beq_eq_false_iff_ne.mpr c6
    have c6b1 : (t112 != 0) = true := bne_iff_ne.mpr c6
    obtain rfl := Option.some.inj H
    go_enter Try.func15, Try.ntmps15
    go_wp2_with (first | ((with_reducible refine gate_callee (f := 16) rfl ?_); refine goesL_ (some 8) rfl rfl Try.func16 (by kernel_rfl) rfl #[.string (⟨#[97, 40, 98, 43, 99, 41]⟩ : ByteArray)] rfl mapz ?_; (with_reducible refine (loop_Paths.calls (⟨#[97, 40, 98, 43, 99, 41]⟩ : ByteArray) t103 t104 _ A1.out).mono ?_); rintro e w40 ⟨v105, rfl, ho0, hb⟩; refine ⟨_, rfl, ?_⟩; have HO106 := Aside0.mk (Kd.R_lower ho0 (below_size bel)); replace HB := Aside0.mk (below_step bel hb); (try clear hb); (try clear hb2); (try clear hk); (try clear hi); (try clear ho0)) | ((with_reducible refine gate_callee (f := 18) rfl ?_); refine goesL_ (some 12) rfl rfl Try.func18 (by kernel_rfl) rfl #[.string (⟨#[97, 40, 98, 43, 99, 41]⟩ : ByteArray)] rfl mapz ?_; (with_reducible refine (loop_Cuts.calls (⟨#[97, 40, 98, 43, 99, 41]⟩ : ByteArray) t107 t108 _ A2.out).mono ?_); rintro e w41 ⟨v109, rfl, ho0, hb⟩; refine ⟨_, rfl, ?_⟩; have HO110 := Aside0.mk (Kd.R_lower (Kd.R_new' ho0 (Kd.R_lt (ownx HO106))) (below_size bel)); replace HO106 := Aside0.mk (Kd.R_elder' (ownx HO106) (Kd.R_base ho0) hb); replace HB := Aside0.mk (below_step bel hb); (try clear hb); (try clear hb2); (try clear hk); (try clear hi); (try clear ho0)) | ((with_reducible refine gate_callee (f := 28) rfl ?_); refine goesL_ (some 16) rfl rfl Try.func28 (by kernel_rfl) rfl #[.string (⟨#[97, 40, 98, 43, 99, 41]⟩ : ByteArray)] rfl mapz ?_; (with_reducible refine (loop_Dual.calls (⟨#[97, 40, 98, 43, 99, 41]⟩ : ByteArray) t111 t112 _ A3.out).mono ?_); rintro e w42 ⟨rfl, hb⟩; refine ⟨_, rfl, ?_⟩; replace HO106 := Aside0.mk (Kd.R_below (ownx HO106) hb); replace HO110 := Aside0.mk (Kd.R_below (ownx HO110) hb); replace HB := Aside0.mk (below_step bel hb); clear hb))
    go_ret
    exact ⟨ezz, bel⟩
  ·
   rw [if_neg c5] at H
   have c5b0 : (t108 == 0) = false := beq_eq_false_iff_ne.mpr c5
   have c5b1 : (t108 != 0) = true := bne_iff_ne.mpr c5
   obtain rfl := Option.some.inj H
   go_enter Try.func15, Try.ntmps15
   go_wp2_with (first | ((with_reducible refine gate_callee (f := 16) rfl ?_); refine goesL_ (some 8) rfl rfl Try.func16 (by kernel_rfl) rfl #[.string (⟨#[97, 40, 98, 43, 99, 41]⟩ : ByteArray)] rfl mapz ?_; (with_reducible refine (loop_Paths.calls (⟨#[97, 40, 98, 43, 99, 41]⟩ : ByteArray) t103 t104 _ A1.out).mono ?_); rintro e w43 ⟨v105, rfl, ho0, hb⟩; refine ⟨_, rfl, ?_⟩; have HO106 := Aside0.mk (Kd.R_lower ho0 (below_size bel)); replace HB := Aside0.mk (below_step bel hb); (try clear hb); (try clear hb2); (try clear hk); (try clear hi); (try clear ho0)) | ((with_reducible refine gate_callee (f := 18) rfl ?_); refine goesL_ (some 12) rfl rfl Try.func18 (by kernel_rfl) rfl #[.string (⟨#[97, 40, 98, 43, 99, 41]⟩ : ByteArray)] rfl mapz ?_; (with_reducible refine (loop_Cuts.calls (⟨#[97, 40, 98, 43, 99, 41]⟩ : ByteArray) t107 t108 _ A2.out).mono ?_); rintro e w44 ⟨v109, rfl, ho0, hb⟩; refine ⟨_, rfl, ?_⟩; have HO110 := Aside0.mk (Kd.R_lower (Kd.R_new' ho0 (Kd.R_lt (ownx HO106))) (below_size bel)); replace HO106 := Aside0.mk (Kd.R_elder' (ownx HO106) (Kd.R_base ho0) hb); replace HB := Aside0.mk (below_step bel hb); (try clear hb); (try clear hb2); (try clear hk); (try clear hi); (try clear ho0)) | ((with_reducible refine gate_callee (f := 28) rfl ?_); refine goesL_ (some 16) rfl rfl Try.func28 (by kernel_rfl) rfl #[.string (⟨#[97, 40, 98, 43, 99, 41]⟩ : ByteArray)] rfl mapz ?_; (with_reducible refine (loop_Dual.calls (⟨#[97, 40, 98, 43, 99, 41]⟩ : ByteArray) t111 t112 _ A3.out).mono ?_); rintro e w45 ⟨rfl, hb⟩; refine ⟨_, rfl, ?_⟩; replace HO106 := Aside0.mk (Kd.R_below (ownx HO106) hb); replace HO110 := Aside0.mk (Kd.R_below (ownx HO110) hb); replace HB := Aside0.mk (below_step bel hb); clear hb))
   go_ret
   exact ⟨ezz, bel⟩
 ·
  rw [if_neg c4] at H
  have c4b0 : (t104 == 0) = false := beq_eq_false_iff_ne.mpr c4
  have c4b1 : (t104 != 0) = true := bne_iff_ne.mpr c4
  obtain rfl := Option.some.inj H
  go_enter Try.func15, Try.ntmps15
  go_wp2_with (first | ((with_reducible refine gate_callee (f := 16) rfl ?_); refine goesL_ (some 8) rfl rfl Try.func16 (by kernel_rfl) rfl #[.string (⟨#[97, 40, 98, 43, 99, 41]⟩ : ByteArray)] rfl mapz ?_; (with_reducible refine (loop_Paths.calls (⟨#[97, 40, 98, 43, 99, 41]⟩ : ByteArray) t103 t104 _ A1.out).mono ?_); rintro e w46 ⟨v105, rfl, ho0, hb⟩; refine ⟨_, rfl, ?_⟩; have HO106 := Aside0.mk (Kd.R_lower ho0 (below_size bel)); replace HB := Aside0.mk (below_step bel hb); (try clear hb); (try clear hb2); (try clear hk); (try clear hi); (try clear ho0)) | ((with_reducible refine gate_callee (f := 18) rfl ?_); refine goesL_ (some 12) rfl rfl Try.func18 (by kernel_rfl) rfl #[.string (⟨#[97, 40, 98, 43, 99, 41]⟩ : ByteArray)] rfl mapz ?_; (with_reducible refine (loop_Cuts.calls (⟨#[97, 40, 98, 43, 99, 41]⟩ : ByteArray) t107 t108 _ A2.out).mono ?_); rintro e w47 ⟨v109, rfl, ho0, hb⟩; refine ⟨_, rfl, ?_⟩; have HO110 := Aside0.mk (Kd.R_lower (Kd.R_new' ho0 (Kd.R_lt (ownx HO106))) (below_size bel)); replace HO106 := Aside0.mk (Kd.R_elder' (ownx HO106) (Kd.R_base ho0) hb); replace HB := Aside0.mk (below_step bel hb); (try clear hb); (try clear hb2); (try clear hk); (try clear hi); (try clear ho0)) | ((with_reducible refine gate_callee (f := 28) rfl ?_); refine goesL_ (some 16) rfl rfl Try.func28 (by kernel_rfl) rfl #[.string (⟨#[97, 40, 98, 43, 99, 41]⟩ : ByteArray)] rfl mapz ?_; (with_reducible refine (loop_Dual.calls (⟨#[97, 40, 98, 43, 99, 41]⟩ : ByteArray) t111 t112 _ A3.out).mono ?_); rintro e w48 ⟨rfl, hb⟩; refine ⟨_, rfl, ?_⟩; replace HO106 := Aside0.mk (Kd.R_below (ownx HO106) hb); replace HO110 := Aside0.mk (Kd.R_below (ownx HO110) hb); replace HB := Aside0.mk (below_step bel hb); clear hb))
  go_ret
  exact ⟨ezz, bel⟩

end Go.Proofs.Yteikgnaikeleaaa.XLoop
/- append to a full slice that is only read; a slice's cuts. -/
namespace Go.Proofs.Yteikgnaikeleaaa
open Go.RowKit Go.Proofs.YteikgnaikeleaaaW.PrintWords Go.Proofs.YteikgnaikeleaaaW.PrintLast Go.Proofs.YteikgnaikeleaaaW.PrintMore
set_option linter.unusedVariables false

theorem cells_of {W : World} {ad : Addr} {n : Nat} {xs : List (Fin 256)} (h : fKd.C W (some ad) n xs) : ∀ j u, (encs encF xs)[j]? = some u → W.cell? (ad.add j) = some u := by
 intro j u hu
 have hj : j < (encs encF xs).length := (List.getElem?_eq_some_iff.1 hu).1
 rw [encs_length] at hj
 have hn : 0 < n := by rw [← h.1]; omega
 obtain ⟨ad', he, hcell⟩ := h.2.2 hn
 obtain rfl := Option.some.inj he
 obtain ⟨c, hcl, hp, hcc⟩ := hcell j _ (List.getElem?_eq_getElem hj)
 have hc : c = [encF xs[j]] := hp
 have h0 := hcc 0 (encF xs[j]) (by rw [hc]; rfl)
 have hue : u = encF xs[j] := by
  have : (encs encF xs)[j]? = some (encF xs[j]) := by simp [encs, List.getElem?_eq_getElem hj]
  rw [this] at hu
  exact (Option.some.inj hu).symm
 rw [hue]
 simpa [fKd, Kd.scalar] using h0
theorem encs_one (xs : List (Fin 256)) : ∀ u ∈ encs encF xs, u.oneCell' = true := by
 intro u hu
 simp only [encs, List.mem_map] at hu
 obtain ⟨x, _, rfl⟩ := hu
 rfl
section
variable {ops : Array Oper} {o : Oper} {a : Act} {Q : Exit → Act → World → Prop} {Kc : Act → World → Prop} {W : World}
theorem ap_full (hw : Region.wanted o (yielded ops a.tmps) = true) (s x : Operand) (ho : o.op = .call { callee := .builtin .append, args := #[s, x], argTypes := #[46, 46] })
  (A : Option Addr) (p : Nat) (xs : List (Fin 256)) (hs : a.eval s = .slice A p p) (hA : A = none → p = 0) (HR : fKd.C W A p xs)
  (ad : Addr) (m c : Nat) (ys : List (Fin 256)) (hx : a.eval x = .slice (some ad) m c) (HY : fKd.C W (some ad) m ys) (hm : 0 < m) (hl : p + m ≤ 100000)
  (h : ∀ v1 w1, fKd.R 3 w1 W.heap.size (fun _ => True) v1 (xs ++ ys) → W.grownBy w1 none → Kc (a.put o.dst v1) w1) :
  if Region.wanted o (yielded ops a.tmps) = true then Oper.wp Try.prog o a W Kc Q else Kc (a.put o.dst undef) W := by
 obtain ⟨i, hi, hzz⟩ := Option.map_eq_some_iff.1 info3
 simp only [Prod.mk.injEq] at hzz
 obtain ⟨hz0, hz1, hz2⟩ := hzz
 have l1 : (encs encF xs).length = p * 1 := by rw [encs_length, HR.1, Nat.mul_one]
 have l2 : (encs encF ys).length = m * 1 := by rw [encs_length, HY.1, Nat.mul_one]
 have le : encs encF (xs ++ ys) = encs encF xs ++ encs encF ys := by simp [encs]
 have hrun : ∃ v1 w1, (Builtin.append_ #[46, 46] o.type #[.slice A p p, .slice (some ad) m c]).run Try.prog W = .ok v1 w1 ∧ fKd.R 3 w1 W.heap.size (fun _ => True) v1 (xs ++ ys) ∧ W.grownBy w1 none := by
  cases A with
  | some b =>
   obtain ⟨v', w', hr, r1, r2⟩ := run_append_arg_grows (P := Try.prog) W 46 o.type 3 i (.int .i64 0) 1 8 Try.underlying46 hi hz0 hz1 hz2 rfl Nat.one_pos b p p _ l1 (cells_of HR) ad m c _ l2 (cells_of HY) (by omega) (by simp only [maxLen]; omega) (by omega)
   refine ⟨v', w', hr, Kd.R_of_own ?_ (fun _ _ => trivial), r2⟩
   rw [le, List.length_append, HR.1, HY.1]
   exact r1
  | none =>
   obtain rfl := hA rfl
   obtain rfl : xs = [] := List.eq_nil_of_length_eq_zero HR.1
   obtain ⟨v', w', hr, r1, r2, _⟩ := run_append_own (P := Try.prog) W W.heap.size 46 o.type 3 i (.int .i64 0) 1 8 Try.underlying46 hi hz0 hz1 hz2 rfl Nat.one_pos (.slice none 0 0) 0 [] (World.ownsRow_nil W _ 3 1) ad m c _ l2 (cells_of HY) (encs_one ys) (by simp only [maxLen]; omega) (by omega) (Nat.le_refl _)
   refine ⟨v', w', hr, Kd.R_of_own ?_ (fun _ _ => trivial), r2⟩
   rw [le, List.length_append, HY.1]
   exact r1
 obtain ⟨v1, w1, hr, ho1, hg1⟩ := hrun
 rw [if_pos hw]
 unfold Oper.wp
 simp [execOp, ho, resolve, invoke, builtin, hs, hx, hr, Result.andThen]
 exact h v1 w1 ho1 hg1
end
theorem elem46 : Try.prog.underlying 46 = some (.slice (Try.prog.elem 46)) := by kernel_rfl
theorem size46 (w : World) : (sizeOf (Try.prog.elem 46)).run Try.prog w = .ok 1 w := by kernel_rfl
theorem exec_cut3 {w : World} {o : Oper} {a : Act} {x hi mx : Operand} {A : Option Addr} {n c p : Nat} (ho : o.op = .slice 46 x none (some hi) (some mx)) (hx : a.eval x = .slice A n c) (hh : a.eval hi = .int .i64 (p : Nat)) (hm : a.eval mx = .int .i64 (p : Nat)) (hp : p ≤ c) :
  (execOp a.eval o).run Try.prog w = .ok (.value (.slice A p p)) w := by
 have hp' : (p : Int) ≤ (c : Int) := by omega
 have h0 : (0 : Int) ≤ (p : Int) := by omega
 unfold execOp
 simp [ho, hx, hh, hm]
 rw [run_sliceAt_slice (h := elem46), run_slice_any (ht := elem46)]
 have hA : A.map (fun x => x.add 0) = A := by
  cases A with
  | none => rfl
  | some b => rfl
 simp [Instr.sliceBounds, run_sliceBound, sliced, size46, hp', h0, Result.andThen, hA]
theorem exec_from {w : World} {o : Oper} {a : Act} {x lo : Operand} {A : Option Addr} {n c p : Nat} (ho : o.op = .slice 46 x (some lo) none none) (hx : a.eval x = .slice A n c) (hh : a.eval lo = .int .i64 (p : Nat)) (hp : p ≤ n) (hc : n ≤ c) :
  (execOp a.eval o).run Try.prog w = .ok (.value (.slice (if c = p then A else A.map (·.add (p * 1))) (n - p) (c - p))) w := by
 have hp' : (p : Int) ≤ (n : Int) := by omega
 have h0 : (0 : Int) ≤ (p : Int) := by omega
 unfold execOp
 simp [ho, hx, hh]
 rw [run_sliceAt_slice (h := elem46), run_slice_any (ht := elem46)]
 simp [Instr.sliceBounds, run_sliceBound, sliced, size46, hp', h0, Result.andThen]
end Go.Proofs.Yteikgnaikeleaaa

/- The reference's reader: the byte that comes next. -/
namespace Go.Proofs.Yteikgnaikeleaaa
open Go.RowKit Go.Proofs.YteikgnaikeleaaaW.PrintWords Go.Proofs.YteikgnaikeleaaaW.PrintLast Go.Proofs.YteikgnaikeleaaaW.PrintMore
set_option linter.unusedVariables false

def rdr2 (s : List UInt8) (at_ : Nat) (bad : Bool) : Obj := .cells #[.string (tx s), .int .i64 (at_ : Nat), .bool bad] 84 (0, 0)
theorem rdr2_cells {w : World} {b : Nat} {s : List UInt8} {at_ : Nat} {bad : Bool} (h : w.heap[b]? = some (rdr2 s at_ bad)) : (w.cell? ⟨b, 0, none⟩ = some (.string (tx s)) ∧ w.cell? ⟨b, 1, none⟩ = some (.int .i64 (at_ : Nat)) ∧ w.cell? ⟨b, 2, none⟩ = some (.bool bad)) ∧ w.frozen? ⟨b, 1, none⟩ = false ∧ w.frozen? ⟨b, 2, none⟩ = false :=
 ⟨⟨(blk_cell h 0).trans rfl, (blk_cell h 1).trans rfl, (blk_cell h 2).trans rfl⟩, blk_frozen h 1, blk_frozen h 2⟩
set_option maxHeartbeats 4000000 in
set_option maxRecDepth 1000000 in
theorem rnext_calls (s : List UInt8) (at_ : Nat) (bad : Bool) (b : Nat) (w : World) (h : w.heap[b]? = some (rdr2 s at_ bad)) :
  Calls Try.prog 110 #[.pointer (some ⟨b, 0, none⟩)] w fun e w' => e = .returned (.int .u8 (nextB (s.drop at_))) ∧ ∃ m, w' = w.drewN m := by
 obtain ⟨⟨c0, c1, c2⟩, f1, f2⟩ := rdr2_cells h
 have hsz := tx_size s
 by_cases hl : at_ < s.length
 ·
  have h1 : decide ((at_ : Int) < ((tx s).size : Int)) = true := decide_eq_true (by rw [hsz]; omega)
  have h2 : (0 : Int) ≤ (at_ : Int) ∧ (at_ : Int) < ((tx s).size : Int) := by rw [hsz]; omega
  have hl2 : at_ < (tx s).size := by rw [hsz]; exact hl
  have hn : nextB (s.drop at_) = (((tx s)[at_]'hl2).toNat : Int) := by
   rw [List.drop_eq_getElem_cons hl, tx_get s at_ hl2]
   rfl
  rw [hn]
  go_enter Try.func110, Try.ntmps110
  go_wp2
  go_quiet (fail)
  go_wp2
  go_quiet (fail)
  go_wp2
  go_ret
  exact ⟨rfl, _, World.drewN_drewN _ _ _⟩
 ·
  have h1 : decide ((at_ : Int) < ((tx s).size : Int)) = false := decide_eq_false (by rw [hsz]; omega)
  have hn : nextB (s.drop at_) = 0 := by
   rw [List.drop_eq_nil_of_le (by omega)]
   rfl
  rw [hn]
  go_enter Try.func110, Try.ntmps110
  go_wp2
  go_quiet (fail)
  go_wp2
  go_ret
  exact ⟨rfl, _, rfl⟩
theorem tbl_one (f : Nat → Bool) : (tbl f).all (·.oneCell') = true := by
 rw [Array.all_eq_true]
 intro i hi
 simp only [tbl, List.getElem_toArray, List.getElem_map]
 rfl
theorem tbl_info (f : Nat → Bool) : (Try.prog.info? 50).map (·.size) = some (tbl f).size := by rw [tbl_size]; kernel_rfl
set_option maxRecDepth 1000000 in
theorem zero50 : Try.zeroCells50 = tbl (fun _ => false) := by rfl
theorem Kb.drewN {b : Nat} {w w1 : World} (h : Kb b w w1) (m : Nat) : Kb b w (w1.drewN m) := ⟨h.os, h.tape, h.output, h.size, h.block⟩
theorem Kb.setFar {b g : Nat} {w w1 : World} (h : Kb b w w1) (hg : w.heap.size ≤ g) (j : Nat) (u : Value) : Kb b w (w1.setCell ⟨g, j, none⟩ u) :=
 ⟨h.os, h.tape, h.output, by simpa using h.size, fun k hk hb => (Below.heap_setCell w1 ⟨g, j, none⟩ u k (by show k ≠ g; omega)).trans (h.block k hk hb)⟩
theorem Kb.setRow {b g : Nat} {w w1 : World} (h : Kb b w w1) (hg : w.heap.size ≤ g) (cs : Array Value) : Kb b w (w1.setRow g cs) :=
 ⟨h.os, h.tape, h.output, by simpa using h.size, fun k hk hb => (setRow_other w1 g k cs (by omega)).trans (h.block k hk hb)⟩
end Go.Proofs.Yteikgnaikeleaaa

namespace Go.Proofs.Yteikgnaikeleaaa
open Go.RowKit Go.Proofs.YteikgnaikeleaaaW.PrintWords Go.Proofs.YteikgnaikeleaaaW.PrintLast Go.Proofs.YteikgnaikeleaaaW.PrintMore
set_option linter.unusedVariables false

def RPost (n : Nat) (w : World) (b : Nat) (s : List UInt8) (at0 : Nat) (X : Option ((Nat → Bool) × List UInt8)) (e : Ending) (w' : World) : Prop :=
 ∃ v at' bad', e = .returned (.agg (tbl v)) ∧ w'.heap[b]? = some (rdr2 s at' bad') ∧ Kb b w w' ∧ (at0 ≤ at' ∧ at' ≤ s.length + n) ∧
  (match X with | some (f, t) => bad' = false ∧ at' ≤ s.length ∧ s.drop at' = t ∧ v = f | none => bad' = true)
theorem RPost.mk {n : Nat} {w : World} {b : Nat} {s : List UInt8} {at0 : Nat} {X : Option ((Nat → Bool) × List UInt8)} {e : Ending} {w' : World} (v : Nat → Bool) (at' : Nat) (bad' : Bool) (h1 : e = .returned (.agg (tbl v))) (h2 : w'.heap[b]? = some (rdr2 s at' bad')) (h3 : Kb b w w') (h4 : at0 ≤ at' ∧ at' ≤ s.length + n)
  (h5 : match X with | some (f, t) => bad' = false ∧ at' ≤ s.length ∧ s.drop at' = t ∧ v = f | none => bad' = true) : RPost n w b s at0 X e w' := ⟨v, at', bad', h1, h2, h3, h4, h5⟩
def PartR (n : Nat) : Prop := ∀ (s : List UInt8) (at_ : Nat) (w : World) (b : Nat), w.heap[b]? = some (rdr2 s at_ false) → s.length ≤ 100000 → ∀ hl : at_ < s.length, opens s[at_] = true → (s.drop at_).length < n →
 Calls Try.prog 123 #[.pointer (some ⟨b, 0, none⟩)] w (RPost n w b s at_ (rPart n (s.drop at_)))
def BranchR (n : Nat) : Prop := ∀ (s : List UInt8) (at_ : Nat) (bad : Bool) (w : World) (b : Nat), w.heap[b]? = some (rdr2 s at_ bad) → s.length ≤ 100000 → at_ ≤ s.length + n → (bad = false → (s.drop at_).length < n) →
 Calls Try.prog 109 #[.pointer (some ⟨b, 0, none⟩)] w (RPost n w b s at_ (if bad then none else rBranch (rPart n) (s.drop at_)))
def CircR (n : Nat) : Prop := ∀ (s : List UInt8) (at_ : Nat) (w : World) (b : Nat), w.heap[b]? = some (rdr2 s at_ false) → s.length ≤ 100000 → at_ ≤ s.length + n → (s.drop at_).length < n →
 Calls Try.prog 88 #[.pointer (some ⟨b, 0, none⟩)] w (RPost n w b s at_ (rCirc (rPart n) ((s.drop at_).length + 1) (fun _ => false) (s.drop at_)))
theorem rPart_less (n : Nat) (b : UInt8) (t : List UInt8) (ho : opens b = true) (hN : (b :: t).length ≤ n) {v : Nat → Bool} {t' : List UInt8} (h : rPart n (b :: t) = some (v, t')) : t'.length < (b :: t).length := by
 have := (part_agree n).same b t hN ho
 rw [this] at h
 obtain ⟨x, hx, hv⟩ := Option.map_eq_some_iff.1 h
 obtain ⟨m, l⟩ := x
 cases hv
 exact pPart_less _ _ _ _ hx
set_option maxHeartbeats 8000000 in
set_option maxRecDepth 1000000 in
theorem branch_of_part (n : Nat) (hn0 : n ≤ 100000) (HP : PartR n) : BranchR n := by
 intro s at_ bad w b0 hb hs hat hbad
 have hbl := blk_lt hb
 obtain ⟨r, hr⟩ : ∃ r, r = w.heap.size := ⟨_, rfl⟩
 obtain ⟨o, ho⟩ : ∃ o, o = w.heap.size + 1 := ⟨_, rfl⟩
 have s1 : (w.alloc (.cells (tbl fun _ => false) 50)).heap.size = w.heap.size + 1 := Array.size_push ..
 obtain ⟨w1, hw1⟩ : ∃ w1, w1 = (w.alloc (.cells (tbl fun _ => false) 50)).alloc (.cells (tbl fun _ => false) 50) := ⟨_, rfl⟩
 have G1 : Aside0 (w1.heap[r]? = some (.cells (tbl fun _ => false) 50 (0, 0))) := ⟨by rw [hw1, hr]; exact blk_alloc (blk_new w _) _⟩
 have G2 : Aside0 (w1.heap[o]? = some (.cells (tbl fun _ => false) 50 (0, 0))) := ⟨by rw [hw1, ho, ← s1]; exact blk_new _ _⟩
 have R1 : Aside0 (w1.heap[b0]? = some (rdr2 s at_ bad)) := ⟨by rw [hw1]; exact blk_alloc (blk_alloc hb _) _⟩
 have K1 : Aside0 (Kb b0 w w1) := ⟨by rw [hw1]; exact ((Kb.refl _ _).alloc _).alloc _⟩
 have HSZ : Aside0 (b0 < w.heap.size ∧ r = w.heap.size ∧ o = w.heap.size + 1) := ⟨⟨hbl, hr, ho⟩⟩
 have NOR : Aside0 (o ≠ r) := ⟨by omega⟩
 have NOB : Aside0 (o ≠ b0) := ⟨by omega⟩
 have NBO : Aside0 (b0 ≠ o) := ⟨by omega⟩
 have NRO : Aside0 (r ≠ o) := ⟨by omega⟩
 have HS := Aside0.mk hs
 have HAT := Aside0.mk hat
 have HBAD := Aside0.mk hbad
 have HN0 := Aside0.mk hn0
 have HW1 := Aside0.mk hw1
 have hz := zero50
 obtain ⟨X, hX⟩ : ∃ X, X = (if bad then none else rBranch (rPart n) (s.drop at_)) := ⟨_, rfl⟩
 rw [← hX]
 have HX0 := Aside0.mk hX
 clear hX hb hs hat hbad hn0 hbl hw1
 go_enter Try.func109, Try.ntmps109
 go_wp2
 rw [← ho, ← hr, ← HW1.out]
 clear ho hr s1
 go_loopg [4] 257 (fun kq v4 W => ∃ x : Nat, v4 = .int .i64 x ∧ Aside0 (x + kq = 257) ∧ Aside0 (x ≤ 256) ∧ Aside0 (W.heap[r]? = some (.cells (tbl fun _ => false) 50 (0, 0))) ∧ Aside0 (W.heap[o]? = some (.cells (tbl (fun i => decide (i < x))) 50 (0, 0))) ∧ Aside0 (W.heap[b0]? = some (rdr2 s at_ bad)) ∧ Aside0 (Kb b0 w W))
 case atStart => exact ⟨0, rfl, ⟨rfl⟩, ⟨by decide⟩, G1, ⟨by rw [tbl_ext (g := fun _ => false) (fun i _ => by simp)]; exact G2.out⟩, R1, K1⟩
 case round =>
  clear G1 G2 R1 K1
  obtain ⟨x, rfl, HK, HX, G1, G2, R1, K1⟩ := hrel
  by_cases hx : x < 256
  ·
   have h1 : decide ((x : Int) < 256) = true := decide_eq_true (by omega)
   have hnx := next_nat x hx
   have HX1 := Aside0.mk hx
   have h0 : (0 : Int) ≤ (x : Int) ∧ (x : Int) < 256 := by omega
   have c8 := blkc G2.out x _ (tbl_get _ x hx)
   have f8 := blk_frozen G2.out x
   clear hx
   go_wp2
   go_roundg (256 - x)
   case measure => have := HK.out; have := HX1.out; omega
   case rel =>
    refine ⟨x + 1, by first | rfl | rw [hnx], ⟨by have := HX1.out; omega⟩, ⟨HX1.out⟩, ⟨blk_far G1.out (p := ⟨o, x, none⟩) NRO.out _⟩, ⟨?_⟩, ⟨blk_far R1.out (p := ⟨o, x, none⟩) NBO.out _⟩, ⟨K1.out.setFar (by have := HSZ.out; omega) _ _⟩⟩
    refine blk_put G2.out x _ ?_
    rw [tbl_set]
    apply tbl_ext
    intro i hi
    by_cases e : i = x
    ·
     subst e; simp
    ·
     rw [if_neg e]
     have : (i < x) = (i < x + 1) := propext ⟨fun h => by omega, fun h => by omega⟩
     simp only [this]
  ·
   have h1 : decide ((x : Int) < 256) = false := decide_eq_false (by omega)
   have hx6 : x = 256 := by have := HX.out; omega
   have G3 : Aside0 (wr.heap[o]? = some (.cells (tbl fun _ => true) 50 (0, 0))) := ⟨by rw [tbl_ext (g := fun i => decide (i < x)) (fun i hi => by rw [hx6]; simp [hi])]; exact G2.out⟩
   clear hx hx6 HX HK G2
   obtain ⟨Y, hY⟩ : ∃ Y, Y = rParts (rPart n) ((s.drop at_).length + 1) (fun _ => true) (s.drop at_) := ⟨_, rfl⟩
   have HY := Aside0.mk hY.symm
   clear hY
   go_wp2
   go_loopg [5] ((s.drop at_).length + 1) (fun kq v5 W => ∃ (p at2 : Nat) (bad2 : Bool) (v : Nat → Bool), v5 = .int .i64 (p : Nat) ∧ Aside0 (p ≤ s.length + 1) ∧ Aside0 (at_ ≤ at2 ∧ at2 ≤ s.length + n) ∧ Aside0 (W.heap[r]? = some (.cells (tbl fun _ => false) 50 (0, 0))) ∧ Aside0 (W.heap[o]? = some (.cells (tbl v) 50 (0, 0))) ∧ Aside0 (W.heap[b0]? = some (rdr2 s at2 bad2)) ∧ Aside0 (Kb b0 w W) ∧
    Aside0 (match bad2 with | true => X = none | false => bad = false ∧ (s.drop at2).length < kq ∧ (s.drop at2).length < n ∧ p + (s.drop at2).length ≤ s.length ∧ (at2 ≤ s.length ∨ p = 0) ∧ rParts (rPart n) kq v (s.drop at2) = Y ∧ (p = 0 → at2 = at_) ∧ (0 < p → ∃ c t, s.drop at_ = c :: t ∧ opens c = true)))
   case atStart => 
    refine ⟨0, at_, bad, fun _ => true, rfl, ⟨by omega⟩, ⟨⟨Nat.le_refl _, HAT.out⟩⟩, G1, G3, R1, K1, ⟨?_⟩⟩
    have hx0 := HX0.out
    cases bad with
    | true => exact hx0
    | false => exact ⟨rfl, by omega, HBAD.out rfl, by simp, .inr rfl, HY.out, fun _ => rfl, fun h => absurd h (Nat.lt_irrefl _)⟩
   case round =>
    clear G1 G3 R1 K1
    obtain ⟨p, at2, bad2, v, rfl, HPL, HA2, G1, G2, R2, K2, HM⟩ := hrel
    have NRB : Aside0 (r ≠ b0) := ⟨by have := HSZ.out; omega⟩
    obtain ⟨⟨c0, c1, c2⟩, f1, f2⟩ := rdr2_cells R2.out
    cases bad2 with
    | true =>
     have hxn : X = none := HM.out
     subst hxn
     go_wp2_with (first | (refine wpList_load_row rfl 50 (.tmp 3) rfl o rfl 50 (tbl v) (0, 0) _ (by repeat (first | exact G2.out | with_reducible refine tbl_drewN ?_ _ | refine blk_far (p := ⟨b0, 2, none⟩) ?_ NOB.out _)) Try.underlying50 rfl (tbl_info v) ?_) | (refine wpList_store_row rfl 50 (.tmp 2) (.tmp 63) rfl r (tbl v) rfl rfl 50 (tbl fun _ => false) (by repeat (first | exact G1.out | with_reducible refine tbl_drewN ?_ _ | refine blk_far (p := ⟨b0, 2, none⟩) ?_ NRB.out _)) (tbl_info v) (by rw [tbl_size, tbl_size]) (tbl_one v) ?_))
     refine bodyPost_ret (results_cell_row rfl _ _ r 50 (tbl v) (0, 0) _ rfl (setRow_heap _ _ (tbl fun _ => false) _ _ _ (by repeat (first | exact G1.out | with_reducible refine tbl_drewN ?_ _ | refine blk_far (p := ⟨b0, 2, none⟩) ?_ NRB.out _))) Try.underlying50 rfl (tbl_info v)) rfl ?_
     refine RPost.mk v at2 true rfl ?_ ?_ HA2.out rfl
     ·
      rw [setRow_other _ _ _ _ NRB.out.symm]
      exact blk_put R2.out 2 _ rfl
     ·
      exact (K2.out.set 2 _).setRow (by have := HSZ.out; omega) _
    | false =>
     obtain ⟨hbf, hk0, hln, hpl, hdj, hrp, hp0, hpp⟩ := HM.out
     subst hbf
     clear HM
     cases gk with
     | zero => exact absurd hk0 (Nat.not_lt_zero _)
     | succ k1 =>
     have hopn : (∃ c t, s.drop at2 = c :: t ∧ opens c = true) ∨ ((s.drop at2 = [] ∨ ∃ c t, s.drop at2 = c :: t ∧ opens c = false) ∧ Y = some (v, s.drop at2)) := by
      cases hl : s.drop at2 with
      | nil => exact .inr ⟨.inl rfl, by rw [← hrp, hl, rParts]⟩
      | cons c t =>
       cases ho : opens c with
       | true => exact .inl ⟨c, t, rfl, ho⟩
       | false => exact .inr ⟨.inr ⟨c, t, rfl, ho⟩, by rw [← hrp, hl, rParts, ho]; rfl⟩
     rcases hopn with ⟨c, t, hl, ho⟩ | ⟨hst, hyv⟩
     ·
      have hlt : at2 < s.length := by
       rcases Nat.lt_or_ge at2 s.length with h | h
       ·
        exact h
       ·
        rw [List.drop_eq_nil_of_le h] at hl; cases hl
      have hel : s[at2] = c := by
       rw [List.drop_eq_getElem_cons hlt] at hl
       exact (List.cons.inj hl).1
      have HCP : Aside0 (∀ W, W.heap[b0]? = some (rdr2 s at2 false) → Calls Try.prog 123 #[.pointer (some ⟨b0, 0, none⟩)] W (RPost n W b0 s at2 (rPart n (s.drop at2)))) := ⟨fun W hW => HP s at2 W b0 hW HS.out hlt (by rw [hel]; exact ho) hln⟩
      have hcond : (nextB (s.drop at2) == 40) = true ∨ ((nextB (s.drop at2) == 40) = false ∧ decide (97 ≤ nextB (s.drop at2)) = true ∧ decide (nextB (s.drop at2) ≤ 104) = true) := by
       rw [hl]
       by_cases h4 : c = 40
       ·
        rw [h4]; exact .inl rfl
       ·
        have h40 : (nextB (c :: t) == 40) = false := by
         have := bne_of (l := t) h4
         simpa using this
        have hL : isL c = true := by
         unfold opens at ho
         simpa [h4] using ho
        have h7 := (isL_iff c).1 hL
        exact .inr ⟨h40, decide_eq_true h7.1, decide_eq_true h7.2⟩
      have HREL : Aside0 (∀ (p1 : Nat → Bool) (at3 : Nat) (bad3 : Bool), (match rPart n (s.drop at2) with | some (f, t) => bad3 = false ∧ at3 ≤ s.length ∧ s.drop at3 = t ∧ p1 = f | none => bad3 = true) →
        (match bad3 with | true => X = none | false => false = false ∧ (s.drop at3).length < k1 ∧ (s.drop at3).length < n ∧ p + 1 + (s.drop at3).length ≤ s.length ∧ (at3 ≤ s.length ∨ p + 1 = 0) ∧ rParts (rPart n) k1 (fun i => v i && p1 i) (s.drop at3) = Y ∧ (p + 1 = 0 → at3 = at_) ∧ (0 < p + 1 → ∃ c t, s.drop at_ = c :: t ∧ opens c = true))) := ⟨by
       intro p1 at3 bad3 hres
       have hop : ∃ c t, s.drop at_ = c :: t ∧ opens c = true := by
        by_cases hp : p = 0
        ·
         rw [← hp0 hp]; exact ⟨c, t, hl, ho⟩
        ·
         exact hpp (by omega)
       have hxY : X = Y := by
        have hx := HX0.out
        simp only [Bool.false_eq_true, if_false] at hx
        obtain ⟨c', t', h', ho'⟩ := hop
        rw [hx, ← HY.out, h', rBranch, ho']
        rfl
       have hst : rParts (rPart n) (k1 + 1) v (s.drop at2) = match rPart n (c :: t) with | none => none | some (p, l') => rParts (rPart n) k1 (fun i => v i && p i) l' := by
        rw [hl, rParts, ho]
        rfl
       rw [hst] at hrp
       rw [hl] at hres
       cases hq : rPart n (c :: t) with
       | none =>
        rw [hq] at hres hrp
        simp only at hres hrp
        subst hres
        rw [hxY, ← hrp]
       | some y =>
        obtain ⟨f, t'⟩ := y
        rw [hq] at hres hrp
        simp only at hres hrp
        obtain ⟨rfl, h1, h2, rfl⟩ := hres
        have hless := rPart_less n c t ho (by rw [← hl]; omega) hq
        rw [hl] at hk0 hln hpl
        simp only [List.length_cons] at hk0 hln hpl hless
        refine ⟨rfl, by rw [h2]; omega, by rw [h2]; omega, by rw [h2]; omega, .inl h1, by rw [h2]; exact hrp, fun h => absurd h (by omega), fun _ => hop⟩⟩
      have HPP : Aside0 (p + 1 ≤ s.length + 1) := ⟨by rw [hl] at hpl; simp only [List.length_cons] at hpl; omega⟩
      clear hl ho hel hrp hp0 hpp hk0 hln hpl hdj
      rcases hcond with e1 | ⟨e1, e2, e3⟩
      all_goals
       go_wp2_with (first | (go_at_call 110; refine (rnext_calls s at2 false b0 _ (by repeat (first | exact R2.out | with_reducible refine tbl_drewN ?_ _))).mono ?_; rintro e' W' ⟨rfl, m, rfl⟩) | (go_at_call 123; refine (HCP.out _ (by repeat (first | exact R2.out | with_reducible refine tbl_drewN ?_ _))).mono ?_; rintro e W2 ⟨p1, at3, bad3, rfl, hr3, hk3, ha3, hres⟩; have HR3 := Aside0.mk hr3; have HK3 := Aside0.mk hk3; have HA3 := Aside0.mk ha3; have HRS := Aside0.mk hres; clear hr3 hk3 ha3 hres) | (refine wpList_store_row rfl 50 (.tmp 6) (.tmp 35) rfl W2.heap.size (tbl p1) rfl rfl 50 (tbl fun _ => false) (blk_new _ _) (tbl_info p1) (by rw [tbl_size, tbl_size]) (tbl_one p1) ?_))
       obtain ⟨q, hq⟩ : ∃ q, q = W2.heap.size := ⟨_, rfl⟩
       obtain ⟨W3, hW3⟩ : ∃ W3, W3 = (W2.alloc (.cells (tbl fun _ => false) 50)).setRow W2.heap.size (tbl p1) := ⟨_, rfl⟩
       rw [← hW3]
       have NQ : Aside0 (r < q ∧ o < q ∧ b0 < q ∧ w.heap.size ≤ q) := ⟨by
        have h1 := K2.out.size
        have h2 : wr.heap.size ≤ W2.heap.size := HK3.out.size
        have h3 := blk_lt G2.out
        have h4 := HSZ.out
        omega⟩
       have GQ : Aside0 (W3.heap[q]? = some (.cells (tbl p1) 50 (0, 0))) := ⟨by rw [hW3, hq]; exact setRow_heap _ _ (tbl fun _ => false) _ _ _ (blk_new _ _)⟩
       have old : ∀ (g : Nat) (ob : Obj), g < q → W2.heap[g]? = some ob → W3.heap[g]? = some ob := fun g ob hg h => by
        rw [hW3, setRow_other _ _ _ _ (by omega)]
        exact blk_alloc h _
       have G13 : Aside0 (W3.heap[r]? = some (.cells (tbl fun _ => false) 50 (0, 0))) := ⟨old r _ NQ.out.1 (by rw [HK3.out.block r (blk_lt G1.out) (by have := HSZ.out; omega)]; exact G1.out)⟩
       have G23 : Aside0 (W3.heap[o]? = some (.cells (tbl v) 50 (0, 0))) := ⟨old o _ NQ.out.2.1 (by rw [HK3.out.block o (blk_lt G2.out) (by have := HSZ.out; omega)]; exact G2.out)⟩
       have R3 : Aside0 (W3.heap[b0]? = some (rdr2 s at3 bad3)) := ⟨old b0 _ NQ.out.2.2.1 HR3.out⟩
       have K3 : Aside0 (Kb b0 w W3) := ⟨by
        rw [hW3]
        exact (((by repeat (first | exact K2.out | refine Kb.drewN ?_ _) : Kb b0 w _).trans HK3.out).alloc _).setRow (by have := NQ.out; omega) _⟩
       rw [← hq]
       clear hW3 hq old G1 G2 R2 K2 HR3 HK3 HCP c0 c1 c2 f1 f2
       have NOQ : Aside0 (o ≠ q ∧ q ≠ o) := ⟨by have := NQ.out; omega⟩
       go_loopg [7] 257 (fun kq v7 W => ∃ x : Nat, v7 = .int .i64 x ∧ Aside0 (x + kq = 257) ∧ Aside0 (x ≤ 256) ∧ Aside0 (W.heap[r]? = some (.cells (tbl fun _ => false) 50 (0, 0))) ∧ Aside0 (W.heap[o]? = some (.cells (tbl (fun i => if i < x then v i && p1 i else v i)) 50 (0, 0))) ∧ Aside0 (W.heap[q]? = some (.cells (tbl p1) 50 (0, 0))) ∧ Aside0 (W.heap[b0]? = some (rdr2 s at3 bad3)) ∧ Aside0 (Kb b0 w W))
       case atStart => exact ⟨0, rfl, ⟨rfl⟩, ⟨by decide⟩, G13, ⟨by rw [tbl_ext (g := v) (fun i _ => by simp)]; exact G23.out⟩, GQ, R3, K3⟩
       case round =>
        clear G13 G23 GQ R3 K3
        obtain ⟨x, rfl, HK, HX, G1, G2, GQ, R2, K2⟩ := hrel
        by_cases hx : x < 256
        ·
         have h1 : decide ((x : Int) < 256) = true := decide_eq_true (by omega)
         have hnx := next_nat x hx
         have HX1 := Aside0.mk hx
         have h0 : (0 : Int) ≤ (x : Int) ∧ (x : Int) < 256 := by omega
         have c8 := blkc G2.out x _ (tbl_get _ x hx)
         rw [if_neg (Nat.lt_irrefl x)] at c8
         have f8 := blk_frozen G2.out x
         have c9 := tbl_cell GQ.out x hx
         have HNEW : Aside0 (∀ u, u = (v x && p1 x) → tbl (fun n => if n = x then u else (if n < x then v n && p1 n else v n)) = tbl (fun i => if i < x + 1 then v i && p1 i else v i)) := ⟨by
          intro u hu
          apply tbl_ext
          intro i hi
          by_cases e : i = x
          ·
           subst e
           rw [if_pos rfl, if_pos (Nat.lt_succ_self _), hu]
          ·
           rw [if_neg e]
           have : (i < x) = (i < x + 1) := propext ⟨fun h => by omega, fun h => by omega⟩
           simp only [this]⟩
         clear hx
         cases hv : v x with
         | true =>
          rw [hv] at c8 HNEW
          go_wp2
          go_roundg (256 - x)
          case measure => have := HK.out; have := HX1.out; omega
          case rel =>
           refine ⟨x + 1, by first | rfl | rw [hnx], ⟨by have := HX1.out; omega⟩, ⟨HX1.out⟩, ⟨blk_far (p := ⟨o, x, none⟩) G1.out NRO.out _⟩, ⟨?_⟩, ⟨blk_far (p := ⟨o, x, none⟩) GQ.out NOQ.out.2 _⟩, ⟨blk_far (p := ⟨o, x, none⟩) R2.out NBO.out _⟩, ⟨K2.out.setFar (by have := HSZ.out; omega) _ _⟩⟩
           refine blk_put G2.out x _ ?_
           rw [tbl_set]
           exact HNEW.out _ (by simp)
         | false =>
          rw [hv] at c8 HNEW
          go_wp2
          go_roundg (256 - x)
          case measure => have := HK.out; have := HX1.out; omega
          case rel =>
           refine ⟨x + 1, by first | rfl | rw [hnx], ⟨by have := HX1.out; omega⟩, ⟨HX1.out⟩, ⟨blk_far (p := ⟨o, x, none⟩) G1.out NRO.out _⟩, ⟨?_⟩, ⟨blk_far (p := ⟨o, x, none⟩) GQ.out NOQ.out.2 _⟩, ⟨blk_far (p := ⟨o, x, none⟩) R2.out NBO.out _⟩, ⟨K2.out.setFar (by have := HSZ.out; omega) _ _⟩⟩
           refine blk_put G2.out x _ ?_
           rw [tbl_set]
           exact HNEW.out _ (by simp)
        ·
         have h1 : decide ((x : Int) < 256) = false := decide_eq_false (by omega)
         have hx6 : x = 256 := by have := HX.out; omega
         have G3 : Aside0 (wr.heap[o]? = some (.cells (tbl (fun i => v i && p1 i)) 50 (0, 0))) := ⟨by rw [tbl_ext (g := fun i => if i < x then v i && p1 i else v i) (fun i hi => by rw [hx6, if_pos hi])]; exact G2.out⟩
         have hp1 : wrap64 ((p : Int) + 1) = ((p + 1 : Nat) : Int) := by have := HPP.out; have := HS.out; unfold wrap64; omega
         clear hx hx6
         go_wp2
         go_roundg k1
         case measure => omega
         case rel => exact ⟨p + 1, at3, bad3, fun i => v i && p1 i, by first | rfl | rw [hp1], HPP, ⟨⟨Nat.le_trans HA2.out.1 HA3.out.1, HA3.out.2⟩⟩, G1, G3, R2, K2, ⟨HREL.out p1 at3 bad3 HRS.out⟩⟩
     ·
      have hcond : (nextB (s.drop at2) == 40) = false ∧ (decide (97 ≤ nextB (s.drop at2)) = false ∨ (decide (97 ≤ nextB (s.drop at2)) = true ∧ decide (nextB (s.drop at2) ≤ 104) = false)) := by
       rcases hst with h | ⟨c, t, h, ho⟩
       ·
        rw [h]; exact ⟨rfl, .inl rfl⟩
       ·
        rw [h]
        unfold opens at ho
        simp only [Bool.or_eq_false_iff, decide_eq_false_iff_not] at ho
        have h40 : (nextB (c :: t) == 40) = false := by
         have := bne_of (l := t) ho.1
         simpa using this
        have hL : ¬ (97 ≤ (c.toNat : Int) ∧ (c.toNat : Int) ≤ 104) := fun h => by rw [(isL_iff c).2 h] at ho; exact absurd ho.2 (by simp)
        refine ⟨h40, ?_⟩
        show decide (97 ≤ (c.toNat : Int)) = false ∨ (decide (97 ≤ (c.toNat : Int)) = true ∧ decide ((c.toNat : Int) ≤ 104) = false)
        by_cases h7 : 97 ≤ (c.toNat : Int)
        ·
         exact .inr ⟨decide_eq_true h7, decide_eq_false (fun h => hL ⟨h7, h⟩)⟩
        ·
         exact .inl (decide_eq_false h7)
      have HFIN : Aside0 (match (if p = 0 then none else some (v, s.drop at2) : Option ((Nat → Bool) × List UInt8)) with | some (f, t) => X = some (f, t) ∧ at2 ≤ s.length | none => X = none) := ⟨by
       have hx := HX0.out
       simp only [Bool.false_eq_true, if_false] at hx
       by_cases hp : p = 0
       ·
        rw [if_pos hp]
        rw [hx, ← hp0 hp]
        rcases hst with h | ⟨c, t, h, ho⟩
        ·
         rw [h]; rfl
        ·
         rw [h, rBranch, ho]; rfl
       ·
        rw [if_neg hp]
        obtain ⟨c, t, h, ho⟩ := hpp (by omega)
        refine ⟨?_, by omega⟩
        rw [hx, ← hyv, ← HY.out, h, rBranch, ho]
        rfl⟩
      clear hst hyv hrp hp0 hpp hk0 hln hpl hdj
      by_cases hp : p = 0
      ·
       rw [if_pos hp] at HFIN
       have hxn : X = none := HFIN.out
       subst hxn
       have hpz : ((p : Int) == 0) = true := by simpa using hp
       clear hp
       obtain ⟨e1, e2 | ⟨e2, e3⟩⟩ := hcond
       all_goals
        go_wp2_with (first | (go_at_call 110; refine (rnext_calls s at2 false b0 _ (by repeat (first | exact R2.out | with_reducible refine tbl_drewN ?_ _))).mono ?_; rintro e' W' ⟨rfl, m, rfl⟩) | (refine wpList_load_row rfl 50 (.tmp 3) rfl o rfl 50 (tbl v) (0, 0) _ (by repeat (first | exact G2.out | with_reducible refine tbl_drewN ?_ _ | refine blk_far (p := ⟨b0, 2, none⟩) ?_ NOB.out _)) Try.underlying50 rfl (tbl_info v) ?_) | (refine wpList_store_row rfl 50 (.tmp 2) (.tmp 63) rfl r (tbl v) rfl rfl 50 (tbl fun _ => false) (by repeat (first | exact G1.out | with_reducible refine tbl_drewN ?_ _ | refine blk_far (p := ⟨b0, 2, none⟩) ?_ NRB.out _)) (tbl_info v) (by rw [tbl_size, tbl_size]) (tbl_one v) ?_))
        refine bodyPost_ret (results_cell_row rfl _ _ r 50 (tbl v) (0, 0) _ rfl (setRow_heap _ _ (tbl fun _ => false) _ _ _ (by repeat (first | exact G1.out | with_reducible refine tbl_drewN ?_ _ | refine blk_far (p := ⟨b0, 2, none⟩) ?_ NRB.out _))) Try.underlying50 rfl (tbl_info v)) rfl ?_
        refine RPost.mk v at2 true rfl ?_ ?_ HA2.out rfl
        ·
         rw [setRow_other _ _ _ _ NRB.out.symm]
         exact blk_put (by repeat (first | exact R2.out | with_reducible refine tbl_drewN ?_ _)) 2 _ rfl
        ·
         exact ((by repeat (first | exact K2.out | refine Kb.drewN ?_ _) : Kb b0 w _).set 2 _).setRow (by have := HSZ.out; omega) _
      ·
       rw [if_neg hp] at HFIN
       obtain ⟨hxs, hle⟩ := HFIN.out
       have hpz : ((p : Int) == 0) = false := by
        apply beq_eq_false_iff_ne.mpr
        omega
       have HLE := Aside0.mk hle
       clear hp hle
       obtain ⟨e1, e2 | ⟨e2, e3⟩⟩ := hcond
       all_goals
        go_wp2_with (first | (go_at_call 110; refine (rnext_calls s at2 false b0 _ (by repeat (first | exact R2.out | with_reducible refine tbl_drewN ?_ _))).mono ?_; rintro e' W' ⟨rfl, m, rfl⟩) | (refine wpList_load_row rfl 50 (.tmp 3) rfl o rfl 50 (tbl v) (0, 0) _ (by repeat (first | exact G2.out | with_reducible refine tbl_drewN ?_ _ | refine blk_far (p := ⟨b0, 2, none⟩) ?_ NOB.out _)) Try.underlying50 rfl (tbl_info v) ?_) | (refine wpList_store_row rfl 50 (.tmp 2) (.tmp 63) rfl r (tbl v) rfl rfl 50 (tbl fun _ => false) (by repeat (first | exact G1.out | with_reducible refine tbl_drewN ?_ _ | refine blk_far (p := ⟨b0, 2, none⟩) ?_ NRB.out _)) (tbl_info v) (by rw [tbl_size, tbl_size]) (tbl_one v) ?_))
        refine bodyPost_ret (results_cell_row rfl _ _ r 50 (tbl v) (0, 0) _ rfl (setRow_heap _ _ (tbl fun _ => false) _ _ _ (by repeat (first | exact G1.out | with_reducible refine tbl_drewN ?_ _ | refine blk_far (p := ⟨b0, 2, none⟩) ?_ NRB.out _))) Try.underlying50 rfl (tbl_info v)) rfl ?_
        rw [hxs]
        refine RPost.mk v at2 false rfl ?_ ?_ HA2.out ⟨rfl, HLE.out, rfl, rfl⟩
        ·
         rw [setRow_other _ _ _ _ NRB.out.symm]
         exact blk_put (by repeat (first | exact R2.out | with_reducible refine tbl_drewN ?_ _)) 2 _ rfl
        ·
         exact ((by repeat (first | exact K2.out | refine Kb.drewN ?_ _) : Kb b0 w _).set 2 _).setRow (by have := HSZ.out; omega) _
end Go.Proofs.Yteikgnaikeleaaa

namespace Go.Proofs.Yteikgnaikeleaaa
open Go.RowKit Go.Proofs.YteikgnaikeleaaaW.PrintWords Go.Proofs.YteikgnaikeleaaaW.PrintLast Go.Proofs.YteikgnaikeleaaaW.PrintMore
set_option linter.unusedVariables false

theorem rdr2_next {w : World} {b : Nat} {s : List UInt8} {at_ : Nat} {bad : Bool} (h : w.heap[b]? = some (rdr2 s at_ bad)) (k : Int) (hk : k = ((at_ + 1 : Nat) : Int)) : (w.setCell ⟨b, 1, none⟩ (.int .i64 k)).heap[b]? = some (rdr2 s (at_ + 1) bad) := by
 subst hk
 exact blk_put h 1 _ rfl
set_option maxHeartbeats 8000000 in
set_option maxRecDepth 1000000 in
theorem part_letter (n : Nat) (s : List UInt8) (at_ : Nat) (w : World) (b0 : Nat) (hb : w.heap[b0]? = some (rdr2 s at_ false)) (hs : s.length ≤ 100000) (hl : at_ < s.length) (c : UInt8) (t : List UInt8) (hd : s.drop at_ = c :: t) (hc : isL c = true) :
  Calls Try.prog 123 #[.pointer (some ⟨b0, 0, none⟩)] w (RPost n w b0 s at_ (some (fun i => i.testBit (c.toNat - 97), t))) := by
 have hbl := blk_lt hb
 obtain ⟨r, hr⟩ : ∃ r, r = w.heap.size := ⟨_, rfl⟩
 have h97 := (isL_iff' c).1 hc
 obtain ⟨ci, hci⟩ : ∃ ci, c.toNat = 97 + ci := ⟨c.toNat - 97, by omega⟩
 have hci8 : ci < 8 := by omega
 have hsub : c.toNat - 97 = ci := by omega
 have ht : s.drop (at_ + 1) = t := by
  rw [List.drop_eq_getElem_cons hl] at hd
  exact (List.cons.inj hd).2
 have hn40 : ((c.toNat : Int) != 40) = true := bne_iff_ne.mpr (by omega)
 have hnb : nextB (s.drop at_) = (c.toNat : Int) := by rw [hd]; rfl
 have hwat : wrap64 ((at_ : Int) + 1) = ((at_ + 1 : Nat) : Int) := by unfold wrap64; omega
 have hw8 : IntKind.u8.wrap ((c.toNat : Int) - 97) = (ci : Int) := by
  have : ∀ i : Fin 8, IntKind.u8.wrap (((97 + i.val : Nat) : Int) - 97) = (i.val : Int) := by decide +kernel
  rw [hci]; exact this ⟨ci, hci8⟩
 have h0c : (0 : Int) ≤ (ci : Int) := by omega
 have hm : min ci 64 = ci := by omega
 rw [hsub]
 have HB := Aside0.mk hb
 have HT := Aside0.mk ht
 have HLT := Aside0.mk hl
 have HSZ : Aside0 (b0 < w.heap.size ∧ r = w.heap.size ∧ ci < 8 ∧ s.length ≤ 100000) := ⟨⟨hbl, hr, hci8, hs⟩⟩
 have HNX : Aside0 (∀ W, W.heap[b0]? = some (rdr2 s at_ false) → Calls Try.prog 110 #[.pointer (some ⟨b0, 0, none⟩)] W fun e w' => e = .returned (.int .u8 c.toNat) ∧ ∃ m, w' = W.drewN m) := ⟨fun W hW => by have h := rnext_calls s at_ false b0 W hW; rw [hnb] at h; exact h⟩
 have hz := zero50
 clear hb hbl hc h97 hci hci8 hsub hd ht hnb hs hl
 have hA := Aside0.mk (blk_alloc (o' := .cells (tbl fun _ => false) 50) HB.out)
 obtain ⟨⟨c0, c1, c2⟩, f1, f2⟩ := rdr2_cells hA.out
 go_enter Try.func123, Try.ntmps123
 go_wp2_with (first | (go_at_call 110; refine (HNX.out _ hA.out).mono ?_; rintro e' W' ⟨rfl, m, rfl⟩))
 obtain ⟨o, ho⟩ : ∃ o, o = w.heap.size + 1 := ⟨_, rfl⟩
 obtain ⟨W3, hW3⟩ : ∃ W3, W3 = ((w.alloc (.cells (tbl fun _ => false) 50)).drewN m).setCell ⟨b0, 1, none⟩ (.int .i64 ((at_ : Int) + 1)) := ⟨_, rfl⟩
 obtain ⟨W4, hW4⟩ : ∃ W4, W4 = W3.alloc (.cells (tbl fun _ => false) 50) := ⟨_, rfl⟩
 rw [← hW3, ← hW4, ← ho, ← HSZ.out.2.1]
 have s3 : W3.heap.size = w.heap.size + 1 := by
  rw [hW3, World.size_setCell]
  exact Array.size_push ..
 have G1 : Aside0 (W4.heap[r]? = some (.cells (tbl fun _ => false) 50 (0, 0))) := ⟨by
  rw [hW4]
  refine blk_alloc ?_ _
  rw [hW3, HSZ.out.2.1]
  exact blk_far (p := ⟨b0, 1, none⟩) (blk_new w _) (by show w.heap.size ≠ b0; have := HSZ.out; omega) _⟩
 have G2 : Aside0 (W4.heap[o]? = some (.cells (tbl fun _ => false) 50 (0, 0))) := ⟨by rw [hW4, ho, ← s3]; exact blk_new _ _⟩
 have R4 : Aside0 (W4.heap[b0]? = some (rdr2 s (at_ + 1) false)) := ⟨by
  rw [hW4]
  refine blk_alloc ?_ _
  rw [hW3]
  exact rdr2_next (w := (w.alloc (.cells (tbl fun _ => false) 50)).drewN m) hA.out _ (by simp)⟩
 have K4 : Aside0 (Kb b0 w W4) := ⟨by
  rw [hW4, hW3]
  exact ((((Kb.refl b0 w).alloc _).drewN m).set 1 _).alloc _⟩
 have NOR : Aside0 (o ≠ r ∧ r ≠ o ∧ b0 ≠ o ∧ w.heap.size ≤ o ∧ r ≠ b0 ∧ b0 ≠ r) := ⟨by have := HSZ.out; omega⟩
 clear hW3 hW4 ho s3 hA c0 c1 c2 f1 f2
 go_loopg [5] 257 (fun kq v5 W => ∃ x : Nat, v5 = .int .i64 x ∧ Aside0 (x + kq = 257) ∧ Aside0 (x ≤ 256) ∧ Aside0 (W.heap[r]? = some (.cells (tbl fun _ => false) 50 (0, 0))) ∧ Aside0 (W.heap[o]? = some (.cells (tbl (fun i => decide (i < x) && i.testBit ci)) 50 (0, 0))) ∧ Aside0 (W.heap[b0]? = some (rdr2 s (at_ + 1) false)) ∧ Aside0 (Kb b0 w W))
 case atStart => exact ⟨0, rfl, ⟨rfl⟩, ⟨by decide⟩, G1, ⟨by rw [tbl_ext (g := fun _ => false) (fun i _ => by simp)]; exact G2.out⟩, R4, K4⟩
 case round =>
  clear G1 G2 R4 K4
  obtain ⟨x, rfl, HK, HX, G1, G2, R4, K4⟩ := hrel
  by_cases hx : x < 256
  ·
   have h1 : decide ((x : Int) < 256) = true := decide_eq_true (by omega)
   have hnx := next_nat x hx
   have HX1 := Aside0.mk hx
   have h0 : (0 : Int) ≤ (x : Int) ∧ (x : Int) < 256 := by omega
   have c8 := blkc G2.out x _ (tbl_get _ x hx)
   have f8 := blk_frozen G2.out x
   have hbit := bit_at x ci hx HSZ.out.2.2.1
   clear hx
   go_wp2
   go_roundg (256 - x)
   case measure => have := HK.out; have := HX1.out; omega
   case rel =>
    refine ⟨x + 1, by first | rfl | rw [hnx], ⟨by have := HX1.out; omega⟩, ⟨HX1.out⟩, ⟨blk_far (p := ⟨o, x, none⟩) G1.out NOR.out.2.1 _⟩, ⟨?_⟩, ⟨blk_far (p := ⟨o, x, none⟩) R4.out NOR.out.2.2.1 _⟩, ⟨K4.out.setFar NOR.out.2.2.2.1 _ _⟩⟩
    refine blk_put G2.out x _ ?_
    rw [tbl_set]
    apply tbl_ext
    intro i hi
    by_cases e : i = x
    ·
     subst e
     rw [if_pos rfl]
     simp
    ·
     rw [if_neg e]
     have : (i < x) = (i < x + 1) := propext ⟨fun h => by omega, fun h => by omega⟩
     simp only [this]
  ·
   have h1 : decide ((x : Int) < 256) = false := decide_eq_false (by omega)
   have hx6 : x = 256 := by have := HX.out; omega
   obtain ⟨v, hv⟩ : ∃ v : Nat → Bool, v = fun i => i.testBit ci := ⟨_, rfl⟩
   have G3 : Aside0 (wr.heap[o]? = some (.cells (tbl v) 50 (0, 0))) := ⟨by rw [hv, tbl_ext (g := fun i => decide (i < x) && i.testBit ci) (fun i hi => by rw [hx6]; simp [hi])]; exact G2.out⟩
   have HV := Aside0.mk hv
   clear hx hx6 HX HK G2 hv
   go_wp2_with (first | (refine wpList_load_row rfl 50 (.tmp 4) rfl o rfl 50 (tbl v) (0, 0) _ G3.out Try.underlying50 rfl (tbl_info v) ?_) | (refine wpList_store_row rfl 50 (.tmp 2) (.tmp 30) rfl r (tbl v) rfl rfl 50 (tbl fun _ => false) G1.out (tbl_info v) (by rw [tbl_size, tbl_size]) (tbl_one v) ?_))
   refine bodyPost_ret (results_cell_row rfl _ _ r 50 (tbl v) (0, 0) _ rfl (setRow_heap _ _ (tbl fun _ => false) _ _ _ G1.out) Try.underlying50 rfl (tbl_info v)) rfl ?_
   refine RPost.mk v (at_ + 1) false rfl ?_ (K4.out.setRow (by have := HSZ.out; omega) _) (by have := HLT.out; omega) ⟨rfl, HLT.out, HT.out, HV.out⟩
   rw [setRow_other _ _ _ _ NOR.out.2.2.2.2.2]
   exact R4.out
def closeR (Y : Option ((Nat → Bool) × List UInt8)) : Option ((Nat → Bool) × List UInt8) := match Y with | some (v, 41 :: t') => some (v, t') | _ => none
set_option maxHeartbeats 8000000 in
set_option maxRecDepth 1000000 in
theorem part_open (n : Nat) (hn0 : n ≤ 100000) (HC : CircR n) (s : List UInt8) (at_ : Nat) (w : World) (b0 : Nat) (hb : w.heap[b0]? = some (rdr2 s at_ false)) (hs : s.length ≤ 100000) (hl : at_ < s.length) (t : List UInt8) (hd : s.drop at_ = 40 :: t) (hn : t.length < n) :
  Calls Try.prog 123 #[.pointer (some ⟨b0, 0, none⟩)] w (RPost (n + 1) w b0 s at_ (closeR (rCirc (rPart n) (t.length + 1) (fun _ => false) t))) := by
 have hbl := blk_lt hb
 obtain ⟨r, hr⟩ : ∃ r, r = w.heap.size := ⟨_, rfl⟩
 have ht : s.drop (at_ + 1) = t := by
  rw [List.drop_eq_getElem_cons hl] at hd
  exact (List.cons.inj hd).2
 have hnb : nextB (s.drop at_) = 40 := by rw [hd]; rfl
 have hwat : wrap64 ((at_ : Int) + 1) = ((at_ + 1 : Nat) : Int) := by unfold wrap64; omega
 have HB := Aside0.mk hb
 have HLT := Aside0.mk hl
 have HSZ : Aside0 (b0 < w.heap.size ∧ r = w.heap.size ∧ s.length ≤ 100000 ∧ n ≤ 100000) := ⟨⟨hbl, hr, hs, hn0⟩⟩
 have HNX : Aside0 (∀ W, W.heap[b0]? = some (rdr2 s at_ false) → Calls Try.prog 110 #[.pointer (some ⟨b0, 0, none⟩)] W fun e w' => e = .returned (.int .u8 40) ∧ ∃ m, w' = W.drewN m) := ⟨fun W hW => by have h := rnext_calls s at_ false b0 W hW; rw [hnb] at h; exact h⟩
 have HNN : Aside0 (∀ at2 bad2 W, W.heap[b0]? = some (rdr2 s at2 bad2) → Calls Try.prog 110 #[.pointer (some ⟨b0, 0, none⟩)] W fun e w' => e = .returned (.int .u8 (nextB (s.drop at2))) ∧ ∃ m, w' = W.drewN m) := ⟨fun at2 bad2 W hW => rnext_calls s at2 bad2 b0 W hW⟩
 obtain ⟨Y, hY⟩ : ∃ Y, Y = rCirc (rPart n) (t.length + 1) (fun _ => false) t := ⟨_, rfl⟩
 rw [← hY]
 have HCC : Aside0 (∀ W, W.heap[b0]? = some (rdr2 s (at_ + 1) false) → Calls Try.prog 88 #[.pointer (some ⟨b0, 0, none⟩)] W (RPost n W b0 s (at_ + 1) Y)) := ⟨fun W hW => by
  have h := HC s (at_ + 1) W b0 hW hs (by omega) (by rw [ht]; exact hn)
  rw [ht, ← hY] at h
  exact h⟩
 have hz := zero50
 have hA := Aside0.mk (blk_alloc (o' := .cells (tbl fun _ => false) 50) HB.out)
 obtain ⟨⟨c0, c1, c2⟩, f1, f2⟩ := rdr2_cells hA.out
 clear hb hbl hn ht hnb hs hl hd HC hY hn0
 have HR3 : Aside0 (∀ m, (((w.alloc (.cells (tbl fun _ => false) 50)).drewN m).setCell ⟨b0, 1, none⟩ (.int .i64 ((at_ : Int) + 1))).heap[b0]? = some (rdr2 s (at_ + 1) false)) := ⟨fun m => rdr2_next (w := (w.alloc (.cells (tbl fun _ => false) 50)).drewN m) hA.out _ (by simp)⟩
 go_enter Try.func123, Try.ntmps123
 go_wp2_with (first | (go_at_call 110; first | (with_reducible refine (HNX.out _ hA.out).mono ?_; rintro e' W' ⟨rfl, m, rfl⟩) | fail) | (go_at_call 88; refine (HCC.out _ (HR3.out m)).mono ?_; rintro e W2 ⟨v2, at2, bad2, rfl, hr2, hk2, ha2, hres⟩; have HR2 := Aside0.mk hr2; have HK2 := Aside0.mk hk2; have HA2 := Aside0.mk ha2; have HRS := Aside0.mk hres; clear hr2 hk2 ha2 hres c0 c1 c2 f1 f2) | (refine wpList_store_row rfl 50 (.tmp 6) (.tmp 32) rfl W2.heap.size (tbl v2) rfl rfl 50 (tbl fun _ => false) (blk_new _ _) (tbl_info v2) (by rw [tbl_size, tbl_size]) (tbl_one v2) ?_))
 obtain ⟨q, hq⟩ : ∃ q, q = W2.heap.size := ⟨_, rfl⟩
 obtain ⟨W3, hW3⟩ : ∃ W3, W3 = (W2.alloc (.cells (tbl fun _ => false) 50)).setRow W2.heap.size (tbl v2) := ⟨_, rfl⟩
 rw [← hW3, ← hq, ← HSZ.out.2.1]
 have KW : Kb b0 w (((w.alloc (.cells (tbl fun _ => false) 50)).drewN m).setCell ⟨b0, 1, none⟩ (.int .i64 ((at_ : Int) + 1))) := (((Kb.refl b0 w).alloc _).drewN m).set 1 _
 have sW : (((w.alloc (.cells (tbl fun _ => false) 50)).drewN m).setCell ⟨b0, 1, none⟩ (.int .i64 ((at_ : Int) + 1))).heap.size = w.heap.size + 1 := by
  rw [World.size_setCell]
  exact Array.size_push ..
 have GW : (((w.alloc (.cells (tbl fun _ => false) 50)).drewN m).setCell ⟨b0, 1, none⟩ (.int .i64 ((at_ : Int) + 1))).heap[r]? = some (.cells (tbl fun _ => false) 50 (0, 0)) := by
  rw [HSZ.out.2.1]
  exact blk_far (p := ⟨b0, 1, none⟩) (blk_new w _) (by show w.heap.size ≠ b0; have := HSZ.out; omega) _
 have hle := HK2.out.size
 rw [sW] at hle
 have NQ : Aside0 (r < q ∧ b0 < q ∧ w.heap.size ≤ q) := ⟨by have := HSZ.out; omega⟩
 have NOR : Aside0 (q ≠ b0 ∧ r ≠ b0 ∧ b0 ≠ r) := ⟨by have := HSZ.out; have := NQ.out; omega⟩
 have GQ : Aside0 (W3.heap[q]? = some (.cells (tbl v2) 50 (0, 0))) := ⟨by rw [hW3, hq]; exact setRow_heap _ _ (tbl fun _ => false) _ _ _ (blk_new _ _)⟩
 have old : ∀ (g : Nat) (ob : Obj), g < q → W2.heap[g]? = some ob → W3.heap[g]? = some ob := fun g ob hg h => by
  rw [hW3, setRow_other _ _ _ _ (by omega)]
  exact blk_alloc h _
 have G3 : Aside0 (W3.heap[r]? = some (.cells (tbl fun _ => false) 50 (0, 0))) := ⟨old r _ NQ.out.1 (by rw [HK2.out.block r (blk_lt GW) NOR.out.2.1]; exact GW)⟩
 have R3 : Aside0 (W3.heap[b0]? = some (rdr2 s at2 bad2)) := ⟨old b0 _ NQ.out.2.1 HR2.out⟩
 have K3 : Aside0 (Kb b0 w W3) := ⟨by
  rw [hW3]
  exact ((KW.trans HK2.out).alloc _).setRow (by have := NQ.out; omega) _⟩
 have hwat2 : wrap64 ((at2 : Int) + 1) = ((at2 + 1 : Nat) : Int) := by have := HA2.out; have := HSZ.out; unfold wrap64; omega
 obtain ⟨⟨c0, c1, c2⟩, f1, f2⟩ := rdr2_cells R3.out
 clear hW3 hq KW sW GW hle old HR2 HK2 HCC HR3 hr
 refine (HNN.out at2 bad2 W3 R3.out).mono ?_
 rintro e' W' ⟨rfl, m', rfl⟩
 by_cases h41 : ∃ t', s.drop at2 = 41 :: t'
 ·
  obtain ⟨t', h41⟩ := h41
  have hnb2 : (nextB (s.drop at2) != 41) = false := by rw [h41]; rfl
  have hl2 : at2 < s.length := by
   rcases Nat.lt_or_ge at2 s.length with h | h
   ·
    exact h
   ·
    rw [List.drop_eq_nil_of_le h] at h41; cases h41
  have ht2 : s.drop (at2 + 1) = t' := by
   rw [List.drop_eq_getElem_cons hl2] at h41
   exact (List.cons.inj h41).2
  have HFIN : Aside0 (match closeR Y with | some (f, t) => bad2 = false ∧ at2 + 1 ≤ s.length ∧ s.drop (at2 + 1) = t ∧ v2 = f | none => bad2 = true) := ⟨by
   have h := HRS.out
   cases hy : Y with
   | none => rw [hy] at h; exact h
   | some y =>
    obtain ⟨f, l⟩ := y
    rw [hy] at h
    obtain ⟨h1, h2, h3, h4⟩ := h
    rw [h41] at h3
    rw [← h3]
    exact ⟨h1, hl2, ht2, h4⟩⟩
  clear h41 hl2 ht2
  have GQ5 : Aside0 (∀ u, ((W3.drewN m').setCell ⟨b0, 1, none⟩ u).heap[q]? = some (.cells (tbl v2) 50 (0, 0))) := ⟨fun u => blk_far (p := ⟨b0, 1, none⟩) (tbl_drewN GQ.out m') NOR.out.1 u⟩
  have G5 : Aside0 (∀ u, ((W3.drewN m').setCell ⟨b0, 1, none⟩ u).heap[r]? = some (.cells (tbl fun _ => false) 50 (0, 0))) := ⟨fun u => blk_far (p := ⟨b0, 1, none⟩) (tbl_drewN G3.out m') NOR.out.2.1 u⟩
  ·
   go_wp2_with (first | (with_reducible refine wpList_load_row rfl 50 (.tmp 6) rfl q rfl 50 (tbl v2) (0, 0) _ (GQ5.out _) Try.underlying50 rfl (tbl_info v2) ?_) | (with_reducible refine wpList_store_row rfl 50 (.tmp 2) (.tmp 46) rfl r (tbl v2) rfl rfl 50 (tbl fun _ => false) (G5.out _) (tbl_info v2) (by rw [tbl_size, tbl_size]) (tbl_one v2) ?_))
   refine bodyPost_ret (results_cell_row rfl _ _ r 50 (tbl v2) (0, 0) _ rfl (setRow_heap _ _ (tbl fun _ => false) _ _ _ (G5.out _)) Try.underlying50 rfl (tbl_info v2)) rfl ?_
   refine RPost.mk v2 (at2 + 1) bad2 rfl ?_ (((K3.out.drewN m').set 1 _).setRow (by have := HSZ.out; omega) _) (by have := HA2.out; omega) ?_
   ·
    rw [setRow_other _ _ _ _ NOR.out.2.2]
    exact rdr2_next (tbl_drewN R3.out m') _ (by simp)
   ·
    exact HFIN.out
 ·
  have hnb2 : (nextB (s.drop at2) != 41) = true := by
   cases hd : s.drop at2 with
   | nil => rfl
   | cons d t' => exact bne_of (d := d) (e := 41) (l := t') (fun e => h41 ⟨t', by rw [hd, e]⟩)
  have HFIN : Aside0 (closeR Y = none) := ⟨by
   have h := HRS.out
   cases hy : Y with
   | none => rfl
   | some y =>
    obtain ⟨f, l⟩ := y
    rw [hy] at h
    obtain ⟨h1, h2, h3, h4⟩ := h
    unfold closeR
    split
    ·
     rename_i e
     simp at e
     exact absurd ⟨_, h3.trans e.2⟩ h41
    ·
     rfl⟩
  clear h41
  have GQ6 : Aside0 (∀ u u2, (((W3.drewN m').setCell ⟨b0, 2, none⟩ u2).setCell ⟨b0, 1, none⟩ u).heap[q]? = some (.cells (tbl v2) 50 (0, 0))) := ⟨fun u u2 => blk_far (p := ⟨b0, 1, none⟩) (blk_far (p := ⟨b0, 2, none⟩) (tbl_drewN GQ.out m') NOR.out.1 u2) NOR.out.1 u⟩
  have G6 : Aside0 (∀ u u2, (((W3.drewN m').setCell ⟨b0, 2, none⟩ u2).setCell ⟨b0, 1, none⟩ u).heap[r]? = some (.cells (tbl fun _ => false) 50 (0, 0))) := ⟨fun u u2 => blk_far (p := ⟨b0, 1, none⟩) (blk_far (p := ⟨b0, 2, none⟩) (tbl_drewN G3.out m') NOR.out.2.1 u2) NOR.out.2.1 u⟩
  ·
   go_wp2_with (first | (with_reducible refine wpList_load_row rfl 50 (.tmp 6) rfl q rfl 50 (tbl v2) (0, 0) _ (GQ6.out _ _) Try.underlying50 rfl (tbl_info v2) ?_) | (with_reducible refine wpList_store_row rfl 50 (.tmp 2) (.tmp 46) rfl r (tbl v2) rfl rfl 50 (tbl fun _ => false) (G6.out _ _) (tbl_info v2) (by rw [tbl_size, tbl_size]) (tbl_one v2) ?_))
   refine bodyPost_ret (results_cell_row rfl _ _ r 50 (tbl v2) (0, 0) _ rfl (setRow_heap _ _ (tbl fun _ => false) _ _ _ (G6.out _ _)) Try.underlying50 rfl (tbl_info v2)) rfl ?_
   refine RPost.mk v2 (at2 + 1) true rfl ?_ ((((K3.out.drewN m').set 2 _).set 1 _).setRow (by have := HSZ.out; omega) _) (by have := HA2.out; omega) ?_
   ·
    rw [setRow_other _ _ _ _ NOR.out.2.2]
    exact rdr2_next (by exact blk_put (tbl_drewN R3.out m') 2 (.bool true) rfl : _ = some (rdr2 s at2 true)) _ (by simp)
   ·
    rw [HFIN.out]
theorem rPart_succ (n : Nat) (b : UInt8) (t : List UInt8) : rPart (n + 1) (b :: t) = if isL b then some (fun n => n.testBit (b.toNat - 97), t) else if b = 40 then closeR (rCirc (rPart n) (t.length + 1) (fun _ => false) t) else none := rfl
theorem part_of_circR (n : Nat) (hn0 : n ≤ 100000) (HC : CircR n) : PartR (n + 1) := by
 intro s at_ w b hb hs hl ho hn
 have hd : s.drop at_ = s[at_] :: s.drop (at_ + 1) := List.drop_eq_getElem_cons hl
 rw [hd, rPart_succ]
 by_cases hi : isL s[at_] = true
 ·
  rw [if_pos hi]
  exact part_letter (n + 1) s at_ w b hb hs hl s[at_] _ hd hi
 ·
  rw [if_neg hi]
  have h4 : s[at_] = 40 := by
   unfold opens at ho
   simpa [hi] using ho
  rw [if_pos h4]
  have hd4 : s.drop at_ = 40 :: s.drop (at_ + 1) := by rw [hd, h4]
  exact part_open n hn0 HC s at_ w b hb hs hl _ hd4 (by rw [hd4] at hn; simp only [List.length_cons] at hn; omega)
end Go.Proofs.Yteikgnaikeleaaa
