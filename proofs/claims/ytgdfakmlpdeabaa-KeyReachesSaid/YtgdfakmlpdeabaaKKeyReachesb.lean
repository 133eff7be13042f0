-- Written by wip/pack.py of this repo: texts of this claim, put together.
import Derived.Shelf.Small.Bits
import Derived.Shelf.Small.Wraps
import Derived.Shelf.Strconv.Itoa0
import Derived.Shelf.Slices.Turned
import Derived.Shelf.Slices.Reverse
import Derived.Ground.Names2Prog
import Derived.Shelf.Slices.Clone
import Derived.Shelf.Slices.SearchI
import Derived.Shelf.Slices.Cells
import Derived.Test.YtgdfakmlpdeabaaProg
import Derived.StillTailTactics
import Derived.Maps.OwnSet
import Derived.DeepKeys4
import Derived.WideKeyArr
import Derived.Below
import Derived.Deep.Draws
import Derived.Deep.AppendLies
import Derived.Maps.AppendAt
import Derived.OwnWalk
import Derived.Laws.BytesArg
import Derived.Laws.MakeOwn
import Derived.Laws.OwnMore
import Derived.Deep.OwnRows
import Derived.Tactics
import Derived.Lib.ConvBytes
import Derived.Laws.Slices
import Derived.WalkKit
import Derived.KernelRfl
import Derived.RowKit3
import Derived.Deep.LoopGhost
import Derived.Deep.QuietTactic
import Derived.BigQuiet
import Derived.WideLaws
import Derived.Deep.DeepCutAuto
import Derived.Deep.CutBlock
import Derived.Deep.RegionHeld3
import Derived.Laws.Rows
import Derived.Lib.AppendStr
import Derived.ArgAppend
import Derived.Laws.IdiomCopy
import Derived.OrdersHeld
import Derived.Laws.BitsLemmas
import Derived.RowKit
import Derived.Laws.CopyOwn
import Derived.Laws.Runes
import Derived.Shelf.SlSortCmp.WholeK
import Derived.Shelf.SlGeneric
import Derived.Ground.SlsfProg
import Derived.Shelf.SlSortCmp.NoneTotal
import Derived.Sort.OwnSortedInts
import Derived.Test.YtgdfakmlpdeabaaKKeyReachesa
/-
 DERIVED: THE SHELF's CONTRACTS AT THIS DUMP, IN PLAIN WORDS (tools/lay-plain.mjs out of 'YtgdfakmlpdeabaaShelf.lean', which tools/lay-shelf.mjs wrote): THE SAME DECLARATIONS UNDER THE SAME NAMES: 'import', 'namespace', 'open', 'def', 'theorem' AND NOTHING ELSE: no command of the shelf's: FOR A HAND-IN. Each laying: the table of numbers ('.._ren') and one theorem, a field a fact of the dump's own or the kernel's comparison; each contract: ONE APPLICATION.
-/
namespace Go.Proofs
open Go.Shelf
def Try.lays122_ren : Go.Shelf.Ren := ⟨fun | 122 => 102 | 215 => 114 | n => n, fun | 3 => 3 | 4 => 4 | n => n, fun | n => n⟩
theorem Try.lays122 : Go.Proofs.Lays.n122 Try.prog Try.lays122_ren := {
 mixed := by kernel_rfl
 f122 := Try.func102.trans (congrArg some (by kernel_rfl))
 f215 := Try.func114.trans (congrArg some (by kernel_rfl))
 t3 := Try.underlying3
 a3 := Try.isAgg3
 z3 := Try.sizeOf3
 v3 := Try.zeroValue3
 t4 := Try.underlying4
 a4 := Try.isAgg4
 z4 := Try.sizeOf4
 v4 := Try.zeroValue4 }
open Go.RowKit in
theorem Try.cmp_Compare_int (x y : Int) (w : World) :
  Calls Try.prog 102 #[.int .i64 x, .int .i64 y] w fun e w' => e = .returned (.int .i64 (Lib.compareInt x y)) ∧ w' = w := Any.cmp_Compare_int Try.lays122 x y w
def Try.lays114_ren : Go.Shelf.Ren := ⟨fun | 114 => 67 | n => n, fun | 28 => 25 | 3 => 3 | 4 => 4 | 9 => 9 | 20 => 20 | 0 => 0 | n => n, fun | n => n⟩
theorem Try.lays114 : Go.Proofs.Lays.n114 Try.prog Try.lays114_ren := {
 mixed := by kernel_rfl
 f114 := Try.func67.trans (congrArg some (by kernel_rfl))
 t0 := Try.underlying0
 a0 := Try.isAgg0
 z0 := Try.sizeOf0
 v0 := Try.zeroValue0
 t3 := Try.underlying3
 a3 := Try.isAgg3
 z3 := Try.sizeOf3
 v3 := Try.zeroValue3
 t4 := Try.underlying4
 a4 := Try.isAgg4
 z4 := Try.sizeOf4
 v4 := Try.zeroValue4
 t9 := Try.underlying9
 a9 := Try.isAgg9
 z9 := Try.sizeOf9
 v9 := Try.zeroValue9
 t20 := Try.underlying20
 a20 := Try.isAgg20
 z20 := Try.sizeOf20
 v20 := Try.zeroValue20
 t28 := Try.underlying25
 a28 := Try.isAgg25
 z28 := Try.sizeOf25
 v28 := Try.zeroValue25 }
open Go.Lib in
theorem Try.slices_Min_int (b off n c : Nat) (zs : List Int) (w : World) (hn : 0 < n) (hz : n ≤ zs.length) (hbig : n ≤ 9223372036854775807) (hc : ∀ j, j < zs.length → w.cell? ⟨b, off + j, none⟩ = some (.int .i64 (zs.getD j 0))) :
  Calls Try.prog 67 #[.slice (some ⟨b, off, none⟩) n c] w fun e w' => e = .returned (.int .i64 (Lib.minOf (zs.take n))) ∧ w' = w := Any.slices_Min_int Try.lays114 b off n c zs w hn hz hbig hc
def Try.lays112_ren : Go.Shelf.Ren := ⟨fun | 112 => 92 | n => n, fun | 28 => 25 | 3 => 3 | 4 => 4 | 0 => 0 | n => n, fun | n => n⟩
theorem Try.lays112 : Go.Proofs.Lays.n112 Try.prog Try.lays112_ren := {
 mixed := by kernel_rfl
 f112 := Try.func92.trans (congrArg some (by kernel_rfl))
 t0 := Try.underlying0
 a0 := Try.isAgg0
 z0 := Try.sizeOf0
 v0 := Try.zeroValue0
 t3 := Try.underlying3
 a3 := Try.isAgg3
 z3 := Try.sizeOf3
 v3 := Try.zeroValue3
 t4 := Try.underlying4
 a4 := Try.isAgg4
 z4 := Try.sizeOf4
 v4 := Try.zeroValue4
 t28 := Try.underlying25
 a28 := Try.isAgg25
 z28 := Try.sizeOf25
 v28 := Try.zeroValue25 }
open Go.RowKit Go.Lib Go.Sort in
theorem Try.slices_Reverse_int (blk off cap : Nat) (zs : List Int) (w : World) (hH : Holds (Value.int .i64) w blk off zs.toArray) (hsz : zs.length ≤ 9223372036854775807) :
  Calls Try.prog 92 #[.slice (some ⟨blk, off, none⟩) zs.length cap] w fun e w' => e = .returned (.tuple #[]) ∧ ∃ n, w' = putRow (Value.int .i64) (Sort.ahead w n) blk off zs.reverse.toArray := Any.slices_Reverse_int Try.lays112 blk off cap zs w hH hsz
open Go.RowKit Go.Lib Go.Sort in
theorem Try.slices_Reverse_int_empty (a : Option Addr) (cap : Nat) (w : World) :
  Calls Try.prog 92 #[.slice a 0 cap] w fun e w' => e = .returned (.tuple #[]) ∧ w' = w := Any.slices_Reverse_int_empty Try.lays112 a cap w
def Try.laysNm215_ren : Go.Shelf.Ren := ⟨fun | 15 => 76 | n => n, fun | 22 => 25 | 3 => 3 | 4 => 4 | n => n, fun | n => n⟩
theorem Try.laysNm215 : Go.Proofs.Lays2.n15 Try.prog Try.laysNm215_ren := {
 mixed := by kernel_rfl
 f15 := Try.func76.trans (congrArg some (by kernel_rfl))
 t3 := Try.underlying3
 a3 := Try.isAgg3
 z3 := Try.sizeOf3
 v3 := Try.zeroValue3
 t4 := Try.underlying4
 a4 := Try.isAgg4
 z4 := Try.sizeOf4
 v4 := Try.zeroValue4
 t22 := Try.underlying25
 a22 := Try.isAgg25
 z22 := Try.sizeOf25
 v22 := Try.zeroValue25
 i3 := by kernel_rfl }
open Go.RowKit Go.Lib in
theorem Try.slices_Clone_int (b off n c : Nat) (zs : List Int) (w : World) (hz : n ≤ zs.length) (hbig : n * 8 ≤ 140737488355328) (hc : ∀ j, j < zs.length → w.cell? ⟨b, off + j, none⟩ = some (.int .i64 (zs.getD j 0))) :
  Calls Try.prog 76 #[.slice (some ⟨b, off, none⟩) n c] w fun e w' => ∃ v', e = .returned v' ∧ w'.ownsRow w.heap.size 3 1 v' n ((zs.take n).map (Value.int .i64)) ∧ v' ≠ .slice none 0 0 ∧ Below w.heap.size w w' := Any.slices_Clone_int Try.laysNm215 b off n c zs w hz hbig hc
open Go.RowKit Go.Lib in
theorem Try.slices_Clone_int_nil (n c : Nat) (w : World) :
  Calls Try.prog 76 #[.slice none n c] w fun e w' => e = .returned (.slice none 0 0) ∧ w' = w := Any.slices_Clone_int_nil Try.laysNm215 n c w
open Go.RowKit Go.Lib in
theorem Try.slices_Clone_int_zero (a : Addr) (c : Nat) (w : World) :
  Calls Try.prog 76 #[.slice (some a) 0 c] w fun e w' => ∃ v', e = .returned v' ∧ w'.ownsRow w.heap.size 3 1 v' 0 [] ∧ v' ≠ .slice none 0 0 ∧ Below w.heap.size w w' := Any.slices_Clone_int_zero Try.laysNm215 a c w
end Go.Proofs

namespace Go.Proofs.Ytgdfakmlpdeabaa.Idx
def idxFrom {α : Type} (p : α → Bool) (l : List α) : Int := if l.any p then (l.findIdx p : Int) else -1
theorem idxFrom_at {α : Type} {p : α → Bool} {l : List α} {i : Nat} (hi : i < l.length) (hp : p l[i] = true) (hb : ∀ j (h : j < l.length), j < i → p l[j] = false) : idxFrom p l = i := by
 have ha : l.any p = true := List.any_eq_true.2 ⟨l[i], List.getElem_mem hi, hp⟩
 have hf : l.findIdx p = i := by
  rw [List.findIdx_eq hi]
  exact ⟨hp, fun j hj => hb j _ hj⟩
 simp [idxFrom, ha, hf]
theorem idxFrom_none {α : Type} {p : α → Bool} {l : List α} (hb : ∀ j (h : j < l.length), j < l.length → p l[j] = false) : idxFrom p l = -1 := by
 have ha : l.any p = false := by
  rw [List.any_eq_false]
  intro x hx
  obtain ⟨j, hj, rfl⟩ := List.mem_iff_getElem.1 hx
  simp [hb j hj hj]
 simp [idxFrom, ha]
theorem idx_ge {α : Type} (p : α → Bool) (l : List α) : decide (0 ≤ idxFrom p l) = l.any p := by
 unfold idxFrom
 by_cases h : l.any p = true
 ·
  simp [h]
 ·
  have h2 : l.any p = false := by simpa using h
  simp [h2]
end Go.Proofs.Ytgdfakmlpdeabaa.Idx

/- Short words for what the printed walks prove again and again: each bears its own proof as a default, found where it is used. -/
namespace Go.Proofs.YtgdfakmlpdeabaaW.PrintMore
open Go.RowKit Go.Proofs.YtgdfakmlpdeabaaW.PrintWords Go.Proofs.YtgdfakmlpdeabaaW.PrintLast
set_option linter.unusedVariables false

theorem bel {n : Nat} {w W : World} (h : Below n w W := by repeat (first | (with_reducible first | exact HB.out | apply below_alloc | apply pw_below_drewN | apply below_drew1 | refine below_set ?_ (Aside0.out (by assumption))) | exact HB.out)) : Below n w W := h
theorem blkz {W : World} {g : Nat} {o : Obj} (h : W.heap[g]? = some o := by (with_reducible repeat (first | refine blk_drewN ?_ _ | refine blk_drew ?_ | refine blk_alloc ?_ _)); exact Aside0.out (by assumption)) : W.heap[g]? = some o := h
theorem blkc {W : World} {g : Nat} {cs : Array Value} {t : TypeId} (h : W.heap[g]? = some (.cells cs t (0, 0))) (i : Nat) (v : Value) (e : cs[i]? = some v) : W.cell? ⟨g, i, none⟩ = some v := (blk_cell h i).trans e
theorem cbz {α : Type} {d : Kd α} {w W : World} {A : Option Addr} {n : Nat} {xs : List α} (K : Aside0 (d.C w A n xs)) (h : Below w.heap.size w W := by repeat (first | (with_reducible first | exact HB.out | apply below_alloc | apply pw_below_drewN | apply below_drew1 | refine below_set ?_ (Aside0.out (by assumption))) | exact HB.out)) : d.C W A n xs := Kd.C_below K.out h
theorem mapz {α : Type} {a b : α} (h : a = b := by (try simp only [List.map_toArray, List.map_cons, List.map_nil]); first | done | rfl | (simp only [List.length_drop, List.length_take]; rfl)) : a = b := h
theorem asz {p : Prop} (h : p := by first | (with_reducible assumption) | assumption) : p := h
theorem rsz {α : Sort _} {a b : α} (h : a = b := by first | rfl | (simp; done) | (simp [*]; done)) : a = b := h
theorem drz {w W : World} (h : Drawn0 w W := by repeat (first | exact Drawn0.refl _ | apply Drawn0.step)) : Drawn0 w W := h
theorem ownx {α : Type} {d : Kd α} {e : Nat} {W0 W : World} {base : Nat} {ok : Nat → Prop} {v : Value} {xs : List α} (K : Aside0 (d.R e W0 base ok v xs)) (h : d.R e W base ok v xs := by (with_reducible repeat (first | apply Kd.R_alloc | apply Kd.R_drewN | apply Kd.R_drew)); exact Aside0.out (by assumption)) : d.R e W base ok v xs := h
theorem ezz {α : Sort _} {a b : α} (h : a = b := by first | rfl | (simp [errW_none, errW_some] <;> rfl) | (simp [*, errW_none, errW_some] <;> rfl)) : a = b := h
theorem bsz {w W : World} {g : Nat} (hg : g = W.heap.size) (h : Below w.heap.size w W := by repeat (first | (with_reducible first | exact HB.out | apply below_alloc | apply pw_below_drewN | apply below_drew1 | refine below_set ?_ (Aside0.out (by assumption))) | exact HB.out)) : Aside0 (w.heap.size ≤ g) := ⟨by rw [hg]; exact below_size h⟩
theorem neL {W : World} {g g' : Nat} {o : Obj} (hg : g' = W.heap.size) (h : W.heap[g]? = some o := by (with_reducible repeat (first | refine blk_drewN ?_ _ | refine blk_drew ?_ | refine blk_alloc ?_ _)); exact Aside0.out (by assumption)) : Aside0 (g ≠ g') := ⟨by rw [hg]; exact Nat.ne_of_lt (blk_lt h)⟩
theorem neR {W : World} {g g' : Nat} {o : Obj} (hg : g' = W.heap.size) (h : W.heap[g]? = some o := by (with_reducible repeat (first | refine blk_drewN ?_ _ | refine blk_drew ?_ | refine blk_alloc ?_ _)); exact Aside0.out (by assumption)) : Aside0 (g' ≠ g) := ⟨by rw [hg]; exact Nat.ne_of_gt (blk_lt h)⟩
def bz (n m : Nat) : Array Bool := ((List.range n).map m.testBit).toArray
section
variable {P : Program} {md : Region.Mode} {ops : Array Oper} {Q : Exit → Act → World → Prop} {S : World → Prop} {ds : List Nat}
theorem pst {i : Nat} {N : Option Tmp} {oi : Oper} {v : Value} {fuel : Nat} {l : Array Bool} {a a' : Act} {w : World} (l' : Array Bool) (hc : anyB md ops l l' i = true) (h : wpAnyLast P md ops Q S ds fuel l' a' w)
  (hi : ops[i]? = some oi := by rfl) (hN : oi.dst = N := by rfl) (hy : Yields P ops oi v a := by exact Or.inl ⟨by rfl, by (intro w'; go_simp; with_reducible rfl)⟩) (ha : a.put N v = a' := by (simp only [Act.put, List.setIfInBounds_toArray, List.set_cons_zero, List.set_cons_succ, i64_w, i32_w]; rfl)) (hQ : ∀ c a w, Q (.panic c) (a.put oi.dst v) w → Q (.panic c) a w := by exact (fun _ _ _ h => h)) :
  wpAnyLast P md ops Q S ds (fuel + 1) l a w := pure_ l' hi hN hc hQ hy ha h
theorem psn {i : Nat} {N : Option Tmp} {oi : Oper} {v : Value} {fuel : Nat} {l : Array Bool} {a a' : Act} {w : World} (l' : Array Bool) (hc : anyB md ops l l' i = true) (h : wpAnyLast P md ops Q S ds fuel l' a' w)
  (hi : ops[i]? = some oi := by rfl) (hN : oi.dst = N := by rfl) (hy : Yields P ops oi v a := by exact Or.inl ⟨by rfl, by (intro w'; go_simp; with_reducible rfl)⟩) (ha : a.put N v = a' := by (rfl)) (hQ : ∀ c a w, Q (.panic c) (a.put oi.dst v) w → Q (.panic c) a w := by exact (fun _ _ _ h => h)) :
  wpAnyLast P md ops Q S ds (fuel + 1) l a w := pure_ l' hi hN hc hQ hy ha h
theorem pso {i : Nat} {N : Option Tmp} {oi : Oper} {fuel : Nat} {l : Array Bool} {a a' : Act} {w : World} (l' : Array Bool) (hc : anyB md ops l l' i = true) (h : wpAnyLast P md ops Q S ds fuel l' a' w)
  (hi : ops[i]? = some oi := by rfl) (hN : oi.dst = N := by rfl) (hy : Yields P ops oi undef a := by exact Or.inr ⟨by rfl, rfl⟩) (ha : a.put N undef = a' := by (simp only [Act.put, List.setIfInBounds_toArray, List.set_cons_zero, List.set_cons_succ, i64_w, i32_w]; rfl)) (hQ : ∀ c a w, Q (.panic c) (a.put oi.dst undef) w → Q (.panic c) a w := by exact (fun _ _ _ h => h)) :
  wpAnyLast P md ops Q S ds (fuel + 1) l a w := pure_ l' hi hN hc hQ hy ha h
theorem tst1 {i : Nat} {N : Option Tmp} {oi : Oper} {v : Value} {fuel : Nat} {l : Array Bool} {a a' : Act} {w : World} (l' : Array Bool) (hc : takeB md ops ds l l' i = true) (hS : S w) (h : wpAnyLast P md ops Q S ds fuel l' a' w)
  (hi : ops[i]? = some oi := by rfl) (hN : oi.dst = N := by rfl) (hy : YieldsIf P ops S oi v a := by exact Or.inl ⟨by rfl, by (rintro w' s0; go_simp; with_reducible rfl)⟩) (ha : a.put N v = a' := by (simp only [Act.put, List.setIfInBounds_toArray, List.set_cons_zero, List.set_cons_succ, i64_w, i32_w]; rfl)) (hQ : ∀ c a w, Q (.panic c) (a.put oi.dst v) w → Q (.panic c) a w := by exact (fun _ _ _ h => h)) :
  wpAnyLast P md ops Q S ds (fuel + 1) l a w := take_ l' hi hN hc hQ hy hS ha h
theorem tst2 {i : Nat} {N : Option Tmp} {oi : Oper} {v : Value} {fuel : Nat} {l : Array Bool} {a a' : Act} {w : World} (l' : Array Bool) (hc : takeB md ops ds l l' i = true) (hS : S w) (h : wpAnyLast P md ops Q S ds fuel l' a' w)
  (hi : ops[i]? = some oi := by rfl) (hN : oi.dst = N := by rfl) (hy : YieldsIf P ops S oi v a := by exact Or.inl ⟨by rfl, by (rintro w' ⟨s0, s1⟩; go_simp; with_reducible rfl)⟩) (ha : a.put N v = a' := by (simp only [Act.put, List.setIfInBounds_toArray, List.set_cons_zero, List.set_cons_succ, i64_w, i32_w]; rfl)) (hQ : ∀ c a w, Q (.panic c) (a.put oi.dst v) w → Q (.panic c) a w := by exact (fun _ _ _ h => h)) :
  wpAnyLast P md ops Q S ds (fuel + 1) l a w := take_ l' hi hN hc hQ hy hS ha h
theorem tst3 {i : Nat} {N : Option Tmp} {oi : Oper} {v : Value} {fuel : Nat} {l : Array Bool} {a a' : Act} {w : World} (l' : Array Bool) (hc : takeB md ops ds l l' i = true) (hS : S w) (h : wpAnyLast P md ops Q S ds fuel l' a' w)
  (hi : ops[i]? = some oi := by rfl) (hN : oi.dst = N := by rfl) (hy : YieldsIf P ops S oi v a := by exact Or.inl ⟨by rfl, by (rintro w' ⟨s0, s1, s2⟩; go_simp; with_reducible rfl)⟩) (ha : a.put N v = a' := by (simp only [Act.put, List.setIfInBounds_toArray, List.set_cons_zero, List.set_cons_succ, i64_w, i32_w]; rfl)) (hQ : ∀ c a w, Q (.panic c) (a.put oi.dst v) w → Q (.panic c) a w := by exact (fun _ _ _ h => h)) :
  wpAnyLast P md ops Q S ds (fuel + 1) l a w := take_ l' hi hN hc hQ hy hS ha h
theorem tst4 {i : Nat} {N : Option Tmp} {oi : Oper} {v : Value} {fuel : Nat} {l : Array Bool} {a a' : Act} {w : World} (l' : Array Bool) (hc : takeB md ops ds l l' i = true) (hS : S w) (h : wpAnyLast P md ops Q S ds fuel l' a' w)
  (hi : ops[i]? = some oi := by rfl) (hN : oi.dst = N := by rfl) (hy : YieldsIf P ops S oi v a := by exact Or.inl ⟨by rfl, by (rintro w' ⟨s0, s1, s2, s3⟩; go_simp; with_reducible rfl)⟩) (ha : a.put N v = a' := by (simp only [Act.put, List.setIfInBounds_toArray, List.set_cons_zero, List.set_cons_succ, i64_w, i32_w]; rfl)) (hQ : ∀ c a w, Q (.panic c) (a.put oi.dst v) w → Q (.panic c) a w := by exact (fun _ _ _ h => h)) :
  wpAnyLast P md ops Q S ds (fuel + 1) l a w := take_ l' hi hN hc hQ hy hS ha h
theorem tst5 {i : Nat} {N : Option Tmp} {oi : Oper} {v : Value} {fuel : Nat} {l : Array Bool} {a a' : Act} {w : World} (l' : Array Bool) (hc : takeB md ops ds l l' i = true) (hS : S w) (h : wpAnyLast P md ops Q S ds fuel l' a' w)
  (hi : ops[i]? = some oi := by rfl) (hN : oi.dst = N := by rfl) (hy : YieldsIf P ops S oi v a := by exact Or.inl ⟨by rfl, by (rintro w' ⟨s0, s1, s2, s3, s4⟩; go_simp; with_reducible rfl)⟩) (ha : a.put N v = a' := by (simp only [Act.put, List.setIfInBounds_toArray, List.set_cons_zero, List.set_cons_succ, i64_w, i32_w]; rfl)) (hQ : ∀ c a w, Q (.panic c) (a.put oi.dst v) w → Q (.panic c) a w := by exact (fun _ _ _ h => h)) :
  wpAnyLast P md ops Q S ds (fuel + 1) l a w := take_ l' hi hN hc hQ hy hS ha h
theorem tst6 {i : Nat} {N : Option Tmp} {oi : Oper} {v : Value} {fuel : Nat} {l : Array Bool} {a a' : Act} {w : World} (l' : Array Bool) (hc : takeB md ops ds l l' i = true) (hS : S w) (h : wpAnyLast P md ops Q S ds fuel l' a' w)
  (hi : ops[i]? = some oi := by rfl) (hN : oi.dst = N := by rfl) (hy : YieldsIf P ops S oi v a := by exact Or.inl ⟨by rfl, by (rintro w' ⟨s0, s1, s2, s3, s4, s5⟩; go_simp; with_reducible rfl)⟩) (ha : a.put N v = a' := by (simp only [Act.put, List.setIfInBounds_toArray, List.set_cons_zero, List.set_cons_succ, i64_w, i32_w]; rfl)) (hQ : ∀ c a w, Q (.panic c) (a.put oi.dst v) w → Q (.panic c) a w := by exact (fun _ _ _ h => h)) :
  wpAnyLast P md ops Q S ds (fuel + 1) l a w := take_ l' hi hN hc hQ hy hS ha h
theorem tst7 {i : Nat} {N : Option Tmp} {oi : Oper} {v : Value} {fuel : Nat} {l : Array Bool} {a a' : Act} {w : World} (l' : Array Bool) (hc : takeB md ops ds l l' i = true) (hS : S w) (h : wpAnyLast P md ops Q S ds fuel l' a' w)
  (hi : ops[i]? = some oi := by rfl) (hN : oi.dst = N := by rfl) (hy : YieldsIf P ops S oi v a := by exact Or.inl ⟨by rfl, by (rintro w' ⟨s0, s1, s2, s3, s4, s5, s6⟩; go_simp; with_reducible rfl)⟩) (ha : a.put N v = a' := by (simp only [Act.put, List.setIfInBounds_toArray, List.set_cons_zero, List.set_cons_succ, i64_w, i32_w]; rfl)) (hQ : ∀ c a w, Q (.panic c) (a.put oi.dst v) w → Q (.panic c) a w := by exact (fun _ _ _ h => h)) :
  wpAnyLast P md ops Q S ds (fuel + 1) l a w := take_ l' hi hN hc hQ hy hS ha h
theorem tst8 {i : Nat} {N : Option Tmp} {oi : Oper} {v : Value} {fuel : Nat} {l : Array Bool} {a a' : Act} {w : World} (l' : Array Bool) (hc : takeB md ops ds l l' i = true) (hS : S w) (h : wpAnyLast P md ops Q S ds fuel l' a' w)
  (hi : ops[i]? = some oi := by rfl) (hN : oi.dst = N := by rfl) (hy : YieldsIf P ops S oi v a := by exact Or.inl ⟨by rfl, by (rintro w' ⟨s0, s1, s2, s3, s4, s5, s6, s7⟩; go_simp; with_reducible rfl)⟩) (ha : a.put N v = a' := by (simp only [Act.put, List.setIfInBounds_toArray, List.set_cons_zero, List.set_cons_succ, i64_w, i32_w]; rfl)) (hQ : ∀ c a w, Q (.panic c) (a.put oi.dst v) w → Q (.panic c) a w := by exact (fun _ _ _ h => h)) :
  wpAnyLast P md ops Q S ds (fuel + 1) l a w := take_ l' hi hN hc hQ hy hS ha h
theorem tst9 {i : Nat} {N : Option Tmp} {oi : Oper} {v : Value} {fuel : Nat} {l : Array Bool} {a a' : Act} {w : World} (l' : Array Bool) (hc : takeB md ops ds l l' i = true) (hS : S w) (h : wpAnyLast P md ops Q S ds fuel l' a' w)
  (hi : ops[i]? = some oi := by rfl) (hN : oi.dst = N := by rfl) (hy : YieldsIf P ops S oi v a := by exact Or.inl ⟨by rfl, by (rintro w' ⟨s0, s1, s2, s3, s4, s5, s6, s7, s8⟩; go_simp; with_reducible rfl)⟩) (ha : a.put N v = a' := by (simp only [Act.put, List.setIfInBounds_toArray, List.set_cons_zero, List.set_cons_succ, i64_w, i32_w]; rfl)) (hQ : ∀ c a w, Q (.panic c) (a.put oi.dst v) w → Q (.panic c) a w := by exact (fun _ _ _ h => h)) :
  wpAnyLast P md ops Q S ds (fuel + 1) l a w := take_ l' hi hN hc hQ hy hS ha h
theorem tst10 {i : Nat} {N : Option Tmp} {oi : Oper} {v : Value} {fuel : Nat} {l : Array Bool} {a a' : Act} {w : World} (l' : Array Bool) (hc : takeB md ops ds l l' i = true) (hS : S w) (h : wpAnyLast P md ops Q S ds fuel l' a' w)
  (hi : ops[i]? = some oi := by rfl) (hN : oi.dst = N := by rfl) (hy : YieldsIf P ops S oi v a := by exact Or.inl ⟨by rfl, by (rintro w' ⟨s0, s1, s2, s3, s4, s5, s6, s7, s8, s9⟩; go_simp; with_reducible rfl)⟩) (ha : a.put N v = a' := by (simp only [Act.put, List.setIfInBounds_toArray, List.set_cons_zero, List.set_cons_succ, i64_w, i32_w]; rfl)) (hQ : ∀ c a w, Q (.panic c) (a.put oi.dst v) w → Q (.panic c) a w := by exact (fun _ _ _ h => h)) :
  wpAnyLast P md ops Q S ds (fuel + 1) l a w := take_ l' hi hN hc hQ hy hS ha h
theorem tst11 {i : Nat} {N : Option Tmp} {oi : Oper} {v : Value} {fuel : Nat} {l : Array Bool} {a a' : Act} {w : World} (l' : Array Bool) (hc : takeB md ops ds l l' i = true) (hS : S w) (h : wpAnyLast P md ops Q S ds fuel l' a' w)
  (hi : ops[i]? = some oi := by rfl) (hN : oi.dst = N := by rfl) (hy : YieldsIf P ops S oi v a := by exact Or.inl ⟨by rfl, by (rintro w' ⟨s0, s1, s2, s3, s4, s5, s6, s7, s8, s9, s10⟩; go_simp; with_reducible rfl)⟩) (ha : a.put N v = a' := by (simp only [Act.put, List.setIfInBounds_toArray, List.set_cons_zero, List.set_cons_succ, i64_w, i32_w]; rfl)) (hQ : ∀ c a w, Q (.panic c) (a.put oi.dst v) w → Q (.panic c) a w := by exact (fun _ _ _ h => h)) :
  wpAnyLast P md ops Q S ds (fuel + 1) l a w := take_ l' hi hN hc hQ hy hS ha h
theorem tst12 {i : Nat} {N : Option Tmp} {oi : Oper} {v : Value} {fuel : Nat} {l : Array Bool} {a a' : Act} {w : World} (l' : Array Bool) (hc : takeB md ops ds l l' i = true) (hS : S w) (h : wpAnyLast P md ops Q S ds fuel l' a' w)
  (hi : ops[i]? = some oi := by rfl) (hN : oi.dst = N := by rfl) (hy : YieldsIf P ops S oi v a := by exact Or.inl ⟨by rfl, by (rintro w' ⟨s0, s1, s2, s3, s4, s5, s6, s7, s8, s9, s10, s11⟩; go_simp; with_reducible rfl)⟩) (ha : a.put N v = a' := by (simp only [Act.put, List.setIfInBounds_toArray, List.set_cons_zero, List.set_cons_succ, i64_w, i32_w]; rfl)) (hQ : ∀ c a w, Q (.panic c) (a.put oi.dst v) w → Q (.panic c) a w := by exact (fun _ _ _ h => h)) :
  wpAnyLast P md ops Q S ds (fuel + 1) l a w := take_ l' hi hN hc hQ hy hS ha h
theorem tst13 {i : Nat} {N : Option Tmp} {oi : Oper} {v : Value} {fuel : Nat} {l : Array Bool} {a a' : Act} {w : World} (l' : Array Bool) (hc : takeB md ops ds l l' i = true) (hS : S w) (h : wpAnyLast P md ops Q S ds fuel l' a' w)
  (hi : ops[i]? = some oi := by rfl) (hN : oi.dst = N := by rfl) (hy : YieldsIf P ops S oi v a := by exact Or.inl ⟨by rfl, by (rintro w' ⟨s0, s1, s2, s3, s4, s5, s6, s7, s8, s9, s10, s11, s12⟩; go_simp; with_reducible rfl)⟩) (ha : a.put N v = a' := by (simp only [Act.put, List.setIfInBounds_toArray, List.set_cons_zero, List.set_cons_succ, i64_w, i32_w]; rfl)) (hQ : ∀ c a w, Q (.panic c) (a.put oi.dst v) w → Q (.panic c) a w := by exact (fun _ _ _ h => h)) :
  wpAnyLast P md ops Q S ds (fuel + 1) l a w := take_ l' hi hN hc hQ hy hS ha h
theorem tst14 {i : Nat} {N : Option Tmp} {oi : Oper} {v : Value} {fuel : Nat} {l : Array Bool} {a a' : Act} {w : World} (l' : Array Bool) (hc : takeB md ops ds l l' i = true) (hS : S w) (h : wpAnyLast P md ops Q S ds fuel l' a' w)
  (hi : ops[i]? = some oi := by rfl) (hN : oi.dst = N := by rfl) (hy : YieldsIf P ops S oi v a := by exact Or.inl ⟨by rfl, by (rintro w' ⟨s0, s1, s2, s3, s4, s5, s6, s7, s8, s9, s10, s11, s12, s13⟩; go_simp; with_reducible rfl)⟩) (ha : a.put N v = a' := by (simp only [Act.put, List.setIfInBounds_toArray, List.set_cons_zero, List.set_cons_succ, i64_w, i32_w]; rfl)) (hQ : ∀ c a w, Q (.panic c) (a.put oi.dst v) w → Q (.panic c) a w := by exact (fun _ _ _ h => h)) :
  wpAnyLast P md ops Q S ds (fuel + 1) l a w := take_ l' hi hN hc hQ hy hS ha h
theorem tst15 {i : Nat} {N : Option Tmp} {oi : Oper} {v : Value} {fuel : Nat} {l : Array Bool} {a a' : Act} {w : World} (l' : Array Bool) (hc : takeB md ops ds l l' i = true) (hS : S w) (h : wpAnyLast P md ops Q S ds fuel l' a' w)
  (hi : ops[i]? = some oi := by rfl) (hN : oi.dst = N := by rfl) (hy : YieldsIf P ops S oi v a := by exact Or.inl ⟨by rfl, by (rintro w' ⟨s0, s1, s2, s3, s4, s5, s6, s7, s8, s9, s10, s11, s12, s13, s14⟩; go_simp; with_reducible rfl)⟩) (ha : a.put N v = a' := by (simp only [Act.put, List.setIfInBounds_toArray, List.set_cons_zero, List.set_cons_succ, i64_w, i32_w]; rfl)) (hQ : ∀ c a w, Q (.panic c) (a.put oi.dst v) w → Q (.panic c) a w := by exact (fun _ _ _ h => h)) :
  wpAnyLast P md ops Q S ds (fuel + 1) l a w := take_ l' hi hN hc hQ hy hS ha h
theorem tst16 {i : Nat} {N : Option Tmp} {oi : Oper} {v : Value} {fuel : Nat} {l : Array Bool} {a a' : Act} {w : World} (l' : Array Bool) (hc : takeB md ops ds l l' i = true) (hS : S w) (h : wpAnyLast P md ops Q S ds fuel l' a' w)
  (hi : ops[i]? = some oi := by rfl) (hN : oi.dst = N := by rfl) (hy : YieldsIf P ops S oi v a := by exact Or.inl ⟨by rfl, by (rintro w' ⟨s0, s1, s2, s3, s4, s5, s6, s7, s8, s9, s10, s11, s12, s13, s14, s15⟩; go_simp; with_reducible rfl)⟩) (ha : a.put N v = a' := by (simp only [Act.put, List.setIfInBounds_toArray, List.set_cons_zero, List.set_cons_succ, i64_w, i32_w]; rfl)) (hQ : ∀ c a w, Q (.panic c) (a.put oi.dst v) w → Q (.panic c) a w := by exact (fun _ _ _ h => h)) :
  wpAnyLast P md ops Q S ds (fuel + 1) l a w := take_ l' hi hN hc hQ hy hS ha h
end
end Go.Proofs.YtgdfakmlpdeabaaW.PrintMore

/- More short words: all cells of a box at once; a table that is as it was. -/
namespace Go.Proofs.YtgdfakmlpdeabaaW.PrintMore
open Go.RowKit Go.Proofs.YtgdfakmlpdeabaaW.PrintWords Go.Proofs.YtgdfakmlpdeabaaW.PrintLast
set_option linter.unusedVariables false
section
variable {W : World} {g : Nat} {t : TypeId} {a b c d e f : Value}
theorem bc1 (h : W.heap[g]? = some (.cells #[a] t (0, 0))) : W.cell? ⟨g, 0, none⟩ = some a := (blk_cell h 0).trans rfl
theorem bc2 (h : W.heap[g]? = some (.cells #[a, b] t (0, 0))) : W.cell? ⟨g, 0, none⟩ = some a ∧ W.cell? ⟨g, 1, none⟩ = some b := ⟨(blk_cell h 0).trans rfl, (blk_cell h 1).trans rfl⟩
theorem bc3 (h : W.heap[g]? = some (.cells #[a, b, c] t (0, 0))) : W.cell? ⟨g, 0, none⟩ = some a ∧ W.cell? ⟨g, 1, none⟩ = some b ∧ W.cell? ⟨g, 2, none⟩ = some c := ⟨(blk_cell h 0).trans rfl, (blk_cell h 1).trans rfl, (blk_cell h 2).trans rfl⟩
theorem bc4 (h : W.heap[g]? = some (.cells #[a, b, c, d] t (0, 0))) : W.cell? ⟨g, 0, none⟩ = some a ∧ W.cell? ⟨g, 1, none⟩ = some b ∧ W.cell? ⟨g, 2, none⟩ = some c ∧ W.cell? ⟨g, 3, none⟩ = some d := ⟨(blk_cell h 0).trans rfl, (blk_cell h 1).trans rfl, (blk_cell h 2).trans rfl, (blk_cell h 3).trans rfl⟩
theorem bc5 (h : W.heap[g]? = some (.cells #[a, b, c, d, e] t (0, 0))) : W.cell? ⟨g, 0, none⟩ = some a ∧ W.cell? ⟨g, 1, none⟩ = some b ∧ W.cell? ⟨g, 2, none⟩ = some c ∧ W.cell? ⟨g, 3, none⟩ = some d ∧ W.cell? ⟨g, 4, none⟩ = some e := ⟨(blk_cell h 0).trans rfl, (blk_cell h 1).trans rfl, (blk_cell h 2).trans rfl, (blk_cell h 3).trans rfl, (blk_cell h 4).trans rfl⟩
theorem bc6 (h : W.heap[g]? = some (.cells #[a, b, c, d, e, f] t (0, 0))) : W.cell? ⟨g, 0, none⟩ = some a ∧ W.cell? ⟨g, 1, none⟩ = some b ∧ W.cell? ⟨g, 2, none⟩ = some c ∧ W.cell? ⟨g, 3, none⟩ = some d ∧ W.cell? ⟨g, 4, none⟩ = some e ∧ W.cell? ⟨g, 5, none⟩ = some f := ⟨(blk_cell h 0).trans rfl, (blk_cell h 1).trans rfl, (blk_cell h 2).trans rfl, (blk_cell h 3).trans rfl, (blk_cell h 4).trans rfl, (blk_cell h 5).trans rfl⟩
variable {cs : Array Value}
theorem bf1 (h : W.heap[g]? = some (.cells cs t (0, 0))) : W.frozen? ⟨g, 0, none⟩ = false := blk_frozen h 0
theorem bf2 (h : W.heap[g]? = some (.cells cs t (0, 0))) : W.frozen? ⟨g, 0, none⟩ = false ∧ W.frozen? ⟨g, 1, none⟩ = false := ⟨blk_frozen h 0, blk_frozen h 1⟩
theorem bf3 (h : W.heap[g]? = some (.cells cs t (0, 0))) : W.frozen? ⟨g, 0, none⟩ = false ∧ W.frozen? ⟨g, 1, none⟩ = false ∧ W.frozen? ⟨g, 2, none⟩ = false := ⟨blk_frozen h 0, blk_frozen h 1, blk_frozen h 2⟩
theorem bf4 (h : W.heap[g]? = some (.cells cs t (0, 0))) : W.frozen? ⟨g, 0, none⟩ = false ∧ W.frozen? ⟨g, 1, none⟩ = false ∧ W.frozen? ⟨g, 2, none⟩ = false ∧ W.frozen? ⟨g, 3, none⟩ = false := ⟨blk_frozen h 0, blk_frozen h 1, blk_frozen h 2, blk_frozen h 3⟩
theorem bf5 (h : W.heap[g]? = some (.cells cs t (0, 0))) : W.frozen? ⟨g, 0, none⟩ = false ∧ W.frozen? ⟨g, 1, none⟩ = false ∧ W.frozen? ⟨g, 2, none⟩ = false ∧ W.frozen? ⟨g, 3, none⟩ = false ∧ W.frozen? ⟨g, 4, none⟩ = false := ⟨blk_frozen h 0, blk_frozen h 1, blk_frozen h 2, blk_frozen h 3, blk_frozen h 4⟩
theorem bf6 (h : W.heap[g]? = some (.cells cs t (0, 0))) : W.frozen? ⟨g, 0, none⟩ = false ∧ W.frozen? ⟨g, 1, none⟩ = false ∧ W.frozen? ⟨g, 2, none⟩ = false ∧ W.frozen? ⟨g, 3, none⟩ = false ∧ W.frozen? ⟨g, 4, none⟩ = false ∧ W.frozen? ⟨g, 5, none⟩ = false := ⟨blk_frozen h 0, blk_frozen h 1, blk_frozen h 2, blk_frozen h 3, blk_frozen h 4, blk_frozen h 5⟩
end
end Go.Proofs.YtgdfakmlpdeabaaW.PrintMore
namespace Go.Proofs.Ytgdfakmlpdeabaa
open Go.RowKit Go.Proofs.YtgdfakmlpdeabaaW.PrintWords Go.Proofs.YtgdfakmlpdeabaaW.PrintLast Go.Proofs.YtgdfakmlpdeabaaW.PrintMore
end Go.Proofs.Ytgdfakmlpdeabaa

/- A map of the call's own to bools that holds true alone: a set of key values. -/
namespace Go.Proofs.YtgdfakmlpdeabaaW.PrintMore
open Go.RowKit Go.Proofs.YtgdfakmlpdeabaaW.PrintWords Go.Proofs.YtgdfakmlpdeabaaW.PrintLast
open Go.Maps (Keyed)
open Classical
set_option linter.unusedVariables false
def MSet (P : Program) (kk e : TypeId) (w : World) (b n : Nat) (q : List Value) : Prop :=
 ∃ D : DataW Value, w.ownsMap P kk (plainElem P e) b n D ∧ ∀ v l, keyOf P kk v = some l → ∀ z, D.atKey l z = if v ∈ q then .lit (.bool true) else z
theorem plainElem_bool_inv {P : Program} {e : TypeId} (he : P.underlying e = some .bool) {v : Value} {x : Bool} {ps : List MemPlace} (h : plainElem (H := Value) P e v = some (.lit (.bool x), ps)) : v = .bool x := by
 unfold plainElem at h
 rw [he] at h
 cases v <;> simp_all
section
variable {P : Program} {kk e : TypeId} {w w1 : World} {b n : Nat} {q : List Value}
theorem MSet.lt (h : MSet P kk e w b n q) : b < w.heap.size := by
 obtain ⟨D, h1, _⟩ := h
 exact h1.lt
theorem MSet.made (P : Program) (kk e : TypeId) (w : World) : MSet P kk e (w.alloc (.map #[] 0)) w.heap.size 0 [] :=
 ⟨.map [], World.ownsMap_made w P kk _, fun v l _ z => by rw [if_neg (by simp)]; rfl⟩
theorem MSet.keep (h : MSet P kk e w b n q) (hb : w1.heap[b]? = w.heap[b]?) : MSet P kk e w1 b n q := by
 obtain ⟨D, ⟨es, clock, h1, r⟩, h2⟩ := h
 exact ⟨D, ⟨es, clock, hb.trans h1, r⟩, h2⟩
theorem MSet.below (h : MSet P kk e w b n q) (hb : Below w.heap.size w w1) : MSet P kk e w1 b n q := h.keep (hb.block b h.lt)
theorem MSet.alloc (h : MSet P kk e w b n q) (o : Obj) : MSet P kk e (w.alloc o) b n q := h.below (below_alloc (Below.refl _ _) o)
theorem MSet.drewN (h : MSet P kk e w b n q) (m : Nat) : MSet P kk e (w.drewN m) b n q := h.keep rfl
theorem MSet.drew (h : MSet P kk e w b n q) : MSet P kk e w.drew b n q := h.keep rfl
theorem MSet.grown (h : MSet P kk e w b n q) {row : Option Nat} (hg : w.grownBy w1 row) (hb : some b ≠ row) : MSet P kk e w1 b n q := h.keep (hg.block b h.lt hb)
theorem MSet.mono (h : MSet P kk e w b n q) {n' : Nat} (hn : n ≤ n') : MSet P kk e w b n' q := by
 obtain ⟨D, h1, h2⟩ := h
 exact ⟨D, h1.mono hn, h2⟩
theorem MSet.look {t : TypeId} (h : MSet P kk e w b n q) (K : Keyed P kk) (ht : P.underlying t = some (.map kk e)) (he : P.underlying e = some .bool) (hz : (zeroValue e).run P w = .ok (.bool false) w) {x : Value} {l : Lit} (hk : keyOf P kk x = some l) :
  (Instr.lookup t (.map (some b)) x false).run P w = .ok (.bool (decide (x ∈ q))) w := by
 obtain ⟨D, h1, h2⟩ := h
 obtain ⟨v, ps, hrun, hv⟩ := h1.lookup K ht hz (plainElem_bool he false) hk
 rw [hrun]
 have h3 := h2 x l hk (.lit (.bool false))
 by_cases hx : x ∈ q
 ·
  rw [h3, if_pos hx] at hv
  rw [plainElem_bool_inv he hv, decide_eq_true hx]
 ·
  rw [h3, if_neg hx] at hv
  rw [plainElem_bool_inv he hv, decide_eq_false hx]
theorem MSet.store {t : TypeId} (h : MSet P kk e w b n q) (K : Keyed P kk) (ht : P.underlying t = some (.map kk e)) (he : P.underlying e = some .bool) (hn : n < maxLen) {x : Value} {l : Lit} (hk : keyOf P kk x = some l) :
  ∃ w', (Instr.mapUpdate t (.map (some b)) x (.bool true)).run P w = .ok () w' ∧ MSet P kk e w' b (n + 1) (x :: q) ∧ w.grownBy w' (some b) := by
 obtain ⟨D, h1, h2⟩ := h
 obtain ⟨w', hrun, ho, hg⟩ := h1.update K ht hn hk (plainElem_bool he true)
 refine ⟨w', hrun, ⟨_, ho, fun v l' hl' z => ?_⟩, hg⟩
 by_cases hll : l' = l
 ·
  subst hll
  obtain rfl : v = x := K.inj hl' hk
  rw [Maps.atKey_put_same h1.isMap (K.key hk), if_pos (by simp)]
 ·
  have hne : v ≠ x := fun e => hll (by rw [e, hk] at hl'; exact (Option.some.inj hl').symm)
  rw [Maps.atKey_put_other hll, h2 v l' hl' z]
  by_cases hq : v ∈ q
  ·
   rw [if_pos hq, if_pos (by simp [hq])]
  ·
   rw [if_neg hq, if_neg (by simp [hq, hne])]
end
theorem mset_store {P : Program} {w : World} {ops : Array Oper} {rest : List Oper} {o : Oper} {a : Act} {Q : Exit → Act → World → Prop} {kk e t : TypeId} {b n : Nat} {q : List Value}
  (hg : o.guard = none) (m x v : Operand) (hop : o.op = Op.mapUpdate t m x v ∨ o.op = Op.insert t m x v) (hm : a.eval m = .map (some b)) (u : Value) (hx : a.eval x = u) (hv : a.eval v = .bool true)
  (h : MSet P kk e w b n q) (K : Keyed P kk) (ht : P.underlying t = some (.map kk e)) (he : P.underlying e = some .bool) (hn : n < maxLen) {l : Lit} (hk : keyOf P kk u = some l)
  (hK : ∀ w', MSet P kk e w' b (n + 1) (u :: q) → w.grownBy w' (some b) → wpList P ops Q rest (a.put o.dst undef) w') :
  wpList P ops Q (o :: rest) a w := by
 refine wpList_plain hg fun K' hK' => ?_
 obtain ⟨w', hrun, r1, r2⟩ := h.store K ht he hn hk
 unfold Oper.wp
 rcases hop with hop | hop
 ·
  simp [execOp, hop, hm, hx, hv, hrun, Result.andThen]
  exact hK' _ _ (hK w' r1 r2)
 ·
  simp [execOp, hop, hm, hx, hv, hrun, Result.andThen]
  exact hK' _ _ (hK w' r1 r2)
theorem keyOf_ints {P : Program} {k e : TypeId} {m : Nat} {q : IntKind} (A : WideMaps.ArrKey P k e m) (he : P.underlying e = some (.int q)) (hsz : ∃ m, P.types.size = m + 1) {xs : List Int} (hn : xs.length = m) (hw : ∀ x ∈ xs, (Lit.int q x).wf = true) :
  ∃ l, keyOf P k (.agg (xs.map (Value.int q)).toArray) = some l := by
 have hkt := A.keyType hsz
 obtain ⟨m0, hm0⟩ := hsz
 have hl : ∀ L : List Nat, (∀ i ∈ L, i < xs.length) → ∃ ls : List (List Lit), L.mapM (fun i => P.keyLits (m0 + 1) e (((xs.map (Value.int q)).drop (i * P.cellsOf e)).take (P.cellsOf e))) = some ls := by
  intro L
  induction L with
  | nil => intro _; exact ⟨[], rfl⟩
  | cons i L ih =>
   intro hL
   obtain ⟨ls, h1⟩ := ih (fun j hj => hL j (List.mem_cons_of_mem _ hj))
   have hi : i < xs.length := hL i List.mem_cons_self
   refine ⟨[.int q xs[i]] :: ls, ?_⟩
   rw [List.mapM_cons, h1, A.one, Nat.mul_one]
   have e1 : ((xs.map (Value.int q)).drop i).take 1 = [.int q xs[i]] := by
    rw [List.drop_eq_getElem_cons (by simpa using hi)]
    simp
   rw [e1]
   simp [Program.keyLits, he, hw _ (List.getElem_mem hi)]
 obtain ⟨ls, h1⟩ := hl (List.range m) (fun i hi => by rw [hn]; simpa using hi)
 refine ⟨.string (keyBytes ls.flatten), ?_⟩
 unfold keyOf
 simp only [A.hu]
 rw [if_pos (by simp [hkt, Value.formed, A.hu, A.size, hn]), hm0]
 unfold Program.keyLits
 simp only [A.hu, Value.cells]
 rw [if_pos (by rw [A.size]; simpa using hn)]
 rw [h1]
 rfl
end Go.Proofs.YtgdfakmlpdeabaaW.PrintMore

/- A map of the call's own from strings to bools that holds true alone: a set of texts. -/
namespace Go.Proofs.YtgdfakmlpdeabaaW.PrintMore
section
open Go.RowKit Go.Proofs.YtgdfakmlpdeabaaW.PrintWords Go.Proofs.YtgdfakmlpdeabaaW.PrintLast
open Go.Maps (Keyed)
open Classical
set_option linter.unusedVariables false
def TSet (P : Program) (kk e : TypeId) (w : World) (b : Nat) (q : List ByteArray) : Prop := ∃ n, n ≤ q.length ∧ MSet P kk e w b n (q.map Value.string)
section
variable {P : Program} {kk e : TypeId} {w w1 : World} {b : Nat} {q : List ByteArray}
theorem TSet.lt (h : TSet P kk e w b q) : b < w.heap.size := by
 obtain ⟨n, _, h⟩ := h
 exact h.lt
theorem TSet.keep (h : TSet P kk e w b q) (hb : w1.heap[b]? = w.heap[b]?) : TSet P kk e w1 b q := by
 obtain ⟨n, hn, h⟩ := h
 exact ⟨n, hn, h.keep hb⟩
theorem TSet.below (h : TSet P kk e w b q) (hb : Below w.heap.size w w1) : TSet P kk e w1 b q := h.keep (hb.block b h.lt)
theorem TSet.alloc (h : TSet P kk e w b q) (o : Obj) : TSet P kk e (w.alloc o) b q := h.below (below_alloc (Below.refl _ _) o)
theorem TSet.drewN (h : TSet P kk e w b q) (m : Nat) : TSet P kk e (w.drewN m) b q := h.keep rfl
theorem TSet.drew (h : TSet P kk e w b q) : TSet P kk e w.drew b q := h.keep rfl
theorem TSet.grown (h : TSet P kk e w b q) {row : Option Nat} (hg : w.grownBy w1 row) (hb : some b ≠ row) : TSet P kk e w1 b q := h.keep (hg.block b h.lt hb)
theorem TSet.no_cells (h : TSet P kk e w b q) {cells : Array Value} {t : Nat} (hc : w.heap[b]? = some (.cells cells t (0, 0))) : False := by
 obtain ⟨n, _, D, ⟨es, clock, h3, _⟩, _⟩ := h
 rw [hc] at h3
 cases h3
theorem TSet.ne_box (h : TSet P kk e w b q) {g : Nat} {cells : Array Value} {t : Nat} (hc : w.heap[g]? = some (.cells cells t (0, 0))) : some g ≠ some b := fun he => by
 injection he with he
 subst he
 exact h.no_cells hc
theorem TSet.ne_R {α : Type} {d : Kd α} {E base : Nat} {ok : Nat → Prop} {v : Value} {xs : List α} (h : TSet P kk e w b q) (hr : d.R E w base ok v xs) : some b ≠ v.ownBlock := fun he => by
 obtain ⟨inner, ho⟩ := Kd.R_own hr
 obtain ⟨cells, hc⟩ := own_typed ho b he.symm
 exact h.no_cells hc
theorem TSet.ne_N {α : Type} {d : Kd α} {E base : Nat} {ok : Nat → Prop} {v : Value} {xs : List α} (h : TSet P kk e w b q) (hr : d.N E w base ok v xs) : some b ≠ v.ownBlock := fun he => by
 obtain ⟨cells, hc⟩ := Kd.N_typed hr b he.symm
 exact h.no_cells hc
theorem TSet.away {α : Type} {d : Kd α} {E base : Nat} {ok : Nat → Prop} {v : Value} {xs : List α} (h : TSet P kk e w b q) (hr : d.R E w base ok v xs) : d.R E w base (fun k => ok k ∧ k ≠ b) v xs :=
 Kd.R_mono (Kd.R_bound hr) (fun k hk => ⟨hk.1, fun he => by
  obtain ⟨_, _, _, t, _, cells, hc⟩ := hk
  subst he
  exact h.no_cells hc⟩)
theorem TSet.fresh (h : TSet P kk e w b q) (k : Nat) (hk : w.heap.size ≤ k) : k ≠ b := fun he => by
 have := h.lt
 omega
theorem keyOf_text (hk : P.underlying kk = some .string) {s : ByteArray} (hs : s.size ≤ maxLen) : keyOf P kk (.string s) = some (.string s.data.toList) := by
 simp [keyOf, hk, mapKey, hs]
def inT (s : ByteArray) (q : List ByteArray) : Bool := decide (s.data.toList ∈ q.map fun x => x.data.toList)
theorem inT_iff {s : ByteArray} {q : List ByteArray} : inT s q = true ↔ s ∈ q := by
 unfold inT
 rw [decide_eq_true_eq, List.mem_map]
 constructor
 ·
  rintro ⟨y, hy, e⟩
  have : y = s := by
   rcases y with ⟨⟨y⟩⟩
   rcases s with ⟨⟨s⟩⟩
   simp at e
   rw [e]
  exact this ▸ hy
 ·
  intro h
  exact ⟨s, h, rfl⟩
theorem TSet.look {t : TypeId} (h : TSet P kk e w b q) (hk : P.underlying kk = some .string) (ht : P.underlying t = some (.map kk e)) (he : P.underlying e = some .bool) (hz : (zeroValue e).run P w = .ok (.bool false) w) {s : ByteArray} (hs : s.size ≤ maxLen) :
  (Instr.lookup t (.map (some b)) (.string s) false).run P w = .ok (.bool (inT s q)) w := by
 obtain ⟨n, _, h⟩ := h
 rw [h.look (Maps.string_keyed hk) ht he hz (keyOf_text hk hs)]
 have e1 : (Value.string s ∈ q.map Value.string) ↔ s ∈ q := by
  rw [List.mem_map]
  constructor
  ·
   rintro ⟨y, hy, e⟩
   injection e with e
   exact e ▸ hy
  ·
   intro hy
   exact ⟨s, hy, rfl⟩
 have e2 : decide (Value.string s ∈ q.map Value.string) = inT s q := by rw [Bool.eq_iff_iff, decide_eq_true_eq, e1, inT_iff]
 exact congrArg (fun b => Result.ok (Value.bool b) w) e2
end
section
variable {P : Program} {w : World} {ops : Array Oper} {rest : List Oper} {o : Oper} {a : Act} {Q : Exit → Act → World → Prop} {kk e t : TypeId} {b : Nat} {q : List ByteArray}
theorem gate_insert {m x v : Operand} (_ho : o.op = Op.insert t m x v) (h : wpList P ops Q (o :: rest) a w) : wpList P ops Q (o :: rest) a w := h
theorem tset_make (hg : o.guard = none) (hop : o.op = Op.makeMap t none) (kk e : TypeId)
  (hK : ∀ b w', b = w.heap.size → TSet P kk e w' b [] → Below w.heap.size w w' → wpList P ops Q rest (a.put o.dst (.map (some b))) w') :
  wpList P ops Q (o :: rest) a w := by
 refine wpList_plain hg fun K' hK' => ?_
 unfold Oper.wp
 simp [execOp, hop, run_makeMap, Result.andThen]
 exact hK' _ _ (hK _ _ rfl ⟨0, Nat.le_refl _, MSet.made P kk e w⟩ (below_alloc (Below.refl _ _) _))
theorem tset_store (hg : o.guard = none) (m x v : Operand) (hop : o.op = Op.mapUpdate t m x v ∨ o.op = Op.insert t m x v) (hm : a.eval m = .map (some b)) (s : ByteArray) (hx : a.eval x = .string s) (hv : a.eval v = .bool true)
  (h : TSet P kk e w b q) (hk : P.underlying kk = some .string) (ht : P.underlying t = some (.map kk e)) (he : P.underlying e = some .bool) (hn : q.length < maxLen) (hs : s.size ≤ maxLen)
  (hK : ∀ w', TSet P kk e w' b (s :: q) → w.grownBy w' (some b) → wpList P ops Q rest (a.put o.dst undef) w') :
  wpList P ops Q (o :: rest) a w := by
 obtain ⟨n, hn1, h⟩ := h
 exact mset_store hg m x v hop hm (.string s) hx hv h (Maps.string_keyed hk) ht he (by omega) (keyOf_text hk hs) (fun w' h1 h2 => hK w' ⟨n + 1, by simp; omega, h1⟩ h2)
end
end
end Go.Proofs.YtgdfakmlpdeabaaW.PrintMore

/- Rows of six integers that stand as arrays. -/
namespace Go.Proofs.YtgdfakmlpdeabaaW.PrintMore
set_option linter.unusedVariables false
set_option linter.unusedSimpArgs false
open Go.RowKit Go.Proofs.YtgdfakmlpdeabaaW.PrintWords Go.Proofs.YtgdfakmlpdeabaaW.PrintLast
def ar (s : List Int) : Array Value := (s.map (Value.int .i64)).toArray
theorem ar_size (s : List Int) : (ar s).size = s.length := by simp [ar]
theorem ar_one (s : List Int) : (ar s).all (·.oneCell') = true := by
 rw [Array.all_eq_true]
 intro i hi
 simp only [ar, List.getElem_toArray, List.getElem_map]
 rfl
theorem ar_get (s : List Int) (i : Int) (h0 : 0 ≤ i) (h1 : i < (s.length : Int)) : (ar s)[i.toNat]? = some (.int .i64 (rd s i)) := by
 have h : i.toNat < s.length := by omega
 simp [ar, rd, List.getD_eq_getElem?_getD, h]
theorem ar_set (s : List Int) (i : Nat) (v : Int) : (ar s).setIfInBounds i (.int .i64 v) = ar (s.set i v) := by
 simp [ar, List.map_set]
theorem six_of {s : List Int} (h : s.length = 6) : ∃ a b c d e f : Int, s = [a, b, c, d, e, f] := by
 match s, h with
 | [a, b, c, d, e, f], _ => exact ⟨a, b, c, d, e, f, rfl⟩
def six (l : List Int) : List Int := [rd l 0, rd l 1, rd l 2, rd l 3, rd l 4, rd l 5]
theorem six_len (l : List Int) : (six l).length = 6 := rfl
def tup6 (s : List Int) : Int × Int × Int × Int × Int × Int := (rd s 0, rd s 1, rd s 2, rd s 3, rd s 4, rd s 5)
theorem drop_rd {l : List Int} {x : Int} (h0 : 0 ≤ x) (h1 : x < (l.length : Int)) : l.drop x.toNat = rd l x :: l.drop (x + 1).toNat := by
 have h : x.toNat < l.length := by omega
 rw [List.drop_eq_getElem_cons h, show (x + 1).toNat = x.toNat + 1 by omega]
 simp [rd, List.getD_eq_getElem?_getD, h]
def wf6 (s : List Int) : Prop := ∀ x ∈ s, -9223372036854775808 ≤ x ∧ x ≤ 9223372036854775807
instance (s : List Int) : Decidable (wf6 s) := inferInstanceAs (Decidable (∀ x ∈ s, _))
def lxLe : List Int → List Int → Bool
 | [], _ => true
 | _ :: _, [] => false
 | a :: s, b :: t => decide (a < b) || (decide (a = b) && lxLe s t)
theorem index_ar {P : Program} {t e : TypeId} {n : Nat} (hu : P.underlying t = some (.array n e)) (hz : ∀ w, (Go.sizeOf e).run P w = .ok 1 w) (ha : ∀ w, (isAgg e).run P w = .ok false w) (s : List Int) (i : Int) (h0 : 0 ≤ i) (h1 : i < n) (h2 : s.length = n) (W : World) :
  (Instr.index t (.agg (ar s)) (.int .i64 i)).run P W = .ok (.int .i64 (rd s i)) W := by
 have hg := ar_get s i h0 (by omega)
 simp [Instr.index, run_underlying hu, asIntOf, h0, h1, part, hz, ha, hg, go_sem]
end Go.Proofs.YtgdfakmlpdeabaaW.PrintMore

-- Written by wip/xprint.py of this repo, over the kit's print.py: out of the translation; the oracles in it are by hand. Not trusted: Lean checks it.
namespace Go.Proofs.Ytgdfakmlpdeabaa.XKey
open Go.RowKit Go.Proofs.YtgdfakmlpdeabaaW.PrintWords Go.Proofs.YtgdfakmlpdeabaaW.PrintLast Go.Proofs.YtgdfakmlpdeabaaW.PrintMore
attribute [local go_sem] max2_int min2_int max_two min_two max_three min_three max_four min_four   -- for this text's walks alone
set_option linter.unusedVariables false
set_option linter.unusedSimpArgs false



def errW : Option Int → Value
 | none => .nilIface
 | some c => .iface 0 (.int .i64 c)
theorem errW_none : errW none = .nilIface := rfl
theorem errW_some (c : Int) : errW (some c) = .iface 0 (.int .i64 c) := rfl

theorem info3 : (Try.prog.info? 3).map (fun i => (i.zero, i.size, i.bytes)) = some (some (.int .i64 0), 1, 8) := by kernel_rfl
theorem info25 : (Try.prog.info? 25).map (fun i => (i.zero, i.size, i.bytes)) = some (some (.slice none 0 0), 1, 24) := by kernel_rfl
theorem info87 : (Try.prog.info? 87).map (fun i => (i.zero, i.size, i.bytes)) = some (some (.agg #[(.slice none 0 0), (.slice none 0 0)]), 2, 48) := by kernel_rfl
-- the values' own types
def rd_L1 (xs : List (List Int)) (i : Int) : (List Int) := xs.getD i.toNat ([] : List Int)
theorem at_L1 {w : World} {A : Option Addr} {n : Nat} {xs : List (List Int)} (h : Kd.C (Kd.slice 3 (Kd.int .i64)) w A n xs) (i : Int) (h0 : 0 ≤ i) (h1 : i < n) : ∃ ad A0 c0, A = some ad ∧ w.cell? (ad.add i.toNat) = some (.slice A0 (rd_L1 xs i).length c0) ∧ (rd_L1 xs i).length ≤ c0 ∧ (Kd.int .i64).C w A0 (rd_L1 xs i).length (rd_L1 xs i) := by
 obtain ⟨ad, c, e, _, hK, hc0⟩ := Kd.C_get h ([] : List Int) i h0 h1
 have hc : ∀ j u, c[j]? = some u → w.cell? (ad.add (i.toNat * 1 + j)) = some u := hc0
 obtain ⟨A0, c0, rfl, l0, g0⟩ := hK
 exact ⟨ad, A0, c0, e, by have hq := hc 0 _ rfl; rwa [Nat.mul_one, Nat.add_zero] at hq, l0, g0⟩

/-! #### struct type 70 -/
structure S70 where
 f0 : Int
 f1 : Int
 f2 : Int
 f3 : Int
 f4 : Int
 f5 : Int
def z70 : S70 := ⟨(0 : Int), (0 : Int), (0 : Int), (0 : Int), (0 : Int), (0 : Int)⟩
def k70 : Kd S70 := Kd.iso (Kd.pair (Kd.int .i64) (Kd.pair (Kd.int .i64) (Kd.pair (Kd.int .i64) (Kd.pair (Kd.int .i64) (Kd.pair (Kd.int .i64) (Kd.int .i64)))))) (fun x : S70 => (x.f0, x.f1, x.f2, x.f3, x.f4, x.f5))
theorem k70_open {w : World} {x : S70} {cs : List Value} (h : k70.K w x cs) : cs = [.int .i64 x.f0, .int .i64 x.f1, .int .i64 x.f2, .int .i64 x.f3, .int .i64 x.f4, .int .i64 x.f5] := by
 obtain ⟨_, _, rfl, rfl, ⟨_, _, rfl, rfl, ⟨_, _, rfl, rfl, ⟨_, _, rfl, rfl, ⟨_, _, rfl, rfl, rfl⟩⟩⟩⟩⟩ := h
 exact rfl
theorem k70_openM {w : World} {base : Nat} {ok : Nat → Prop} {x : S70} {cs : List Value} (h : k70.M w base ok x cs) : cs = [.int .i64 x.f0, .int .i64 x.f1, .int .i64 x.f2, .int .i64 x.f3, .int .i64 x.f4, .int .i64 x.f5] := by
 obtain ⟨_, _, rfl, rfl, ⟨_, _, rfl, rfl, ⟨_, _, rfl, rfl, ⟨_, _, rfl, rfl, ⟨_, _, rfl, rfl, rfl⟩⟩⟩⟩⟩ := h
 exact rfl
theorem k70_mk (w : World) (x : S70)  : k70.K w x [.int .i64 x.f0, .int .i64 x.f1, .int .i64 x.f2, .int .i64 x.f3, .int .i64 x.f4, .int .i64 x.f5] := ⟨[.int .i64 x.f0], [.int .i64 x.f1, .int .i64 x.f2, .int .i64 x.f3, .int .i64 x.f4, .int .i64 x.f5], rfl, rfl, ⟨[.int .i64 x.f1], [.int .i64 x.f2, .int .i64 x.f3, .int .i64 x.f4, .int .i64 x.f5], rfl, rfl, ⟨[.int .i64 x.f2], [.int .i64 x.f3, .int .i64 x.f4, .int .i64 x.f5], rfl, rfl, ⟨[.int .i64 x.f3], [.int .i64 x.f4, .int .i64 x.f5], rfl, rfl, ⟨[.int .i64 x.f4], [.int .i64 x.f5], rfl, rfl, rfl⟩⟩⟩⟩⟩
theorem k70_mkM (w : World) (base : Nat) (ok : Nat → Prop) (x : S70)  : k70.M w base ok x [.int .i64 x.f0, .int .i64 x.f1, .int .i64 x.f2, .int .i64 x.f3, .int .i64 x.f4, .int .i64 x.f5] := ⟨[.int .i64 x.f0], [.int .i64 x.f1, .int .i64 x.f2, .int .i64 x.f3, .int .i64 x.f4, .int .i64 x.f5], rfl, rfl, ⟨[.int .i64 x.f1], [.int .i64 x.f2, .int .i64 x.f3, .int .i64 x.f4, .int .i64 x.f5], rfl, rfl, ⟨[.int .i64 x.f2], [.int .i64 x.f3, .int .i64 x.f4, .int .i64 x.f5], rfl, rfl, ⟨[.int .i64 x.f3], [.int .i64 x.f4, .int .i64 x.f5], rfl, rfl, ⟨[.int .i64 x.f4], [.int .i64 x.f5], rfl, rfl, rfl⟩⟩⟩⟩⟩
def rd_T70 (xs : List S70) (i : Int) : S70 := xs.getD i.toNat z70
theorem at_T70 {w : World} {A : Option Addr} {n : Nat} {xs : List S70} (h : Kd.C k70 w A n xs) (i : Int) (h0 : 0 ≤ i) (h1 : i < n) : ∃ ad , A = some ad ∧ w.cell? (ad.add (i.toNat * 6)) = some (.int .i64 (rd_T70 xs i).f0) ∧ w.cell? ⟨(ad.add (i.toNat * 6)).block, (ad.add (i.toNat * 6)).off + 1, none⟩ = some (.int .i64 (rd_T70 xs i).f1) ∧ w.cell? ⟨(ad.add (i.toNat * 6)).block, (ad.add (i.toNat * 6)).off + 2, none⟩ = some (.int .i64 (rd_T70 xs i).f2) ∧ w.cell? ⟨(ad.add (i.toNat * 6)).block, (ad.add (i.toNat * 6)).off + 3, none⟩ = some (.int .i64 (rd_T70 xs i).f3) ∧ w.cell? ⟨(ad.add (i.toNat * 6)).block, (ad.add (i.toNat * 6)).off + 4, none⟩ = some (.int .i64 (rd_T70 xs i).f4) ∧ w.cell? ⟨(ad.add (i.toNat * 6)).block, (ad.add (i.toNat * 6)).off + 5, none⟩ = some (.int .i64 (rd_T70 xs i).f5) := by
 obtain ⟨ad, c, e, _, hK, hc0⟩ := Kd.C_get h z70 i h0 h1
 have hc : ∀ j u, c[j]? = some u → w.cell? (ad.add (i.toNat * 6 + j)) = some u := hc0
 obtain rfl := k70_open hK
 exact ⟨ad, e, hc 0 _ rfl, by rw [← add_field _ _ 1 (by omega)]; exact hc 1 _ rfl, by rw [← add_field _ _ 2 (by omega)]; exact hc 2 _ rfl, by rw [← add_field _ _ 3 (by omega)]; exact hc 3 _ rfl, by rw [← add_field _ _ 4 (by omega)]; exact hc 4 _ rfl, by rw [← add_field _ _ 5 (by omega)]; exact hc 5 _ rfl⟩

/-! #### struct type 107 -/
structure S107 where
 f0 : Int
 f1 : Int
def z107 : S107 := ⟨(0 : Int), (0 : Int)⟩
def k107 : Kd S107 := Kd.iso (Kd.pair (Kd.int .i64) (Kd.int .i64)) (fun x : S107 => (x.f0, x.f1))
theorem k107_open {w : World} {x : S107} {cs : List Value} (h : k107.K w x cs) : cs = [.int .i64 x.f0, .int .i64 x.f1] := by
 obtain ⟨_, _, rfl, rfl, rfl⟩ := h
 exact rfl
theorem k107_mkM (w : World) (base : Nat) (ok : Nat → Prop) (x : S107)  : k107.M w base ok x [.int .i64 x.f0, .int .i64 x.f1] := ⟨[.int .i64 x.f0], [.int .i64 x.f1], rfl, rfl, rfl⟩
def rd_T107 (xs : List S107) (i : Int) : S107 := xs.getD i.toNat z107
theorem at_T107 {w : World} {A : Option Addr} {n : Nat} {xs : List S107} (h : Kd.C k107 w A n xs) (i : Int) (h0 : 0 ≤ i) (h1 : i < n) : ∃ ad , A = some ad ∧ w.cell? (ad.add (i.toNat * 2)) = some (.int .i64 (rd_T107 xs i).f0) ∧ w.cell? ⟨(ad.add (i.toNat * 2)).block, (ad.add (i.toNat * 2)).off + 1, none⟩ = some (.int .i64 (rd_T107 xs i).f1) := by
 obtain ⟨ad, c, e, _, hK, hc0⟩ := Kd.C_get h z107 i h0 h1
 have hc : ∀ j u, c[j]? = some u → w.cell? (ad.add (i.toNat * 2 + j)) = some u := hc0
 obtain rfl := k107_open hK
 exact ⟨ad, e, hc 0 _ rfl, by rw [← add_field _ _ 1 (by omega)]; exact hc 1 _ rfl⟩

/-! #### struct type 64 -/
structure S64 where
 f0 : (List Int)
 f1 : (List Int)
def z64 : S64 := ⟨([] : List Int), ([] : List Int)⟩
def k64 : Kd S64 := Kd.iso (Kd.pair (Kd.slice 3 (Kd.int .i64)) (Kd.slice 3 (Kd.int .i64))) (fun x : S64 => (x.f0, x.f1))
theorem k64_open {w : World} {x : S64} {cs : List Value} (h : k64.K w x cs) : ∃ A0 c0 A1 c1, cs = [.slice A0 x.f0.length c0, .slice A1 x.f1.length c1] ∧ x.f0.length ≤ c0 ∧ (Kd.int .i64).C w A0 x.f0.length x.f0 ∧ x.f1.length ≤ c1 ∧ (Kd.int .i64).C w A1 x.f1.length x.f1 := by
 obtain ⟨_, _, rfl, ⟨A0, c0, rfl, l0, g0⟩, ⟨A1, c1, rfl, l1, g1⟩⟩ := h
 exact ⟨A0, c0, A1, c1, rfl, l0, g0, l1, g1⟩
theorem k64_mk (w : World) (x : S64) {A0 : Option Addr} {c0 : Nat} (l0 : x.f0.length ≤ c0) (g0 : (Kd.int .i64).C w A0 x.f0.length x.f0) {A1 : Option Addr} {c1 : Nat} (l1 : x.f1.length ≤ c1) (g1 : (Kd.int .i64).C w A1 x.f1.length x.f1) : k64.K w x [.slice A0 x.f0.length c0, .slice A1 x.f1.length c1] := ⟨[.slice A0 x.f0.length c0], [.slice A1 x.f1.length c1], rfl, ⟨A0, c0, rfl, l0, g0⟩, ⟨A1, c1, rfl, l1, g1⟩⟩
theorem k64_mkF (W : World) (ok : Nat → Prop) (x : S64) {A0 : Option Addr} {c0 : Nat} (l0 : x.f0.length ≤ c0) (g0 : Kd.F (Kd.int .i64) W ok A0 x.f0.length x.f0) {A1 : Option Addr} {c1 : Nat} (l1 : x.f1.length ≤ c1) (g1 : Kd.F (Kd.int .i64) W ok A1 x.f1.length x.f1) : Kd.FK k64 W ok x [.slice A0 x.f0.length c0, .slice A1 x.f1.length c1] := fun W2 hW => k64_mk W2 x l0 (g0 W2 hW) l1 (g1 W2 hW)
def rd_T64 (xs : List S64) (i : Int) : S64 := xs.getD i.toNat z64
theorem at_T64 {w : World} {A : Option Addr} {n : Nat} {xs : List S64} (h : Kd.C k64 w A n xs) (i : Int) (h0 : 0 ≤ i) (h1 : i < n) : ∃ ad A0 c0 A1 c1, A = some ad ∧ w.cell? (ad.add (i.toNat * 2)) = some (.slice A0 (rd_T64 xs i).f0.length c0) ∧ w.cell? ⟨(ad.add (i.toNat * 2)).block, (ad.add (i.toNat * 2)).off + 1, none⟩ = some (.slice A1 (rd_T64 xs i).f1.length c1) ∧ (rd_T64 xs i).f0.length ≤ c0 ∧ (Kd.int .i64).C w A0 (rd_T64 xs i).f0.length (rd_T64 xs i).f0 ∧ (rd_T64 xs i).f1.length ≤ c1 ∧ (Kd.int .i64).C w A1 (rd_T64 xs i).f1.length (rd_T64 xs i).f1 := by
 obtain ⟨ad, c, e, _, hK, hc0⟩ := Kd.C_get h z64 i h0 h1
 have hc : ∀ j u, c[j]? = some u → w.cell? (ad.add (i.toNat * 2 + j)) = some u := hc0
 obtain ⟨A0, c0, A1, c1, rfl, l0, g0, l1, g1⟩ := k64_open hK
 exact ⟨ad, A0, c0, A1, c1, e, hc 0 _ rfl, by rw [← add_field _ _ 1 (by omega)]; exact hc 1 _ rfl, l0, g0, l1, g1⟩

/-! #### struct type 87 -/
structure S87 where
 f0 : (List Int)
 f1 : (List Int)
def z87 : S87 := ⟨([] : List Int), ([] : List Int)⟩
def k87 : Kd S87 := Kd.iso (Kd.pair (Kd.slice 3 (Kd.int .i64)) (Kd.slice 3 (Kd.int .i64))) (fun x : S87 => (x.f0, x.f1))
theorem k87_open {w : World} {x : S87} {cs : List Value} (h : k87.K w x cs) : ∃ A0 c0 A1 c1, cs = [.slice A0 x.f0.length c0, .slice A1 x.f1.length c1] ∧ x.f0.length ≤ c0 ∧ (Kd.int .i64).C w A0 x.f0.length x.f0 ∧ x.f1.length ≤ c1 ∧ (Kd.int .i64).C w A1 x.f1.length x.f1 := by
 obtain ⟨_, _, rfl, ⟨A0, c0, rfl, l0, g0⟩, ⟨A1, c1, rfl, l1, g1⟩⟩ := h
 exact ⟨A0, c0, A1, c1, rfl, l0, g0, l1, g1⟩
theorem k87_mk (w : World) (x : S87) {A0 : Option Addr} {c0 : Nat} (l0 : x.f0.length ≤ c0) (g0 : (Kd.int .i64).C w A0 x.f0.length x.f0) {A1 : Option Addr} {c1 : Nat} (l1 : x.f1.length ≤ c1) (g1 : (Kd.int .i64).C w A1 x.f1.length x.f1) : k87.K w x [.slice A0 x.f0.length c0, .slice A1 x.f1.length c1] := ⟨[.slice A0 x.f0.length c0], [.slice A1 x.f1.length c1], rfl, ⟨A0, c0, rfl, l0, g0⟩, ⟨A1, c1, rfl, l1, g1⟩⟩
theorem k87_openF {W : World} {ok : Nat → Prop} {x : S87} {cs : List Value} (h : Kd.FK k87 W ok x cs) : ∃ A0 c0 A1 c1, cs = [.slice A0 x.f0.length c0, .slice A1 x.f1.length c1] ∧ x.f0.length ≤ c0 ∧ Kd.F (Kd.int .i64) W ok A0 x.f0.length x.f0 ∧ x.f1.length ≤ c1 ∧ Kd.F (Kd.int .i64) W ok A1 x.f1.length x.f1 := by
 obtain ⟨A0, c0, A1, c1, rfl, l0, _, l1, _⟩ := k87_open (Kd.FK_now h)
 exact ⟨A0, c0, A1, c1, rfl, l0, (fun W' hW => by obtain ⟨A0_, c0_, A1_, c1_, he, l0_, g0_, l1_, g1_⟩ := k87_open (h W' hW); injection (Option.some.inj (show some (Value.slice A0 x.f0.length c0) = some (Value.slice A0_ x.f0.length c0_) from congrArg (fun l => l[0]?) he)) with ha_ _ _; rw [ha_]; exact g0_), l1, (fun W' hW => by obtain ⟨A0_, c0_, A1_, c1_, he, l0_, g0_, l1_, g1_⟩ := k87_open (h W' hW); injection (Option.some.inj (show some (Value.slice A1 x.f1.length c1) = some (Value.slice A1_ x.f1.length c1_) from congrArg (fun l => l[1]?) he)) with ha_ _ _; rw [ha_]; exact g1_)⟩
theorem k87_mkF (W : World) (ok : Nat → Prop) (x : S87) {A0 : Option Addr} {c0 : Nat} (l0 : x.f0.length ≤ c0) (g0 : Kd.F (Kd.int .i64) W ok A0 x.f0.length x.f0) {A1 : Option Addr} {c1 : Nat} (l1 : x.f1.length ≤ c1) (g1 : Kd.F (Kd.int .i64) W ok A1 x.f1.length x.f1) : Kd.FK k87 W ok x [.slice A0 x.f0.length c0, .slice A1 x.f1.length c1] := fun W2 hW => k87_mk W2 x l0 (g0 W2 hW) l1 (g1 W2 hW)
def rd_T87 (xs : List S87) (i : Int) : S87 := xs.getD i.toNat z87
theorem at_T87 {w : World} {A : Option Addr} {n : Nat} {xs : List S87} (h : Kd.C k87 w A n xs) (i : Int) (h0 : 0 ≤ i) (h1 : i < n) : ∃ ad A0 c0 A1 c1, A = some ad ∧ w.cell? (ad.add (i.toNat * 2)) = some (.slice A0 (rd_T87 xs i).f0.length c0) ∧ w.cell? ⟨(ad.add (i.toNat * 2)).block, (ad.add (i.toNat * 2)).off + 1, none⟩ = some (.slice A1 (rd_T87 xs i).f1.length c1) ∧ (rd_T87 xs i).f0.length ≤ c0 ∧ (Kd.int .i64).C w A0 (rd_T87 xs i).f0.length (rd_T87 xs i).f0 ∧ (rd_T87 xs i).f1.length ≤ c1 ∧ (Kd.int .i64).C w A1 (rd_T87 xs i).f1.length (rd_T87 xs i).f1 := by
 obtain ⟨ad, c, e, _, hK, hc0⟩ := Kd.C_get h z87 i h0 h1
 have hc : ∀ j u, c[j]? = some u → w.cell? (ad.add (i.toNat * 2 + j)) = some u := hc0
 obtain ⟨A0, c0, A1, c1, rfl, l0, g0, l1, g1⟩ := k87_open hK
 exact ⟨ad, A0, c0, A1, c1, e, hc 0 _ rfl, by rw [← add_field _ _ 1 (by omega)]; exact hc 1 _ rfl, l0, g0, l1, g1⟩

end Go.Proofs.Ytgdfakmlpdeabaa.XKey

/-
 DERIVED: THE SHELF's CONTRACTS AT THIS DUMP, IN PLAIN WORDS (tools/lay-plain.mjs out of 'YtgdfakmlpdeabaaSort.lean', which tools/lay-shelf.mjs wrote): THE SAME DECLARATIONS UNDER THE SAME NAMES: 'import', 'namespace', 'open', 'def', 'theorem' AND NOTHING ELSE: no command of the shelf's: FOR A HAND-IN. Each laying: the table of numbers ('.._ren') and one theorem, a field a fact of the dump's own or the kernel's comparison; each contract: ONE APPLICATION.
-/
namespace Go.Proofs
open Go.Shelf
def Try.sortCh_ren : Go.Shelf.Ren := ⟨fun | 6 => 88 | 15 => 101 | 14 => 100 | 28 => 112 | 29 => 113 | 20 => 104 | 21 => 105 | 22 => 106 | 23 => 107 | 24 => 108 | 25 => 109 | 26 => 110 | 27 => 111 | 46 => 115 | 47 => 116 | 48 => 117 | 49 => 118 | 50 => 119 | 57 => 120 | n => n, fun | 22 => 65 | 24 => 70 | 25 => 104 | 3 => 3 | 39 => 118 | 0 => 0 | 53 => 130 | 55 => 132 | 4 => 4 | 46 => 123 | 45 => 122 | 50 => 127 | 5 => 5 | 9 => 9 | 66 => 133 | 70 => 137 | 76 => 139 | 77 => 140 | n => n, fun | n => n⟩
theorem Try.sortCh : Go.Proofs.SlLaysF0.n6 Try.prog Try.sortCh_ren := {
 mixed := by kernel_rfl
 f6 := ⟨Try.f88.name, by decide, Try.func88.trans (congrArg some (by kernel_rfl))⟩
 f14 := ⟨Try.f100.name, by decide, Try.func100.trans (congrArg some (by kernel_rfl))⟩
 f15 := Try.func101.trans (congrArg some (by kernel_rfl))
 f20 := ⟨Try.f104.name, by decide, Try.func104.trans (congrArg some (by kernel_rfl))⟩
 f21 := ⟨Try.f105.name, by decide, Try.func105.trans (congrArg some (by kernel_rfl))⟩
 f22 := ⟨Try.f106.name, by decide, Try.func106.trans (congrArg some (by kernel_rfl))⟩
 f23 := ⟨Try.f107.name, by decide, Try.func107.trans (congrArg some (by kernel_rfl))⟩
 f24 := ⟨Try.f108.name, by decide, Try.func108.trans (congrArg some (by kernel_rfl))⟩
 f25 := ⟨Try.f109.name, by decide, Try.func109.trans (congrArg some (by kernel_rfl))⟩
 f26 := ⟨Try.f110.name, by decide, Try.func110.trans (congrArg some (by kernel_rfl))⟩
 f27 := ⟨Try.f111.name, by decide, Try.func111.trans (congrArg some (by kernel_rfl))⟩
 f28 := Try.func112.trans (congrArg some (by kernel_rfl))
 f29 := Try.func113.trans (congrArg some (by kernel_rfl))
 f46 := ⟨Try.f115.name, by decide, Try.func115.trans (congrArg some (by kernel_rfl))⟩
 f47 := Try.func116.trans (congrArg some (by kernel_rfl))
 f48 := Try.func117.trans (congrArg some (by kernel_rfl))
 f49 := ⟨Try.f118.name, by decide, Try.func118.trans (congrArg some (by kernel_rfl))⟩
 f50 := ⟨Try.f119.name, by decide, Try.func119.trans (congrArg some (by kernel_rfl))⟩
 f57 := ⟨Try.f120.name, by decide, Try.func120.trans (congrArg some (by kernel_rfl))⟩
 t0 := Try.underlying0
 a0 := Try.isAgg0
 z0 := Try.sizeOf0
 v0 := Try.zeroValue0
 t3 := Try.underlying3
 a3 := Try.isAgg3
 z3 := Try.sizeOf3
 v3 := Try.zeroValue3
 t4 := Try.underlying4
 a4 := Try.isAgg4
 z4 := Try.sizeOf4
 v4 := Try.zeroValue4
 t5 := Try.underlying5
 a5 := Try.isAgg5
 z5 := Try.sizeOf5
 v5 := Try.zeroValue5
 t9 := Try.underlying9
 a9 := Try.isAgg9
 z9 := Try.sizeOf9
 v9 := Try.zeroValue9
 t22 := Try.underlying65
 a22 := Try.isAgg65
 z22 := Try.sizeOf65
 v22 := Try.zeroValue65
 t25 := Try.underlying104
 a25 := Try.isAgg104
 z25 := Try.sizeOf104
 v25 := Try.zeroValue104
 t39 := Try.underlying118
 a39 := Try.isAgg118
 z39 := Try.sizeOf118
 v39 := Try.zeroValue118
 t45 := Try.underlying122
 a45 := Try.isAgg122
 z45 := Try.sizeOf122
 v45 := Try.zeroValue122
 t46 := Try.underlying123
 a46 := Try.isAgg123
 z46 := Try.sizeOf123
 v46 := Try.zeroValue123
 t50 := Try.underlying127
 a50 := Try.isAgg127
 z50 := Try.sizeOf127
 v50 := Try.zeroValue127
 t53 := Try.underlying130
 a53 := Try.isAgg130
 z53 := Try.sizeOf130
 v53 := Try.zeroValue130
 t55 := Try.underlying132
 a55 := Try.isAgg132
 z55 := Try.sizeOf132
 v55 := Try.zeroValue132
 t66 := Try.underlying133
 a66 := Try.isAgg133
 z66 := Try.sizeOf133
 v66 := Try.zeroValue133
 t70 := Try.underlying137
 a70 := Try.isAgg137
 z70 := Try.sizeOf137
 v70 := Try.zeroValue137
 t76 := Try.underlying139
 a76 := Try.isAgg139
 z76 := Try.sizeOf139
 v76 := Try.zeroValue139
 t77 := Try.underlying140
 a77 := Try.isAgg140
 z77 := Try.sizeOf140
 v77 := Try.zeroValue140 }
end Go.Proofs

/- A row of the call's own whose elements have k cells each, for the shelf's sorts: from the print's word on it (Kd.R) to the shelf's (HoldsK, SWK) and back. -/
namespace Go.Proofs.YtgdfakmlpdeabaaW.PrintMore
set_option linter.unusedVariables false
set_option linter.unusedSimpArgs false
open Go.RowKit Go.Proofs.YtgdfakmlpdeabaaW.PrintWords Go.Proofs.YtgdfakmlpdeabaaW.PrintLast Go.Sort Go.Shelf
section
variable {α : Type} [Inhabited α] {enc : α → List Value} {k : Nat}
omit [Inhabited α] in
theorem flat_len (hk : ∀ x, (enc x).length = k) : ∀ xs : List α, (xs.flatMap enc).length = xs.length * k
 | [] => by simp
 | x :: xs => by rw [List.flatMap_cons, List.length_append, hk, flat_len hk xs, List.length_cons, Nat.add_mul, Nat.one_mul, Nat.add_comm]
theorem flat_get (hk : ∀ x, (enc x).length = k) (h0 : 0 < k) : ∀ (xs : List α) (t : Nat), t < xs.length * k → (xs.flatMap enc)[t]? = some ((enc (xs.toArray[t / k]!))[t % k]!)
 | [], t, h => by simp at h
 | x :: xs, t, h => by
  rw [List.flatMap_cons]
  rcases Nat.lt_or_ge t k with hl | hl
  ·
   rw [List.getElem?_append_left (by rw [hk]; exact hl), Nat.div_eq_of_lt hl, Nat.mod_eq_of_lt hl]
   have h1 : t < (enc x).length := by rw [hk]; exact hl
   simp [List.getElem?_eq_getElem h1, getElem!_pos (enc x) t h1]
  ·
   rw [List.getElem?_append_right (by rw [hk]; exact hl), hk]
   have h2 : t - k < xs.length * k := by rw [List.length_cons, Nat.add_mul, Nat.one_mul] at h; omega
   rw [flat_get hk h0 xs (t - k) h2]
   have e1 : t / k = (t - k) / k + 1 := Nat.div_eq_sub_div h0 hl
   have e2 : t % k = (t - k) % k := Nat.mod_eq_sub_mod hl
   rw [e1, e2]
   simp
theorem holdsK_of_block (hk : ∀ x, (enc x).length = k) (h0 : 0 < k) {w : World} {g : Nat} {cur : Array Value} {e : TypeId} {xs : List α} (hb : w.heap[g]? = some (.cells cur e (0, 0))) (ht : cur.toList.take (xs.length * k) = xs.flatMap enc) : HoldsK enc k w g 0 xs.toArray := by
 intro j hj
 have hj' : j < xs.length * k := by simpa using hj
 refine ⟨?_, by simp [World.frozen?, hb]⟩
 have h1 : (cur.toList.take (xs.length * k))[j]? = (xs.flatMap enc)[j]? := by rw [ht]
 rw [List.getElem?_take_of_lt hj', flat_get hk h0 xs j hj'] at h1
 simp only [World.cell?, hb, Nat.zero_add]
 simp only [Option.isSome_none, Bool.false_eq_true, if_false]
 rw [← Array.getElem?_toList, h1, get_flatK enc k xs.toArray j (by simpa using hj')]
 rfl
theorem heap_sortedK {w : World} {g n : Nat} {os : Array Obj} {cur : Array Value} {e : TypeId} {fr : Nat × Nat} (d : Array α) (hb : w.heap[g]? = some (.cells cur e fr)) :
  (sortWorldK enc k w g 0 n d os).heap[g]? = some (.cells (putCells id 0 (flatK enc k d) cur) e fr) := by
 have hg : g < w.heap.size := (Array.getElem?_eq_some_iff.1 hb).1
 unfold sortWorldK putRowK
 rw [heap_grow_old _ _ (by simpa using hg)]
 simp [putRow, mapBlock, Sort.ahead, Array.getElem?_modify, hb, onCells]
theorem grownBy_sortedK {w : World} {g n : Nat} {os : Array Obj} (d : Array α) : w.grownBy (sortWorldK enc k w g 0 n d os) (some g) := by
 unfold sortWorldK putRowK
 refine ⟨rfl, rfl, rfl, by simp, fun j hk hne => ?_⟩
 rw [heap_grow_old _ _ (by simpa using hk)]
 have : g ≠ j := fun e => hne (by rw [e])
 simp [putRow, mapBlock, Sort.ahead, Array.getElem?_modify, this]
theorem take_putCellsK (hk : ∀ x, (enc x).length = k) (h0 : 0 < k) (cur : Array Value) (ys : List α) (h : ys.length * k ≤ cur.size) : (putCells id 0 (flatK enc k ys.toArray) cur).toList.take (ys.length * k) = ys.flatMap enc := by
 apply List.ext_getElem?
 intro j
 by_cases hj : j < ys.length * k
 ·
  rw [List.getElem?_take_of_lt hj, Array.getElem?_toList, flat_get hk h0 ys j hj, ← get_flatK enc k ys.toArray j (by simpa using hj)]
  have hc : j < cur.size := by omega
  have hz : 0 ≤ j ∧ j < 0 + (flatK enc k ys.toArray).size := by rw [size_flatK]; simpa using hj
  simp only [putCells, Array.getElem?_mapIdx, Array.getElem?_eq_getElem hc, Option.map_some]
  rw [if_pos hz]
  rfl
 ·
  rw [List.getElem?_take_eq_none (by omega), List.getElem?_eq_none (by rw [flat_len hk]; omega)]
structure Flat (d : Kd α) (enc : α → List Value) (k : Nat) : Prop where
 sz : d.sz = k
 k0 : 0 < k
 one : ∀ x, ∀ u ∈ enc x, u.oneCell' = true
 len : ∀ x, (enc x).length = k
 open_ : ∀ {w : World} {base : Nat} {ok : Nat → Prop} {x : α} {cs : List Value}, d.M w base ok x cs → cs = enc x
 mk_ : ∀ (w : World) (base : Nat) (ok : Nat → Prop) (x : α), d.M w base ok x (enc x)
omit [Inhabited α] in
theorem Flat.reps {d : Kd α} (F : Flat d enc k) {w : World} {base : Nat} {ok : Nat → Prop} {xs : List α} {cs : List Value} (h : Reps (d.M w base ok) k xs cs) : cs = xs.flatMap enc := by
 induction xs generalizing cs with
 | nil =>
  have := h.1
  simp only [List.length_nil, Nat.zero_mul] at this
  rw [List.eq_nil_of_length_eq_zero this]; rfl
 | cons x xs ih =>
  obtain ⟨h1, h2⟩ := h
  have h3 := h2 0 x rfl
  rw [Nat.zero_mul, List.drop_zero] at h3
  have h4 := F.open_ h3
  have h5 : Reps (d.M w base ok) k xs (cs.drop k) := by
   refine ⟨by rw [List.length_drop, h1, List.length_cons, Nat.add_mul, Nat.one_mul]; omega, fun j p hj => ?_⟩
   have h6 := h2 (j + 1) p (by simpa using hj)
   rw [Nat.add_mul, Nat.one_mul] at h6
   rw [List.drop_drop, Nat.add_comm k]
   exact h6
  rw [List.flatMap_cons, ← h4, ← ih h5, List.take_append_drop]
omit [Inhabited α] in
theorem Flat.reps_mk {d : Kd α} (F : Flat d enc k) (w : World) (base : Nat) (ok : Nat → Prop) (xs : List α) : Reps (d.M w base ok) k xs (xs.flatMap enc) := by
 refine ⟨flat_len F.len xs, fun j p hj => ?_⟩
 have h : ((xs.flatMap enc).drop (j * k)).take k = enc p := by
  induction xs generalizing j with
  | nil => simp at hj
  | cons x xs ih =>
   rw [List.flatMap_cons]
   cases j with
   | zero =>
    obtain rfl : x = p := by simpa using hj
    rw [Nat.zero_mul, List.drop_zero, List.take_left' (F.len x)]
   | succ j =>
    have h1 := ih j (by simpa using hj)
    rw [Nat.add_mul, Nat.one_mul, Nat.add_comm, ← List.drop_drop, List.drop_left' (F.len x)]
    exact h1
 rw [h]
 exact F.mk_ w base ok p
theorem Flat.row {d : Kd α} (F : Flat d enc k) {e : Nat} {w : World} {base : Nat} {ok : Nat → Prop} {v : Value} {xs : List α} (h : d.R e w base ok v xs) (hx : xs ≠ []) :
  ∃ g cap, v = .slice (some ⟨g, 0, none⟩) xs.length cap ∧ g < w.heap.size ∧ base ≤ g ∧ ok g ∧ HoldsK enc k w g 0 xs.toArray ∧
   ∀ (W' : World) (d' : Array α), d'.size = xs.length → SWK enc k w g 0 d' W' → d.R e W' base ok v d'.toList ∧ w.grownBy W' (some g) := by
 obtain ⟨hok, inner, ho, hr⟩ := h
 have hr0 := hr
 rw [F.sz] at hr
 obtain rfl := F.reps hr
 rcases ho.2 with ⟨_, h0⟩ | ⟨g, cap, cur, rfl, hg, hh, hnc, hcm, hcs, ht⟩
 ·
  exact absurd (List.length_eq_zero_iff.1 h0) hx
 ·
  rw [F.sz] at hcs ht
  refine ⟨g, cap, rfl, (Array.getElem?_eq_some_iff.1 hh).1, hg, hok g (by simp [Value.ownBlock]), holdsK_of_block F.len F.k0 hh ht, ?_⟩
  rintro W' d' hd ⟨n, os, rfl⟩
  refine ⟨⟨hok, d'.toList.flatMap enc, ?_, ?_⟩, grownBy_sortedK d'⟩
  ·
   refine ⟨by rw [flat_len F.len, F.sz], .inr ⟨g, cap, _, by simp [hd], hg, heap_sortedK d' hh, by rw [Array.length_toList, hd]; exact hnc, hcm, ?_, ?_⟩⟩
   ·
    rw [F.sz]; simp [putCells, hcs]
   ·
    rw [F.sz]
    have := take_putCellsK F.len F.k0 cur d'.toList (by rw [Array.length_toList, hd, hcs]; exact Nat.mul_le_mul_right _ hnc)
    rw [Array.toArray_toList] at this
    exact this
  ·
   rw [F.sz]
   exact F.reps_mk _ _ _ _
end
end Go.Proofs.YtgdfakmlpdeabaaW.PrintMore

/- The sort's contract and the rows that it takes, together. -/
namespace Go.Proofs.YtgdfakmlpdeabaaW.PrintMore
end Go.Proofs.YtgdfakmlpdeabaaW.PrintMore

namespace Go.Proofs.Ytgdfakmlpdeabaa.XKey
open Go.RowKit Go.Proofs.YtgdfakmlpdeabaaW.PrintWords Go.Proofs.YtgdfakmlpdeabaaW.PrintLast Go.Proofs.YtgdfakmlpdeabaaW.PrintMore
attribute [local go_sem] max2_int min2_int max_two min_two max_three min_three max_four min_four   -- for this text's walks alone
set_option linter.unusedVariables false
set_option linter.unusedSimpArgs false
/-! ### slices_ContainsFunc_int_int_96: function 96 -/
theorem slices_ContainsFunc_int_int_96.rd_get (l : List Int) (x : Int) (h0 : 0 ≤ x) (h1 : x < (l.length : Int)) : ∃ h : x.toNat < l.length, rd l x = l[x.toNat] := by
 have h : x.toNat < l.length := by omega
 exact ⟨h, by simp [rd, List.getD_eq_getElem?_getD, h]⟩
set_option maxHeartbeats 2000000 in
set_option maxRecDepth 100000 in
theorem slices_ContainsFunc_int_int_96.index (c : Nat) (cs : Array Value) (p : Int → Bool) (A0 : Option Addr) (c0 : Nat) (l0 : List Int) (w : World) (hr0 : Kd.C (Kd.int .i64) w A0 l0.length l0) (hc0 : l0.length ≤ c0)
  (he : ∀ (vs : Array Value) (W : World), (callFunc c vs).run Try.prog W = .ok (.enter c vs) W)
  (hf : ∀ (x : Int), x ∈ l0 → ∀ (W : World), Below w.heap.size w W → Calls Try.prog c (#[.int .i64 x] ++ cs) W fun e w' => e = .returned (.bool (p x)) ∧ Below W.heap.size W w') :
  Calls Try.prog 103 #[.slice A0 l0.length c0, .func (.func c) #[] cs] w fun e w' => e = .returned (.int .i64 (Idx.idxFrom p l0)) ∧ Below w.heap.size w w' := by
 have hl : l0.length ≤ 9223372036854775807 := hr0.2.1
 have HR := Aside0.mk hr0
 have HF := Aside0.mk hf
 clear hr0 hf
 go_enter Try.func103, Try.ntmps103
 go_wp2
 go_loopg [5, 8] l0.length (fun kq v5 v8 w' => ∃ x : Int, v8 = .int .i64 x ∧ Aside0 (0 ≤ x ∧ x ≤ l0.length ∧ ∀ j (h : j < l0.length), (j : Int) < x → p l0[j] = false) ∧ Aside0 (kq = l0.length - x.toNat) ∧ Aside0 (Below w.heap.size w w'))
 case atStart => exact ⟨0, rfl, ⟨by omega, by omega, fun _ _ h => by omega⟩, ⟨rfl⟩, ⟨Below.refl _ _⟩⟩
 case round =>
  obtain ⟨x, rfl, HI, HK, HB⟩ := hrel
  by_cases hlt : x < (l0.length : Int)
  ·
   have h1 : decide (x < (l0.length : Int)) = true := decide_eq_true hlt
   have p1 : 0 ≤ x := HI.out.1
   have HR0 := Aside0.mk (Kd.C_below HR.out HB.out)
   obtain ⟨ad, e1, hx0⟩ := Kd.at_int HR0.out x p1 hlt
   cases e1
   have HX := Aside0.mk (And.intro p1 hlt)
   have HM : Aside0 ((rd l0 x) ∈ l0) := ⟨by obtain ⟨h2, h3⟩ := slices_ContainsFunc_int_int_96.rd_get l0 x p1 hlt; rw [h3]; exact List.getElem_mem h2⟩
   replace p1 := eq_true p1
   replace hlt := eq_true hlt
   by_cases hp : p (rd l0 x) = true
   ·
    go_wp2_with (go_simp; with_reducible refine (HF.out (rd l0 x) HM.out _ HB.out).mono ?_; rintro e w' ⟨rfl, hb⟩; have HB2 := Aside0.mk hb; clear hb)
    go_ret
    obtain ⟨h2, h3⟩ := slices_ContainsFunc_int_int_96.rd_get l0 x HX.out.1 HX.out.2
    rw [h3] at hp
    refine ⟨?_, below_step HB.out HB2.out⟩
    rw [Idx.idxFrom_at h2 hp (fun j hj hl => HI.out.2.2 j hj (by omega)), Int.toNat_of_nonneg HX.out.1]; rfl
   ·
    replace hp := Bool.eq_false_iff.mpr hp
    go_wp2_with (go_simp; with_reducible refine (HF.out (rd l0 x) HM.out _ HB.out).mono ?_; rintro e w' ⟨rfl, hb⟩; have HB2 := Aside0.mk hb; clear hb)
    go_roundg (l0.length - (x + 1).toNat)
    case measure => have := HX.out; have := HK.out; omega
    case rel =>
     obtain ⟨h2, h3⟩ := slices_ContainsFunc_int_int_96.rd_get l0 x HX.out.1 HX.out.2
     have hw : wrap64 (x + 1) = x + 1 := by unfold wrap64; have := HX.out; omega
     refine ⟨x + 1, by first | rfl | rw [hw], ⟨by have := HX.out; omega, by have := HX.out; omega, fun j hj hl => ?_⟩, ⟨rfl⟩, ⟨below_step HB.out HB2.out⟩⟩
     by_cases hjx : (j : Int) < x
     ·
      exact HI.out.2.2 j hj hjx
     ·
      have : j = x.toNat := by omega
      subst this
      rw [← h3]; exact hp
  ·
   have h1 : decide (x < (l0.length : Int)) = false := decide_eq_false hlt
   go_wp2
   go_ret
   refine ⟨?_, HB.out⟩
   rw [Idx.idxFrom_none (fun j hj hl => HI.out.2.2 j hj (by omega))]; rfl
theorem slices_ContainsFunc_int_int_96.contains (c : Nat) (cs : Array Value) (p : Int → Bool) (A0 : Option Addr) (c0 : Nat) (l0 : List Int) (w : World) (hr0 : Kd.C (Kd.int .i64) w A0 l0.length l0) (hc0 : l0.length ≤ c0)
  (he : ∀ (vs : Array Value) (W : World), (callFunc c vs).run Try.prog W = .ok (.enter c vs) W)
  (hf : ∀ (x : Int), x ∈ l0 → ∀ (W : World), Below w.heap.size w W → Calls Try.prog c (#[.int .i64 x] ++ cs) W fun e w' => e = .returned (.bool (p x)) ∧ Below W.heap.size W w') :
  Calls Try.prog 96 #[.slice A0 l0.length c0, .func (.func c) #[] cs] w fun e w' => e = .returned (.bool (l0.any p)) ∧ Below w.heap.size w w' := by
 have HR0 := Aside0.mk hr0
 have HF := Aside0.mk hf
 clear hr0 hf
 have hz := Aside0.mk (Idx.idx_ge p l0)
 go_enter Try.func96, Try.ntmps96
 go_wp2_with (go_at_call 103; refine (slices_ContainsFunc_int_int_96.index c cs p _ _ l0 _ HR0.out hc0 he HF.out).mono ?_; rintro e w' ⟨rfl, hb⟩; have HB := Aside0.mk hb; clear hb)
 go_ret
 exact ⟨by rw [← hz.out]; rfl, HB.out⟩

/-! ### key_isList: function 69 -/
def key_isList.bad (lo hi x : Int) : Bool := !(decide (lo ≤ x) && decide (x ≤ hi))
def key_isList.f (l0 : List Int) (a1 a2 a3 : Int) : Option Bool := some (decide ((l0.length : Int) = a1) && !(l0.any (key_isList.bad a2 a3)))
theorem key_isList.within_calls (a b c : Int) (w : World) :
  Calls Try.prog 78 #[.int .i64 a, .int .i64 b, .int .i64 c] w fun e w' => e = .returned (.bool (decide (a ≤ b) && decide (b ≤ c))) ∧ Drawn0 w w' := by
 by_cases h1 : a ≤ b
 ·
  have h1' : decide (a ≤ b) = true := decide_eq_true h1
  go_enter Try.func78, Try.ntmps78
  go_wp2
  go_ret
  exact ⟨by simp [h1], Drawn0.refl _⟩
 ·
  have h1' : decide (a ≤ b) = false := decide_eq_false h1
  go_enter Try.func78, Try.ntmps78
  go_wp2
  go_ret
  exact ⟨by simp [h1], Drawn0.refl _⟩
theorem key_isList.lt {W : World} {b o : Nat} {v : Value} (h : W.cell? ⟨b, o, none⟩ = some v) : b < W.heap.size := by
 unfold World.cell? at h
 split at h
 ·
  rename_i h2; exact (Array.getElem?_eq_some_iff.1 h2).1
 ·
  cases h
theorem key_isList.enter (vs : Array Value) (W : World) : (callFunc 97 vs).run Try.prog W = .ok (.enter 97 vs) W := enters_ Try.func97 (by kernel_rfl) (by kernel_rfl) vs W
set_option maxHeartbeats 2000000 in
theorem key_isList.clos (lo hi : Int) (g1 g2 : Nat) (x : Int) (w : World) (h1 : w.cell? ⟨g1, 0, none⟩ = some (.int .i64 lo)) (h2 : w.cell? ⟨g2, 0, none⟩ = some (.int .i64 hi)) :
  Calls Try.prog 97 #[.int .i64 x, .pointer (some ⟨g1, 0, none⟩), .pointer (some ⟨g2, 0, none⟩)] w fun e w' => e = .returned (.bool (key_isList.bad lo hi x)) ∧ Below w.heap.size w w' := by
 by_cases h : (decide (lo ≤ x) && decide (x ≤ hi)) = true
 ·
  have hE : Aside0 (key_isList.bad lo hi x = false) := ⟨by simp only [key_isList.bad, h]; rfl⟩
  have H := Aside0.mk h
  clear h
  go_enter Try.func97, Try.ntmps97
  go_wp2_with (go_at_call 78; (with_reducible refine (key_isList.within_calls lo x hi _).mono ?_); rintro e w' ⟨rfl, ⟨nd_, rfl⟩⟩; rw [H.out])
  go_ret
  exact ⟨by rw [hE.out]; rfl, by repeat (first | exact Below.refl _ _ | apply pw_below_drewN)⟩
 ·
  replace h := Bool.eq_false_iff.mpr h
  have hE : Aside0 (key_isList.bad lo hi x = true) := ⟨by simp only [key_isList.bad, h]; rfl⟩
  have H := Aside0.mk h
  clear h
  go_enter Try.func97, Try.ntmps97
  go_wp2_with (go_at_call 78; (with_reducible refine (key_isList.within_calls lo x hi _).mono ?_); rintro e w' ⟨rfl, ⟨nd_, rfl⟩⟩; rw [H.out])
  go_ret
  exact ⟨by rw [hE.out]; rfl, by repeat (first | exact Below.refl _ _ | apply pw_below_drewN)⟩
set_option maxHeartbeats 8000000 in
set_option maxRecDepth 100000 in
theorem key_isList.calls (A0 : Option Addr) (c0 : Nat) (l0 : List Int) (a1 : Int) (a2 : Int) (a3 : Int) (r : Bool) (w : World) (hr0 : Kd.C (Kd.int .i64) w A0 l0.length l0) (hc0 : l0.length ≤ c0) (h : key_isList.f l0 a1 a2 a3 = some r) :
  Calls Try.prog 69 #[.slice A0 l0.length c0, .int .i64 a1, .int .i64 a2, .int .i64 a3] w fun e w' => e = .returned (.bool r) ∧ Below w.heap.size w w' := by
 have HR := Aside0.mk hr0
 have hl1 : l0.length ≤ 9223372036854775807 := hr0.2.1
 clear hr0
 obtain rfl := Option.some.inj h
 clear h
 have hw0 : ∀ (W : World), W = (w.alloc (.cells #[.int .i64 a2] 3)).alloc (.cells #[.int .i64 a3] 3) → W.cell? ⟨w.heap.size, 0, none⟩ = some (.int .i64 a2) ∧ W.cell? ⟨w.heap.size + 1, 0, none⟩ = some (.int .i64 a3) ∧ Below w.heap.size w W := fun W hW => by
  have s0 : (w.alloc (.cells #[.int .i64 a2] 3)).heap.size = w.heap.size + 1 := Array.size_push ..
  subst hW
  refine ⟨blkc (blk_alloc (blk_new w _) _) 0 _ rfl, ?_, below_alloc (below_alloc (Below.refl _ _) _) _⟩
  rw [← s0]
  exact blkc (blk_new _ _) 0 _ rfl
 by_cases hn : (l0.length : Int) = a1
 ·
  have hd : decide ((l0.length : Int) = a1) = true := decide_eq_true hn
  have hd2 : ((l0.length : Int) == a1) = true := by simpa using hn
  rw [hd, Bool.true_and]
  clear hn hd
  by_cases h3 : l0.any (key_isList.bad a2 a3) = true
  ·
   rw [h3]
   have H3 := Aside0.mk h3
   have H0 := Aside0.mk hw0
   clear h3 hw0
   go_enter Try.func69, Try.ntmps69
   go_wp2_with (go_at_call 96; (refine (slices_ContainsFunc_int_int_96.contains 97 #[.pointer (some ⟨w.heap.size, 0, none⟩), .pointer (some ⟨w.heap.size + 1, 0, none⟩)] (key_isList.bad a2 a3) A0 c0 l0 _ (Kd.C_below HR.out (H0.out _ rfl).2.2) hc0 key_isList.enter (fun x _ W hb => key_isList.clos a2 a3 w.heap.size (w.heap.size + 1) x W ((hb.cell (p := ⟨w.heap.size, 0, none⟩) (key_isList.lt (H0.out _ rfl).1)).trans (H0.out _ rfl).1) ((hb.cell (p := ⟨w.heap.size + 1, 0, none⟩) (key_isList.lt (H0.out _ rfl).2.1)).trans (H0.out _ rfl).2.1))).mono ?_); rintro e w' ⟨rfl, hb⟩; have HB := Aside0.mk hb; clear hb; rw [H3.out])
   go_ret
   exact ⟨rfl, below_step (H0.out _ rfl).2.2 HB.out⟩
  ·
   replace h3 := Bool.eq_false_iff.mpr h3
   rw [h3]
   have H3 := Aside0.mk h3
   have H0 := Aside0.mk hw0
   clear h3 hw0
   go_enter Try.func69, Try.ntmps69
   go_wp2_with (go_at_call 96; (refine (slices_ContainsFunc_int_int_96.contains 97 #[.pointer (some ⟨w.heap.size, 0, none⟩), .pointer (some ⟨w.heap.size + 1, 0, none⟩)] (key_isList.bad a2 a3) A0 c0 l0 _ (Kd.C_below HR.out (H0.out _ rfl).2.2) hc0 key_isList.enter (fun x _ W hb => key_isList.clos a2 a3 w.heap.size (w.heap.size + 1) x W ((hb.cell (p := ⟨w.heap.size, 0, none⟩) (key_isList.lt (H0.out _ rfl).1)).trans (H0.out _ rfl).1) ((hb.cell (p := ⟨w.heap.size + 1, 0, none⟩) (key_isList.lt (H0.out _ rfl).2.1)).trans (H0.out _ rfl).2.1))).mono ?_); rintro e w' ⟨rfl, hb⟩; have HB := Aside0.mk hb; clear hb; rw [H3.out])
   go_ret
   exact ⟨rfl, below_step (H0.out _ rfl).2.2 HB.out⟩
 ·
  have hd : decide ((l0.length : Int) = a1) = false := decide_eq_false hn
  have hd2 : ((l0.length : Int) == a1) = false := by simpa using hn
  rw [hd, Bool.false_and]
  have H0 := Aside0.mk hw0
  clear hn hd hw0
  go_enter Try.func69, Try.ntmps69
  go_wp2
  go_ret
  exact ⟨rfl, (H0.out _ rfl).2.2⟩

/-! ### slices_ContainsFunc_api_Turn_api_Turn: function 79 -/
theorem slices_ContainsFunc_api_Turn_api_Turn.rd_get (l : List S64) (x : Int) (h0 : 0 ≤ x) (h1 : x < (l.length : Int)) : ∃ h : x.toNat < l.length, rd_T64 l x = l[x.toNat] := by
 have h : x.toNat < l.length := by omega
 exact ⟨h, by simp [rd_T64, List.getD_eq_getElem?_getD, h]⟩
set_option maxHeartbeats 2000000 in
set_option maxRecDepth 100000 in
theorem slices_ContainsFunc_api_Turn_api_Turn.index (c : Nat) (cs : Array Value) (p : S64 → Bool) (A0 : Option Addr) (c0 : Nat) (l0 : List S64) (w : World) (hr0 : Kd.C k64 w A0 l0.length l0) (hc0 : l0.length ≤ c0)
  (he : ∀ (vs : Array Value) (W : World), (callFunc c vs).run Try.prog W = .ok (.enter c vs) W)
  (hf : ∀ (x : S64), x ∈ l0 → ∀ (W : World), Below w.heap.size w W → ∀ (Aq : Option Addr) (cq : Nat) (Aw : Option Addr) (cw : Nat), (x.f0.length ≤ cq ∧ (Kd.int .i64).C W Aq x.f0.length x.f0 ∧ x.f1.length ≤ cw ∧ (Kd.int .i64).C W Aw x.f1.length x.f1) → Calls Try.prog c (#[.agg #[.slice Aq x.f0.length cq, .slice Aw x.f1.length cw]] ++ cs) W fun e w' => e = .returned (.bool (p x)) ∧ Below W.heap.size W w') :
  Calls Try.prog 99 #[.slice A0 l0.length c0, .func (.func c) #[] cs] w fun e w' => e = .returned (.int .i64 (Idx.idxFrom p l0)) ∧ Below w.heap.size w w' := by
 have hl : l0.length ≤ 9223372036854775807 := hr0.2.1
 have HR := Aside0.mk hr0
 have HF := Aside0.mk hf
 clear hr0 hf
 have hu0 := Try.underlying64
 go_enter Try.func99, Try.ntmps99
 go_wp2
 go_loopg [5, 8] l0.length (fun kq v5 v8 w' => ∃ x : Int, v8 = .int .i64 x ∧ Aside0 (0 ≤ x ∧ x ≤ l0.length ∧ ∀ j (h : j < l0.length), (j : Int) < x → p l0[j] = false) ∧ Aside0 (kq = l0.length - x.toNat) ∧ Aside0 (Below w.heap.size w w'))
 case atStart => exact ⟨0, rfl, ⟨by omega, by omega, fun _ _ h => by omega⟩, ⟨rfl⟩, ⟨Below.refl _ _⟩⟩
 case round =>
  obtain ⟨x, rfl, HI, HK, HB⟩ := hrel
  by_cases hlt : x < (l0.length : Int)
  ·
   have h1 : decide (x < (l0.length : Int)) = true := decide_eq_true hlt
   have p1 : 0 ≤ x := HI.out.1
   have HR0 := Aside0.mk (Kd.C_below HR.out HB.out)
   obtain ⟨ad, Aq, cq, Aw, cw, e1, hx0, hx1, hq⟩ := at_T64 HR0.out x p1 hlt
   cases e1
   have HG := Aside0.mk hq
   clear hq
   have HX := Aside0.mk (And.intro p1 hlt)
   have HM : Aside0 ((rd_T64 l0 x) ∈ l0) := ⟨by obtain ⟨h2, h3⟩ := slices_ContainsFunc_api_Turn_api_Turn.rd_get l0 x p1 hlt; rw [h3]; exact List.getElem_mem h2⟩
   replace p1 := eq_true p1
   replace hlt := eq_true hlt
   by_cases hp : p (rd_T64 l0 x) = true
   ·
    go_wp2_with (go_simp; with_reducible refine (HF.out (rd_T64 l0 x) HM.out _ HB.out _ _ _ _ HG.out).mono ?_; rintro e w' ⟨rfl, hb⟩; have HB2 := Aside0.mk hb; clear hb)
    go_ret
    obtain ⟨h2, h3⟩ := slices_ContainsFunc_api_Turn_api_Turn.rd_get l0 x HX.out.1 HX.out.2
    rw [h3] at hp
    refine ⟨?_, below_step HB.out HB2.out⟩
    rw [Idx.idxFrom_at h2 hp (fun j hj hl => HI.out.2.2 j hj (by omega)), Int.toNat_of_nonneg HX.out.1]; rfl
   ·
    replace hp := Bool.eq_false_iff.mpr hp
    go_wp2_with (go_simp; with_reducible refine (HF.out (rd_T64 l0 x) HM.out _ HB.out _ _ _ _ HG.out).mono ?_; rintro e w' ⟨rfl, hb⟩; have HB2 := Aside0.mk hb; clear hb)
    go_roundg (l0.length - (x + 1).toNat)
    case measure => have := HX.out; have := HK.out; omega
    case rel =>
     obtain ⟨h2, h3⟩ := slices_ContainsFunc_api_Turn_api_Turn.rd_get l0 x HX.out.1 HX.out.2
     have hw : wrap64 (x + 1) = x + 1 := by unfold wrap64; have := HX.out; omega
     refine ⟨x + 1, by first | rfl | rw [hw], ⟨by have := HX.out; omega, by have := HX.out; omega, fun j hj hl => ?_⟩, ⟨rfl⟩, ⟨below_step HB.out HB2.out⟩⟩
     by_cases hjx : (j : Int) < x
     ·
      exact HI.out.2.2 j hj hjx
     ·
      have : j = x.toNat := by omega
      subst this
      rw [← h3]; exact hp
  ·
   have h1 : decide (x < (l0.length : Int)) = false := decide_eq_false hlt
   go_wp2
   go_ret
   refine ⟨?_, HB.out⟩
   rw [Idx.idxFrom_none (fun j hj hl => HI.out.2.2 j hj (by omega))]; rfl
theorem slices_ContainsFunc_api_Turn_api_Turn.contains (c : Nat) (cs : Array Value) (p : S64 → Bool) (A0 : Option Addr) (c0 : Nat) (l0 : List S64) (w : World) (hr0 : Kd.C k64 w A0 l0.length l0) (hc0 : l0.length ≤ c0)
  (he : ∀ (vs : Array Value) (W : World), (callFunc c vs).run Try.prog W = .ok (.enter c vs) W)
  (hf : ∀ (x : S64), x ∈ l0 → ∀ (W : World), Below w.heap.size w W → ∀ (Aq : Option Addr) (cq : Nat) (Aw : Option Addr) (cw : Nat), (x.f0.length ≤ cq ∧ (Kd.int .i64).C W Aq x.f0.length x.f0 ∧ x.f1.length ≤ cw ∧ (Kd.int .i64).C W Aw x.f1.length x.f1) → Calls Try.prog c (#[.agg #[.slice Aq x.f0.length cq, .slice Aw x.f1.length cw]] ++ cs) W fun e w' => e = .returned (.bool (p x)) ∧ Below W.heap.size W w') :
  Calls Try.prog 79 #[.slice A0 l0.length c0, .func (.func c) #[] cs] w fun e w' => e = .returned (.bool (l0.any p)) ∧ Below w.heap.size w w' := by
 have HR0 := Aside0.mk hr0
 have HF := Aside0.mk hf
 clear hr0 hf
 have hz := Aside0.mk (Idx.idx_ge p l0)
 go_enter Try.func79, Try.ntmps79
 go_wp2_with (go_at_call 99; refine (slices_ContainsFunc_api_Turn_api_Turn.index c cs p _ _ l0 _ HR0.out hc0 he HF.out).mono ?_; rintro e w' ⟨rfl, hb⟩; have HB := Aside0.mk hb; clear hb)
 go_ret
 exact ⟨by rw [← hz.out]; rfl, HB.out⟩

/-! ### key_Valid: function 43 -/
def key_Valid.bad (n : Int) (t : S64) : Bool := !(decide ((t.f0.length : Int) = n) && !(t.f0.any (key_isList.bad 0 3))) || !(decide ((t.f1.length : Int) = n) && !(t.f1.any (key_isList.bad 0 3)))
def key_Valid.f (a0_0 : Int) (l0_1 : List S64) : Option Bool := some (((decide (1 ≤ a0_0) && decide (a0_0 ≤ 6)) && decide ((l0_1.length : Int) ≤ 8)) && !(l0_1.any (key_Valid.bad a0_0)))
theorem key_Valid.within_calls (a b c : Int) (w : World) :
  Calls Try.prog 78 #[.int .i64 a, .int .i64 b, .int .i64 c] w fun e w' => e = .returned (.bool (decide (a ≤ b) && decide (b ≤ c))) ∧ Drawn0 w w' := by
 by_cases h1 : a ≤ b
 ·
  have h1' : decide (a ≤ b) = true := decide_eq_true h1
  go_enter Try.func78, Try.ntmps78
  go_wp2
  go_ret
  exact ⟨by simp [h1], Drawn0.refl _⟩
 ·
  have h1' : decide (a ≤ b) = false := decide_eq_false h1
  go_enter Try.func78, Try.ntmps78
  go_wp2
  go_ret
  exact ⟨by simp [h1], Drawn0.refl _⟩
theorem key_Valid.enter (vs : Array Value) (W : World) : (callFunc 80 vs).run Try.prog W = .ok (.enter 80 vs) W := enters_ Try.func80 (by kernel_rfl) (by kernel_rfl) vs W
set_option maxHeartbeats 4000000 in
set_option maxRecDepth 100000 in
theorem key_Valid.clos (n : Int) (A : Option Addr) (l c : Nat) (g : Nat) (x : S64) (w : World) (hcap : w.heap[g]? = some (.cells #[.int .i64 n, .slice A l c] 24 (0, 0))) (Aq : Option Addr) (cq : Nat) (Aw : Option Addr) (cw : Nat) (hq : x.f0.length ≤ cq ∧ (Kd.int .i64).C w Aq x.f0.length x.f0 ∧ x.f1.length ≤ cw ∧ (Kd.int .i64).C w Aw x.f1.length x.f1) :
  Calls Try.prog 80 #[.agg #[.slice Aq x.f0.length cq, .slice Aw x.f1.length cw], .pointer (some ⟨g, 0, none⟩)] w fun e w' => e = .returned (.bool (key_Valid.bad n x)) ∧ Below w.heap.size w w' := by
 obtain ⟨q1, q2, q3, q4⟩ := hq
 obtain ⟨v1, hv1⟩ : ∃ v, key_isList.f x.f0 n 0 3 = some v := ⟨_, rfl⟩
 obtain ⟨v2, hv2⟩ : ∃ v, key_isList.f x.f1 n 0 3 = some v := ⟨_, rfl⟩
 have hE : Aside0 (key_Valid.bad n x = (!v1 || !v2)) := ⟨by rw [← Option.some.inj hv1, ← Option.some.inj hv2]; rfl⟩
 have Q1 := Aside0.mk q1
 have Q2 := Aside0.mk q2
 have Q3 := Aside0.mk q3
 have Q4 := Aside0.mk q4
 have V1 := Aside0.mk hv1
 have V2 := Aside0.mk hv2
 obtain ⟨w0, hw0⟩ : ∃ w0, w0 = w.alloc (.cells #[.slice Aq x.f0.length cq, .slice Aw x.f1.length cw] 64) := ⟨_, rfl⟩
 have HB0 : Aside0 (Below w.heap.size w w0) := ⟨by rw [hw0]; exact below_alloc (Below.refl _ _) _⟩
 have B0 : Aside0 (w0.heap[w.heap.size]? = some (.cells #[.slice Aq x.f0.length cq, .slice Aw x.f1.length cw] 64 (0, 0))) := ⟨by rw [hw0]; exact blk_new w _⟩
 have G0 : Aside0 (w0.heap[g]? = some (.cells #[.int .i64 n, .slice A l c] 24 (0, 0))) := ⟨by rw [hw0]; exact blk_alloc hcap _⟩
 have HW := Aside0.mk hw0
 have kg := blkc hcap 0 (.int .i64 n) rfl
 have kg2 := fun o => blkc (blk_alloc hcap o) 0 (.int .i64 n) rfl
 have hu := Try.underlying64
 have hu2 := Try.underlying24
 clear q1 q2 q3 q4 hv1 hv2 hw0 hcap
 cases v1 with
 | false =>
  go_enter Try.func80, Try.ntmps80
  go_wp2_with (go_at_call 69; rw [← HW.out]; (with_reducible refine (key_isList.calls Aq cq x.f0 n 0 3 _ _ (Kd.C_below Q2.out HB0.out) Q1.out V1.out).mono ?_); rintro e w1 ⟨rfl, hb⟩; have HB1 := Aside0.mk (below_step HB0.out hb); clear hb)
  go_ret
  exact ⟨by rw [hE.out]; rfl, HB1.out⟩
 | true =>
  go_enter Try.func80, Try.ntmps80
  go_wp2_with (first | (go_at_call 69; rw [← HW.out]; (with_reducible refine (key_isList.calls Aq cq x.f0 n 0 3 _ _ (Kd.C_below Q2.out HB0.out) Q1.out V1.out).mono ?_); rintro e w1 ⟨rfl, hb⟩; have HB1 := Aside0.mk (below_step HB0.out hb); have k1 := blkc (blk_below B0.out hb) 1 (.slice Aw x.f1.length cw) rfl; have k2 := blkc (blk_below G0.out hb) 0 (.int .i64 n) rfl; clear hb) | (go_at_call 69; (with_reducible refine (key_isList.calls Aw cw x.f1 n 0 3 _ _ (Kd.C_below Q4.out HB1.out) Q3.out V2.out).mono ?_); rintro e w2 ⟨rfl, hb⟩; have HB2 := Aside0.mk (below_step HB1.out hb); clear hb))
  go_ret
  exact ⟨by rw [hE.out]; cases v2 <;> rfl, HB2.out⟩
set_option maxHeartbeats 8000000 in
set_option maxRecDepth 100000 in
theorem key_Valid.calls (a0_0 : Int) (A0_1 : Option Addr) (c0_1 : Nat) (l0_1 : List S64) (r : Bool) (w : World) (hr0_1 : Kd.C k64 w A0_1 l0_1.length l0_1) (hc0_1 : l0_1.length ≤ c0_1) (h : key_Valid.f a0_0 l0_1 = some r) :
  Calls Try.prog 43 #[.agg #[.int .i64 a0_0, .slice A0_1 l0_1.length c0_1]] w fun e w' => e = .returned (.bool r) ∧ Below w.heap.size w w' := by
 have hl1 : l0_1.length ≤ 9223372036854775807 := hr0_1.2.1
 have HR := Aside0.mk hr0_1
 have HC := Aside0.mk hc0_1
 clear hr0_1 hc0_1
 have hr := Option.some.inj h
 have hu := Try.underlying24
 have HB0 : Aside0 (∀ n, Below w.heap.size w ((w.alloc (.cells #[.int .i64 a0_0, .slice A0_1 l0_1.length c0_1] 24)).drewN n)) := ⟨fun n => pw_below_drewN (below_alloc (Below.refl _ _) _) n⟩
 have G0 : Aside0 (∀ n, ((w.alloc (.cells #[.int .i64 a0_0, .slice A0_1 l0_1.length c0_1] 24)).drewN n).heap[w.heap.size]? = some (.cells #[.int .i64 a0_0, .slice A0_1 l0_1.length c0_1] 24 (0, 0))) := ⟨fun n => blk_drewN (blk_new w _) n⟩
 clear h
 by_cases h1 : (decide (1 ≤ a0_0) && decide (a0_0 ≤ 6)) = true
 ·
  by_cases h2 : (l0_1.length : Int) ≤ 8
  ·
   have h2' : decide ((l0_1.length : Int) ≤ 8) = true := decide_eq_true h2
   obtain ⟨v, hv⟩ : ∃ v, l0_1.any (key_Valid.bad a0_0) = v := ⟨_, rfl⟩
   rw [h1, h2', hv] at hr
   have H1 := Aside0.mk h1
   have HV := Aside0.mk hv
   have HRR := Aside0.mk hr
   clear h1 h2 hv hr
   go_enter Try.func43, Try.ntmps43
   go_wp2_with (first | (go_at_call 78; (with_reducible refine (key_Valid.within_calls 1 a0_0 6 _).mono ?_); rintro e w' ⟨rfl, ⟨nd_, rfl⟩⟩; rw [H1.out]) | (go_at_call 79; (refine (slices_ContainsFunc_api_Turn_api_Turn.contains 80 #[.pointer (some ⟨w.heap.size, 0, none⟩)] (key_Valid.bad a0_0) A0_1 c0_1 l0_1 _ (Kd.C_below HR.out (HB0.out _)) HC.out key_Valid.enter (fun x _ W hb Aq cq Aw cw hq => key_Valid.clos a0_0 A0_1 l0_1.length c0_1 w.heap.size x W (blk_below (G0.out _) hb) Aq cq Aw cw hq)).mono ?_); rintro e w' ⟨rfl, hb⟩; have HB := Aside0.mk hb; clear hb; rw [HV.out]))
   go_ret
   exact ⟨by rw [← HRR.out]; simp, below_step (HB0.out _) HB.out⟩
  ·
   have h2' : decide ((l0_1.length : Int) ≤ 8) = false := decide_eq_false h2
   rw [h1, h2'] at hr
   have H1 := Aside0.mk h1
   have HRR := Aside0.mk hr
   clear h1 h2 hr
   go_enter Try.func43, Try.ntmps43
   go_wp2_with (first | (go_at_call 78; (with_reducible refine (key_Valid.within_calls 1 a0_0 6 _).mono ?_); rintro e w' ⟨rfl, ⟨nd_, rfl⟩⟩; rw [H1.out]))
   go_ret
   exact ⟨by rw [← HRR.out]; simp, HB0.out _⟩
 ·
  replace h1 := Bool.eq_false_iff.mpr h1
  rw [h1] at hr
  have H1 := Aside0.mk h1
  have HRR := Aside0.mk hr
  clear h1 hr
  go_enter Try.func43, Try.ntmps43
  go_wp2_with (first | (go_at_call 78; (with_reducible refine (key_Valid.within_calls 1 a0_0 6 _).mono ?_); rintro e w' ⟨rfl, ⟨nd_, rfl⟩⟩; rw [H1.out]))
  go_ret
  exact ⟨by rw [← HRR.out]; simp, HB0.out _⟩

/-! ### slices_ContainsFunc_int_int_94: function 94 -/
theorem slices_ContainsFunc_int_int_94.rd_get (l : List (List Int)) (x : Int) (h0 : 0 ≤ x) (h1 : x < (l.length : Int)) : ∃ h : x.toNat < l.length, rd_L1 l x = l[x.toNat] := by
 have h : x.toNat < l.length := by omega
 exact ⟨h, by simp [rd_L1, List.getD_eq_getElem?_getD, h]⟩
set_option maxHeartbeats 2000000 in
set_option maxRecDepth 100000 in
theorem slices_ContainsFunc_int_int_94.index (c : Nat) (cs : Array Value) (p : (List Int) → Bool) (A0 : Option Addr) (c0 : Nat) (l0 : List (List Int)) (w : World) (hr0 : Kd.C (Kd.slice 3 (Kd.int .i64)) w A0 l0.length l0) (hc0 : l0.length ≤ c0)
  (he : ∀ (vs : Array Value) (W : World), (callFunc c vs).run Try.prog W = .ok (.enter c vs) W)
  (hf : ∀ (x : (List Int)), x ∈ l0 → ∀ (W : World), Below w.heap.size w W → ∀ (Aq : Option Addr) (cq : Nat), (x.length ≤ cq ∧ (Kd.int .i64).C W Aq x.length x) → Calls Try.prog c (#[.slice Aq x.length cq] ++ cs) W fun e w' => e = .returned (.bool (p x)) ∧ Below W.heap.size W w') :
  Calls Try.prog 84 #[.slice A0 l0.length c0, .func (.func c) #[] cs] w fun e w' => e = .returned (.int .i64 (Idx.idxFrom p l0)) ∧ Below w.heap.size w w' := by
 have hl : l0.length ≤ 9223372036854775807 := hr0.2.1
 have HR := Aside0.mk hr0
 have HF := Aside0.mk hf
 clear hr0 hf
 go_enter Try.func84, Try.ntmps84
 go_wp2
 go_loopg [5, 8] l0.length (fun kq v5 v8 w' => ∃ x : Int, v8 = .int .i64 x ∧ Aside0 (0 ≤ x ∧ x ≤ l0.length ∧ ∀ j (h : j < l0.length), (j : Int) < x → p l0[j] = false) ∧ Aside0 (kq = l0.length - x.toNat) ∧ Aside0 (Below w.heap.size w w'))
 case atStart => exact ⟨0, rfl, ⟨by omega, by omega, fun _ _ h => by omega⟩, ⟨rfl⟩, ⟨Below.refl _ _⟩⟩
 case round =>
  obtain ⟨x, rfl, HI, HK, HB⟩ := hrel
  by_cases hlt : x < (l0.length : Int)
  ·
   have h1 : decide (x < (l0.length : Int)) = true := decide_eq_true hlt
   have p1 : 0 ≤ x := HI.out.1
   have HR0 := Aside0.mk (Kd.C_below HR.out HB.out)
   obtain ⟨ad, Aq, cq, e1, hx0, hq⟩ := at_L1 HR0.out x p1 hlt
   cases e1
   have HG := Aside0.mk hq
   clear hq
   have HX := Aside0.mk (And.intro p1 hlt)
   have HM : Aside0 ((rd_L1 l0 x) ∈ l0) := ⟨by obtain ⟨h2, h3⟩ := slices_ContainsFunc_int_int_94.rd_get l0 x p1 hlt; rw [h3]; exact List.getElem_mem h2⟩
   replace p1 := eq_true p1
   replace hlt := eq_true hlt
   by_cases hp : p (rd_L1 l0 x) = true
   ·
    go_wp2_with (go_simp; with_reducible refine (HF.out (rd_L1 l0 x) HM.out _ HB.out _ _ HG.out).mono ?_; rintro e w' ⟨rfl, hb⟩; have HB2 := Aside0.mk hb; clear hb)
    go_ret
    obtain ⟨h2, h3⟩ := slices_ContainsFunc_int_int_94.rd_get l0 x HX.out.1 HX.out.2
    rw [h3] at hp
    refine ⟨?_, below_step HB.out HB2.out⟩
    rw [Idx.idxFrom_at h2 hp (fun j hj hl => HI.out.2.2 j hj (by omega)), Int.toNat_of_nonneg HX.out.1]; rfl
   ·
    replace hp := Bool.eq_false_iff.mpr hp
    go_wp2_with (go_simp; with_reducible refine (HF.out (rd_L1 l0 x) HM.out _ HB.out _ _ HG.out).mono ?_; rintro e w' ⟨rfl, hb⟩; have HB2 := Aside0.mk hb; clear hb)
    go_roundg (l0.length - (x + 1).toNat)
    case measure => have := HX.out; have := HK.out; omega
    case rel =>
     obtain ⟨h2, h3⟩ := slices_ContainsFunc_int_int_94.rd_get l0 x HX.out.1 HX.out.2
     have hw : wrap64 (x + 1) = x + 1 := by unfold wrap64; have := HX.out; omega
     refine ⟨x + 1, by first | rfl | rw [hw], ⟨by have := HX.out; omega, by have := HX.out; omega, fun j hj hl => ?_⟩, ⟨rfl⟩, ⟨below_step HB.out HB2.out⟩⟩
     by_cases hjx : (j : Int) < x
     ·
      exact HI.out.2.2 j hj hjx
     ·
      have : j = x.toNat := by omega
      subst this
      rw [← h3]; exact hp
  ·
   have h1 : decide (x < (l0.length : Int)) = false := decide_eq_false hlt
   go_wp2
   go_ret
   refine ⟨?_, HB.out⟩
   rw [Idx.idxFrom_none (fun j hj hl => HI.out.2.2 j hj (by omega))]; rfl
theorem slices_ContainsFunc_int_int_94.contains (c : Nat) (cs : Array Value) (p : (List Int) → Bool) (A0 : Option Addr) (c0 : Nat) (l0 : List (List Int)) (w : World) (hr0 : Kd.C (Kd.slice 3 (Kd.int .i64)) w A0 l0.length l0) (hc0 : l0.length ≤ c0)
  (he : ∀ (vs : Array Value) (W : World), (callFunc c vs).run Try.prog W = .ok (.enter c vs) W)
  (hf : ∀ (x : (List Int)), x ∈ l0 → ∀ (W : World), Below w.heap.size w W → ∀ (Aq : Option Addr) (cq : Nat), (x.length ≤ cq ∧ (Kd.int .i64).C W Aq x.length x) → Calls Try.prog c (#[.slice Aq x.length cq] ++ cs) W fun e w' => e = .returned (.bool (p x)) ∧ Below W.heap.size W w') :
  Calls Try.prog 94 #[.slice A0 l0.length c0, .func (.func c) #[] cs] w fun e w' => e = .returned (.bool (l0.any p)) ∧ Below w.heap.size w w' := by
 have HR0 := Aside0.mk hr0
 have HF := Aside0.mk hf
 clear hr0 hf
 have hz := Aside0.mk (Idx.idx_ge p l0)
 go_enter Try.func94, Try.ntmps94
 go_wp2_with (go_at_call 84; refine (slices_ContainsFunc_int_int_94.index c cs p _ _ l0 _ HR0.out hc0 he HF.out).mono ?_; rintro e w' ⟨rfl, hb⟩; have HB := Aside0.mk hb; clear hb)
 go_ret
 exact ⟨by rw [← hz.out]; rfl, HB.out⟩

/-! ### key_open: function 68 -/
def key_open.bad (n : Int) (l : List Int) : Bool := !(decide ((l.length : Int) = n) && !(l.any (key_isList.bad 0 100)))
def key_open.f (a0_0 : Int) (l0_1 : List S64) (l1 : List (List Int)) : Option Int := (key_Valid.f a0_0 l0_1).bind fun v => if v = true then (if l1.any (key_open.bad a0_0) = true then some 61 else some 0) else some 60
theorem key_open.enter (vs : Array Value) (W : World) : (callFunc 95 vs).run Try.prog W = .ok (.enter 95 vs) W := enters_ Try.func95 (by kernel_rfl) (by kernel_rfl) vs W
set_option maxHeartbeats 4000000 in
theorem key_open.clos (n : Int) (A : Option Addr) (l c : Nat) (g : Nat) (x : List Int) (w : World) (hcap : w.heap[g]? = some (.cells #[.int .i64 n, .slice A l c] 24 (0, 0))) (Aq : Option Addr) (cq : Nat) (hq : x.length ≤ cq ∧ (Kd.int .i64).C w Aq x.length x) :
  Calls Try.prog 95 #[.slice Aq x.length cq, .pointer (some ⟨g, 0, none⟩)] w fun e w' => e = .returned (.bool (key_open.bad n x)) ∧ Below w.heap.size w w' := by
 obtain ⟨q1, q2⟩ := hq
 obtain ⟨v1, hv1⟩ : ∃ v, key_isList.f x n 0 100 = some v := ⟨_, rfl⟩
 have hE : Aside0 (key_open.bad n x = !v1) := ⟨by rw [← Option.some.inj hv1]; rfl⟩
 have Q1 := Aside0.mk q1
 have Q2 := Aside0.mk q2
 have V1 := Aside0.mk hv1
 have kg := blkc hcap 0 (.int .i64 n) rfl
 have hu2 := Try.underlying24
 clear q1 q2 hv1 hcap
 go_enter Try.func95, Try.ntmps95
 go_wp2_with (go_at_call 69; (with_reducible refine (key_isList.calls Aq cq x n 0 100 _ _ Q2.out Q1.out V1.out).mono ?_); rintro e w1 ⟨rfl, hb⟩; have HB1 := Aside0.mk hb; clear hb)
 go_ret
 exact ⟨by rw [hE.out]; cases v1 <;> rfl, HB1.out⟩
set_option maxHeartbeats 8000000 in
set_option maxRecDepth 100000 in
theorem key_open.calls (a0_0 : Int) (A0_1 : Option Addr) (c0_1 : Nat) (l0_1 : List S64) (A1 : Option Addr) (c1 : Nat) (l1 : List (List Int)) (r : Int) (w : World) (hr0_1 : Kd.C k64 w A0_1 l0_1.length l0_1) (hc0_1 : l0_1.length ≤ c0_1) (hr1 : Kd.C (Kd.slice 3 (Kd.int .i64)) w A1 l1.length l1) (hc1 : l1.length ≤ c1) (h : key_open.f a0_0 l0_1 l1 = some r) :
  Calls Try.prog 68 #[.agg #[.int .i64 a0_0, .slice A0_1 l0_1.length c0_1], .slice A1 l1.length c1] w fun e w' => e = .returned (.int .i64 r) ∧ Below w.heap.size w w' := by
 have HR := Aside0.mk hr0_1
 have HC := Aside0.mk hc0_1
 have HR1 := Aside0.mk hr1
 have HC1 := Aside0.mk hc1
 clear hr0_1 hc0_1 hr1 hc1
 unfold key_open.f at h
 obtain ⟨v, hv, hr⟩ := Option.bind_eq_some_iff.1 h
 have HV := Aside0.mk hv
 clear h hv
 have hu := Try.underlying24
 obtain ⟨w0, hw0⟩ : ∃ w0, w0 = w.alloc (.cells #[.int .i64 a0_0, .slice A0_1 l0_1.length c0_1] 24) := ⟨_, rfl⟩
 have HB0 : Aside0 (Below w.heap.size w w0) := ⟨by rw [hw0]; exact below_alloc (Below.refl _ _) _⟩
 have G0 : Aside0 (w0.heap[w.heap.size]? = some (.cells #[.int .i64 a0_0, .slice A0_1 l0_1.length c0_1] 24 (0, 0))) := ⟨by rw [hw0]; exact blk_new w _⟩
 have HW := Aside0.mk hw0
 clear hw0
 cases v with
 | false =>
  rw [if_neg (by simp)] at hr
  obtain rfl := Option.some.inj hr
  clear hr
  go_enter Try.func68, Try.ntmps68
  go_wp2_with (go_at_call 43; rw [← HW.out]; (with_reducible refine (key_Valid.calls a0_0 A0_1 c0_1 l0_1 _ _ (Kd.C_below HR.out HB0.out) HC.out HV.out).mono ?_); rintro e w1 ⟨rfl, hb⟩; have HB1 := Aside0.mk (below_step HB0.out hb); clear hb)
  go_ret
  exact ⟨rfl, HB1.out⟩
 | true =>
  rw [if_pos rfl] at hr
  obtain ⟨u, hu2⟩ : ∃ u, l1.any (key_open.bad a0_0) = u := ⟨_, rfl⟩
  rw [hu2] at hr
  have HU := Aside0.mk hu2
  clear hu2
  cases u with
  | false =>
   rw [if_neg (by simp)] at hr
   obtain rfl := Option.some.inj hr
   clear hr
   go_enter Try.func68, Try.ntmps68
   go_wp2_with (first | (go_at_call 43; rw [← HW.out]; (with_reducible refine (key_Valid.calls a0_0 A0_1 c0_1 l0_1 _ _ (Kd.C_below HR.out HB0.out) HC.out HV.out).mono ?_); rintro e w1 ⟨rfl, hb⟩; have HB1 := Aside0.mk (below_step HB0.out hb); have G1 := Aside0.mk (blk_below G0.out hb); clear hb) | (go_at_call 94; (refine (slices_ContainsFunc_int_int_94.contains 95 #[.pointer (some ⟨w.heap.size, 0, none⟩)] (key_open.bad a0_0) A1 c1 l1 _ (Kd.C_below HR1.out HB1.out) HC1.out key_open.enter (fun x _ W hb Aq cq hq => key_open.clos a0_0 A0_1 l0_1.length c0_1 w.heap.size x W (blk_below G1.out hb) Aq cq hq)).mono ?_); rintro e w2 ⟨rfl, hb⟩; have HB2 := Aside0.mk (below_step HB1.out hb); clear hb; rw [HU.out]))
   go_ret
   exact ⟨rfl, HB2.out⟩
  | true =>
   rw [if_pos rfl] at hr
   obtain rfl := Option.some.inj hr
   clear hr
   go_enter Try.func68, Try.ntmps68
   go_wp2_with (first | (go_at_call 43; rw [← HW.out]; (with_reducible refine (key_Valid.calls a0_0 A0_1 c0_1 l0_1 _ _ (Kd.C_below HR.out HB0.out) HC.out HV.out).mono ?_); rintro e w1 ⟨rfl, hb⟩; have HB1 := Aside0.mk (below_step HB0.out hb); have G1 := Aside0.mk (blk_below G0.out hb); clear hb) | (go_at_call 94; (refine (slices_ContainsFunc_int_int_94.contains 95 #[.pointer (some ⟨w.heap.size, 0, none⟩)] (key_open.bad a0_0) A1 c1 l1 _ (Kd.C_below HR1.out HB1.out) HC1.out key_open.enter (fun x _ W hb Aq cq hq => key_open.clos a0_0 A0_1 l0_1.length c0_1 w.heap.size x W (blk_below G1.out hb) Aq cq hq)).mono ?_); rintro e w2 ⟨rfl, hb⟩; have HB2 := Aside0.mk (below_step HB1.out hb); clear hb; rw [HU.out]))
   go_ret
   exact ⟨rfl, HB2.out⟩

/-! ### key_keysOf: function 61 -/
def key_keysOf.f (l0 : List Int) : Option (Int × Int × Int × Int × Int × Int) := some (tup6 l0)
set_option maxHeartbeats 8000000 in
set_option maxRecDepth 100000 in
theorem key_keysOf.calls (A0 : Option Addr) (c0 : Nat) (l0 : List Int) (r1 : Int) (r2 : Int) (r3 : Int) (r4 : Int) (r5 : Int) (r6 : Int) (w : World) (hr0 : Kd.C (Kd.int .i64) w A0 l0.length l0) (hc0 : l0.length ≤ c0) (h : key_keysOf.f l0 = some (r1, r2, r3, r4, r5, r6)) :
  Calls Try.prog 61 #[.slice A0 l0.length c0] w fun e w' => e = .returned (.agg #[.int .i64 r1, .int .i64 r2, .int .i64 r3, .int .i64 r4, .int .i64 r5, .int .i64 r6]) ∧ Below w.heap.size w w' := by
 have HR := Aside0.mk hr0
 have hl1 : l0.length ≤ 9223372036854775807 := hr0.2.1
 clear hr0
 have hh := Option.some.inj h
 clear h
 obtain ⟨X1, hX1⟩ : ∃ X1, X1 = (l0.take 6).map (Value.int .i64) := ⟨_, rfl⟩
 have hXl : X1.length = Nat.min l0.length 6 := by rw [hX1, List.length_map, List.length_take, Nat.min_comm]
 have hspl : Aside0 ((splice [.int .i64 0, .int .i64 0, .int .i64 0, .int .i64 0, .int .i64 0, .int .i64 0] 0 X1).toArray = #[.int .i64 r1, .int .i64 r2, .int .i64 r3, .int .i64 r4, .int .i64 r5, .int .i64 r6]) := ⟨by
  rw [hX1]
  simp only [tup6, Prod.mk.injEq] at hh
  obtain ⟨rfl, rfl, rfl, rfl, rfl, rfl⟩ := hh
  match l0 with
  | [] => rfl
  | [_] => rfl
  | [_, _] => rfl
  | [_, _, _] => rfl
  | [_, _, _, _] => rfl
  | [_, _, _, _, _] => rfl
  | _ :: _ :: _ :: _ :: _ :: _ :: _ => rfl⟩
 have HXL := Aside0.mk hXl
 have HX1 : Aside0 (∀ v ∈ X1, v.oneCell' = true) := ⟨by
  intro v hv
  rw [hX1] at hv
  obtain ⟨x, _, rfl⟩ := List.mem_map.1 hv
  rfl⟩
 have HXS : Aside0 (∀ (W : World), Below w.heap.size w W → 0 < X1.length → ∃ ad, A0 = some ad ∧ ∀ j v, X1[j]? = some v → W.cell? (ad.add j) = some v) := ⟨by
  intro W hb h0
  have hC := Kd.C_below HR.out hb
  have h1 : 0 < l0.length := by
   rw [hXl] at h0
   have := Nat.min_le_left l0.length 6
   show 0 < l0.length
   exact Nat.lt_of_lt_of_le h0 this
  obtain ⟨ad, e1, _⟩ := Kd.at_int hC (0 : Int) (by omega) (by omega)
  refine ⟨ad, e1, fun j v hj => ?_⟩
  have hj2 : j < X1.length := (List.getElem?_eq_some_iff.1 hj).1
  have hj3 : j < l0.length := by rw [hXl] at hj2; exact Nat.lt_of_lt_of_le hj2 (Nat.min_le_left _ _)
  obtain ⟨ad', e2, hx⟩ := Kd.at_int hC (j : Int) (by omega) (by omega)
  rw [e1] at e2
  cases e2
  rw [Int.toNat_natCast] at hx
  rw [hx]
  rw [hX1, List.getElem?_map] at hj
  have : (l0.take 6)[j]? = some (rd l0 j) := by
   have hj4 : j < 6 := by rw [hXl] at hj2; exact Nat.lt_of_lt_of_le hj2 (Nat.min_le_right _ _)
   rw [List.getElem?_take_of_lt hj4]
   simp [rd, List.getD_eq_getElem?_getD, hj3]
  rw [this] at hj
  exact hj⟩
 have hsz : Aside0 ((Try.prog.info? 3).map (·.size) = some 1) := ⟨by kernel_rfl⟩
 have hi1 : Aside0 ((Try.prog.info? 70).map (·.size) = some (#[.int .i64 r1, .int .i64 r2, .int .i64 r3, .int .i64 r4, .int .i64 r5, .int .i64 r6] : Array Value).size) := ⟨by kernel_rfl⟩
 have hi3 : Aside0 ((#[.int .i64 r1, .int .i64 r2, .int .i64 r3, .int .i64 r4, .int .i64 r5, .int .i64 r6] : Array Value).all (·.oneCell') = true) := ⟨by simp [Value.oneCell']⟩
 have hi2 : Aside0 ((#[.int .i64 r1, .int .i64 r2, .int .i64 r3, .int .i64 r4, .int .i64 r5, .int .i64 r6] : Array Value).size = (#[.int .i64 r1, .int .i64 r2, .int .i64 r3, .int .i64 r4, .int .i64 r5, .int .i64 r6] : Array Value).size) := ⟨rfl⟩
 have hu1 := Aside0.mk Try.underlying25
 have hu2 := Aside0.mk Try.underlying70
 have HB0 : Aside0 (Below w.heap.size w (w.alloc (.cells #[.int .i64 0, .int .i64 0, .int .i64 0, .int .i64 0, .int .i64 0, .int .i64 0] 70))) := ⟨below_alloc (Below.refl _ _) _⟩
 clear hX1 hXl hh
 go_enter Try.func61, Try.ntmps61
 go_wp2_with (first | (refine wpList_copy_splice rfl (.tmp 3) (.tmp 4) 25 25 rfl 3 hu1.out hsz.out _ _ 6 6 _ _ rfl rfl w.heap.size 0 [.int .i64 0, .int .i64 0, .int .i64 0, .int .i64 0, .int .i64 0, .int .i64 0] 70 (blk_new w _) X1 HXL.out (fun h0 => ⟨rfl, HXS.out _ HB0.out h0⟩) (by rw [HXL.out]; simp only [Nat.zero_add]; exact Nat.min_le_right _ _) HX1.out w.heap.size w HB0.out (Nat.le_refl _) ?_; intro w2 hg2 hb2; have hq := hg2.out; rw [hspl.out] at hq; have G2 := Aside0.mk hq; have HB2 := Aside0.mk hb2; clear hg2 hb2 hq) | (with_reducible refine wpList_load_row rfl 70 (.tmp 2) rfl w.heap.size rfl 70 #[.int .i64 r1, .int .i64 r2, .int .i64 r3, .int .i64 r4, .int .i64 r5, .int .i64 r6] (0, 0) _ G2.out hu2.out rfl hi1.out ?_) | (with_reducible refine wpList_store_row rfl 70 (.tmp 2) (.tmp 6) rfl w.heap.size #[.int .i64 r1, .int .i64 r2, .int .i64 r3, .int .i64 r4, .int .i64 r5, .int .i64 r6] rfl rfl 70 _ G2.out hi1.out hi2.out hi3.out ?_))
 exact bodyPost_ret (results_cell_row rfl _ _ w.heap.size 70 #[.int .i64 r1, .int .i64 r2, .int .i64 r3, .int .i64 r4, .int .i64 r5, .int .i64 r6] (0, 0) _ rfl (setRow_heap _ _ _ _ _ _ G2.out) hu2.out rfl hi1.out) rfl ⟨rfl, below_setRow HB2.out (Nat.le_refl _) _⟩

/-! ### key_keys_made: function 70 -/
def key_keys_made.bad (x n g : Int) : Prop := x < n ∨ 100 < wrap64 (wrap64 (x - n) + g)
instance (x n g : Int) : Decidable (key_keys_made.bad x n g) := inferInstanceAs (Decidable (_ ∨ _))
def key_keys_made.go : List Int → Int → List Int → List Int → Option (List Int × Bool)
 | [], _, _, s => some (s, true)
 | n :: t, i, g, s => if i < 6 ∧ i < g.length then (if key_keys_made.bad (rd s i) n (rd g i) then some ([0, 0, 0, 0, 0, 0], false) else key_keys_made.go t (i + 1) g (s.set i.toNat (wrap64 (rd s i + wrap64 (rd g i - n))))) else none
def key_keys_made.f (a0_0 a0_1 a0_2 a0_3 a0_4 a0_5 : Int) (l1_0 l1_1 : List Int) : Option (Int × Int × Int × Int × Int × Int × Bool) :=
 (key_keys_made.go l1_0 0 l1_1 [a0_0, a0_1, a0_2, a0_3, a0_4, a0_5]).map fun p => (rd p.1 0, rd p.1 1, rd p.1 2, rd p.1 3, rd p.1 4, rd p.1 5, p.2)
theorem key_keys_made.go_len : ∀ {l : List Int} {i : Int} {g s : List Int} {sf : List Int} {b : Bool}, key_keys_made.go l i g s = some (sf, b) → s.length = 6 → sf.length = 6
 | [], _, _, _, _, _, h, hs => by cases h; exact hs
 | n :: t, i, g, s, sf, b, h, hs => by
  rw [key_keys_made.go] at h
  split at h
  ·
   split at h
   ·
    cases h; rfl
   ·
    exact key_keys_made.go_len h (by rw [List.length_set]; exact hs)
  ·
   cases h
set_option maxHeartbeats 8000000 in
set_option maxRecDepth 100000 in
theorem key_keys_made.calls (a0_0 : Int) (a0_1 : Int) (a0_2 : Int) (a0_3 : Int) (a0_4 : Int) (a0_5 : Int) (A1_0 : Option Addr) (c1_0 : Nat) (l1_0 : List Int) (A1_1 : Option Addr) (c1_1 : Nat) (l1_1 : List Int) (r1 : Int) (r2 : Int) (r3 : Int) (r4 : Int) (r5 : Int) (r6 : Int) (r7 : Bool) (w : World) (hr1_0 : Kd.C (Kd.int .i64) w A1_0 l1_0.length l1_0) (hc1_0 : l1_0.length ≤ c1_0) (hr1_1 : Kd.C (Kd.int .i64) w A1_1 l1_1.length l1_1) (hc1_1 : l1_1.length ≤ c1_1) (h : key_keys_made.f a0_0 a0_1 a0_2 a0_3 a0_4 a0_5 l1_0 l1_1 = some (r1, r2, r3, r4, r5, r6, r7)) :
  Calls Try.prog 70 #[.agg #[.int .i64 a0_0, .int .i64 a0_1, .int .i64 a0_2, .int .i64 a0_3, .int .i64 a0_4, .int .i64 a0_5], .agg #[.slice A1_0 l1_0.length c1_0, .slice A1_1 l1_1.length c1_1]] w fun e w' => e = .returned (.tuple #[.agg #[.int .i64 r1, .int .i64 r2, .int .i64 r3, .int .i64 r4, .int .i64 r5, .int .i64 r6], .bool r7]) ∧ Below w.heap.size w w' := by
 obtain ⟨s0, hs0⟩ : ∃ s : List Int, s = [a0_0, a0_1, a0_2, a0_3, a0_4, a0_5] := ⟨_, rfl⟩
 unfold key_keys_made.f at h
 rw [← hs0] at h
 obtain ⟨⟨sf, bf⟩, hgo, hr⟩ := Option.map_eq_some_iff.1 h
 simp only [Prod.mk.injEq] at hr
 have hsf : sf.length = 6 := key_keys_made.go_len hgo (by rw [hs0]; rfl)
 have HRES : Aside0 (ar sf = #[.int .i64 r1, .int .i64 r2, .int .i64 r3, .int .i64 r4, .int .i64 r5, .int .i64 r6]) := ⟨by
  obtain ⟨x0, x1, x2, x3, x4, x5, rfl⟩ := six_of hsf
  obtain ⟨rfl, rfl, rfl, rfl, rfl, rfl, _⟩ := hr
  rfl⟩
 obtain ⟨_, _, _, _, _, _, hb⟩ := hr
 subst hb
 have e1 : (#[.int .i64 a0_0, .int .i64 a0_1, .int .i64 a0_2, .int .i64 a0_3, .int .i64 a0_4, .int .i64 a0_5] : Array Value) = ar s0 := by rw [hs0]; rfl
 have E1 := Aside0.mk e1
 have HS0 : Aside0 (s0.length = 6) := ⟨by rw [hs0]; rfl⟩
 have HGO := Aside0.mk hgo
 have HSF := Aside0.mk hsf
 have HR1 := Aside0.mk hr1_0
 have HR2 := Aside0.mk hr1_1
 have HC1 := Aside0.mk hc1_0
 have HC2 := Aside0.mk hc1_1
 have hl1 : l1_0.length ≤ 9223372036854775807 := hr1_0.2.1
 have hl2 : l1_1.length ≤ 9223372036854775807 := hr1_1.2.1
 have hu2 := Aside0.mk Try.underlying70
 have hu3 := Try.underlying64
 have hi0 : Aside0 ((Try.prog.info? 70).map (·.size) = some 6) := ⟨by kernel_rfl⟩
 clear e1 hs0 h hgo hsf hr1_0 hr1_1 hc1_0 hc1_1
 obtain ⟨w0, hw0⟩ : ∃ w0, w0 = ((w.alloc (.cells #[.int .i64 a0_0, .int .i64 a0_1, .int .i64 a0_2, .int .i64 a0_3, .int .i64 a0_4, .int .i64 a0_5] 70)).alloc (.cells #[.slice A1_0 l1_0.length c1_0, .slice A1_1 l1_1.length c1_1] 64)).alloc (.cells #[.int .i64 0, .int .i64 0, .int .i64 0, .int .i64 0, .int .i64 0, .int .i64 0] 70) := ⟨_, rfl⟩
 have s1 : (w.alloc (.cells #[.int .i64 a0_0, .int .i64 a0_1, .int .i64 a0_2, .int .i64 a0_3, .int .i64 a0_4, .int .i64 a0_5] 70)).heap.size = w.heap.size + 1 := Array.size_push ..
 have s2 : ((w.alloc (.cells #[.int .i64 a0_0, .int .i64 a0_1, .int .i64 a0_2, .int .i64 a0_3, .int .i64 a0_4, .int .i64 a0_5] 70)).alloc (.cells #[.slice A1_0 l1_0.length c1_0, .slice A1_1 l1_1.length c1_1] 64)).heap.size = w.heap.size + 1 + 1 := by rw [show w.heap.size + 1 + 1 = (w.alloc (.cells #[.int .i64 a0_0, .int .i64 a0_1, .int .i64 a0_2, .int .i64 a0_3, .int .i64 a0_4, .int .i64 a0_5] 70)).heap.size + 1 by omega]; exact Array.size_push ..
 have F1 : Aside0 (w0.heap[w.heap.size]? = some (.cells (ar s0) 70 (0, 0))) := ⟨by rw [hw0, ← E1.out]; exact blk_alloc (blk_alloc (blk_new w _) _) _⟩
 have F2 : Aside0 (w0.heap[w.heap.size + 1]? = some (.cells #[.slice A1_0 l1_0.length c1_0, .slice A1_1 l1_1.length c1_1] 64 (0, 0))) := ⟨by rw [hw0, ← s1]; exact blk_alloc (blk_new _ _) _⟩
 have F3 : Aside0 (w0.heap[w.heap.size + 1 + 1]? = some (.cells #[.int .i64 0, .int .i64 0, .int .i64 0, .int .i64 0, .int .i64 0, .int .i64 0] 70 (0, 0))) := ⟨by rw [hw0, ← s2]; exact blk_new _ _⟩
 have HB0 : Aside0 (Below w.heap.size w w0) := ⟨by rw [hw0]; exact below_alloc (below_alloc (below_alloc (Below.refl _ _) _) _) _⟩
 clear s1 s2
 go_enter Try.func70, Try.ntmps70
 go_wp2
 change Code.wp _ _ _ _ (((w.alloc (.cells #[.int .i64 a0_0, .int .i64 a0_1, .int .i64 a0_2, .int .i64 a0_3, .int .i64 a0_4, .int .i64 a0_5] 70)).alloc (.cells #[.slice A1_0 l1_0.length c1_0, .slice A1_1 l1_1.length c1_1] 64)).alloc (.cells #[.int .i64 0, .int .i64 0, .int .i64 0, .int .i64 0, .int .i64 0, .int .i64 0] 70))
 rw [← hw0]
 clear hw0
 go_loopg [6, 7, 11] l1_0.length (fun kq v6 v7 v11 w' => ∃ (i : Int) (s : List Int), v11 = .int .i64 i ∧ Aside0 (0 ≤ i ∧ i ≤ l1_0.length) ∧ Aside0 (kq = l1_0.length - i.toNat) ∧ Aside0 (key_keys_made.go (l1_0.drop i.toNat) i l1_1 s = some (sf, bf)) ∧ Aside0 (s.length = 6) ∧ Aside0 (w'.heap[w.heap.size]? = some (.cells (ar s) 70 (0, 0))) ∧ Aside0 (w'.heap[w.heap.size + 1]? = some (.cells #[.slice A1_0 l1_0.length c1_0, .slice A1_1 l1_1.length c1_1] 64 (0, 0))) ∧ Aside0 (w'.heap[w.heap.size + 1 + 1]? = some (.cells #[.int .i64 0, .int .i64 0, .int .i64 0, .int .i64 0, .int .i64 0, .int .i64 0] 70 (0, 0))) ∧ Aside0 (Below w.heap.size w w'))
 case atStart => exact ⟨0, s0, rfl, ⟨by omega, by omega⟩, ⟨rfl⟩, HGO, HS0, F1, F2, F3, HB0⟩
 case round =>
  obtain ⟨i, s, rfl, HI, HK, HG, HL, G1, G2, G3, HB⟩ := hrel
  clear F1 F2 F3 HB0 HGO HS0 E1
  have hz1 : Aside0 ((Try.prog.info? 70).map (·.size) = some (#[.int .i64 0, .int .i64 0, .int .i64 0, .int .i64 0, .int .i64 0, .int .i64 0] : Array Value).size) := ⟨by kernel_rfl⟩
  have hz2 : Aside0 ((#[.int .i64 0, .int .i64 0, .int .i64 0, .int .i64 0, .int .i64 0, .int .i64 0] : Array Value).size = (#[.int .i64 0, .int .i64 0, .int .i64 0, .int .i64 0, .int .i64 0, .int .i64 0] : Array Value).size) := ⟨rfl⟩
  have hz3 : Aside0 ((#[.int .i64 0, .int .i64 0, .int .i64 0, .int .i64 0, .int .i64 0, .int .i64 0] : Array Value).all (·.oneCell') = true) := ⟨by simp [Value.oneCell']⟩
  have hz1 : Aside0 ((Try.prog.info? 70).map (·.size) = some (#[.int .i64 0, .int .i64 0, .int .i64 0, .int .i64 0, .int .i64 0, .int .i64 0] : Array Value).size) := ⟨by kernel_rfl⟩
  have hz2 : Aside0 ((#[.int .i64 0, .int .i64 0, .int .i64 0, .int .i64 0, .int .i64 0, .int .i64 0] : Array Value).size = (#[.int .i64 0, .int .i64 0, .int .i64 0, .int .i64 0, .int .i64 0, .int .i64 0] : Array Value).size) := ⟨rfl⟩
  have hz3 : Aside0 ((#[.int .i64 0, .int .i64 0, .int .i64 0, .int .i64 0, .int .i64 0, .int .i64 0] : Array Value).all (·.oneCell') = true) := ⟨by simp [Value.oneCell']⟩
  have hz1 : Aside0 ((Try.prog.info? 70).map (·.size) = some (#[.int .i64 0, .int .i64 0, .int .i64 0, .int .i64 0, .int .i64 0, .int .i64 0] : Array Value).size) := ⟨by kernel_rfl⟩
  have hz2 : Aside0 ((#[.int .i64 0, .int .i64 0, .int .i64 0, .int .i64 0, .int .i64 0, .int .i64 0] : Array Value).size = (#[.int .i64 0, .int .i64 0, .int .i64 0, .int .i64 0, .int .i64 0, .int .i64 0] : Array Value).size) := ⟨rfl⟩
  have hz3 : Aside0 ((#[.int .i64 0, .int .i64 0, .int .i64 0, .int .i64 0, .int .i64 0, .int .i64 0] : Array Value).all (·.oneCell') = true) := ⟨by simp [Value.oneCell']⟩
  have hz1 : Aside0 ((Try.prog.info? 70).map (·.size) = some (#[.int .i64 0, .int .i64 0, .int .i64 0, .int .i64 0, .int .i64 0, .int .i64 0] : Array Value).size) := ⟨by kernel_rfl⟩
  have hz2 : Aside0 ((#[.int .i64 0, .int .i64 0, .int .i64 0, .int .i64 0, .int .i64 0, .int .i64 0] : Array Value).size = (#[.int .i64 0, .int .i64 0, .int .i64 0, .int .i64 0, .int .i64 0, .int .i64 0] : Array Value).size) := ⟨rfl⟩
  have hz3 : Aside0 ((#[.int .i64 0, .int .i64 0, .int .i64 0, .int .i64 0, .int .i64 0, .int .i64 0] : Array Value).all (·.oneCell') = true) := ⟨by simp [Value.oneCell']⟩
  by_cases hlt : i < (l1_0.length : Int)
  ·
   have p1 : 0 ≤ i := HI.out.1
   have hg := HG.out
   rw [drop_rd p1 hlt, key_keys_made.go] at hg
   by_cases hcnd : ¬ (i < 6 ∧ i < l1_1.length)
   ·
    rw [if_neg hcnd] at hg; cases hg
   replace hcnd := Decidable.not_not.1 hcnd
   rw [if_pos hcnd] at hg
   obtain ⟨q1, q2⟩ := hcnd
   have HR1W := Aside0.mk (Kd.C_below HR1.out HB.out)
   have HR2W := Aside0.mk (Kd.C_below HR2.out HB.out)
   obtain ⟨ad1, e1, hx1⟩ := Kd.at_int HR1W.out i p1 hlt
   obtain ⟨ad2, e2, hx2⟩ := Kd.at_int HR2W.out i p1 q2
   cases e1
   cases e2
   have c1 := blkc G1.out i.toNat (.int .i64 (rd s i)) (ar_get s i p1 (by rw [HL.out]; omega))
   have f1 := blk_frozen G1.out i.toNat
   have d0 := blkc G2.out 0 (.slice (some ad1) l1_0.length c1_0) rfl
   have d1 := blkc G2.out 1 (.slice (some ad2) l1_1.length c1_1) rfl
   have g1 := eq_true p1
   have g2 := eq_true hlt
   have g3 := eq_true q1
   have g4 := eq_true q2
   have w1 : IntKind.i64.wrap (rd s i - rd l1_0 i) = wrap64 (rd s i - rd l1_0 i) := i64_w _
   have w2 : IntKind.i64.wrap (wrap64 (rd s i - rd l1_0 i) + rd l1_1 i) = wrap64 (wrap64 (rd s i - rd l1_0 i) + rd l1_1 i) := i64_w _
   have w3 : IntKind.i64.wrap (rd l1_1 i - rd l1_0 i) = wrap64 (rd l1_1 i - rd l1_0 i) := i64_w _
   have w4 : IntKind.i64.wrap (rd s i + wrap64 (rd l1_1 i - rd l1_0 i)) = wrap64 (rd s i + wrap64 (rd l1_1 i - rd l1_0 i)) := i64_w _
   by_cases hb1 : rd s i < rd l1_0 i
   ·
    have h1 : decide (rd s i < rd l1_0 i) = true := decide_eq_true hb1
    rw [if_pos (.inl hb1)] at hg
    cases hg
    clear hb1
    go_wp2
    go_quiet (fail)
    go_wp2_with (refine wpList_store_row rfl 70 (.tmp 4) (.tmp 35) rfl (w.heap.size + 1 + 1) #[.int .i64 0, .int .i64 0, .int .i64 0, .int .i64 0, .int .i64 0, .int .i64 0] rfl rfl 70 #[.int .i64 0, .int .i64 0, .int .i64 0, .int .i64 0, .int .i64 0, .int .i64 0] (blk_drewN G3.out _) (by kernel_rfl) rfl (by simp [Value.oneCell']) ?_)
    refine bodyPost_ret (results_ct rfl _ _ (w.heap.size + 1 + 1) 70 #[.int .i64 0, .int .i64 0, .int .i64 0, .int .i64 0, .int .i64 0, .int .i64 0] (0, 0) _ rfl (setRow_heap _ _ _ _ _ _ (blk_drewN G3.out _)) hu2.out rfl (by kernel_rfl)) rfl ⟨?_, below_setRow (pw_below_drewN HB.out _) (by omega) _⟩
    rw [← HRES.out]; rfl
   ·
    have h1 : decide (rd s i < rd l1_0 i) = false := decide_eq_false hb1
    by_cases hb2 : 100 < wrap64 (wrap64 (rd s i - rd l1_0 i) + rd l1_1 i)
    ·
     have h2 : decide (100 < wrap64 (wrap64 (rd s i - rd l1_0 i) + rd l1_1 i)) = true := decide_eq_true hb2
     rw [if_pos (.inr hb2)] at hg
     cases hg
     clear hb1 hb2
     go_wp2
     go_quiet (fail)
     go_wp2_with (refine wpList_store_row rfl 70 (.tmp 4) (.tmp 35) rfl (w.heap.size + 1 + 1) #[.int .i64 0, .int .i64 0, .int .i64 0, .int .i64 0, .int .i64 0, .int .i64 0] rfl rfl 70 #[.int .i64 0, .int .i64 0, .int .i64 0, .int .i64 0, .int .i64 0, .int .i64 0] (blk_drewN G3.out _) (by kernel_rfl) rfl (by simp [Value.oneCell']) ?_)
     refine bodyPost_ret (results_ct rfl _ _ (w.heap.size + 1 + 1) 70 #[.int .i64 0, .int .i64 0, .int .i64 0, .int .i64 0, .int .i64 0, .int .i64 0] (0, 0) _ rfl (setRow_heap _ _ _ _ _ _ (blk_drewN G3.out _)) hu2.out rfl (by kernel_rfl)) rfl ⟨?_, below_setRow (pw_below_drewN HB.out _) (by omega) _⟩
     rw [← HRES.out]; rfl
    ·
     have h2 : decide (100 < wrap64 (wrap64 (rd s i - rd l1_0 i) + rd l1_1 i)) = false := decide_eq_false hb2
     rw [if_neg (fun z => z.elim hb1 hb2)] at hg
     have HG2 := Aside0.mk hg
     clear hb1 hb2 hg
     go_wp2
     go_quiet (fail)
     go_wp2
     obtain ⟨w5, hw5⟩ : ∃ w5, w5 = wr.drewN nq := ⟨_, rfl⟩
     have B1 : Aside0 (w5.heap[w.heap.size]? = some (.cells (ar s) 70 (0, 0))) := ⟨by rw [hw5]; exact blk_drewN G1.out _⟩
     have B2 : Aside0 (w5.heap[w.heap.size + 1]? = some (.cells #[.slice (some ad1) l1_0.length c1_0, .slice (some ad2) l1_1.length c1_1] 64 (0, 0))) := ⟨by rw [hw5]; exact blk_drewN G2.out _⟩
     have B3 : Aside0 (w5.heap[w.heap.size + 1 + 1]? = some (.cells #[.int .i64 0, .int .i64 0, .int .i64 0, .int .i64 0, .int .i64 0, .int .i64 0] 70 (0, 0))) := ⟨by rw [hw5]; exact blk_drewN G3.out _⟩
     have HB5 : Aside0 (Below w.heap.size w w5) := ⟨by rw [hw5]; exact pw_below_drewN HB.out _⟩
     have hx5 : Aside0 (w5.cell? (ad2.add i.toNat) = some (.int .i64 (rd l1_1 i))) := ⟨by rw [hw5]; exact hx2⟩
     rw [← hw5]
     clear hw5 G1 G2 G3 HB c1 f1 d0 d1 hx1 hx2
     have c1 := blkc B1.out i.toNat (.int .i64 (rd s i)) (ar_get s i (of_eq_true g1) (by rw [HL.out]; have := of_eq_true g3; omega))
     have f1 := blk_frozen B1.out i.toNat
     have d0 := blkc B2.out 0 (.slice (some ad1) l1_0.length c1_0) rfl
     have d1 := blkc B2.out 1 (.slice (some ad2) l1_1.length c1_1) rfl
     have hx2 := hx5.out
     go_still_tail 11, (by kernel_rfl)
     change wpList _ _ _ _ _ w5.drew
     obtain ⟨w6, hw6⟩ : ∃ w6, w6 = w5.drew := ⟨_, rfl⟩
     rw [← hw6]
     replace B1 : Aside0 (w6.heap[w.heap.size]? = some (.cells (ar s) 70 (0, 0))) := ⟨by rw [hw6]; exact blk_drew B1.out⟩
     replace B2 : Aside0 (w6.heap[w.heap.size + 1]? = some (.cells #[.slice (some ad1) l1_0.length c1_0, .slice (some ad2) l1_1.length c1_1] 64 (0, 0))) := ⟨by rw [hw6]; exact blk_drew B2.out⟩
     replace B3 : Aside0 (w6.heap[w.heap.size + 1 + 1]? = some (.cells #[.int .i64 0, .int .i64 0, .int .i64 0, .int .i64 0, .int .i64 0, .int .i64 0] 70 (0, 0))) := ⟨by rw [hw6]; exact blk_drew B3.out⟩
     replace HB5 : Aside0 (Below w.heap.size w w6) := ⟨by rw [hw6]; exact below_drew1 HB5.out⟩
     clear hw6 c1 f1 d0 d1 hx2 hx5
     have c1 := blkc B1.out i.toNat (.int .i64 (rd s i)) (ar_get s i (of_eq_true g1) (by rw [HL.out]; have := of_eq_true g3; omega))
     have f1 := blk_frozen B1.out i.toNat
     go_wp2
     go_roundg (l1_0.length - (i + 1).toNat)
     case measure => have := of_eq_true g2; have := HK.out; have := HI.out; omega
     case rel =>
      have hw : wrap64 (i + 1) = i + 1 := by unfold wrap64; have := HI.out; omega
      have := of_eq_true g2
      refine ⟨i + 1, s.set i.toNat (wrap64 (rd s i + wrap64 (rd l1_1 i - rd l1_0 i))), by first | rfl | rw [hw], ⟨by have := HI.out; omega, by omega⟩, ⟨rfl⟩, HG2, ⟨by rw [List.length_set]; exact HL.out⟩, ⟨blk_put B1.out i.toNat _ (ar_set s _ _)⟩, ⟨blk_far B2.out (by simp) _⟩, ⟨blk_far B3.out (by simp; omega) _⟩, ⟨below_set HB5.out (by simp)⟩⟩
  ·
   have h1 : decide (i < (l1_0.length : Int)) = false := decide_eq_false hlt
   have hg := HG.out
   rw [List.drop_eq_nil_of_le (by have := HI.out; omega), key_keys_made.go] at hg
   cases hg
   have hq1 : Aside0 ((Try.prog.info? 70).map (·.size) = some (ar sf).size) := ⟨by rw [ar_size, HSF.out]; kernel_rfl⟩
   have hq2 : Aside0 ((#[.int .i64 0, .int .i64 0, .int .i64 0, .int .i64 0, .int .i64 0, .int .i64 0] : Array Value).size = (ar sf).size) := ⟨by rw [ar_size, HSF.out]; rfl⟩
   have hq3 : Aside0 ((ar sf).all (·.oneCell') = true) := ⟨ar_one sf⟩
   clear HG HK HI
   go_wp2_with (first | (with_reducible refine wpList_load_row rfl 70 (.tmp 2) rfl w.heap.size rfl 70 (ar sf) (0, 0) _ G1.out hu2.out rfl hq1.out ?_) | (with_reducible refine wpList_store_row rfl 70 (.tmp 4) (.tmp 49) rfl (w.heap.size + 1 + 1) (ar sf) rfl rfl 70 #[.int .i64 0, .int .i64 0, .int .i64 0, .int .i64 0, .int .i64 0, .int .i64 0] G3.out hq1.out hq2.out hq3.out ?_))
   refine bodyPost_ret (results_ct rfl _ _ (w.heap.size + 1 + 1) 70 (ar sf) (0, 0) _ rfl (setRow_heap _ _ _ _ _ _ G3.out) hu2.out rfl hq1.out) rfl ⟨?_, below_setRow HB.out (by omega) _⟩
   rw [← HRES.out]; rfl

/-! ### key_spread: function 87 -/
def key_spread.toL (x : S70) : List Int := [x.f0, x.f1, x.f2, x.f3, x.f4, x.f5]
def key_spread.inner (k : S70) (i : Int) : List S64 → Int → List S70 → List S107 → Option (Option (List S70 × List S107))
 | [], _, all, st => some (some (all, st))
 | u :: us, t, all, st => (key_keys_made.f k.f0 k.f1 k.f2 k.f3 k.f4 k.f5 u.f0 u.f1).bind fun (r0, r1, r2, r3, r4, r5, ok) => if wf6 [r0, r1, r2, r3, r4, r5] then (if ok = true ∧ ¬ [r0, r1, r2, r3, r4, r5] ∈ all.map key_spread.toL then (if 300 < all.length + 1 then some none else key_spread.inner k i us (t + 1) (all ++ [⟨r0, r1, r2, r3, r4, r5⟩]) (st ++ [⟨i, t⟩])) else key_spread.inner k i us (t + 1) all st) else none
def key_spread.go (ts : List S64) : Nat → Nat → List S70 → List S107 → Option (List S70 × List S107 × Bool)
 | 0, _, _, _ => none
 | m + 1, i, all, st => if h : i < all.length then ((key_spread.inner all[i] i ts 0 all st).bind fun x => match x with
  | none => some ([], [], false)
  | some (all', st') => key_spread.go ts m (i + 1) all' st') else some (all, st, true)
def key_spread.f (a0_0 : Int) (l0_1 : List S64) (a1_0 a1_1 a1_2 a1_3 a1_4 a1_5 : Int) : Option (List S70 × List S107 × Bool) :=
 if wf6 [a1_0, a1_1, a1_2, a1_3, a1_4, a1_5] then key_spread.go l0_1 400 0 [⟨a1_0, a1_1, a1_2, a1_3, a1_4, a1_5⟩] [⟨-1, -1⟩] else none
theorem key_spread.infoT : (Try.prog.info? 70).map (fun i => (i.zero, i.size, i.bytes)) = some (some (.agg #[.int .i64 0, .int .i64 0, .int .i64 0, .int .i64 0, .int .i64 0, .int .i64 0]), 6, 48) := by kernel_rfl
theorem key_spread.infoS : (Try.prog.info? 107).map (fun i => (i.zero, i.size, i.bytes)) = some (some (.agg #[.int .i64 0, .int .i64 0]), 2, 16) := by kernel_rfl
def key_spread.key (x : S70) : Value := .agg (ar (key_spread.toL x))
theorem key_spread.arr : WideMaps.ArrKey Try.prog 70 3 6 := ⟨Try.underlying70, by kernel_rfl, by kernel_rfl, by kernel_rfl⟩
theorem key_spread.keyed : Maps.Keyed Try.prog 70 := .of_law key_spread.arr.law
theorem key_spread.keyOf (x : S70) (h : wf6 (key_spread.toL x)) : ∃ l, keyOf Try.prog 70 (key_spread.key x) = some l := by
 have hs : 0 < Try.prog.types.size := of_decide_eq_true (by kernel_rfl)
 exact keyOf_ints key_spread.arr Try.underlying3 ⟨Try.prog.types.size - 1, by omega⟩ (xs := key_spread.toL x) rfl (fun y hy => WalkArith.wf_i64 (h y hy))
theorem key_spread.ar_inj {s t : List Int} (h : ar s = ar t) : s = t := by
 have h1 : s.map (Value.int .i64) = t.map (Value.int .i64) := by
  have := congrArg Array.toList h
  simpa [ar] using this
 exact (List.map_inj_right (fun _ _ e => by injection e)).1 h1
theorem key_spread.mem {x : S70} {all : List S70} : key_spread.key x ∈ all.map key_spread.key ↔ key_spread.toL x ∈ all.map key_spread.toL := by
 simp only [List.mem_map]
 constructor
 ·
  rintro ⟨y, hy, e⟩
  refine ⟨y, hy, key_spread.ar_inj ?_⟩
  injection e
 ·
  rintro ⟨y, hy, e⟩
  exact ⟨y, hy, by rw [key_spread.key, key_spread.key, e]⟩
def key_spread.Rel (w W : World) (bm gb : Nat) (cs : Array Value) (v7 v8 : Value) (all : List S70) (st : List S107) : Prop :=
 (∃ n q, n ≤ all.length ∧ (∀ v, v ∈ q ↔ v ∈ all.map key_spread.key) ∧ MSet Try.prog 70 4 W bm n q) ∧ k70.R 70 W w.heap.size (fun j => j ≠ bm) v7 all ∧ k107.R 107 W w.heap.size (fun j => j ≠ bm) v8 st ∧
  W.heap[gb]? = some (.cells cs 24 (0, 0)) ∧ Below w.heap.size w W ∧ w.heap.size ≤ bm ∧ gb ≠ bm ∧ (∀ x ∈ all, wf6 (key_spread.toL x)) ∧ all.length ≤ 400 ∧ st.length ≤ all.length
section
variable {w W W1 : World} {bm gb : Nat} {cs : Array Value} {v7 v8 : Value} {all : List S70} {st : List S107}
theorem key_spread.Rel.below (h : key_spread.Rel w W bm gb cs v7 v8 all st) (hb : Below W.heap.size W W1) : key_spread.Rel w W1 bm gb cs v7 v8 all st := by
 obtain ⟨⟨n, q, h1, h2, h3⟩, h4, h5, h6, h7, h8, h9, h10, h11⟩ := h
 exact ⟨⟨n, q, h1, h2, h3.below hb⟩, Kd.R_below h4 hb, Kd.R_below h5 hb, (hb.block gb (blk_lt h6)).trans h6, below_step h7 hb, h8, h9, h10, h11⟩
theorem key_spread.Rel.drew (h : key_spread.Rel w W bm gb cs v7 v8 all st) : key_spread.Rel w W.drew bm gb cs v7 v8 all st := h.below (below_drew1 (Below.refl _ _))
theorem key_spread.Rel.drewN (h : key_spread.Rel w W bm gb cs v7 v8 all st) (m : Nat) : key_spread.Rel w (W.drewN m) bm gb cs v7 v8 all st := h.below (pw_below_drewN (Below.refl _ _) m)
theorem key_spread.Rel.bm_lt (h : key_spread.Rel w W bm gb cs v7 v8 all st) : bm < W.heap.size := by
 obtain ⟨⟨n, q, h1, h2, h3⟩, _⟩ := h
 exact h3.lt
theorem key_spread.Rel.look (h : key_spread.Rel w W bm gb cs v7 v8 all st) {x : S70} (hw : wf6 (key_spread.toL x)) : (Instr.lookup 115 (.map (some bm)) (key_spread.key x) false).run Try.prog W = .ok (.bool (decide (key_spread.toL x ∈ all.map key_spread.toL))) W := by
 obtain ⟨⟨n, q, h1, h2, h3⟩, _⟩ := h
 obtain ⟨l, hl⟩ := key_spread.keyOf x hw
 have hz : (zeroValue 4).run Try.prog W = .ok (.bool false) W := by kernel_rfl
 rw [h3.look key_spread.keyed Try.underlying115 Try.underlying4 hz hl]
 have e : (key_spread.key x ∈ q) ↔ key_spread.toL x ∈ all.map key_spread.toL := (h2 _).trans key_spread.mem
 exact congrArg (fun b => Result.ok (Value.bool b) W) (decide_eq_decide.2 e)
def key_spread.Put (w W : World) (bm gb : Nat) (cs : Array Value) (v7 v8 : Value) (all : List S70) (st : List S107) (x : S70) : Prop :=
 (∃ n q, n ≤ all.length + 1 ∧ (∀ v, v ∈ q ↔ v ∈ (all ++ [x]).map key_spread.key) ∧ MSet Try.prog 70 4 W bm n q) ∧ k70.R 70 W w.heap.size (fun j => j ≠ bm) v7 all ∧ k107.R 107 W w.heap.size (fun j => j ≠ bm) v8 st ∧
  W.heap[gb]? = some (.cells cs 24 (0, 0)) ∧ Below w.heap.size w W ∧ w.heap.size ≤ bm ∧ gb ≠ bm ∧ (∀ y ∈ all ++ [x], wf6 (key_spread.toL y)) ∧ all.length ≤ 400 ∧ st.length ≤ all.length
theorem key_spread.Rel.store (h : key_spread.Rel w W bm gb cs v7 v8 all st) {x : S70} (hw : wf6 (key_spread.toL x)) :
  ∃ w', (Instr.mapUpdate 115 (.map (some bm)) (key_spread.key x) (.bool true)).run Try.prog W = .ok () w' ∧ key_spread.Put w w' bm gb cs v7 v8 all st x ∧ W.grownBy w' (some bm) := by
 obtain ⟨⟨n, q, h1, h2, h3⟩, h4, h5, h6, h7, h8, h9, h10, h11⟩ := h
 obtain ⟨l, hl⟩ := key_spread.keyOf x hw
 obtain ⟨w', r1, r2, r3⟩ := h3.store key_spread.keyed Try.underlying115 Try.underlying4 (by unfold maxLen; omega) hl
 refine ⟨w', r1, ⟨⟨n + 1, key_spread.key x :: q, by omega, fun v => ?_, r2⟩, Kd.R_grown h4 r3 (fun k hk e => hk (by injection e)), Kd.R_grown h5 r3 (fun k hk e => hk (by injection e)), (r3.block gb (blk_lt h6) (fun e => h9 (by injection e))).trans h6, h7.grown r3 h7.size (fun j hj => by injection hj with hj; omega), h8, h9, fun y hy => ?_, h11⟩, r3⟩
 ·
  rw [List.map_append, List.mem_append, List.mem_cons, h2 v]
  simp only [List.map_cons, List.map_nil, List.mem_singleton]
  exact Or.comm
 ·
  rcases List.mem_append.1 hy with hy | hy
  ·
   exact h10 y hy
  ·
   rw [List.mem_singleton] at hy; subst hy; exact hw
theorem key_spread.store_op {ops : Array Oper} {rest : List Oper} {o : Oper} {a : Act} {Q : Exit → Act → World → Prop} (hg : o.guard = none) (m x v : Operand) (hop : o.op = Op.mapUpdate 115 m x v) (hm : a.eval m = .map (some bm)) {y : S70} (hx : a.eval x = key_spread.key y) (hv : a.eval v = .bool true)
  (h : key_spread.Rel w W bm gb cs v7 v8 all st) (hw : wf6 (key_spread.toL y))
  (hK : ∀ w', key_spread.Put w w' bm gb cs v7 v8 all st y → W.grownBy w' (some bm) → wpList Try.prog ops Q rest (a.put o.dst undef) w') : wpList Try.prog ops Q (o :: rest) a W := by
 refine wpList_plain hg fun K' hK' => ?_
 obtain ⟨w', hrun, r1, r2⟩ := h.store hw
 unfold Oper.wp
 simp [execOp, hop, hm, hx, hv, hrun, Result.andThen]
 exact hK' _ _ (hK w' r1 r2)
theorem key_spread.Put.bm_lt {x : S70} (h : key_spread.Put w W bm gb cs v7 v8 all st x) : bm < W.heap.size := by
 obtain ⟨⟨n, q, h1, h2, h3⟩, _⟩ := h
 exact h3.lt
theorem key_spread.keep_blk {g : Nat} {cells : Array Value} {t : TypeId} (h : W.heap[g]? = some (.cells cells t (0, 0))) (hg : W.grownBy W1 (some bm)) (hR : key_spread.Rel w W bm gb cs v7 v8 all st) : W1.heap[g]? = some (.cells cells t (0, 0)) := by
 refine blk_grown h hg (fun e => ?_)
 injection e with e
 subst e
 obtain ⟨⟨n, q, h1, h2, D, ⟨es, clock, h3, _⟩, _⟩, _⟩ := hR
 rw [h] at h3
 cases h3
theorem key_spread.Put.mid {x : S70} (h : key_spread.Put w W bm gb cs v7 v8 all st x) (g7 : W.grownBy W1 v7.ownBlock) : k107.R 107 W1 w.heap.size (fun j => j ≠ bm) v8 st := by
 obtain ⟨⟨n, q, h1, h2, h3⟩, h4, h5, h6, h7, h8, h9, h10, h11⟩ := h
 refine Kd.R_mono (ok := fun j => j ≠ bm ∧ some j ≠ v7.ownBlock) (Kd.R_grown (Kd.R_mono (Kd.R_bound h5) (fun k hk => ⟨hk.1, fun e => ?_⟩)) g7 (fun k hk => hk.2)) (fun k hk => hk.1)
 obtain ⟨inner, ho⟩ := Kd.R_own h4
 obtain ⟨cells, hc⟩ := own_typed ho k e.symm
 obtain ⟨_, _, _, t, ht, cells', hc'⟩ := hk
 rw [hc] at hc'
 injection hc' with hc'
 injection hc' with _ hc' _
 subst hc'
 revert ht
 decide
theorem key_spread.Put.fin {W2 W3 : World} {v7' v8' : Value} {x : S70} {y : S107} (h : key_spread.Put w W bm gb cs v7 v8 all st x) (hl : all.length < 400)
  (g7 : W.grownBy W1 v7.ownBlock) (r7 : k70.R 70 W1 w.heap.size (fun j => j ≠ bm) v7' (all ++ [x])) (a7 : v7'.ownBlock = v7.ownBlock ∨ ∃ b, v7'.ownBlock = some b ∧ W.heap.size ≤ b)
  (hb2 : Below W1.heap.size W1 W2) (g8 : W2.grownBy W3 v8.ownBlock) (r8 : k107.R 107 W3 w.heap.size (fun j => j ≠ bm) v8' (st ++ [y])) (hbl : Below w.heap.size w W3) : key_spread.Rel w W3 bm gb cs v7' v8' (all ++ [x]) (st ++ [y]) := by
 obtain ⟨⟨n, q, h1, h2, h3⟩, h4, h5, h6, h7, h8, h9, h10, h11⟩ := h
 have n7 : some bm ≠ v7.ownBlock := fun e => h4.1 bm e.symm rfl
 have n8 : some bm ≠ v8.ownBlock := fun e => h5.1 bm e.symm rfl
 have m1 := h3.grown g7 n7
 have m3 := (m1.below hb2).grown g8 n8
 have b1 : W1.heap[gb]? = some (.cells cs 24 (0, 0)) := blk_grown h6 g7 (Kd.R_ne h4 h6 (by decide))
 have r8w : k107.R 107 W1 w.heap.size (fun j => j ≠ bm ∧ some j ≠ v7.ownBlock) v8 st := by
  refine Kd.R_grown (Kd.R_mono (Kd.R_bound h5) (fun k hk => ⟨hk.1, fun e => ?_⟩)) g7 (fun k hk => hk.2)
  obtain ⟨inner, ho⟩ := Kd.R_own h4
  obtain ⟨cells, hc⟩ := own_typed ho k e.symm
  obtain ⟨_, _, _, t, ht, cells', hc'⟩ := hk
  rw [hc] at hc'
  injection hc' with hc'
  injection hc' with _ hc' _
  subst hc'
  revert ht
  decide
 have b2 : W2.heap[gb]? = some (.cells cs 24 (0, 0)) := blk_below b1 hb2
 have r8w2 := Kd.R_below r8w hb2
 have b3 : W3.heap[gb]? = some (.cells cs 24 (0, 0)) := blk_grown b2 g8 (Kd.R_ne r8w2 b2 (by decide))
 have r7w2 := Kd.R_below r7 hb2
 have r7w3 : k70.R 70 W3 w.heap.size (fun j => j ≠ bm) v7' (all ++ [x]) := by
  refine Kd.R_mono (ok := fun j => j ≠ bm ∧ some j ≠ v8.ownBlock) (Kd.R_grown (Kd.R_mono (Kd.R_bound r7w2) (fun k hk => ⟨hk.1, fun e => ?_⟩)) g8 (fun k hk => hk.2)) (fun k hk => hk.1)
  obtain ⟨inner, ho⟩ := Kd.R_own r8w2
  obtain ⟨cells, hc⟩ := own_typed ho k e.symm
  obtain ⟨_, _, _, t, ht, cells', hc'⟩ := hk
  rw [hc] at hc'
  injection hc' with hc'
  injection hc' with _ hc' _
  subst hc'
  revert ht
  decide
 exact ⟨⟨n, q, by rw [List.length_append]; exact h1, h2, m3⟩, r7w3, r8, b3, hbl, h8, h9, h10, by simp only [List.length_append, List.length_singleton]; omega, by simp only [List.length_append, List.length_singleton]; omega⟩
end
theorem key_spread.inner_len {kx : S70} {i : Int} : ∀ {us : List S64} {y : Int} {all : List S70} {st : List S107} {a : List S70} {s : List S107}, key_spread.inner kx i us y all st = some (some (a, s)) → all.length ≤ 300 → a.length ≤ 300
 | [], _, _, _, _, _, h, hl => by
  simp only [key_spread.inner, Option.some.injEq, Prod.mk.injEq] at h
  obtain ⟨rfl, rfl⟩ := h
  exact hl
 | u :: us, y, all, st, a, s, h, hl => by
  rw [key_spread.inner] at h
  obtain ⟨⟨q0, q1, q2, q3, q4, q5, ok⟩, _, h⟩ := Option.bind_eq_some_iff.1 h
  simp only at h
  split at h
  ·
   split at h
   ·
    split at h
    ·
     simp at h
    ·
     exact key_spread.inner_len h (by rw [List.length_append, List.length_singleton]; omega)
   ·
    exact key_spread.inner_len h hl
  ·
   cases h
theorem key_spread.go_len {ts : List S64} : ∀ {m i : Nat} {all : List S70} {st : List S107} {a : List S70} {s : List S107} {ok : Bool}, key_spread.go ts m i all st = some (a, s, ok) → all.length ≤ 300 → a.length ≤ 300
 | 0, _, _, _, _, _, _, h, _ => by simp [key_spread.go] at h
 | m + 1, i, all, st, a, s, ok, h, hl => by
  rw [key_spread.go] at h
  split at h
  ·
   obtain ⟨x, hx, h⟩ := Option.bind_eq_some_iff.1 h
   match x, hx, h with
   | none, _, h =>
    simp only [Option.some.injEq, Prod.mk.injEq] at h
    rw [← h.1]; simp
   | some (a', s'), hx, h => exact key_spread.go_len h (key_spread.inner_len hx hl)
  ·
   simp only [Option.some.injEq, Prod.mk.injEq] at h
   rw [← h.1]; exact hl
theorem key_spread.len {a0_0 : Int} {l0_1 : List S64} {x0 x1 x2 x3 x4 x5 : Int} {a : List S70} {s : List S107} {ok : Bool} (h : key_spread.f a0_0 l0_1 x0 x1 x2 x3 x4 x5 = some (a, s, ok)) : a.length ≤ 300 := by
 unfold key_spread.f at h
 split at h
 ·
  exact key_spread.go_len h (by simp)
 ·
  cases h
theorem key_spread.inner_wf {kx : S70} {i : Int} : ∀ {us : List S64} {y : Int} {all : List S70} {st : List S107} {a : List S70} {s : List S107}, key_spread.inner kx i us y all st = some (some (a, s)) → (∀ x ∈ all, wf6 (key_spread.toL x)) → ∀ x ∈ a, wf6 (key_spread.toL x)
 | [], _, _, _, _, _, h, hl => by
  simp only [key_spread.inner, Option.some.injEq, Prod.mk.injEq] at h
  obtain ⟨rfl, rfl⟩ := h
  exact hl
 | u :: us, y, all, st, a, s, h, hl => by
  rw [key_spread.inner] at h
  obtain ⟨⟨q0, q1, q2, q3, q4, q5, ok⟩, _, h⟩ := Option.bind_eq_some_iff.1 h
  simp only at h
  split at h
  ·
   rename_i hw
   split at h
   ·
    split at h
    ·
     simp at h
    ·
     refine key_spread.inner_wf h (fun x hx => ?_)
     rcases List.mem_append.1 hx with hx | hx
     ·
      exact hl x hx
     ·
      rw [List.mem_singleton] at hx; subst hx; exact hw
   ·
    exact key_spread.inner_wf h hl
  ·
   cases h
theorem key_spread.go_wf {ts : List S64} : ∀ {m i : Nat} {all : List S70} {st : List S107} {a : List S70} {s : List S107} {ok : Bool}, key_spread.go ts m i all st = some (a, s, ok) → (∀ x ∈ all, wf6 (key_spread.toL x)) → ∀ x ∈ a, wf6 (key_spread.toL x)
 | 0, _, _, _, _, _, _, h, _ => by simp [key_spread.go] at h
 | m + 1, i, all, st, a, s, ok, h, hl => by
  rw [key_spread.go] at h
  split at h
  ·
   obtain ⟨x, hx, h⟩ := Option.bind_eq_some_iff.1 h
   match x, hx, h with
   | none, _, h =>
    simp only [Option.some.injEq, Prod.mk.injEq] at h
    rw [← h.1]; exact fun x hx => by cases hx
   | some (a', s'), hx, h => exact key_spread.go_wf h (key_spread.inner_wf hx hl)
  ·
   simp only [Option.some.injEq, Prod.mk.injEq] at h
   rw [← h.1]; exact hl
theorem key_spread.wfs {a0_0 : Int} {l0_1 : List S64} {x0 x1 x2 x3 x4 x5 : Int} {a : List S70} {s : List S107} {ok : Bool} (h : key_spread.f a0_0 l0_1 x0 x1 x2 x3 x4 x5 = some (a, s, ok)) : ∀ x ∈ a, wf6 (key_spread.toL x) := by
 unfold key_spread.f at h
 split at h
 ·
  rename_i hw
  exact key_spread.go_wf h (fun x hx => by rw [List.mem_singleton] at hx; subst hx; exact hw)
 ·
  cases h
set_option maxRecDepth 100000 in
theorem key_spread.eq_keys (x y : S70) (hx : wf6 (key_spread.toL x)) (hy : wf6 (key_spread.toL y)) (W : World) : (Op.equalIn 10000 70 (key_spread.key x) (key_spread.key y)).run Try.prog W = .ok (decide (key_spread.toL x = key_spread.toL y)) W := by
 obtain ⟨lx, h1⟩ := key_spread.keyOf x hx
 obtain ⟨ly, h2⟩ := key_spread.keyOf y hy
 obtain ⟨r, hr, hiff⟩ := run_equal_deep W (m := 2) (by decide) (key_spread.arr.at 0) key_spread.arr.wide h1 h2
 have e : r = decide (key_spread.toL x = key_spread.toL y) := by
  rw [Bool.eq_iff_iff, hiff, decide_eq_true_eq]
  constructor
  ·
   intro e
   have h3 := key_spread.keyed.inj h1 (e ▸ h2)
   injection h3 with h3
   exact key_spread.ar_inj h3
  ·
   intro e
   have h3 : key_spread.key x = key_spread.key y := by rw [key_spread.key, key_spread.key, e]
   rw [h3, h2] at h1
   exact (Option.some.inj h1).symm
 rw [← e]
 exact hr
set_option maxHeartbeats 8000000 in
set_option maxRecDepth 100000 in
theorem key_spread.calls (a0_0 : Int) (A0_1 : Option Addr) (c0_1 : Nat) (l0_1 : List S64) (a1_0 : Int) (a1_1 : Int) (a1_2 : Int) (a1_3 : Int) (a1_4 : Int) (a1_5 : Int) (r1 : List S70) (r2 : List S107) (r3 : Bool) (w : World) (hr0_1 : Kd.C k64 w A0_1 l0_1.length l0_1) (hc0_1 : l0_1.length ≤ c0_1) (h : key_spread.f a0_0 l0_1 a1_0 a1_1 a1_2 a1_3 a1_4 a1_5 = some (r1, r2, r3)) :
  Calls Try.prog 87 #[.agg #[.int .i64 a0_0, .slice A0_1 l0_1.length c0_1], .agg #[.int .i64 a1_0, .int .i64 a1_1, .int .i64 a1_2, .int .i64 a1_3, .int .i64 a1_4, .int .i64 a1_5]] w fun e w' => ∃ v0_ v1_ : Value, e = .returned (.tuple #[v0_, v1_, .bool r3]) ∧ Kd.R k70 70 w' w.heap.size (fun _ => True) v0_ r1 ∧ Kd.R k107 107 w' w.heap.size (fun _ => True) v1_ r2 ∧ Below w.heap.size w w' := by
 have hu := Try.underlying24
 have hu2 := Try.underlying64
 have HR := Aside0.mk hr0_1
 have HC := Aside0.mk hc0_1
 have hl1 : l0_1.length ≤ 9223372036854775807 := hr0_1.2.1
 clear hr0_1 hc0_1
 unfold key_spread.f at h
 by_cases hwf : ¬ wf6 [a1_0, a1_1, a1_2, a1_3, a1_4, a1_5]
 ·
  rw [if_neg hwf] at h; cases h
 replace hwf := Decidable.not_not.1 hwf
 rw [if_pos hwf] at h
 have H := Aside0.mk h
 have hmm := @run_makeMap Try.prog
 obtain ⟨kx0, hkx0⟩ : ∃ x : S70, x = ⟨a1_0, a1_1, a1_2, a1_3, a1_4, a1_5⟩ := ⟨_, rfl⟩
 -- the worlds ahead of the loop
 obtain ⟨w1, hw1⟩ : ∃ W, W = w.alloc (.cells #[.int .i64 a0_0, .slice A0_1 l0_1.length c0_1] 24) := ⟨_, rfl⟩
 have s1 : w1.heap.size = w.heap.size + 1 := by rw [hw1]; exact Array.size_push ..
 obtain ⟨w2, hw2⟩ : ∃ W, W = w1.alloc (.cells #[.int .i64 a1_0, .int .i64 a1_1, .int .i64 a1_2, .int .i64 a1_3, .int .i64 a1_4, .int .i64 a1_5] 70) := ⟨_, rfl⟩
 have s2 : w2.heap.size = w.heap.size + 1 + 1 := by rw [hw2, ← s1]; exact Array.size_push ..
 obtain ⟨w3, hw3⟩ : ∃ W, W = w2.alloc (.cells #[.int .i64 a1_0, .int .i64 a1_1, .int .i64 a1_2, .int .i64 a1_3, .int .i64 a1_4, .int .i64 a1_5] 70) := ⟨_, rfl⟩
 have s3 : w3.heap.size = w.heap.size + 1 + 1 + 1 := by rw [hw3, ← s2]; exact Array.size_push ..
 obtain ⟨w4, hw4⟩ : ∃ W, W = w3.alloc (.cells #[.int .i64 (-1), .int .i64 (-1)] 107) := ⟨_, rfl⟩
 have s4 : w4.heap.size = w.heap.size + 1 + 1 + 1 + 1 := by rw [hw4, ← s3]; exact Array.size_push ..
 have e0 : (.agg #[.int .i64 a1_0, .int .i64 a1_1, .int .i64 a1_2, .int .i64 a1_3, .int .i64 a1_4, .int .i64 a1_5] : Value) = key_spread.key kx0 := by rw [hkx0]; rfl
 have hwf0 : wf6 (key_spread.toL kx0) := by rw [hkx0]; exact hwf
 obtain ⟨l0, hl0⟩ := key_spread.keyOf kx0 hwf0
 obtain ⟨w6, hrun, hM6, hg6⟩ := (MSet.made Try.prog 70 4 w4).store (t := 115) key_spread.keyed Try.underlying115 Try.underlying4 (by unfold maxLen; omega) hl0
 rw [s4, ← e0] at hrun
 rw [s4] at hM6 hg6
 have b4 : Below w.heap.size w w4 := by rw [hw4, hw3, hw2, hw1]; exact below_alloc (below_alloc (below_alloc (below_alloc (Below.refl _ _) _) _) _) _
 have B0 : w4.heap[w.heap.size]? = some (.cells #[.int .i64 a0_0, .slice A0_1 l0_1.length c0_1] 24 (0, 0)) := by rw [hw4, hw3, hw2, hw1]; exact blk_alloc (blk_alloc (blk_alloc (blk_new w _) _) _) _
 have R7 : k70.R 70 w4 w.heap.size (fun j => j ≠ w.heap.size + 1 + 1 + 1 + 1) (.slice (some ⟨w.heap.size + 1 + 1, 0, none⟩) 1 1) [kx0] := by
  have h1 : k70.R 70 w3 w.heap.size (fun j => j ≠ w.heap.size + 1 + 1 + 1 + 1) (.slice (some ⟨w2.heap.size, 0, none⟩) 1 1) [kx0] := by
   rw [hw3]
   refine ⟨fun j hj => ?_, OwnRow.lit w2 w.heap.size (inner := [.int .i64 a1_0, .int .i64 a1_1, .int .i64 a1_2, .int .i64 a1_3, .int .i64 a1_4, .int .i64 a1_5]) ?_ (by omega) (by simp)⟩
   ·
    simp only [Value.ownBlock, Option.some.injEq] at hj
    omega
   ·
    rw [hkx0]
    exact Reps.snoc (ps := []) (cs := []) (Reps.none _ _) (k70_mkM _ _ _ _) rfl
  rw [s2] at h1
  rw [hw4]
  exact Kd.R_below h1 (below_alloc (Below.refl _ _) _)
 have R8 : k107.R 107 w4 w.heap.size (fun j => j ≠ w.heap.size + 1 + 1 + 1 + 1) (.slice (some ⟨w.heap.size + 1 + 1 + 1, 0, none⟩) 1 1) [⟨-1, -1⟩] := by
  have h1 : k107.R 107 w4 w.heap.size (fun j => j ≠ w.heap.size + 1 + 1 + 1 + 1) (.slice (some ⟨w3.heap.size, 0, none⟩) 1 1) [⟨-1, -1⟩] := by
   rw [hw4]
   refine ⟨fun j hj => ?_, OwnRow.lit w3 w.heap.size (inner := [.int .i64 (-1), .int .i64 (-1)]) ?_ (by omega) (by simp)⟩
   ·
    simp only [Value.ownBlock, Option.some.injEq] at hj
    omega
   ·
    exact Reps.snoc (ps := []) (cs := []) (Reps.none _ _) (k107_mkM _ _ _ _) rfl
  rw [s3] at h1
  exact h1
 have ba : Below w4.heap.size w4 (w4.alloc (.map #[] 0)) := below_alloc (Below.refl _ _) _
 have HRel : Aside0 (key_spread.Rel w w6 (w.heap.size + 1 + 1 + 1 + 1) w.heap.size #[.int .i64 a0_0, .slice A0_1 l0_1.length c0_1] (.slice (some ⟨w.heap.size + 1 + 1, 0, none⟩) 1 1) (.slice (some ⟨w.heap.size + 1 + 1 + 1, 0, none⟩) 1 1) [kx0] [⟨-1, -1⟩]) := ⟨by
  have sa : (w4.alloc (.map #[] 0)).heap.size = w4.heap.size + 1 := Array.size_push ..
  refine ⟨⟨1, [key_spread.key kx0], Nat.le_refl _, fun v => by simp, hM6⟩, Kd.R_grown (Kd.R_below R7 ba) hg6 (fun k hk e => hk (by injection e)), Kd.R_grown (Kd.R_below R8 ba) hg6 (fun k hk e => hk (by injection e)), ?_, (below_step b4 ba).grown hg6 (Nat.le_trans b4.size (below_size ba)) (fun j hj => by injection hj with hj; omega), by omega, by omega, fun x hx => ?_, by simp, by simp⟩
  ·
   exact (hg6.block _ (by omega) (fun e => by injection e with e; omega)).trans (blk_alloc B0 _)
  ·
   rw [List.mem_singleton] at hx; subst hx; exact hwf0⟩
 rw [hw4, hw3, hw2, hw1] at hrun
 have e1 : [kx0] = [⟨a1_0, a1_1, a1_2, a1_3, a1_4, a1_5⟩] := by rw [hkx0]
 have HG0 : Aside0 (key_spread.go l0_1 400 0 [kx0] [⟨-1, -1⟩] = some (r1, r2, r3)) := ⟨by rw [e1]; exact H.out⟩
 clear h hw1 hw2 hw3 hw4 s1 s2 s3 s4 hM6 hg6 b4 B0 R7 R8 ba e0 e1 hwf hwf0 hl0 hkx0 H
 go_enter Try.func87, Try.ntmps87
 go_wp2
 clear hrun
 go_loopg [7, 8, 10] 400 (fun kq v7 v8 v10 w' => ∃ (x : Int) (all : List S70) (st : List S107), v10 = .int .i64 x ∧ Aside0 (0 ≤ x ∧ x ≤ all.length) ∧ Aside0 (kq ≤ 400) ∧ Aside0 (key_spread.go l0_1 kq x.toNat all st = some (r1, r2, r3)) ∧ Aside0 (key_spread.Rel w w' (w.heap.size + 1 + 1 + 1 + 1) w.heap.size #[.int .i64 a0_0, .slice A0_1 l0_1.length c0_1] v7 v8 all st))
 case atStart => exact ⟨0, [kx0], [⟨-1, -1⟩], rfl, ⟨by omega, by simp⟩, ⟨Nat.le_refl _⟩, HG0, HRel⟩
 case round =>
  clear HRel HG0
  obtain ⟨x, all, st, rfl, HI, HK, HG, HL⟩ := hrel
  obtain ⟨A7, c7, e7⟩ := Kd.R_slice HL.out.2.1
  obtain ⟨A8, c8, e8⟩ := Kd.R_slice HL.out.2.2.1
  subst e7
  subst e8
  obtain ⟨kn, hkn⟩ : ∃ kn, gk = kn + 1 := by
   cases gk with
   | zero => have := HG.out; simp [key_spread.go] at this
   | succ n => exact ⟨n, rfl⟩
  have hg := HG.out
  rw [hkn, key_spread.go] at hg
  have HKN := Aside0.mk hkn
  clear hkn HG
  by_cases hlt : x < (all.length : Int)
  ·
   have b1 : decide (x < (all.length : Int)) = true := decide_eq_true hlt
   have p1 : 0 ≤ x := HI.out.1
   have hil : x.toNat < all.length := by omega
   rw [dif_pos hil] at hg
   obtain ⟨RR, hin, hg1⟩ := Option.bind_eq_some_iff.1 hg
   obtain ⟨kx, hkx⟩ : ∃ p, p = all[x.toNat] := ⟨_, rfl⟩
   rw [← hkx, Int.toNat_of_nonneg p1] at hin
   have hxp : all[x.toNat]? = some kx := by rw [hkx]; exact List.getElem?_eq_getElem hil
   have HIN := Aside0.mk hin
   have HG := Aside0.mk hg1
   have HX := Aside0.mk hxp
   have BK := Aside0.mk HL.out.2.2.2.1
   have k0 := blkc BK.out 0 (.int .i64 a0_0) rfl
   have k1 := blkc BK.out 1 (.slice A0_1 l0_1.length c0_1) rfl
   clear hin hg hg1 hkx hil hxp hlt p1
   go_wp2
   clear k0 k1 BK
   have HL2 : Aside0 (key_spread.Rel w wr (w.heap.size + 1 + 1 + 1 + 1) w.heap.size #[.int .i64 a0_0, .slice A0_1 l0_1.length c0_1] (.slice A7 all.length c7) (.slice A8 st.length c8) all st) := HL
   go_loopg [7, 8, 31] l0_1.length (fun kq v7 v8 v31 w' => ∃ (y : Int) (all' : List S70) (st' : List S107), v31 = .int .i64 y ∧ Aside0 (0 ≤ y ∧ y ≤ l0_1.length) ∧ Aside0 (kq = l0_1.length - y.toNat) ∧ Aside0 (key_spread.inner kx x (l0_1.drop y.toNat) y all' st' = some RR) ∧ Aside0 (all'[x.toNat]? = some kx) ∧ Aside0 (key_spread.Rel w w' (w.heap.size + 1 + 1 + 1 + 1) w.heap.size #[.int .i64 a0_0, .slice A0_1 l0_1.length c0_1] v7 v8 all' st'))
   case atStart => exact ⟨0, all, st, rfl, ⟨by omega, by omega⟩, ⟨rfl⟩, HIN, HX, HL2⟩
   case round =>
    clear HIN HX HL2 HL
    obtain ⟨y, all', st', rfl, HI2, HK2, HIN, HX, HL⟩ := hrel
    obtain ⟨A7', c7', e7⟩ := Kd.R_slice HL.out.2.1
    obtain ⟨A8', c8', e8⟩ := Kd.R_slice HL.out.2.2.1
    subst e7
    subst e8
    by_cases hlt : y < (l0_1.length : Int)
    ·
     have b1 : decide (y < (l0_1.length : Int)) = true := decide_eq_true hlt
     have p1 : 0 ≤ y := HI2.out.1
     have hyl : y.toNat < l0_1.length := by omega
     obtain ⟨u, hue⟩ : ∃ u, u = rd_T64 l0_1 y := ⟨_, rfl⟩
     have hd : l0_1.drop y.toNat = u :: l0_1.drop (y + 1).toNat := by
      rw [hue, List.drop_eq_getElem_cons hyl, show (y + 1).toNat = y.toNat + 1 by omega]
      simp [rd_T64, List.getD_eq_getElem?_getD, hyl]
     have hin := HIN.out
     rw [hd, key_spread.inner] at hin
     obtain ⟨⟨q0, q1, q2, q3, q4, q5, ok⟩, hmade, hin⟩ := Option.bind_eq_some_iff.1 hin
     by_cases hwq : ¬ wf6 [q0, q1, q2, q3, q4, q5]
     ·
      simp only [if_neg hwq] at hin; cases hin
     replace hwq := Decidable.not_not.1 hwq
     simp only [if_pos hwq] at hin
     obtain ⟨adU, Au, cu, Av, cv, e1, hx0, hx1, hq⟩ := at_T64 (Kd.C_below HR.out HL.out.2.2.2.2.1) y p1 hlt
     cases e1
     rw [← hue] at hx0 hx1 hq
     have hxl := (List.getElem?_eq_some_iff.1 HX.out).1
     have hx0' : 0 ≤ x := HI.out.1
     have hxq : x < (all'.length : Int) := by omega
     obtain ⟨ad7, e7, m0, m1, m2, m3, m4, m5⟩ := at_T70 (Kd.R_reads' HL.out.2.1).2.2 x hx0' hxq
     cases e7
     have erd : rd_T70 all' x = kx := by simp [rd_T70, List.getD_eq_getElem?_getD, HX.out]
     rw [erd] at m0 m1 m2 m3 m4 m5
     have HM := Aside0.mk hmade
     have HQ := Aside0.mk hq
     have HWQ := Aside0.mk hwq
     have HIN2 := Aside0.mk hin
     have HXQ := Aside0.mk hxq
     have HYL := Aside0.mk hyl
     have M := Aside0.mk (And.intro m0 (And.intro m1 (And.intro m2 (And.intro m3 (And.intro m4 m5)))))
     replace p1 := eq_true p1
     replace hlt := eq_true hlt
     replace hx0' := eq_true hx0'
     replace hxq := eq_true hxq
     clear hmade hq hwq hin hd hue hyl hxl erd m0 m1 m2 m3 m4 m5 HIN
     go_wp2
     have hb9 : Below wr.heap.size wr (wr.alloc (.cells #[.slice Au u.f0.length cu, .slice Av u.f1.length cv] 64)).drew := below_drew1 (below_alloc (Below.refl _ _) _)
     have hB12 : (wr.alloc (.cells #[.slice Au u.f0.length cu, .slice Av u.f1.length cv] 64)).drew.heap[wr.heap.size]? = some (.cells #[.slice Au u.f0.length cu, .slice Av u.f1.length cv] 64 (0, 0)) := blk_drew (blk_new wr _)
     have HL9 : Aside0 (key_spread.Rel w (wr.alloc (.cells #[.slice Au u.f0.length cu, .slice Av u.f1.length cv] 64)).drew (w.heap.size + 1 + 1 + 1 + 1) w.heap.size #[.int .i64 a0_0, .slice (some adU) l0_1.length c0_1] (.slice (some ad7) all'.length c7') (.slice A8' st'.length c8') all' st') := ⟨HL.out.below hb9⟩
     have HQ9 : Aside0 (u.f0.length ≤ cu ∧ (Kd.int .i64).C (wr.alloc (.cells #[.slice Au u.f0.length cu, .slice Av u.f1.length cv] 64)).drew Au u.f0.length u.f0 ∧ u.f1.length ≤ cv ∧ (Kd.int .i64).C (wr.alloc (.cells #[.slice Au u.f0.length cu, .slice Av u.f1.length cv] 64)).drew Av u.f1.length u.f1) := ⟨HQ.out.1, Kd.C_below HQ.out.2.1 hb9, HQ.out.2.2.1, Kd.C_below HQ.out.2.2.2 hb9⟩
     have M9 : Aside0 (∀ W', Below (wr.alloc (.cells #[.slice Au u.f0.length cu, .slice Av u.f1.length cv] 64)).drew.heap.size (wr.alloc (.cells #[.slice Au u.f0.length cu, .slice Av u.f1.length cv] 64)).drew W' → ((fun w' => w'.cell? (ad7.add (x.toNat * 6)) = some (.int .i64 kx.f0) ∧ w'.cell? ⟨(ad7.add (x.toNat * 6)).block, (ad7.add (x.toNat * 6)).off + 1, none⟩ = some (.int .i64 kx.f1) ∧ w'.cell? ⟨(ad7.add (x.toNat * 6)).block, (ad7.add (x.toNat * 6)).off + 2, none⟩ = some (.int .i64 kx.f2) ∧ w'.cell? ⟨(ad7.add (x.toNat * 6)).block, (ad7.add (x.toNat * 6)).off + 3, none⟩ = some (.int .i64 kx.f3) ∧ w'.cell? ⟨(ad7.add (x.toNat * 6)).block, (ad7.add (x.toNat * 6)).off + 4, none⟩ = some (.int .i64 kx.f4) ∧ w'.cell? ⟨(ad7.add (x.toNat * 6)).block, (ad7.add (x.toNat * 6)).off + 5, none⟩ = some (.int .i64 kx.f5) ∧ w'.cell? ⟨wr.heap.size, 0, none⟩ = some (.slice Au u.f0.length cu) ∧ w'.cell? ⟨wr.heap.size, 1, none⟩ = some (.slice Av u.f1.length cv)) W')) := ⟨fun W' hb => by
      have hbw := below_step hb9 hb
      have hm : ∀ (a : Addr) (v : Value), wr.cell? a = some v → W'.cell? a = some v := fun a v ha => (hbw.cell (World.block_lt_of_cell? _ _ ha)).trans ha
      have hk := blk_below hB12 hb
      exact ⟨hm _ _ M.out.1, hm _ _ M.out.2.1, hm _ _ M.out.2.2.1, hm _ _ M.out.2.2.2.1, hm _ _ M.out.2.2.2.2.1, hm _ _ M.out.2.2.2.2.2, blkc hk 0 _ rfl, blkc hk 1 _ rfl⟩⟩
     have HLT : Aside0 (wr.heap.size < (wr.alloc (.cells #[.slice Au u.f0.length cu, .slice Av u.f1.length cv] 64)).drew.heap.size) := ⟨blk_lt hB12⟩
     clear hb9 hB12 HQ M HL hx0 hx1
     generalize wr.heap.size = g12 at *
     refine start_ (n := 12) (S := (fun w' => w'.cell? (ad7.add (x.toNat * 6)) = some (.int .i64 kx.f0) ∧ w'.cell? ⟨(ad7.add (x.toNat * 6)).block, (ad7.add (x.toNat * 6)).off + 1, none⟩ = some (.int .i64 kx.f1) ∧ w'.cell? ⟨(ad7.add (x.toNat * 6)).block, (ad7.add (x.toNat * 6)).off + 2, none⟩ = some (.int .i64 kx.f2) ∧ w'.cell? ⟨(ad7.add (x.toNat * 6)).block, (ad7.add (x.toNat * 6)).off + 3, none⟩ = some (.int .i64 kx.f3) ∧ w'.cell? ⟨(ad7.add (x.toNat * 6)).block, (ad7.add (x.toNat * 6)).off + 4, none⟩ = some (.int .i64 kx.f4) ∧ w'.cell? ⟨(ad7.add (x.toNat * 6)).block, (ad7.add (x.toNat * 6)).off + 5, none⟩ = some (.int .i64 kx.f5) ∧ w'.cell? ⟨g12, 0, none⟩ = some (.slice Au u.f0.length cu) ∧ w'.cell? ⟨g12, 1, none⟩ = some (.slice Av u.f1.length cv))) (ds := []) #[false, false, false, false, false, false, false, false, false, false, false, false] (by kernel_rfl) rfl rfl (M9.out _ (Below.refl _ _)) (fun hHeld => ?_)
     generalize (wr.alloc (.cells #[.slice Au u.f0.length cu, .slice Av u.f1.length cv] 64)).drew = w9 at HL9 HQ9 M9 HLT hHeld ⊢
     refine pst (i := 0) (N := some 37) (bz 12 1) (by kernel_rfl) ?_
     refine pst (i := 1) (N := some 38) (bz 12 3) (by kernel_rfl) ?_
     refine pst (i := 2) (N := some 39) (bz 12 7) (by kernel_rfl) ?_
     refine tst8 (i := 3) (N := some 40) (bz 12 15) (by kernel_rfl) hHeld ?_
     refine tst8 (i := 4) (N := some 41) (bz 12 31) (by kernel_rfl) hHeld ?_
     refine join_ (σ := Nat) 2 #[true, true, true, true, true, true, true, true, true, true, false, false] (fun s_ => [(42, .tuple #[.agg #[.int .i64 q0, .int .i64 q1, .int .i64 q2, .int .i64 q3, .int .i64 q4, .int .i64 q5], .bool ok]), (36, .tuple #[.agg #[.int .i64 q0, .int .i64 q1, .int .i64 q2, .int .i64 q3, .int .i64 q4, .int .i64 q5], .bool ok]), (43, .agg #[.int .i64 q0, .int .i64 q1, .int .i64 q2, .int .i64 q3, .int .i64 q4, .int .i64 q5]), (44, .bool ok), (13, .pointer (some ⟨s_, 0, none⟩))]) (fun s_ w' => w9.heap.size ≤ s_ ∧ w'.heap[s_]? = some (.cells #[.int .i64 0, .int .i64 0, .int .i64 0, .int .i64 0, .int .i64 0, .int .i64 0] 70 (0, 0)) ∧ Below w9.heap.size w9 w') ?_ ?_
     rotate_left
     ·
      intro hCont
      refine two_ (i := 5) (j := 9) (Ni := some 42) (Nj := some 13) #[true, true, true, true, true, true, false, false, false, false, false, false] #[true, true, true, true, true, false, false, false, false, true, false, false] rfl rfl rfl rfl (by kernel_rfl) (by decide) (by decide) (fun K hK => ?_) (fun K hK => ?_)
      ·
       skip
       refine goes_ Try.func70 (by kernel_rfl) rfl #[.agg #[.int .i64 kx.f0, .int .i64 kx.f1, .int .i64 kx.f2, .int .i64 kx.f3, .int .i64 kx.f4, .int .i64 kx.f5], .agg #[.slice Au u.f0.length cu, .slice Av u.f1.length cv]] (by rfl) rfl rfl mapz ?_
       with_reducible refine (key_keys_made.calls kx.f0 kx.f1 kx.f2 kx.f3 kx.f4 kx.f5 _ _ u.f0 _ _ u.f1 q0 q1 q2 q3 q4 q5 ok _ HQ9.out.2.1 HQ9.out.1 HQ9.out.2.2.2 HQ9.out.2.2.1 HM.out).mono ?_
       rintro e w10 ⟨rfl, hb⟩
       refine ⟨_, rfl, ?_⟩
       have HB10 := Aside0.mk hb
       clear hb
       refine hK.out _ _ (M9.out _ HB10.out) (fun hHeld => ?_)
       clear hK K
       refine norm_ (a' := ?_) ?_ ?_
       rotate_left
       ·
        show Act.put _ (some 42) _ = _
        simp only [Act.put, List.setIfInBounds_toArray, List.set_cons_zero, List.set_cons_succ, i64_w, i32_w]
        rfl
       refine pst (i := 6) (N := some 36) (bz 12 127) (by kernel_rfl) ?_
       refine pst (i := 7) (N := some 43) (bz 12 255) (by kernel_rfl) ?_
       refine pst (i := 8) (N := some 44) (bz 12 511) (by kernel_rfl) ?_
       refine one_ (i := 9) (N := some 13) #[true, true, true, true, true, true, true, true, true, true, false, false] rfl rfl (by kernel_rfl) (by decide) (fun K hK => ?_)
       refine box_step ?hg (N := 13) ?hd (cs := #[.int .i64 0, .int .i64 0, .int .i64 0, .int .i64 0, .int .i64 0, .int .i64 0]) (t := 70) ?hr ?_; (case hd => rfl); (case hg => rfl); (case hr => first | (go_simp; done) | (go_simp; rfl))
       intro g hg w11 hbox hb
       have HB11 := Aside0.mk (below_step HB10.out hb)
       have hge : w9.heap.size ≤ g := by rw [hg]; exact HB10.out.size
       refine hK.out _ _ (M9.out _ HB11.out) (fun hHeld => ?_)
       clear hK K
       refine norm_ (a' := ?_) ?_ ?_
       rotate_left
       ·
        show Act.put _ (some 13) _ = _
        simp only [Act.put, List.setIfInBounds_toArray, List.set_cons_zero, List.set_cons_succ, i64_w, i32_w]
        rfl
       exact norm_ (by simp only [putAll, Act.put, List.setIfInBounds_toArray, List.set_cons_zero, List.set_cons_succ]) (hCont g _ ⟨hge, hbox, HB11.out⟩)
      ·
       skip
       refine box_step ?hg (N := 13) ?hd (cs := #[.int .i64 0, .int .i64 0, .int .i64 0, .int .i64 0, .int .i64 0, .int .i64 0]) (t := 70) ?hr ?_; (case hd => rfl); (case hg => rfl); (case hr => first | (go_simp; done) | (go_simp; rfl))
       intro g hg w10 hbox hb
       have HB10 := Aside0.mk hb
       have HBOX := Aside0.mk hbox
       have hge : w9.heap.size ≤ g := by rw [hg]; exact Nat.le_refl _
       have HGE := Aside0.mk hge
       clear hb hbox hg hge
       refine hK.out _ _ (M9.out _ HB10.out) (fun hHeld => ?_)
       clear hK K
       refine norm_ (a' := ?_) ?_ ?_
       rotate_left
       ·
        show Act.put _ (some 13) _ = _
        simp only [Act.put, List.setIfInBounds_toArray, List.set_cons_zero, List.set_cons_succ, i64_w, i32_w]
        rfl
       refine one_ (i := 5) (N := some 42) #[true, true, true, true, true, true, false, false, false, true, false, false] rfl rfl (by kernel_rfl) (by decide) (fun K hK => ?_)
       refine goes_ Try.func70 (by kernel_rfl) rfl #[.agg #[.int .i64 kx.f0, .int .i64 kx.f1, .int .i64 kx.f2, .int .i64 kx.f3, .int .i64 kx.f4, .int .i64 kx.f5], .agg #[.slice Au u.f0.length cu, .slice Av u.f1.length cv]] (by rfl) rfl rfl mapz ?_
       with_reducible refine (key_keys_made.calls kx.f0 kx.f1 kx.f2 kx.f3 kx.f4 kx.f5 _ _ u.f0 _ _ u.f1 q0 q1 q2 q3 q4 q5 ok _ (Kd.C_below HQ9.out.2.1 HB10.out) HQ9.out.1 (Kd.C_below HQ9.out.2.2.2 HB10.out) HQ9.out.2.2.1 HM.out).mono ?_
       rintro e w11 ⟨rfl, hb⟩
       refine ⟨_, rfl, ?_⟩
       have HB11 := Aside0.mk (below_step HB10.out hb)
       have HBOX1 := Aside0.mk (blk_below HBOX.out hb)
       clear hb
       refine hK.out _ _ (M9.out _ HB11.out) (fun hHeld => ?_)
       clear hK K
       refine norm_ (a' := ?_) ?_ ?_
       rotate_left
       ·
        show Act.put _ (some 42) _ = _
        simp only [Act.put, List.setIfInBounds_toArray, List.set_cons_zero, List.set_cons_succ, i64_w, i32_w]
        rfl
       refine pst (i := 6) (N := some 36) (bz 12 639) (by kernel_rfl) ?_
       refine pst (i := 7) (N := some 43) (bz 12 767) (by kernel_rfl) ?_
       refine pst (i := 8) (N := some 44) (bz 12 1023) (by kernel_rfl) ?_
       exact norm_ (by simp only [putAll, Act.put, List.setIfInBounds_toArray, List.set_cons_zero, List.set_cons_succ]) (hCont g _ ⟨HGE.out, HBOX1.out, HB11.out⟩)
     rintro g13 w12 ⟨hs1, hs2, hs3⟩
     have HS1 := Aside0.mk hs1
     have HS2 := Aside0.mk hs2
     have HS3 := Aside0.mk hs3
     clear hs1 hs2 hs3 hHeld
     refine norm_ (a' := ?_) ?_ ?_
     rotate_left
     ·
      simp only [putAll, Act.put, List.setIfInBounds_toArray, List.set_cons_zero, List.set_cons_succ]
      rfl
     refine one_ (i := 10) (N := none) #[true, true, true, true, true, true, true, true, true, true, true, false] rfl rfl (by kernel_rfl) (by decide) (fun K hK => ?_)
     rw [if_pos (by rfl)]
     refine wp_store_row 70 (.tmp 13) (.tmp 43) rfl g13 #[.int .i64 q0, .int .i64 q1, .int .i64 q2, .int .i64 q3, .int .i64 q4, .int .i64 q5] rfl rfl 70 #[.int .i64 0, .int .i64 0, .int .i64 0, .int .i64 0, .int .i64 0, .int .i64 0] HS2.out (by kernel_rfl) rfl (by simp [Value.oneCell']) ?_
     have HB13 : Aside0 (Below w9.heap.size w9 (w12.setRow g13 #[.int .i64 q0, .int .i64 q1, .int .i64 q2, .int .i64 q3, .int .i64 q4, .int .i64 q5])) := ⟨below_setRow HS3.out HS1.out _⟩
     have B13 : Aside0 ((w12.setRow g13 #[.int .i64 q0, .int .i64 q1, .int .i64 q2, .int .i64 q3, .int .i64 q4, .int .i64 q5]).heap[g13]? = some (.cells #[.int .i64 q0, .int .i64 q1, .int .i64 q2, .int .i64 q3, .int .i64 q4, .int .i64 q5] 70 (0, 0))) := ⟨setRow_heap _ _ _ _ _ _ HS2.out⟩
     refine hK.out _ _ (M9.out _ HB13.out) (fun hHeld => ?_)
     clear hK K HS2 HS3
     generalize w12.setRow g13 #[.int .i64 q0, .int .i64 q1, .int .i64 q2, .int .i64 q3, .int .i64 q4, .int .i64 q5] = w13 at HB13 B13 hHeld ⊢
     refine pst (i := 11) (N := some 14) (bz 12 4095) (by kernel_rfl) ?_
     refine done_ (by kernel_rfl) ?_
     clear hHeld M9 HQ9
     have HL13 := Aside0.mk (HL9.out.below HB13.out)
     have B13c := bc6 B13.out
     obtain ⟨d0, d1, d2, d3, d4, d5⟩ := B13c
     have HYW : Aside0 (wrap64 (y + 1) = y + 1) := ⟨by unfold wrap64; have := HYL.out; have := HI2.out; omega⟩
     have hlk : (Instr.lookup 115 (.map (some (w.heap.size + 1 + 1 + 1 + 1))) (.agg #[.int .i64 q0, .int .i64 q1, .int .i64 q2, .int .i64 q3, .int .i64 q4, .int .i64 q5]) false).run Try.prog w13 = .ok (.bool (decide ([q0, q1, q2, q3, q4, q5] ∈ all'.map key_spread.toL))) w13 := HL13.out.look (x := ⟨q0, q1, q2, q3, q4, q5⟩) HWQ.out
     clear HL9 HB13 HLT HS1 HM
     cases ok with
     | false =>
      have hin := HIN2.out
      rw [if_neg (fun z => by cases z.1)] at hin
      replace HIN2 := Aside0.mk hin
      clear hin hlk
      go_wp2
      go_roundg (l0_1.length - (y + 1).toNat)
      case measure => have := HI2.out; have := HK2.out; have := HYL.out; omega
      case rel => exact ⟨y + 1, all', st', by first | rfl | rw [HYW.out], ⟨by have := HI2.out; omega, by have := HYL.out; omega⟩, ⟨rfl⟩, ⟨HIN2.out⟩, HX, HL13⟩
     | true =>
      by_cases hmem : [q0, q1, q2, q3, q4, q5] ∈ all'.map key_spread.toL
      ·
       rw [decide_eq_true hmem] at hlk
       have hin := HIN2.out
       rw [if_neg (fun z => z.2 hmem)] at hin
       replace HIN2 := Aside0.mk hin
       clear hin hmem
       go_wp2
       go_roundg (l0_1.length - (y + 1).toNat)
       case measure => have := HI2.out; have := HK2.out; have := HYL.out; omega
       case rel => exact ⟨y + 1, all', st', by first | rfl | rw [HYW.out], ⟨by have := HI2.out; omega, by have := HYL.out; omega⟩, ⟨rfl⟩, ⟨HIN2.out⟩, HX, HL13⟩
      ·
       rw [decide_eq_false hmem] at hlk
       have hin := HIN2.out
       rw [if_pos ⟨rfl, hmem⟩] at hin
       have HL400 := Aside0.mk HL13.out.2.2.2.2.2.2.2.2
       by_cases hlim : 300 < all'.length + 1
       ·
        rw [if_pos hlim] at hin
        have HRR := Aside0.mk (Option.some.inj hin)
        have hlz : ((all'.length : Int) + 1 > 300) := by omega
        clear hin hmem hlim
        go_wp2_with (first | (at_mapUpdate; refine key_spread.store_op rfl (.tmp 52) (.tmp 53) (.const (.bool true)) rfl rfl (y := ⟨q0, q1, q2, q3, q4, q5⟩) rfl rfl HL13.out HWQ.out ?_; intro w14 hp hg; have HP := Aside0.mk hp; have B14 : Aside0 (w14.heap[g13]? = some (.cells #[.int .i64 q0, .int .i64 q1, .int .i64 q2, .int .i64 q3, .int .i64 q4, .int .i64 q5] 70 (0, 0))) := ⟨key_spread.keep_blk B13.out hg HL13.out⟩; obtain ⟨z0, z1, z2, z3, z4, z5⟩ := bc6 B14.out; clear hp hg) | ((with_reducible refine gate_builtin (b := .append) (xs := #[.tmp 54, .tmp 56]) rfl ?_); at_builtin; refine Kd.R_append k70 (w0 := w) w.heap.size rfl (.tmp 54) (.tmp 56) 65 70 (.agg #[.int .i64 0, .int .i64 0, .int .i64 0, .int .i64 0, .int .i64 0, .int .i64 0]) 48 rfl Try.underlying65 key_spread.infoT rfl (by decide) (by omega) _ all' ⟨q0, q1, q2, q3, q4, q5⟩ [.int .i64 q0, .int .i64 q1, .int .i64 q2, .int .i64 q3, .int .i64 q4, .int .i64 q5] (fun j => j ≠ (w.heap.size + 1 + 1 + 1 + 1)) (fun _ => False) rfl rfl ?aP (fun _ hk => hk.elim) ?aF ?aO ?aB ?aS ?aL ?_; (case aP => exact k70_mkM _ _ _ _); (case aB => exact HP.out.2.2.2.2.1); (case aF => exact (fun j hj e => by have := key_spread.Put.bm_lt HP.out; subst e; omega)); (case aO => exact HP.out.2.1); (case aS => exact HP.out.2.2.2.2.1.size); (case aL => have := HL400.out; omega); intro v7n w15 ho hb hg hat; obtain ⟨A7n, c7n, e7n⟩ := Kd.R_slice ho; have HP15 := Aside0.mk (key_spread.Put.mid HP.out hg); have HA := Aside0.mk (And.intro ho (And.intro hb (And.intro hg hat))); rw [List.length_append, List.length_singleton] at e7n; subst e7n; clear ho hb hg hat) | ((with_reducible refine gate_builtin (b := .append) (xs := #[.tmp 58, .tmp 62]) rfl ?_); at_builtin; refine Kd.R_append k107 (w0 := w) w.heap.size rfl (.tmp 58) (.tmp 62) 100 107 (.agg #[.int .i64 0, .int .i64 0]) 16 rfl Try.underlying100 key_spread.infoS rfl (by decide) (by omega) _ st' ⟨x, y⟩ [.int .i64 x, .int .i64 y] (fun j => j ≠ (w.heap.size + 1 + 1 + 1 + 1)) (fun _ => False) rfl rfl ?aP (fun _ hk => hk.elim) ?aF ?aO ?aB ?aS ?aL ?_; (case aP => exact k107_mkM _ _ _ _); (case aB => exact HA.out.2.1); (case aF => exact (fun j hj e => by have := key_spread.Put.bm_lt HP.out; have := HA.out.2.2.1.size; subst e; omega)); (case aO => exact HP15.out); (case aS => exact HA.out.2.1.size); (case aL => have := HL400.out; omega); intro v8n w16 ho hb hg hat; have HB16 := Aside0.mk hb; clear ho hb hg hat))
        have hg := HG.out
        rw [← HRR.out] at hg
        simp only [Option.some.injEq, Prod.mk.injEq] at hg
        obtain ⟨rfl, rfl, rfl⟩ := hg
        go_ret3
        exact ⟨_, _, rfl, Kd.R_nil _ _ _ _ _, Kd.R_nil _ _ _ _ _, HB16.out⟩
       ·
        rw [if_neg hlim] at hin
        replace HIN2 := Aside0.mk hin
        have hlz : ¬ ((all'.length : Int) + 1 > 300) := by omega
        have HLZ : Aside0 (all'.length < 400) := ⟨by omega⟩
        have HX2 : Aside0 ((all' ++ [⟨q0, q1, q2, q3, q4, q5⟩])[x.toNat]? = some kx) := ⟨by rw [List.getElem?_append_left (List.getElem?_eq_some_iff.1 HX.out).1]; exact HX.out⟩
        clear hin hmem hlim
        go_wp2_with (first | (at_mapUpdate; refine key_spread.store_op rfl (.tmp 52) (.tmp 53) (.const (.bool true)) rfl rfl (y := ⟨q0, q1, q2, q3, q4, q5⟩) rfl rfl HL13.out HWQ.out ?_; intro w14 hp hg; have HP := Aside0.mk hp; have B14 : Aside0 (w14.heap[g13]? = some (.cells #[.int .i64 q0, .int .i64 q1, .int .i64 q2, .int .i64 q3, .int .i64 q4, .int .i64 q5] 70 (0, 0))) := ⟨key_spread.keep_blk B13.out hg HL13.out⟩; obtain ⟨z0, z1, z2, z3, z4, z5⟩ := bc6 B14.out; clear hp hg) | ((with_reducible refine gate_builtin (b := .append) (xs := #[.tmp 54, .tmp 56]) rfl ?_); at_builtin; refine Kd.R_append k70 (w0 := w) w.heap.size rfl (.tmp 54) (.tmp 56) 65 70 (.agg #[.int .i64 0, .int .i64 0, .int .i64 0, .int .i64 0, .int .i64 0, .int .i64 0]) 48 rfl Try.underlying65 key_spread.infoT rfl (by decide) (by omega) _ all' ⟨q0, q1, q2, q3, q4, q5⟩ [.int .i64 q0, .int .i64 q1, .int .i64 q2, .int .i64 q3, .int .i64 q4, .int .i64 q5] (fun j => j ≠ (w.heap.size + 1 + 1 + 1 + 1)) (fun _ => False) rfl rfl ?aP (fun _ hk => hk.elim) ?aF ?aO ?aB ?aS ?aL ?_; (case aP => exact k70_mkM _ _ _ _); (case aB => exact HP.out.2.2.2.2.1); (case aF => exact (fun j hj e => by have := key_spread.Put.bm_lt HP.out; subst e; omega)); (case aO => exact HP.out.2.1); (case aS => exact HP.out.2.2.2.2.1.size); (case aL => have := HL400.out; omega); intro v7n w15 ho hb hg hat; obtain ⟨A7n, c7n, e7n⟩ := Kd.R_slice ho; have HP15 := Aside0.mk (key_spread.Put.mid HP.out hg); have HA := Aside0.mk (And.intro ho (And.intro hb (And.intro hg hat))); rw [List.length_append, List.length_singleton] at e7n; subst e7n; clear ho hb hg hat) | ((with_reducible refine gate_builtin (b := .append) (xs := #[.tmp 58, .tmp 62]) rfl ?_); at_builtin; refine Kd.R_append k107 (w0 := w) w.heap.size rfl (.tmp 58) (.tmp 62) 100 107 (.agg #[.int .i64 0, .int .i64 0]) 16 rfl Try.underlying100 key_spread.infoS rfl (by decide) (by omega) _ st' ⟨x, y⟩ [.int .i64 x, .int .i64 y] (fun j => j ≠ (w.heap.size + 1 + 1 + 1 + 1)) (fun _ => False) rfl rfl ?aP (fun _ hk => hk.elim) ?aF ?aO ?aB ?aS ?aL ?_; (case aP => exact k107_mkM _ _ _ _); (case aB => exact HA.out.2.1); (case aF => exact (fun j hj e => by have := key_spread.Put.bm_lt HP.out; have := HA.out.2.2.1.size; subst e; omega)); (case aO => exact HP15.out); (case aS => exact HA.out.2.1.size); (case aL => have := HL400.out; omega); intro v8n w16 ho hb hg hat; have HL16 := Aside0.mk (key_spread.Put.fin HP.out HLZ.out HA.out.2.2.1 HA.out.1 HA.out.2.2.2 (Below.refl _ _) hg ho hb); clear ho hb hg hat))
        go_roundg (l0_1.length - (y + 1).toNat)
        case measure => have := HI2.out; have := HK2.out; have := HYL.out; omega
        case rel => exact ⟨y + 1, all' ++ [⟨q0, q1, q2, q3, q4, q5⟩], st' ++ [⟨x, y⟩], by first | rfl | rw [HYW.out], ⟨by have := HI2.out; omega, by have := HYL.out; omega⟩, ⟨rfl⟩, ⟨HIN2.out⟩, HX2, HL16⟩
    ·
     have b1 : decide (y < (l0_1.length : Int)) = false := decide_eq_false hlt
     have hin := HIN.out
     rw [List.drop_eq_nil_of_le (by have := HI2.out; omega), key_spread.inner] at hin
     obtain rfl := Option.some.inj hin
     have hxl := (List.getElem?_eq_some_iff.1 HX.out).1
     have HXL := Aside0.mk hxl
     have HXW : Aside0 (wrap64 (x + 1) = x + 1) := ⟨by unfold wrap64; have := HL.out.2.2.2.2.2.2.2.2; have := HI.out; omega⟩
     clear hin hlt HIN HI2 HK2 HX hxl
     go_wp2
     go_roundg kn
     case measure => have := HKN.out; omega
     case rel => exact ⟨x + 1, all', st', by first | rfl | rw [HXW.out], ⟨by have := HI.out; omega, by have := HXL.out; have := HI.out; omega⟩, ⟨by have := HK.out; have := HKN.out; omega⟩, ⟨by rw [show (x + 1).toNat = x.toNat + 1 by have := HI.out; omega]; exact HG.out⟩, HL⟩
  ·
   have b1 : decide (x < (all.length : Int)) = false := decide_eq_false hlt
   rw [dif_neg (by have := HI.out; omega)] at hg
   simp only [Option.some.injEq, Prod.mk.injEq] at hg
   obtain ⟨rfl, rfl, rfl⟩ := hg
   have hx := HL.out
   clear HI hlt HKN HL
   go_wp2
   go_ret3
   exact ⟨_, _, rfl, Kd.R_mono hx.2.1 (fun _ _ => trivial), Kd.R_mono hx.2.2.1 (fun _ _ => trivial), hx.2.2.2.2.1⟩

/-! ### key_reach: function 53 -/
def key_reach.le (x y : S70) : Bool := lxLe (key_spread.toL x) (key_spread.toL y)
def key_reach.f (a0_0 : Int) (l0_1 : List S64) (l1 : List Int) : Option (List S70 × Int) := (key_open.f a0_0 l0_1 [l1]).bind fun e => if e = 0 then (key_keysOf.f l1).bind fun (x0, x1, x2, x3, x4, x5) => (key_spread.f a0_0 l0_1 x0 x1 x2 x3 x4 x5).bind fun (all, _, ok) => if ok = true then some (all.mergeSort key_reach.le, 0) else some ([], 4) else some ([], e)
section
open Go.Shelf Go.Lib Go.Sort
def key_reach.cmpL : List Int → List Int → Int
 | [], [] => 0
 | [], _ :: _ => -1
 | _ :: _, [] => 1
 | a :: s, b :: t => if Lib.compareInt a b ≠ 0 then Lib.compareInt a b else key_reach.cmpL s t
theorem key_reach.cmpL_at : ∀ {s t : List Int} {i : Nat}, s.length = t.length → (∀ j, j < i → s.getD j 0 = t.getD j 0) → i ≤ s.length → key_reach.cmpL s t = key_reach.cmpL (s.drop i) (t.drop i)
 | _, _, 0, _, _, _ => rfl
 | [], _, i + 1, _, _, h => by simp at h
 | a :: s, [], i + 1, h, _, _ => by simp at h
 | a :: s, b :: t, i + 1, hl, h, hi => by
  have h0 := h 0 (by omega)
  have e : a = b := by simpa using h0
  subst e
  have hc : Lib.compareInt a a = 0 := by simp [Lib.compareInt]
  rw [key_reach.cmpL, hc, if_neg (by simp), List.drop_succ_cons, List.drop_succ_cons]
  exact key_reach.cmpL_at (by simpa using hl) (fun j hj => by have := h (j + 1) (by omega); simpa using this) (by simpa using hi)
set_option maxHeartbeats 4000000 in
theorem key_reach.compare (A0 : Option Addr) (c0 : Nat) (s : List Int) (A1 : Option Addr) (c1 : Nat) (t : List Int) (w : World) (h0 : Kd.C (Kd.int .i64) w A0 s.length s) (h1 : Kd.C (Kd.int .i64) w A1 t.length t) (hl : s.length = t.length) :
  Calls Try.prog 90 #[.slice A0 s.length c0, .slice A1 t.length c1] w fun e w' => e = .returned (.int .i64 (key_reach.cmpL s t)) ∧ w' = w := by
 have hcon := fun x y W' => Try.cmp_Compare_int x y W'
 have hm := h0.2.1
 have H0 := Aside0.mk h0
 have H1 := Aside0.mk h1
 have HL := Aside0.mk hl
 clear h0 h1
 rw [← hl]
 clear hl
 go_enter Try.func90, Try.ntmps90
 go_wp2
 go_loopg [11] s.length (fun kq v11 w' => ∃ i : Int, v11 = .int .i64 i ∧ Aside0 (0 ≤ i ∧ i ≤ s.length) ∧ Aside0 (kq = s.length - i.toNat) ∧ Aside0 (∀ j : Nat, j < i.toNat → s.getD j 0 = t.getD j 0) ∧ w' = w)
 case atStart => exact ⟨0, rfl, ⟨by omega, by omega⟩, ⟨rfl⟩, ⟨fun j hj => by simp at hj⟩, rfl⟩
 case round =>
  obtain ⟨i, rfl, HI, HK, HA, rfl⟩ := hrel
  by_cases hlt : i < (s.length : Int)
  ·
   have p1 : 0 ≤ i := HI.out.1
   obtain ⟨ad0, e0, hx0⟩ := Kd.at_int H0.out i p1 hlt
   obtain ⟨ad1, e1, hx1⟩ := Kd.at_int H1.out i p1 (by rw [← HL.out]; exact hlt)
   cases e0
   cases e1
   have b1 : decide (i < (s.length : Int)) = true := decide_eq_true hlt
   have b2 : (i ≥ (s.length : Int)) = False := eq_false (by omega)
   have hE : Aside0 (key_reach.cmpL s t = if Lib.compareInt (rd s i) (rd t i) ≠ 0 then Lib.compareInt (rd s i) (rd t i) else key_reach.cmpL (s.drop (i + 1).toNat) (t.drop (i + 1).toNat)) := ⟨by
    rw [key_reach.cmpL_at HL.out HA.out (by omega), drop_rd p1 hlt, drop_rd (l := t) p1 (by rw [← HL.out]; exact hlt), key_reach.cmpL]⟩
   have g1 := eq_true p1
   have g2 := eq_true hlt
   obtain ⟨c, hc⟩ : ∃ c, Lib.compareInt (rd s i) (rd t i) = c := ⟨_, rfl⟩
   have hcon1 := hcon (rd s i) (rd t i)
   rw [hc] at hcon1 hE
   have HC := Aside0.mk hc
   clear hc hcon
   by_cases hz : c = 0
   ·
    subst hz
    have hq : Aside0 (rd s i = rd t i) := ⟨by have := HC.out; unfold Lib.compareInt at this; split at this <;> (try split at this) <;> omega⟩
    go_wp2_with (go_at_call 102; refine (hcon1 _).mono ?_; rintro e w' ⟨rfl, rfl⟩)
    go_roundg (s.length - (i + 1).toNat)
    case measure => have := of_eq_true g2; have := HK.out; have := HI.out; omega
    case rel =>
     have hw : wrap64 (i + 1) = i + 1 := by unfold wrap64; have := HI.out; omega
     have := of_eq_true g2
     refine ⟨i + 1, by first | rfl | rw [hw], ⟨by have := HI.out; omega, by omega⟩, ⟨rfl⟩, ⟨fun j hj => ?_⟩, rfl⟩
     by_cases hji : j < i.toNat
     ·
      exact HA.out j hji
     ·
      obtain rfl : j = i.toNat := by have := HI.out; omega
      exact hq.out
   ·
    have hne : (c != 0) = true := by simpa using hz
    go_wp2_with (go_at_call 102; refine (hcon1 _).mono ?_; rintro e w' ⟨rfl, rfl⟩)
    go_ret
    exact ⟨by rw [hE.out, if_pos hz]; rfl, rfl⟩
  ·
   have b1 : decide (i < (s.length : Int)) = false := decide_eq_false hlt
   have hE : Aside0 (key_reach.cmpL s t = 0) := ⟨by
    rw [key_reach.cmpL_at (i := s.length) HL.out (fun j hj => HA.out j (by have := HI.out; omega)) (Nat.le_refl _), List.drop_length, HL.out, List.drop_length]; rfl⟩
   go_wp2
   go_ret
   exact ⟨by rw [hE.out]; rfl, rfl⟩
theorem key_reach.ci (a b : Int) : (a < b ∧ Lib.compareInt a b = -1) ∨ (a = b ∧ Lib.compareInt a b = 0) ∨ (b < a ∧ Lib.compareInt a b = 1) := by
 unfold Lib.compareInt
 by_cases h1 : a < b
 ·
  simp [h1]
 ·
  by_cases h2 : b < a
  ·
   simp [h1, h2]
  ·
   have : a = b := by omega
   simp [h1, h2, this]
theorem key_reach.cmp_step (a b : Int) (s t : List Int) : (a < b ∧ key_reach.cmpL (a :: s) (b :: t) = -1) ∨ (a = b ∧ key_reach.cmpL (a :: s) (b :: t) = key_reach.cmpL s t) ∨ (b < a ∧ key_reach.cmpL (a :: s) (b :: t) = 1) := by
 rw [key_reach.cmpL]
 rcases key_reach.ci a b with ⟨h, e⟩ | ⟨h, e⟩ | ⟨h, e⟩
 ·
  rw [e]; exact .inl ⟨h, by simp⟩
 ·
  rw [e]; exact .inr (.inl ⟨h, by simp⟩)
 ·
  rw [e]; exact .inr (.inr ⟨h, by simp⟩)
theorem key_reach.cmp_self : ∀ s : List Int, key_reach.cmpL s s = 0
 | [] => rfl
 | a :: s => by
  rcases key_reach.cmp_step a a s s with ⟨h, _⟩ | ⟨_, e⟩ | ⟨h, _⟩
  ·
   omega
  ·
   rw [e]; exact key_reach.cmp_self s
  ·
   omega
theorem key_reach.cmp_neg : ∀ {s t : List Int}, s.length = t.length → key_reach.cmpL t s = - key_reach.cmpL s t
 | [], [], _ => rfl
 | [], _ :: _, h => by simp at h
 | _ :: _, [], h => by simp at h
 | a :: s, b :: t, h => by
  have ih := key_reach.cmp_neg (s := s) (t := t) (by simpa using h)
  rcases key_reach.cmp_step a b s t with ⟨h1, e1⟩ | ⟨h1, e1⟩ | ⟨h1, e1⟩ <;> rcases key_reach.cmp_step b a t s with ⟨h2, e2⟩ | ⟨h2, e2⟩ | ⟨h2, e2⟩ <;> first | omega | (rw [e1, e2]; rfl) | (rw [e1, e2, ih])
theorem key_reach.cmp_zero : ∀ {s t : List Int}, s.length = t.length → key_reach.cmpL s t = 0 → s = t
 | [], [], _, _ => rfl
 | [], _ :: _, h, _ => by simp at h
 | _ :: _, [], h, _ => by simp at h
 | a :: s, b :: t, h, h0 => by
  rcases key_reach.cmp_step a b s t with ⟨h1, e1⟩ | ⟨h1, e1⟩ | ⟨h1, e1⟩
  ·
   omega
  ·
   have e2 := key_reach.cmp_zero (s := s) (t := t) (by simpa using h) (by omega)
   rw [h1, e2]
  ·
   omega
theorem key_reach.cmp_trans : ∀ {s t u : List Int}, s.length = t.length → t.length = u.length → key_reach.cmpL s t < 0 → key_reach.cmpL t u < 0 → key_reach.cmpL s u < 0
 | [], [], _, _, _, h, _ => by simp [key_reach.cmpL] at h
 | [], _ :: _, _, h, _, _, _ => by simp at h
 | _ :: _, [], _, h, _, _, _ => by simp at h
 | _ :: _, _ :: _, [], _, h, _, _ => by simp at h
 | a :: s, b :: t, c :: u, h, k, p, q => by
  have ih := key_reach.cmp_trans (s := s) (t := t) (u := u) (by simpa using h) (by simpa using k)
  rcases key_reach.cmp_step a b s t with ⟨h1, e1⟩ | ⟨h1, e1⟩ | ⟨h1, e1⟩ <;> rcases key_reach.cmp_step b c t u with ⟨h2, e2⟩ | ⟨h2, e2⟩ | ⟨h2, e2⟩ <;> rcases key_reach.cmp_step a c s u with ⟨h3, e3⟩ | ⟨h3, e3⟩ | ⟨h3, e3⟩ <;> first | omega | (have := ih (by omega) (by omega); omega)
theorem key_reach.lxLe_iff : ∀ {s t : List Int}, s.length = t.length → (lxLe s t = true ↔ key_reach.cmpL s t ≤ 0)
 | [], [], _ => by simp [lxLe, key_reach.cmpL]
 | [], _ :: _, h => by simp at h
 | _ :: _, [], h => by simp at h
 | a :: s, b :: t, h => by
  have ih := key_reach.lxLe_iff (s := s) (t := t) (by simpa using h)
  rw [lxLe]
  rcases key_reach.cmp_step a b s t with ⟨h1, e1⟩ | ⟨h1, e1⟩ | ⟨h1, e1⟩
  ·
   rw [e1]; simp [h1]
  ·
   rw [e1, ← ih]; simp [h1]
  ·
   rw [e1]; simp; omega
def key_reach.cf (x y : S70) : Int := key_reach.cmpL (key_spread.toL x) (key_spread.toL y)
theorem key_reach.toL_inj {x y : S70} (h : key_spread.toL x = key_spread.toL y) : x = y := by
 cases x; cases y
 simp only [key_spread.toL, List.cons.injEq] at h
 obtain ⟨rfl, rfl, rfl, rfl, rfl, rfl, _⟩ := h
 rfl
theorem key_reach.cf_neg (x y : S70) : key_reach.cf y x = - key_reach.cf x y := key_reach.cmp_neg (s := key_spread.toL x) (t := key_spread.toL y) rfl
theorem key_reach.cf_zero {x y : S70} (h : key_reach.cf x y = 0) : x = y := key_reach.toL_inj (key_reach.cmp_zero (s := key_spread.toL x) (t := key_spread.toL y) rfl h)
theorem key_reach.cf_trans {x y z : S70} (h1 : key_reach.cf x y < 0) (h2 : key_reach.cf y z < 0) : key_reach.cf x z < 0 := key_reach.cmp_trans (s := key_spread.toL x) (t := key_spread.toL y) (u := key_spread.toL z) rfl rfl h1 h2
theorem key_reach.lt_iff (x y : S70) : ltOf key_reach.cf x y = decide (key_reach.cf x y < 0) := rfl
theorem key_reach.swo : SWO (ltOf key_reach.cf) where
 irrefl x := by rw [key_reach.lt_iff]; simp [key_reach.cf, key_reach.cmp_self]
 trans x y z h1 h2 := by
  rw [key_reach.lt_iff] at *
  simp only [decide_eq_true_eq] at *
  exact key_reach.cf_trans h1 h2
 ntrans x y z h1 h2 := by
  rw [key_reach.lt_iff] at *
  simp only [decide_eq_false_iff_not] at *
  intro h3
  have a1 : key_reach.cf y x = - key_reach.cf x y := key_reach.cf_neg _ _
  have a2 : key_reach.cf z y = - key_reach.cf y z := key_reach.cf_neg _ _
  by_cases e1 : key_reach.cf x y = 0
  ·
   have := key_reach.cf_zero e1; subst this; exact h2 h3
  ·
   by_cases e2 : key_reach.cf y z = 0
   ·
    have := key_reach.cf_zero e2; subst this; exact h1 h3
   ·
    have h4 : key_reach.cf z x < 0 := key_reach.cf_trans (show key_reach.cf z y < 0 by omega) (show key_reach.cf y x < 0 by omega)
    have a3 : key_reach.cf z x = - key_reach.cf x z := key_reach.cf_neg _ _
    omega
theorem key_reach.le_iff (x y : S70) : key_reach.le x y = true ↔ key_reach.cf x y ≤ 0 := key_reach.lxLe_iff rfl
theorem key_reach.le_trans (x y z : S70) (h1 : key_reach.le x y = true) (h2 : key_reach.le y z = true) : key_reach.le x z = true := by
 rw [key_reach.le_iff] at *
 by_cases e1 : key_reach.cf x y = 0
 ·
  have := key_reach.cf_zero e1; subst this; exact h2
 ·
  by_cases e2 : key_reach.cf y z = 0
  ·
   have := key_reach.cf_zero e2; subst this; exact h1
  ·
   have h4 : key_reach.cf x z < 0 := key_reach.cf_trans (show key_reach.cf x y < 0 by omega) (show key_reach.cf y z < 0 by omega)
   omega
theorem key_reach.le_total (x y : S70) : (key_reach.le x y || key_reach.le y x) = true := by
 have a1 : key_reach.cf y x = - key_reach.cf x y := key_reach.cf_neg _ _
 rw [Bool.or_eq_true, key_reach.le_iff, key_reach.le_iff]
 omega
theorem key_reach.le_antisymm (x y : S70) (h1 : key_reach.le x y = true) (h2 : key_reach.le y x = true) : x = y := by
 have a1 : key_reach.cf y x = - key_reach.cf x y := key_reach.cf_neg _ _
 rw [key_reach.le_iff] at h1 h2
 exact key_reach.cf_zero (show key_reach.cf x y = 0 by omega)
instance : Inhabited S70 := ⟨z70⟩
def key_reach.enc (x : S70) : List Value := [.int .i64 x.f0, .int .i64 x.f1, .int .i64 x.f2, .int .i64 x.f3, .int .i64 x.f4, .int .i64 x.f5]
theorem key_reach.flat : Flat k70 key_reach.enc 6 where
 sz := rfl
 k0 := by omega
 one := fun x u hu => by simp [key_reach.enc] at hu; rcases hu with rfl | rfl | rfl | rfl | rfl | rfl <;> rfl
 len := fun _ => rfl
 open_ := fun h => k70_openM h
 mk_ := fun w base ok x => k70_mkM w base ok x
theorem key_reach.sorted {d : Array S70} {l : List S70} (hp : d.toList.Perm l) (h : SortedIn (ltOf key_reach.cf) 0 d.size d) : d.toList = l.mergeSort key_reach.le := by
 refine List.Perm.eq_of_pairwise (le := fun a b => key_reach.le a b = true) (fun a b _ _ => key_reach.le_antisymm a b) ?_ (List.pairwise_mergeSort key_reach.le_trans key_reach.le_total l) (hp.trans (List.mergeSort_perm l _).symm)
 refine List.pairwise_iff_getElem.2 fun i j hi hj hij => ?_
 rw [Array.length_toList] at hi hj
 have := h i j (Nat.zero_le _) hij hj
 rw [key_reach.lt_iff, getElem!_pos d i hi, getElem!_pos d j hj] at this
 simp only [decide_eq_false_iff_not] at this
 simp only [Array.getElem_toList]
 rw [key_reach.le_iff]
 have a1 : key_reach.cf d[i] d[j] = - key_reach.cf d[j] d[i] := key_reach.cf_neg _ _
 omega
theorem key_reach.perm {d d' : Array S70} (h : PermIn 0 d.size d d') : d'.toList.Perm d.toList := by
 have h1 := h.2.2
 rwa [Array.extract_size, ← h.1, Array.extract_size] at h1
theorem key_reach.isAgg : ∀ w, (isAgg 70).run Try.prog w = .ok true w := fun _ => by kernel_rfl
theorem key_reach.size : ∀ w, (Go.sizeOf 70).run Try.prog w = .ok 6 w := fun _ => by kernel_rfl
theorem key_reach.C6 {W : World} {g : Nat} {x : S70} (h : W.heap[g]? = some (.cells #[.int .i64 x.f0, .int .i64 x.f1, .int .i64 x.f2, .int .i64 x.f3, .int .i64 x.f4, .int .i64 x.f5] 70 (0, 0))) : Kd.C (Kd.int .i64) W (some ⟨g, 0, none⟩) (key_spread.toL x).length (key_spread.toL x) := by
 refine ⟨rfl, by simp [key_spread.toL], fun _ => ⟨_, rfl, fun j p hj => ⟨[.int .i64 p], rfl, rfl, fun q u hu => ?_⟩⟩⟩
 have hj2 : j < 6 := (List.getElem?_eq_some_iff.1 hj).1
 have hq : q = 0 := by
  have := (List.getElem?_eq_some_iff.1 hu).1
  simp at this; omega
 subst hq
 have hu2 : u = .int .i64 p := by simpa using hu.symm
 subst hu2
 have e : (⟨g, 0, none⟩ : Addr).add (j * (Kd.int .i64).sz + 0) = ⟨g, j, none⟩ := by
  show (⟨g, 0, none⟩ : Addr).add (j * 1 + 0) = _
  unfold Addr.add
  split
  ·
   simp_all
  ·
   simp
 rw [e]
 refine blkc h j _ ?_
 have e2 : (#[.int .i64 x.f0, .int .i64 x.f1, .int .i64 x.f2, .int .i64 x.f3, .int .i64 x.f4, .int .i64 x.f5] : Array Value) = ar (key_spread.toL x) := rfl
 rw [e2]
 simp [ar, hj]
set_option maxHeartbeats 2000000 in
set_option maxRecDepth 100000 in
theorem key_reach.clos (x y : S70) (W : World) : Calls Try.prog 89 #[.agg #[.int .i64 x.f0, .int .i64 x.f1, .int .i64 x.f2, .int .i64 x.f3, .int .i64 x.f4, .int .i64 x.f5], .agg #[.int .i64 y.f0, .int .i64 y.f1, .int .i64 y.f2, .int .i64 y.f3, .int .i64 y.f4, .int .i64 y.f5]] W fun e w' => e = .returned (.int .i64 (key_reach.cf x y)) ∧ ∃ q os', w' = grow (W.drewN q) os' := by
 have hu := Try.underlying70
 have s1 : (W.alloc (.cells #[.int .i64 x.f0, .int .i64 x.f1, .int .i64 x.f2, .int .i64 x.f3, .int .i64 x.f4, .int .i64 x.f5] 70)).heap.size = W.heap.size + 1 := Array.size_push ..
 have h1 : Aside0 (Kd.C (Kd.int .i64) ((W.alloc (.cells #[.int .i64 x.f0, .int .i64 x.f1, .int .i64 x.f2, .int .i64 x.f3, .int .i64 x.f4, .int .i64 x.f5] 70)).alloc (.cells #[.int .i64 y.f0, .int .i64 y.f1, .int .i64 y.f2, .int .i64 y.f3, .int .i64 y.f4, .int .i64 y.f5] 70)) (some ⟨W.heap.size, 0, none⟩) 6 (key_spread.toL x)) := ⟨key_reach.C6 (blk_alloc (blk_new W _) _)⟩
 have h2 : Aside0 (Kd.C (Kd.int .i64) ((W.alloc (.cells #[.int .i64 x.f0, .int .i64 x.f1, .int .i64 x.f2, .int .i64 x.f3, .int .i64 x.f4, .int .i64 x.f5] 70)).alloc (.cells #[.int .i64 y.f0, .int .i64 y.f1, .int .i64 y.f2, .int .i64 y.f3, .int .i64 y.f4, .int .i64 y.f5] 70)) (some ⟨W.heap.size + 1, 0, none⟩) 6 (key_spread.toL y)) := ⟨key_reach.C6 (by rw [← s1]; exact blk_new _ _)⟩
 clear s1
 go_enter Try.func89, Try.ntmps89
 go_wp2
 obtain ⟨w20, hw20⟩ : ∃ w20, w20 = (W.alloc (.cells #[.int .i64 x.f0, .int .i64 x.f1, .int .i64 x.f2, .int .i64 x.f3, .int .i64 x.f4, .int .i64 x.f5] 70)).alloc (.cells #[.int .i64 y.f0, .int .i64 y.f1, .int .i64 y.f2, .int .i64 y.f3, .int .i64 y.f4, .int .i64 y.f5] 70) := ⟨_, rfl⟩
 rw [← hw20] at h1 h2
 change Code.wp _ _ _ _ ((W.alloc (.cells #[.int .i64 x.f0, .int .i64 x.f1, .int .i64 x.f2, .int .i64 x.f3, .int .i64 x.f4, .int .i64 x.f5] 70)).alloc (.cells #[.int .i64 y.f0, .int .i64 y.f1, .int .i64 y.f2, .int .i64 y.f3, .int .i64 y.f4, .int .i64 y.f5] 70))
 rw [← hw20]
 have HW := Aside0.mk hw20
 clear hw20
 refine start_ (n := 4) (S := fun _ => True) (ds := []) #[false, false, false, false] (by kernel_rfl) rfl rfl trivial (fun hHeld => ?_)
 have hcmp : Aside0 (Calls Try.prog 90 #[.slice (some ⟨W.heap.size, 0, none⟩) 6 6, .slice (some ⟨W.heap.size + 1, 0, none⟩) 6 6] w20.drew fun e w' => e = .returned (.int .i64 (key_reach.cf x y)) ∧ w' = w20.drew) := ⟨key_reach.compare _ 6 (key_spread.toL x) _ 6 (key_spread.toL y) _ (Kd.C_drew h1.out) (Kd.C_drew h2.out) rfl⟩
 obtain ⟨w21, hw21⟩ : ∃ w21, w21 = w20.drew := ⟨_, rfl⟩
 rw [← hw21] at hcmp
 rw [← hw21]
 have HW2 := Aside0.mk hw21
 clear hw21
 refine pst (i := 0) (N := some 5) (bz 4 1) (by kernel_rfl) ?_
 refine pst (i := 1) (N := some 6) (bz 4 3) (by kernel_rfl) ?_
 refine one_ (i := 2) (N := some 7) #[true, true, true, false] rfl rfl (by kernel_rfl) (by decide) (fun K hK => ?_)
 refine goes_ Try.func90 (by kernel_rfl) rfl #[.slice (some ⟨W.heap.size, 0, none⟩) 6 6, .slice (some ⟨W.heap.size + 1, 0, none⟩) 6 6] (by rfl) rfl rfl mapz ?_
 refine hcmp.out.mono ?_
 rintro e w' ⟨rfl, rfl⟩
 refine ⟨_, rfl, ?_⟩
 refine hK.out _ _ trivial (fun hHeld => ?_)
 clear hK K
 refine norm_ (a' := ?_) ?_ ?_
 rotate_left
 ·
  show Act.put _ (some 7) _ = _
  simp only [Act.put, List.setIfInBounds_toArray, List.set_cons_zero, List.set_cons_succ, i64_w, i32_w]
  rfl
 refine pst (i := 3) (N := some 4) (bz 4 15) (by kernel_rfl) ?_
 refine done_ (by kernel_rfl) ?_
 go_wp2
 go_ret
 exact ⟨rfl, 1, _, by rw [HW2.out, HW.out, alloc_eq_grow, alloc_eq_grow, grow_grow]; rfl⟩
theorem key_reach.enter (args : Array Value) (w : World) : (callFunc 89 args).run Try.prog w = .ok (.enter 89 args) w := enters_of Try.func89 (by kernel_rfl) rfl _ _
set_option maxHeartbeats 4000000 in
theorem key_reach.sort {w : World} {base : Nat} {ok : Nat → Prop} {v : Value} {l : List S70} (h : k70.R 70 w base ok v l) (hl : l.length ≤ 1000000) :
  Calls Try.prog 88 #[v, .func (.func 89) #[] #[]] w fun e w' => e = .returned (.tuple #[]) ∧ k70.R 70 w' base ok v (l.mergeSort key_reach.le) ∧ w.grownBy w' v.ownBlock := by
 by_cases hx : l = []
 ·
  subst hx
  obtain ⟨A, c, rfl⟩ := Kd.R_slice h
  refine Calls.mono (AnyF.slices_SortFunc_none (P := Try.prog) (ρ := Try.sortCh_ren) Try.sortCh A c (.func (.func 89) #[] #[]) w) ?_
  rintro e w' ⟨rfl, rfl⟩
  exact ⟨rfl, by simpa using h, World.grownBy.refl _ _⟩
 ·
  obtain ⟨g, cap, rfl, hg, hb, hok, hH, hback⟩ := key_reach.flat.row h hx
  refine Calls.mono (AnyQ.slices_SortFunc (P := Try.prog) (ρ := Try.sortCh_ren) Try.sortCh 6 key_reach.isAgg key_reach.size key_reach.enc (fun _ => rfl) key_reach.flat.one key_reach.cf key_reach.swo 89 #[] g 0 cap l.toArray w key_reach.enter (fun _ _ _ _ x y => key_reach.clos x y _) hH hg (by simp; omega)) ?_
  rintro e w' ⟨rfl, d', n, os, hp, hs, rfl⟩
  have hz : d'.size = l.length := hp.1
  obtain ⟨h1, h2⟩ := hback _ d' hz ⟨n, os, rfl⟩
  have hperm : d'.toList.Perm l := by simpa using key_reach.perm hp
  rw [key_reach.sorted hperm (by rw [hz]; exact hs)] at h1
  exact ⟨rfl, h1, h2⟩
theorem key_reach.one {w w2 : World} {g : Nat} {A1 : Option Addr} {c1 : Nat} {l1 : List Int} (h : w2.heap[g]? = some (.cells #[.slice A1 l1.length c1] 25 (0, 0))) (hr : Kd.C (Kd.int .i64) w A1 l1.length l1) (hc : l1.length ≤ c1) (hb : Below w.heap.size w w2) : Kd.C (Kd.slice 3 (Kd.int .i64)) w2 (some ⟨g, 0, none⟩) [l1].length [l1] := by
 refine ⟨rfl, by simp, fun _ => ⟨_, rfl, fun j p hj => ?_⟩⟩
 have hj2 : j < 1 := (List.getElem?_eq_some_iff.1 hj).1
 obtain rfl : j = 0 := by omega
 obtain rfl : l1 = p := by simpa using hj
 refine ⟨[.slice A1 l1.length c1], rfl, ⟨A1, c1, rfl, hc, Kd.C_below hr hb⟩, fun q u hu => ?_⟩
 have hq : q = 0 := by
  have := (List.getElem?_eq_some_iff.1 hu).1
  simp at this; omega
 subst hq
 have hu2 : u = .slice A1 l1.length c1 := by simpa using hu.symm
 subst hu2
 have e : (⟨g, 0, none⟩ : Addr).add (0 * (Kd.slice 3 (Kd.int .i64)).sz + 0) = ⟨g, 0, none⟩ := by simp [Addr.add]
 rw [e]
 exact blkc h 0 _ rfl
theorem key_reach.len {n : Int} {ts : List S64} {l1 : List Int} {all : List S70} {e : Int} (h : key_reach.f n ts l1 = some (all, e)) : all.length ≤ 300 := by
 unfold key_reach.f at h
 obtain ⟨e', _, h⟩ := Option.bind_eq_some_iff.1 h
 split at h
 ·
  obtain ⟨⟨x0, x1, x2, x3, x4, x5⟩, _, h⟩ := Option.bind_eq_some_iff.1 h
  obtain ⟨⟨a, s, ok⟩, hs, h⟩ := Option.bind_eq_some_iff.1 h
  have hl := key_spread.len hs
  simp only at h
  split at h
  ·
   simp only [Option.some.injEq, Prod.mk.injEq] at h
   rw [← h.1, List.length_mergeSort]; exact hl
  ·
   simp only [Option.some.injEq, Prod.mk.injEq] at h
   rw [← h.1]; simp
 ·
  simp only [Option.some.injEq, Prod.mk.injEq] at h
  rw [← h.1]; simp
set_option maxHeartbeats 8000000 in
set_option maxRecDepth 100000 in
theorem key_reach.calls (a0_0 : Int) (A0_1 : Option Addr) (c0_1 : Nat) (l0_1 : List S64) (A1 : Option Addr) (c1 : Nat) (l1 : List Int) (r1 : List S70) (r2 : Int) (w : World) (hr0_1 : Kd.C k64 w A0_1 l0_1.length l0_1) (hc0_1 : l0_1.length ≤ c0_1) (hr1 : Kd.C (Kd.int .i64) w A1 l1.length l1) (hc1 : l1.length ≤ c1) (h : key_reach.f a0_0 l0_1 l1 = some (r1, r2)) :
  Calls Try.prog 53 #[.agg #[.int .i64 a0_0, .slice A0_1 l0_1.length c0_1], .slice A1 l1.length c1] w fun e w' => ∃ v0_ : Value, e = .returned (.tuple #[v0_, .int .i64 r2]) ∧ Kd.R k70 70 w' w.heap.size (fun _ => True) v0_ r1 ∧ Below w.heap.size w w' := by
 have hu := Try.underlying24
 have HR := Aside0.mk hr0_1
 have HC := Aside0.mk hc0_1
 have HR1 := Aside0.mk hr1
 have HC1 := Aside0.mk hc1
 clear hr0_1 hc0_1 hr1 hc1
 unfold key_reach.f at h
 obtain ⟨e, hop, h⟩ := Option.bind_eq_some_iff.1 h
 obtain ⟨w2, hw2⟩ : ∃ W, W = (w.alloc (.cells #[.int .i64 a0_0, .slice A0_1 l0_1.length c0_1] 24)).alloc (.cells #[.slice A1 l1.length c1] 25) := ⟨_, rfl⟩
 have s1 : (w.alloc (.cells #[.int .i64 a0_0, .slice A0_1 l0_1.length c0_1] 24)).heap.size = w.heap.size + 1 := Array.size_push ..
 have HB2 : Aside0 (Below w.heap.size w w2) := ⟨by rw [hw2]; exact below_alloc (below_alloc (Below.refl _ _) _) _⟩
 have G2 : Aside0 (w2.heap[w.heap.size]? = some (.cells #[.int .i64 a0_0, .slice A0_1 l0_1.length c0_1] 24 (0, 0))) := ⟨by rw [hw2]; exact blk_alloc (blk_new w _) _⟩
 have L2 : w2.heap[w.heap.size + 1]? = some (.cells #[.slice A1 l1.length c1] 25 (0, 0)) := by rw [hw2, ← s1]; exact blk_new _ _
 have HLL : Kd.C (Kd.slice 3 (Kd.int .i64)) w2 (some ⟨w.heap.size + 1, 0, none⟩) [l1].length [l1] := key_reach.one L2 HR1.out HC1.out HB2.out
 have HOP : Aside0 (Calls Try.prog 68 #[.agg #[.int .i64 a0_0, .slice A0_1 l0_1.length c0_1], .slice (some ⟨w.heap.size + 1, 0, none⟩) 1 1] w2 fun e' w' => e' = .returned (.int .i64 e) ∧ Below w2.heap.size w2 w') := ⟨key_open.calls a0_0 A0_1 c0_1 l0_1 (some ⟨w.heap.size + 1, 0, none⟩) 1 [l1] e w2 (Kd.C_below HR.out HB2.out) HC.out HLL (Nat.le_refl _) hop⟩
 have HW := Aside0.mk hw2
 have HOPF := Aside0.mk hop
 clear hop s1 L2 HLL hw2
 by_cases hz : e = 0
 ·
  subst hz
  rw [if_pos rfl] at h
  obtain ⟨⟨x0, x1, x2, x3, x4, x5⟩, hk, h⟩ := Option.bind_eq_some_iff.1 h
  obtain ⟨⟨all, st, ok⟩, hsp, h⟩ := Option.bind_eq_some_iff.1 h
  have HK := Aside0.mk hk
  have HSP := Aside0.mk hsp
  have HLEN := Aside0.mk (key_spread.len hsp)
  clear hk hsp
  cases ok with
  | false =>
   simp only [Bool.false_eq_true, if_false, Option.some.injEq, Prod.mk.injEq] at h
   obtain ⟨rfl, rfl⟩ := h
   go_enter Try.func53, Try.ntmps53
   go_wp2_with (first | (go_at_call 68; rw [← HW.out]; refine HOP.out.mono ?_; rintro e' w3 ⟨rfl, hb⟩; have HB3 := Aside0.mk (below_step HB2.out hb); have G3 := Aside0.mk (blk_below G2.out hb); have k0 := blkc G3.out 0 (.int .i64 a0_0) rfl; have k1 := blkc G3.out 1 (.slice A0_1 l0_1.length c0_1) rfl; clear hb))
   clear k0 k1
   refine start_ (n := 11) (S := fun w' => w'.cell? ⟨w.heap.size, 0, none⟩ = some (.int .i64 a0_0) ∧ w'.cell? ⟨w.heap.size, 1, none⟩ = some (.slice A0_1 l0_1.length c0_1)) (ds := []) #[false, false, false, false, false, false, false, false, false, false, false] (by kernel_rfl) rfl rfl ⟨blkc (blk_drew G3.out) 0 _ rfl, blkc (blk_drew G3.out) 1 _ rfl⟩ (fun hHeld => ?_)
   replace HB3 := Aside0.mk (below_drew1 HB3.out)
   replace G3 := Aside0.mk (blk_drew G3.out)
   generalize w3.drew = w4 at HB3 G3 hHeld ⊢
   refine tst2 (i := 0) (N := some 18) (bz 11 1) (by kernel_rfl) hHeld ?_
   refine pst (i := 1) (N := some 19) (bz 11 3) (by kernel_rfl) ?_
   refine one_ (i := 2) (N := some 20) #[true, true, true, false, false, false, false, false, false, false, false] rfl rfl (by kernel_rfl) (by decide) (fun K hK => ?_)
   refine goes_ Try.func61 (by kernel_rfl) rfl #[.slice A1 l1.length c1] (by rfl) rfl rfl mapz ?_
   refine (key_keysOf.calls A1 c1 l1 x0 x1 x2 x3 x4 x5 _ (Kd.C_below HR1.out HB3.out) HC1.out HK.out).mono ?_
   rintro e' w5 ⟨rfl, hb⟩
   refine ⟨_, rfl, ?_⟩
   have HB5 := Aside0.mk (below_step HB3.out hb)
   have G5 := Aside0.mk (blk_below G3.out hb)
   clear hb
   refine hK.out _ _ ⟨blkc G5.out 0 _ rfl, blkc G5.out 1 _ rfl⟩ (fun hHeld => ?_)
   clear hK K
   refine norm_ (a' := ?_) ?_ ?_
   rotate_left
   ·
    show Act.put _ (some 20) _ = _
    simp only [Act.put, List.setIfInBounds_toArray, List.set_cons_zero, List.set_cons_succ, i64_w, i32_w]
    rfl
   refine one_ (i := 3) (N := some 21) #[true, true, true, true, false, false, false, false, false, false, false] rfl rfl (by kernel_rfl) (by decide) (fun K hK => ?_)
   refine goes_ Try.func87 (by kernel_rfl) rfl #[.agg #[.int .i64 a0_0, .slice A0_1 l0_1.length c0_1], .agg #[.int .i64 x0, .int .i64 x1, .int .i64 x2, .int .i64 x3, .int .i64 x4, .int .i64 x5]] (by rfl) rfl rfl mapz ?_
   refine (key_spread.calls a0_0 A0_1 c0_1 l0_1 x0 x1 x2 x3 x4 x5 all st _ _ (Kd.C_below HR.out HB5.out) HC.out HSP.out).mono ?_
   rintro e' w6 ⟨v6, v7, rfl, ho6, ho7, hb⟩
   refine ⟨_, rfl, ?_⟩
   have HB6 := Aside0.mk (below_step HB5.out hb)
   have G6 := Aside0.mk (blk_below G5.out hb)
   have HO6 := Aside0.mk (Kd.R_lower ho6 HB5.out.size)
   have HS6 := Aside0.mk (Kd.R_lower ho7 HB5.out.size)
   clear hb ho6 ho7
   refine hK.out _ _ ⟨blkc G6.out 0 _ rfl, blkc G6.out 1 _ rfl⟩ (fun hHeld => ?_)
   clear hK K
   refine norm_ (a' := ?_) ?_ ?_
   rotate_left
   ·
    show Act.put _ (some 21) _ = _
    simp only [Act.put, List.setIfInBounds_toArray, List.set_cons_zero, List.set_cons_succ, i64_w, i32_w]
    rfl
   refine pst (i := 4) (N := some 17) (bz 11 31) (by kernel_rfl) ?_
   refine pst (i := 5) (N := some 22) (bz 11 63) (by kernel_rfl) ?_
   refine pst (i := 6) (N := some 23) (bz 11 127) (by kernel_rfl) ?_
   refine pst (i := 7) (N := some 24) (bz 11 255) (by kernel_rfl) ?_
   refine pst (i := 8) (N := some 7) (bz 11 511) (by kernel_rfl) ?_
   refine pst (i := 9) (N := some 8) (bz 11 1023) (by kernel_rfl) ?_
   refine pst (i := 10) (N := some 9) (bz 11 2047) (by kernel_rfl) ?_
   refine done_ (by kernel_rfl) ?_
   go_wp2
   go_ret2
   exact ⟨_, rfl, Kd.R_nil _ _ _ _ _, HB6.out⟩
  | true =>
   simp only [if_true, Option.some.injEq, Prod.mk.injEq] at h
   obtain ⟨rfl, rfl⟩ := h
   go_enter Try.func53, Try.ntmps53
   go_wp2_with (first | (go_at_call 68; rw [← HW.out]; refine HOP.out.mono ?_; rintro e' w3 ⟨rfl, hb⟩; have HB3 := Aside0.mk (below_step HB2.out hb); have G3 := Aside0.mk (blk_below G2.out hb); have k0 := blkc G3.out 0 (.int .i64 a0_0) rfl; have k1 := blkc G3.out 1 (.slice A0_1 l0_1.length c0_1) rfl; clear hb))
   clear k0 k1
   refine start_ (n := 11) (S := fun w' => w'.cell? ⟨w.heap.size, 0, none⟩ = some (.int .i64 a0_0) ∧ w'.cell? ⟨w.heap.size, 1, none⟩ = some (.slice A0_1 l0_1.length c0_1)) (ds := []) #[false, false, false, false, false, false, false, false, false, false, false] (by kernel_rfl) rfl rfl ⟨blkc (blk_drew G3.out) 0 _ rfl, blkc (blk_drew G3.out) 1 _ rfl⟩ (fun hHeld => ?_)
   replace HB3 := Aside0.mk (below_drew1 HB3.out)
   replace G3 := Aside0.mk (blk_drew G3.out)
   generalize w3.drew = w4 at HB3 G3 hHeld ⊢
   refine tst2 (i := 0) (N := some 18) (bz 11 1) (by kernel_rfl) hHeld ?_
   refine pst (i := 1) (N := some 19) (bz 11 3) (by kernel_rfl) ?_
   refine one_ (i := 2) (N := some 20) #[true, true, true, false, false, false, false, false, false, false, false] rfl rfl (by kernel_rfl) (by decide) (fun K hK => ?_)
   refine goes_ Try.func61 (by kernel_rfl) rfl #[.slice A1 l1.length c1] (by rfl) rfl rfl mapz ?_
   refine (key_keysOf.calls A1 c1 l1 x0 x1 x2 x3 x4 x5 _ (Kd.C_below HR1.out HB3.out) HC1.out HK.out).mono ?_
   rintro e' w5 ⟨rfl, hb⟩
   refine ⟨_, rfl, ?_⟩
   have HB5 := Aside0.mk (below_step HB3.out hb)
   have G5 := Aside0.mk (blk_below G3.out hb)
   clear hb
   refine hK.out _ _ ⟨blkc G5.out 0 _ rfl, blkc G5.out 1 _ rfl⟩ (fun hHeld => ?_)
   clear hK K
   refine norm_ (a' := ?_) ?_ ?_
   rotate_left
   ·
    show Act.put _ (some 20) _ = _
    simp only [Act.put, List.setIfInBounds_toArray, List.set_cons_zero, List.set_cons_succ, i64_w, i32_w]
    rfl
   refine one_ (i := 3) (N := some 21) #[true, true, true, true, false, false, false, false, false, false, false] rfl rfl (by kernel_rfl) (by decide) (fun K hK => ?_)
   refine goes_ Try.func87 (by kernel_rfl) rfl #[.agg #[.int .i64 a0_0, .slice A0_1 l0_1.length c0_1], .agg #[.int .i64 x0, .int .i64 x1, .int .i64 x2, .int .i64 x3, .int .i64 x4, .int .i64 x5]] (by rfl) rfl rfl mapz ?_
   refine (key_spread.calls a0_0 A0_1 c0_1 l0_1 x0 x1 x2 x3 x4 x5 all st _ _ (Kd.C_below HR.out HB5.out) HC.out HSP.out).mono ?_
   rintro e' w6 ⟨v6, v7, rfl, ho6, ho7, hb⟩
   refine ⟨_, rfl, ?_⟩
   have HB6 := Aside0.mk (below_step HB5.out hb)
   have G6 := Aside0.mk (blk_below G5.out hb)
   have HO6 := Aside0.mk (Kd.R_lower ho6 HB5.out.size)
   have HS6 := Aside0.mk (Kd.R_lower ho7 HB5.out.size)
   clear hb ho6 ho7
   refine hK.out _ _ ⟨blkc G6.out 0 _ rfl, blkc G6.out 1 _ rfl⟩ (fun hHeld => ?_)
   clear hK K
   refine norm_ (a' := ?_) ?_ ?_
   rotate_left
   ·
    show Act.put _ (some 21) _ = _
    simp only [Act.put, List.setIfInBounds_toArray, List.set_cons_zero, List.set_cons_succ, i64_w, i32_w]
    rfl
   refine pst (i := 4) (N := some 17) (bz 11 31) (by kernel_rfl) ?_
   refine pst (i := 5) (N := some 22) (bz 11 63) (by kernel_rfl) ?_
   refine pst (i := 6) (N := some 23) (bz 11 127) (by kernel_rfl) ?_
   refine pst (i := 7) (N := some 24) (bz 11 255) (by kernel_rfl) ?_
   refine pst (i := 8) (N := some 7) (bz 11 511) (by kernel_rfl) ?_
   refine pst (i := 9) (N := some 8) (bz 11 1023) (by kernel_rfl) ?_
   refine pst (i := 10) (N := some 9) (bz 11 2047) (by kernel_rfl) ?_
   refine done_ (by kernel_rfl) ?_
   go_wp2_with (go_at_call 88; refine (key_reach.sort HO6.out (by have := HLEN.out; omega)).mono ?_; rintro e' w7 ⟨rfl, ho, hg⟩; have HO7 := Aside0.mk ho; have HB7 : Aside0 (Below w.heap.size w w7) := ⟨HB6.out.grown hg HB6.out.size (fun j hj => by obtain ⟨inner, h1⟩ := Kd.R_own HO6.out; have := own_base h1 j hj; omega)⟩; clear ho hg)
   go_ret2
   exact ⟨_, rfl, HO7.out, HB7.out⟩
 ·
  rw [if_neg hz] at h
  simp only [Option.some.injEq, Prod.mk.injEq] at h
  obtain ⟨rfl, rfl⟩ := h
  have hne : (e != 0) = true := by simpa using hz
  clear hz
  go_enter Try.func53, Try.ntmps53
  go_wp2_with (first | (go_at_call 68; rw [← HW.out]; refine HOP.out.mono ?_; rintro e' w3 ⟨rfl, hb⟩; have HB3 := Aside0.mk (below_step HB2.out hb); have G3 := Aside0.mk (blk_below G2.out hb); have k0 := blkc G3.out 0 (.int .i64 a0_0) rfl; have k1 := blkc G3.out 1 (.slice A0_1 l0_1.length c0_1) rfl; clear hb))
  go_ret2
  exact ⟨_, rfl, Kd.R_nil _ _ _ _ _, HB3.out⟩
end

/-! ### slices_Clone_int_int: function 76 -/
def slices_Clone_int_int.f (l0 : List Int) : Option (List Int) := if l0.length * 8 ≤ 140737488351232 then some l0 else none
theorem slices_Clone_int_int.calls (A0 : Option Addr) (c0 : Nat) (l0 : List Int) (r : List Int) (w : World) (hr0 : Kd.C (Kd.int .i64) w A0 l0.length l0) (hc0 : l0.length ≤ c0) (h : slices_Clone_int_int.f l0 = some r) :
  Calls Try.prog 76 #[.slice A0 l0.length c0] w fun e w' => ∃ v0_ : Value, e = .returned (v0_) ∧ Kd.R (Kd.int .i64) 3 w' w.heap.size (fun _ => True) v0_ r ∧ Below w.heap.size w w' := by
 unfold slices_Clone_int_int.f at h
 by_cases hl : ¬ l0.length * 8 ≤ 140737488351232
 ·
  rw [if_neg hl] at h; cases h
 replace hl := Decidable.not_not.1 hl
 rw [if_pos hl] at h
 obtain rfl := Option.some.inj h
 cases l0 with
 | nil =>
  cases A0 with
  | none =>
   refine (Try.slices_Clone_int_nil 0 c0 w).mono ?_
   rintro e w' ⟨rfl, rfl⟩
   exact ⟨_, rfl, Kd.R_nil _ _ _ _ _, Below.refl _ _⟩
  | some a =>
   refine (Try.slices_Clone_int_zero a c0 w).mono ?_
   rintro e w' ⟨v', rfl, ho, _, hb⟩
   exact ⟨v', rfl, Kd.R_of_own (enc := Value.int .i64) (h1 := fun _ => rfl) ho (fun _ _ => trivial), hb⟩
 | cons x l =>
  have hcell : ∀ j, j < (x :: l).length → ∃ ad, A0 = some ad ∧ w.cell? (ad.add j) = some (.int .i64 ((x :: l).getD j 0)) := by
   intro j hj
   obtain ⟨ad, e1, hx⟩ := Kd.at_int hr0 (j : Int) (by omega) (by omega)
   refine ⟨ad, e1, ?_⟩
   rw [Int.toNat_natCast] at hx
   rw [hx]; simp [rd]
  obtain ⟨ad, rfl, h0⟩ := hcell 0 (by simp)
  have hsp : ad.spot = none := by
   have e : ad.add 0 = ad := by simp [Addr.add]
   rw [e] at h0
   unfold World.cell? at h0
   split at h0
   ·
    split at h0
    ·
     cases h0
    ·
     rename_i hs; simpa using hs
   ·
    cases h0
  obtain ⟨b, off, sp⟩ := ad
  simp only at hsp
  subst hsp
  refine (Try.slices_Clone_int b off (x :: l).length c0 (x :: l) w (Nat.le_refl _) (by omega) (fun j hj => ?_)).mono ?_
  ·
   obtain ⟨ad, e1, hx⟩ := hcell j hj
   cases e1
   have e : (⟨b, off, none⟩ : Addr).add j = ⟨b, off + j, none⟩ := by unfold Addr.add; split <;> simp_all
   rw [e] at hx
   exact hx
  ·
   rintro e w' ⟨v', rfl, ho, _, hb⟩
   rw [List.take_of_length_le (Nat.le_refl _)] at ho
   exact ⟨v', rfl, Kd.R_of_own (enc := Value.int .i64) (h1 := fun _ => rfl) ho (fun _ _ => trivial), hb⟩

/-! ### key_keys_list: function 55 -/
def key_keys_list.f (a0_0 a0_1 a0_2 a0_3 a0_4 a0_5 a1 : Int) : Option (List Int) := if 0 ≤ a1 ∧ a1 ≤ 6 then some ([a0_0, a0_1, a0_2, a0_3, a0_4, a0_5].take a1.toNat) else none
set_option maxHeartbeats 8000000 in
set_option maxRecDepth 100000 in
theorem key_keys_list.calls (a0_0 : Int) (a0_1 : Int) (a0_2 : Int) (a0_3 : Int) (a0_4 : Int) (a0_5 : Int) (a1 : Int) (r : List Int) (w : World) (h : key_keys_list.f a0_0 a0_1 a0_2 a0_3 a0_4 a0_5 a1 = some r) :
  Calls Try.prog 55 #[.agg #[.int .i64 a0_0, .int .i64 a0_1, .int .i64 a0_2, .int .i64 a0_3, .int .i64 a0_4, .int .i64 a0_5], .int .i64 a1] w fun e w' => ∃ v0_ : Value, e = .returned (v0_) ∧ Kd.R (Kd.int .i64) 3 w' w.heap.size (fun _ => True) v0_ r ∧ Below w.heap.size w w' := by
 obtain ⟨s, hs⟩ : ∃ s : List Int, s = [a0_0, a0_1, a0_2, a0_3, a0_4, a0_5] := ⟨_, rfl⟩
 unfold key_keys_list.f at h
 by_cases hc : ¬ (0 ≤ a1 ∧ a1 ≤ 6)
 ·
  rw [if_neg hc] at h; cases h
 replace hc := Decidable.not_not.1 hc
 rw [if_pos hc] at h
 obtain rfl := Option.some.inj h
 clear h
 obtain ⟨p1, p2⟩ := hc
 rw [← hs]
 have HS : Aside0 (s.length = 6) := ⟨by rw [hs]; rfl⟩
 have e1 : (#[.int .i64 a0_0, .int .i64 a0_1, .int .i64 a0_2, .int .i64 a0_3, .int .i64 a0_4, .int .i64 a0_5] : Array Value) = ar s := by rw [hs]; rfl
 have E1 := Aside0.mk e1
 clear e1
 have hlen : (s.take a1.toNat).length = a1.toNat := by rw [List.length_take, hs]; simp; omega
 have HLE := Aside0.mk hlen
 have F2 : Aside0 ((w.alloc (.cells #[.int .i64 a0_0, .int .i64 a0_1, .int .i64 a0_2, .int .i64 a0_3, .int .i64 a0_4, .int .i64 a0_5] 70)).heap[w.heap.size]? = some (.cells (ar s) 70 (0, 0))) := ⟨by rw [← E1.out]; exact blk_new w _⟩
 have HB0 : Aside0 (Below w.heap.size w (w.alloc (.cells #[.int .i64 a0_0, .int .i64 a0_1, .int .i64 a0_2, .int .i64 a0_3, .int .i64 a0_4, .int .i64 a0_5] 70))) := ⟨below_alloc (Below.refl _ _) _⟩
 have HC : Aside0 (Kd.C (Kd.int .i64) (w.alloc (.cells #[.int .i64 a0_0, .int .i64 a0_1, .int .i64 a0_2, .int .i64 a0_3, .int .i64 a0_4, .int .i64 a0_5] 70)) (some ⟨w.heap.size, 0, none⟩) (s.take a1.toNat).length (s.take a1.toNat)) := ⟨by
  refine ⟨rfl, by rw [hlen]; omega, fun _ => ⟨_, rfl, fun j p hj => ⟨[.int .i64 p], rfl, rfl, fun q u hu => ?_⟩⟩⟩
  have hj2 : j < (s.take a1.toNat).length := (List.getElem?_eq_some_iff.1 hj).1
  have hq : q = 0 := by
   have := (List.getElem?_eq_some_iff.1 hu).1
   simp at this; omega
  subst hq
  have hu2 : u = .int .i64 p := by simpa using hu.symm
  subst hu2
  have hj3 : j < a1.toNat := by omega
  rw [List.getElem?_take_of_lt hj3] at hj
  have e : (⟨w.heap.size, 0, none⟩ : Addr).add (j * (Kd.int .i64).sz + 0) = ⟨w.heap.size, j, none⟩ := by
   show (⟨w.heap.size, 0, none⟩ : Addr).add (j * 1 + 0) = _
   unfold Addr.add
   split
   ·
    simp_all
   ·
    simp
  rw [e]
  refine blkc F2.out j _ ?_
  simp [ar, hj]⟩
 have hcl : Aside0 (Calls Try.prog 76 #[.slice (some ⟨w.heap.size, 0, none⟩) a1.toNat 6] (w.alloc (.cells #[.int .i64 a0_0, .int .i64 a0_1, .int .i64 a0_2, .int .i64 a0_3, .int .i64 a0_4, .int .i64 a0_5] 70)) fun e w' => ∃ v0_ : Value, e = .returned (v0_) ∧ Kd.R (Kd.int .i64) 3 w' (w.alloc (.cells #[.int .i64 a0_0, .int .i64 a0_1, .int .i64 a0_2, .int .i64 a0_3, .int .i64 a0_4, .int .i64 a0_5] 70)).heap.size (fun _ => True) v0_ (s.take a1.toNat) ∧ Below (w.alloc (.cells #[.int .i64 a0_0, .int .i64 a0_1, .int .i64 a0_2, .int .i64 a0_3, .int .i64 a0_4, .int .i64 a0_5] 70)).heap.size (w.alloc (.cells #[.int .i64 a0_0, .int .i64 a0_1, .int .i64 a0_2, .int .i64 a0_3, .int .i64 a0_4, .int .i64 a0_5] 70)) w') := ⟨by
  have h1 := slices_Clone_int_int.calls (some ⟨w.heap.size, 0, none⟩) 6 (s.take a1.toNat) (s.take a1.toNat) _ HC.out (by omega) (by unfold slices_Clone_int_int.f; rw [if_pos (by omega)])
  rw [hlen] at h1
  exact h1⟩
 have hu2 := Try.underlying70
 clear hlen hs
 go_enter Try.func55, Try.ntmps55
 go_wp2_with (go_at_call 76; refine hcl.out.mono ?_; rintro e w' ⟨v0, rfl, ho, hb⟩; have HO := Aside0.mk ho; have HB2 := Aside0.mk hb; clear ho hb)
 go_ret
 exact ⟨_, rfl, Kd.R_lower HO.out HB0.out.size, below_step HB0.out HB2.out⟩

end Go.Proofs.Ytgdfakmlpdeabaa.XKey