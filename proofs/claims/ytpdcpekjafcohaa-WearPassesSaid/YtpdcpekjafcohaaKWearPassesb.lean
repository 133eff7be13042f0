-- Written by wip/pack.py of this repo: texts of this claim, put together.
import Derived.Shelf.Sort.Plain
import Derived.Shelf.Bits.Mul64
import Derived.Shelf.Slices.Equal
import Derived.Ground.Names2Prog
import Derived.Shelf.Slices.Clone
import Derived.Test.YtpdcpekjafcohaaProg
import Derived.StillTailTactics
import Derived.Below
import Derived.Deep.Draws
import Derived.Deep.AppendLies
import Derived.Maps.AppendAt
import Derived.OwnWalk
import Derived.Laws.BytesArg
import Derived.Laws.MakeOwn
import Derived.Laws.OwnMore
import Derived.Deep.OwnRows
import Derived.Tactics
import Derived.Lib.ConvBytes
import Derived.Laws.Slices
import Derived.WalkKit
import Derived.KernelRfl
import Derived.RowKit3
import Derived.Deep.LoopGhost
import Derived.Deep.QuietTactic
import Derived.BigQuiet
import Derived.WideLaws
import Derived.Deep.DeepCutAuto
import Derived.Deep.CutBlock
import Derived.Deep.RegionHeld3
import Derived.Laws.Rows
import Derived.Lib.AppendStr
import Derived.ArgAppend
import Derived.Laws.IdiomCopy
import Derived.OrdersHeld
import Derived.Laws.BitsLemmas
import Derived.RowKit
import Derived.Sort.OwnSortedInts
import Derived.Laws.CopyOwn
import Derived.Test.YtpdcpekjafcohaaKWearPassesa
/-
 DERIVED: THE SHELF's CONTRACTS AT THIS DUMP, IN PLAIN WORDS (tools/lay-plain.mjs out of 'TryShelf.lean', which tools/lay-shelf.mjs wrote): THE SAME DECLARATIONS UNDER THE SAME NAMES: 'import', 'namespace', 'open', 'def', 'theorem' AND NOTHING ELSE: no command of the shelf's: FOR A HAND-IN. Each laying: the table of numbers ('.._ren') and one theorem, a field a fact of the dump's own or the kernel's comparison; each contract: ONE APPLICATION.
-/
namespace Go.Proofs
open Go.Shelf
def Try.lays189_ren : Go.Shelf.Ren := ⟨fun | 189 => 79 | 125 => 89 | 257 => 88 | 128 => 101 | 129 => 102 | 294 => 92 | 295 => 93 | 296 => 94 | 297 => 95 | 298 => 96 | 299 => 97 | 216 => 98 | 300 => 99 | 301 => 100 | 328 => 105 | 329 => 106 | 330 => 107 | 331 => 108 | 332 => 109 | 215 => 110 | 343 => 111 | n => n, fun | 28 => 22 | 3 => 3 | 46 => 98 | 0 => 0 | 51 => 112 | 53 => 114 | 4 => 4 | 183 => 104 | 182 => 103 | 131 => 109 | 5 => 5 | 9 => 9 | 218 => 119 | 222 => 123 | 228 => 125 | 229 => 126 | n => n, fun | n => n⟩
theorem Try.lays189 : Go.Proofs.Lays.n189 Try.prog Try.lays189_ren := {
 mixed := by kernel_rfl
 f125 := Try.func89.trans (congrArg some (by kernel_rfl))
 f128 := Try.func101.trans (congrArg some (by kernel_rfl))
 f129 := Try.func102.trans (congrArg some (by kernel_rfl))
 f189 := Try.func79.trans (congrArg some (by kernel_rfl))
 f215 := Try.func110.trans (congrArg some (by kernel_rfl))
 f216 := Try.func98.trans (congrArg some (by kernel_rfl))
 f257 := Try.func88.trans (congrArg some (by kernel_rfl))
 f294 := Try.func92.trans (congrArg some (by kernel_rfl))
 f295 := Try.func93.trans (congrArg some (by kernel_rfl))
 f296 := Try.func94.trans (congrArg some (by kernel_rfl))
 f297 := Try.func95.trans (congrArg some (by kernel_rfl))
 f298 := Try.func96.trans (congrArg some (by kernel_rfl))
 f299 := Try.func97.trans (congrArg some (by kernel_rfl))
 f300 := Try.func99.trans (congrArg some (by kernel_rfl))
 f301 := Try.func100.trans (congrArg some (by kernel_rfl))
 f328 := Try.func105.trans (congrArg some (by kernel_rfl))
 f329 := Try.func106.trans (congrArg some (by kernel_rfl))
 f330 := Try.func107.trans (congrArg some (by kernel_rfl))
 f331 := Try.func108.trans (congrArg some (by kernel_rfl))
 f332 := Try.func109.trans (congrArg some (by kernel_rfl))
 f343 := Try.func111.trans (congrArg some (by kernel_rfl))
 t0 := Try.underlying0
 a0 := Try.isAgg0
 z0 := Try.sizeOf0
 v0 := Try.zeroValue0
 t3 := Try.underlying3
 a3 := Try.isAgg3
 z3 := Try.sizeOf3
 v3 := Try.zeroValue3
 t4 := Try.underlying4
 a4 := Try.isAgg4
 z4 := Try.sizeOf4
 v4 := Try.zeroValue4
 t5 := Try.underlying5
 a5 := Try.isAgg5
 z5 := Try.sizeOf5
 v5 := Try.zeroValue5
 t9 := Try.underlying9
 a9 := Try.isAgg9
 z9 := Try.sizeOf9
 v9 := Try.zeroValue9
 t28 := Try.underlying22
 a28 := Try.isAgg22
 z28 := Try.sizeOf22
 v28 := Try.zeroValue22
 t46 := Try.underlying98
 a46 := Try.isAgg98
 z46 := Try.sizeOf98
 v46 := Try.zeroValue98
 t51 := Try.underlying112
 a51 := Try.isAgg112
 z51 := Try.sizeOf112
 v51 := Try.zeroValue112
 t53 := Try.underlying114
 a53 := Try.isAgg114
 z53 := Try.sizeOf114
 v53 := Try.zeroValue114
 t131 := Try.underlying109
 a131 := Try.isAgg109
 z131 := Try.sizeOf109
 v131 := Try.zeroValue109
 t182 := Try.underlying103
 a182 := Try.isAgg103
 z182 := Try.sizeOf103
 v182 := Try.zeroValue103
 t183 := Try.underlying104
 a183 := Try.isAgg104
 z183 := Try.sizeOf104
 v183 := Try.zeroValue104
 t218 := Try.underlying119
 a218 := Try.isAgg119
 z218 := Try.sizeOf119
 v218 := Try.zeroValue119
 t222 := Try.underlying123
 a222 := Try.isAgg123
 z222 := Try.sizeOf123
 v222 := Try.zeroValue123
 t228 := Try.underlying125
 a228 := Try.isAgg125
 z228 := Try.sizeOf125
 v228 := Try.zeroValue125
 t229 := Try.underlying126
 a229 := Try.isAgg126
 z229 := Try.sizeOf126
 v229 := Try.zeroValue126 }
open Go.Sort Go.RowKit in
theorem Try.slices_Sort_int (blk off cap : Nat) (zs : List Int) (w : World) (hH : Holds (Value.int .i64) w blk off zs.toArray) (hblk : blk < w.heap.size) (hsz : zs.length < 4611686018427387904) :
  Calls Try.prog 79 #[.slice (some ⟨blk, off, none⟩) zs.length cap] w fun e w' =>
   e = .returned (.tuple #[]) ∧ ∃ n os, w' = grow (putRow (Value.int .i64) (Sort.ahead w n) blk off (zs.mergeSort fun x y => decide (x ≤ y)).toArray) os := Any.slices_Sort_int Try.lays189 blk off cap zs w hH hblk hsz
def Try.lays212_ren : Go.Shelf.Ren := ⟨fun | 212 => 90 | 263 => 103 | 264 => 104 | n => n, fun | 46 => 98 | 51 => 112 | 146 => 115 | 53 => 114 | 148 => 117 | n => n, fun | n => n⟩
theorem Try.lays212 : Go.Proofs.Lays.n212 Try.prog Try.lays212_ren := {
 mixed := by kernel_rfl
 f212 := Try.func90.trans (congrArg some (by kernel_rfl))
 f263 := Try.func103.trans (congrArg some (by kernel_rfl))
 f264 := Try.func104.trans (congrArg some (by kernel_rfl))
 t46 := Try.underlying98
 a46 := Try.isAgg98
 z46 := Try.sizeOf98
 v46 := Try.zeroValue98
 t51 := Try.underlying112
 a51 := Try.isAgg112
 z51 := Try.sizeOf112
 v51 := Try.zeroValue112
 t53 := Try.underlying114
 a53 := Try.isAgg114
 z53 := Try.sizeOf114
 v53 := Try.zeroValue114
 t146 := Try.underlying115
 a146 := Try.isAgg115
 z146 := Try.sizeOf115
 v146 := Try.zeroValue115
 t148 := Try.underlying117
 a148 := Try.isAgg117
 z148 := Try.sizeOf117
 v148 := Try.zeroValue117 }
open Go.RowKit Go.Lib in
theorem Try.bits_Mul (x y : Nat) (hx : x < 18446744073709551616) (hy : y < 18446744073709551616) (w : World) :
  Calls Try.prog 90 #[.int .u64 x, .int .u64 y] w fun e w' => e = .returned (.tuple #[.int .u64 ((x * y / 18446744073709551616 : Nat) : Int), .int .u64 ((x * y % 18446744073709551616 : Nat) : Int)]) ∧ w' = w := Any.bits_Mul Try.lays212 x y hx hy w
def Try.laysNm215_ren : Go.Shelf.Ren := ⟨fun | 15 => 65 | n => n, fun | 22 => 22 | 3 => 3 | 4 => 4 | n => n, fun | n => n⟩
theorem Try.laysNm215 : Go.Proofs.Lays2.n15 Try.prog Try.laysNm215_ren := {
 mixed := by kernel_rfl
 f15 := Try.func65.trans (congrArg some (by kernel_rfl))
 t3 := Try.underlying3
 a3 := Try.isAgg3
 z3 := Try.sizeOf3
 v3 := Try.zeroValue3
 t4 := Try.underlying4
 a4 := Try.isAgg4
 z4 := Try.sizeOf4
 v4 := Try.zeroValue4
 t22 := Try.underlying22
 a22 := Try.isAgg22
 z22 := Try.sizeOf22
 v22 := Try.zeroValue22
 i3 := by kernel_rfl }
open Go.RowKit Go.Lib in
theorem Try.slices_Clone_int (b off n c : Nat) (zs : List Int) (w : World) (hz : n ≤ zs.length) (hbig : n * 8 ≤ 140737488355328) (hc : ∀ j, j < zs.length → w.cell? ⟨b, off + j, none⟩ = some (.int .i64 (zs.getD j 0))) :
  Calls Try.prog 65 #[.slice (some ⟨b, off, none⟩) n c] w fun e w' => ∃ v', e = .returned v' ∧ w'.ownsRow w.heap.size 3 1 v' n ((zs.take n).map (Value.int .i64)) ∧ v' ≠ .slice none 0 0 ∧ Below w.heap.size w w' := Any.slices_Clone_int Try.laysNm215 b off n c zs w hz hbig hc
open Go.RowKit Go.Lib in
theorem Try.slices_Clone_int_nil (n c : Nat) (w : World) :
  Calls Try.prog 65 #[.slice none n c] w fun e w' => e = .returned (.slice none 0 0) ∧ w' = w := Any.slices_Clone_int_nil Try.laysNm215 n c w
open Go.RowKit Go.Lib in
theorem Try.slices_Clone_int_zero (a : Addr) (c : Nat) (w : World) :
  Calls Try.prog 65 #[.slice (some a) 0 c] w fun e w' => ∃ v', e = .returned v' ∧ w'.ownsRow w.heap.size 3 1 v' 0 [] ∧ v' ≠ .slice none 0 0 ∧ Below w.heap.size w w' := Any.slices_Clone_int_zero Try.laysNm215 a c w
end Go.Proofs

namespace Go.Proofs.Ytpdcpekjafcohaa.Idx
def idxFrom {α : Type} (p : α → Bool) (l : List α) : Int := if l.any p then (l.findIdx p : Int) else -1
theorem idxFrom_at {α : Type} {p : α → Bool} {l : List α} {i : Nat} (hi : i < l.length) (hp : p l[i] = true) (hb : ∀ j (h : j < l.length), j < i → p l[j] = false) : idxFrom p l = i := by
 have ha : l.any p = true := List.any_eq_true.2 ⟨l[i], List.getElem_mem hi, hp⟩
 have hf : l.findIdx p = i := by
  rw [List.findIdx_eq hi]
  exact ⟨hp, fun j hj => hb j _ hj⟩
 simp [idxFrom, ha, hf]
theorem idxFrom_none {α : Type} {p : α → Bool} {l : List α} (hb : ∀ j (h : j < l.length), j < l.length → p l[j] = false) : idxFrom p l = -1 := by
 have ha : l.any p = false := by
  rw [List.any_eq_false]
  intro x hx
  obtain ⟨j, hj, rfl⟩ := List.mem_iff_getElem.1 hx
  simp [hb j hj hj]
 simp [idxFrom, ha]
theorem idx_ge {α : Type} (p : α → Bool) (l : List α) : decide (0 ≤ idxFrom p l) = l.any p := by
 unfold idxFrom
 by_cases h : l.any p = true
 ·
  simp [h]
 ·
  have h2 : l.any p = false := by simpa using h
  simp [h2]
end Go.Proofs.Ytpdcpekjafcohaa.Idx

/- Short words for what the printed walks prove again and again: each bears its own proof as a default, found where it is used. -/
namespace Go.Proofs.YtpdcpekjafcohaaW.PrintMore
open Go.RowKit Go.Proofs.YtpdcpekjafcohaaW.PrintWords Go.Proofs.YtpdcpekjafcohaaW.PrintLast
set_option linter.unusedVariables false

theorem bel {n : Nat} {w W : World} (h : Below n w W := by repeat (first | (with_reducible first | exact HB.out | apply below_alloc | apply pw_below_drewN | apply below_drew1 | refine below_set ?_ (Aside0.out (by assumption))) | exact HB.out)) : Below n w W := h
theorem blkz {W : World} {g : Nat} {o : Obj} (h : W.heap[g]? = some o := by (with_reducible repeat (first | refine blk_drewN ?_ _ | refine blk_drew ?_ | refine blk_alloc ?_ _)); exact Aside0.out (by assumption)) : W.heap[g]? = some o := h
theorem blkc {W : World} {g : Nat} {cs : Array Value} {t : TypeId} (h : W.heap[g]? = some (.cells cs t (0, 0))) (i : Nat) (v : Value) (e : cs[i]? = some v) : W.cell? ⟨g, i, none⟩ = some v := (blk_cell h i).trans e
theorem cbz {α : Type} {d : Kd α} {w W : World} {A : Option Addr} {n : Nat} {xs : List α} (K : Aside0 (d.C w A n xs)) (h : Below w.heap.size w W := by repeat (first | (with_reducible first | exact HB.out | apply below_alloc | apply pw_below_drewN | apply below_drew1 | refine below_set ?_ (Aside0.out (by assumption))) | exact HB.out)) : d.C W A n xs := Kd.C_below K.out h
theorem mapz {α : Type} {a b : α} (h : a = b := by (try simp only [List.map_toArray, List.map_cons, List.map_nil]); first | done | rfl | (simp only [List.length_drop, List.length_take]; rfl)) : a = b := h
theorem asz {p : Prop} (h : p := by first | (with_reducible assumption) | assumption) : p := h
theorem rsz {α : Sort _} {a b : α} (h : a = b := by first | rfl | (simp; done) | (simp [*]; done)) : a = b := h
theorem drz {w W : World} (h : Drawn0 w W := by repeat (first | exact Drawn0.refl _ | apply Drawn0.step)) : Drawn0 w W := h
theorem ownx {α : Type} {d : Kd α} {e : Nat} {W0 W : World} {base : Nat} {ok : Nat → Prop} {v : Value} {xs : List α} (K : Aside0 (d.R e W0 base ok v xs)) (h : d.R e W base ok v xs := by (with_reducible repeat (first | apply Kd.R_alloc | apply Kd.R_drewN | apply Kd.R_drew)); exact Aside0.out (by assumption)) : d.R e W base ok v xs := h
theorem ezz {α : Sort _} {a b : α} (h : a = b := by first | rfl | (simp [errW_none, errW_some] <;> rfl) | (simp [*, errW_none, errW_some] <;> rfl)) : a = b := h
theorem bsz {w W : World} {g : Nat} (hg : g = W.heap.size) (h : Below w.heap.size w W := by repeat (first | (with_reducible first | exact HB.out | apply below_alloc | apply pw_below_drewN | apply below_drew1 | refine below_set ?_ (Aside0.out (by assumption))) | exact HB.out)) : Aside0 (w.heap.size ≤ g) := ⟨by rw [hg]; exact below_size h⟩
theorem neL {W : World} {g g' : Nat} {o : Obj} (hg : g' = W.heap.size) (h : W.heap[g]? = some o := by (with_reducible repeat (first | refine blk_drewN ?_ _ | refine blk_drew ?_ | refine blk_alloc ?_ _)); exact Aside0.out (by assumption)) : Aside0 (g ≠ g') := ⟨by rw [hg]; exact Nat.ne_of_lt (blk_lt h)⟩
theorem neR {W : World} {g g' : Nat} {o : Obj} (hg : g' = W.heap.size) (h : W.heap[g]? = some o := by (with_reducible repeat (first | refine blk_drewN ?_ _ | refine blk_drew ?_ | refine blk_alloc ?_ _)); exact Aside0.out (by assumption)) : Aside0 (g' ≠ g) := ⟨by rw [hg]; exact Nat.ne_of_gt (blk_lt h)⟩
def bz (n m : Nat) : Array Bool := ((List.range n).map m.testBit).toArray
section
variable {P : Program} {md : Region.Mode} {ops : Array Oper} {Q : Exit → Act → World → Prop} {S : World → Prop} {ds : List Nat}
theorem pst {i : Nat} {N : Option Tmp} {oi : Oper} {v : Value} {fuel : Nat} {l : Array Bool} {a a' : Act} {w : World} (l' : Array Bool) (hc : anyB md ops l l' i = true) (h : wpAnyLast P md ops Q S ds fuel l' a' w)
  (hi : ops[i]? = some oi := by rfl) (hN : oi.dst = N := by rfl) (hy : Yields P ops oi v a := by exact Or.inl ⟨by rfl, by (intro w'; go_simp; with_reducible rfl)⟩) (ha : a.put N v = a' := by (simp only [Act.put, List.setIfInBounds_toArray, List.set_cons_zero, List.set_cons_succ, i64_w, i32_w]; rfl)) (hQ : ∀ c a w, Q (.panic c) (a.put oi.dst v) w → Q (.panic c) a w := by exact (fun _ _ _ h => h)) :
  wpAnyLast P md ops Q S ds (fuel + 1) l a w := pure_ l' hi hN hc hQ hy ha h
theorem pso {i : Nat} {N : Option Tmp} {oi : Oper} {fuel : Nat} {l : Array Bool} {a a' : Act} {w : World} (l' : Array Bool) (hc : anyB md ops l l' i = true) (h : wpAnyLast P md ops Q S ds fuel l' a' w)
  (hi : ops[i]? = some oi := by rfl) (hN : oi.dst = N := by rfl) (hy : Yields P ops oi undef a := by exact Or.inr ⟨by rfl, rfl⟩) (ha : a.put N undef = a' := by (simp only [Act.put, List.setIfInBounds_toArray, List.set_cons_zero, List.set_cons_succ, i64_w, i32_w]; rfl)) (hQ : ∀ c a w, Q (.panic c) (a.put oi.dst undef) w → Q (.panic c) a w := by exact (fun _ _ _ h => h)) :
  wpAnyLast P md ops Q S ds (fuel + 1) l a w := pure_ l' hi hN hc hQ hy ha h
theorem tst2 {i : Nat} {N : Option Tmp} {oi : Oper} {v : Value} {fuel : Nat} {l : Array Bool} {a a' : Act} {w : World} (l' : Array Bool) (hc : takeB md ops ds l l' i = true) (hS : S w) (h : wpAnyLast P md ops Q S ds fuel l' a' w)
  (hi : ops[i]? = some oi := by rfl) (hN : oi.dst = N := by rfl) (hy : YieldsIf P ops S oi v a := by exact Or.inl ⟨by rfl, by (rintro w' ⟨s0, s1⟩; go_simp; with_reducible rfl)⟩) (ha : a.put N v = a' := by (simp only [Act.put, List.setIfInBounds_toArray, List.set_cons_zero, List.set_cons_succ, i64_w, i32_w]; rfl)) (hQ : ∀ c a w, Q (.panic c) (a.put oi.dst v) w → Q (.panic c) a w := by exact (fun _ _ _ h => h)) :
  wpAnyLast P md ops Q S ds (fuel + 1) l a w := take_ l' hi hN hc hQ hy hS ha h
theorem tst3 {i : Nat} {N : Option Tmp} {oi : Oper} {v : Value} {fuel : Nat} {l : Array Bool} {a a' : Act} {w : World} (l' : Array Bool) (hc : takeB md ops ds l l' i = true) (hS : S w) (h : wpAnyLast P md ops Q S ds fuel l' a' w)
  (hi : ops[i]? = some oi := by rfl) (hN : oi.dst = N := by rfl) (hy : YieldsIf P ops S oi v a := by exact Or.inl ⟨by rfl, by (rintro w' ⟨s0, s1, s2⟩; go_simp; with_reducible rfl)⟩) (ha : a.put N v = a' := by (simp only [Act.put, List.setIfInBounds_toArray, List.set_cons_zero, List.set_cons_succ, i64_w, i32_w]; rfl)) (hQ : ∀ c a w, Q (.panic c) (a.put oi.dst v) w → Q (.panic c) a w := by exact (fun _ _ _ h => h)) :
  wpAnyLast P md ops Q S ds (fuel + 1) l a w := take_ l' hi hN hc hQ hy hS ha h
theorem tst6 {i : Nat} {N : Option Tmp} {oi : Oper} {v : Value} {fuel : Nat} {l : Array Bool} {a a' : Act} {w : World} (l' : Array Bool) (hc : takeB md ops ds l l' i = true) (hS : S w) (h : wpAnyLast P md ops Q S ds fuel l' a' w)
  (hi : ops[i]? = some oi := by rfl) (hN : oi.dst = N := by rfl) (hy : YieldsIf P ops S oi v a := by exact Or.inl ⟨by rfl, by (rintro w' ⟨s0, s1, s2, s3, s4, s5⟩; go_simp; with_reducible rfl)⟩) (ha : a.put N v = a' := by (simp only [Act.put, List.setIfInBounds_toArray, List.set_cons_zero, List.set_cons_succ, i64_w, i32_w]; rfl)) (hQ : ∀ c a w, Q (.panic c) (a.put oi.dst v) w → Q (.panic c) a w := by exact (fun _ _ _ h => h)) :
  wpAnyLast P md ops Q S ds (fuel + 1) l a w := take_ l' hi hN hc hQ hy hS ha h
theorem tst12 {i : Nat} {N : Option Tmp} {oi : Oper} {v : Value} {fuel : Nat} {l : Array Bool} {a a' : Act} {w : World} (l' : Array Bool) (hc : takeB md ops ds l l' i = true) (hS : S w) (h : wpAnyLast P md ops Q S ds fuel l' a' w)
  (hi : ops[i]? = some oi := by rfl) (hN : oi.dst = N := by rfl) (hy : YieldsIf P ops S oi v a := by exact Or.inl ⟨by rfl, by (rintro w' ⟨s0, s1, s2, s3, s4, s5, s6, s7, s8, s9, s10, s11⟩; go_simp; with_reducible rfl)⟩) (ha : a.put N v = a' := by (simp only [Act.put, List.setIfInBounds_toArray, List.set_cons_zero, List.set_cons_succ, i64_w, i32_w]; rfl)) (hQ : ∀ c a w, Q (.panic c) (a.put oi.dst v) w → Q (.panic c) a w := by exact (fun _ _ _ h => h)) :
  wpAnyLast P md ops Q S ds (fuel + 1) l a w := take_ l' hi hN hc hQ hy hS ha h
end
end Go.Proofs.YtpdcpekjafcohaaW.PrintMore

-- Written by wip/xprint.py of this repo, over the kit's print.py: out of the translation; the oracles in it are by hand. Not trusted: Lean checks it.
namespace Go.Proofs.Ytpdcpekjafcohaa.XWear
open Go.RowKit Go.Proofs.YtpdcpekjafcohaaW.PrintWords Go.Proofs.YtpdcpekjafcohaaW.PrintLast Go.Proofs.YtpdcpekjafcohaaW.PrintMore
attribute [local go_sem] max2_int min2_int max_two min_two max_three min_three max_four min_four   -- for this text's walks alone
set_option linter.unusedVariables false
set_option linter.unusedSimpArgs false



def errW : Option Int → Value
 | none => .nilIface
 | some c => .iface 0 (.int .i64 c)
theorem errW_none : errW none = .nilIface := rfl
theorem errW_some (c : Int) : errW (some c) = .iface 0 (.int .i64 c) := rfl

theorem info3 : (Try.prog.info? 3).map (fun i => (i.zero, i.size, i.bytes)) = some (some (.int .i64 0), 1, 8) := by kernel_rfl
theorem info35 : (Try.prog.info? 35).map (fun i => (i.zero, i.size, i.bytes)) = some (some (.agg #[(.int .i64 0), (.int .i64 0)]), 2, 16) := by kernel_rfl
theorem info55 : (Try.prog.info? 55).map (fun i => (i.zero, i.size, i.bytes)) = some (some (.agg #[(.int .i64 0), (.int .i64 0), (.int .i64 0)]), 3, 24) := by kernel_rfl
theorem info74 : (Try.prog.info? 74).map (fun i => (i.zero, i.size, i.bytes)) = some (some (.agg #[(.int .i64 0), (.int .i64 0), (.int .i64 0)]), 3, 24) := by kernel_rfl
-- the values' own types
/-! #### struct type 35 -/
structure S35 where
 f0 : Int
 f1 : Int
def z35 : S35 := ⟨(0 : Int), (0 : Int)⟩
def k35 : Kd S35 := Kd.iso (Kd.pair (Kd.int .i64) (Kd.int .i64)) (fun x : S35 => (x.f0, x.f1))
theorem k35_open {w : World} {x : S35} {cs : List Value} (h : k35.K w x cs) : cs = [.int .i64 x.f0, .int .i64 x.f1] := by
 obtain ⟨_, _, rfl, rfl, rfl⟩ := h
 exact rfl
theorem k35_mkM (w : World) (base : Nat) (ok : Nat → Prop) (x : S35)  : k35.M w base ok x [.int .i64 x.f0, .int .i64 x.f1] := ⟨[.int .i64 x.f0], [.int .i64 x.f1], rfl, rfl, rfl⟩
def rd_T35 (xs : List S35) (i : Int) : S35 := xs.getD i.toNat z35
theorem at_T35 {w : World} {A : Option Addr} {n : Nat} {xs : List S35} (h : Kd.C k35 w A n xs) (i : Int) (h0 : 0 ≤ i) (h1 : i < n) : ∃ ad , A = some ad ∧ w.cell? (ad.add (i.toNat * 2)) = some (.int .i64 (rd_T35 xs i).f0) ∧ w.cell? ⟨(ad.add (i.toNat * 2)).block, (ad.add (i.toNat * 2)).off + 1, none⟩ = some (.int .i64 (rd_T35 xs i).f1) := by
 obtain ⟨ad, c, e, _, hK, hc0⟩ := Kd.C_get h z35 i h0 h1
 have hc : ∀ j u, c[j]? = some u → w.cell? (ad.add (i.toNat * 2 + j)) = some u := hc0
 obtain rfl := k35_open hK
 exact ⟨ad, e, hc 0 _ rfl, by rw [← add_field _ _ 1 (by omega)]; exact hc 1 _ rfl⟩

/-! #### struct type 74 -/
structure S74 where
 f0 : Int
 f1 : Int
 f2 : Int
def z74 : S74 := ⟨(0 : Int), (0 : Int), (0 : Int)⟩
def k74 : Kd S74 := Kd.iso (Kd.pair (Kd.int .i64) (Kd.pair (Kd.int .i64) (Kd.int .i64))) (fun x : S74 => (x.f0, x.f1, x.f2))
theorem k74_open {w : World} {x : S74} {cs : List Value} (h : k74.K w x cs) : cs = [.int .i64 x.f0, .int .i64 x.f1, .int .i64 x.f2] := by
 obtain ⟨_, _, rfl, rfl, ⟨_, _, rfl, rfl, rfl⟩⟩ := h
 exact rfl
theorem k74_mkM (w : World) (base : Nat) (ok : Nat → Prop) (x : S74)  : k74.M w base ok x [.int .i64 x.f0, .int .i64 x.f1, .int .i64 x.f2] := ⟨[.int .i64 x.f0], [.int .i64 x.f1, .int .i64 x.f2], rfl, rfl, ⟨[.int .i64 x.f1], [.int .i64 x.f2], rfl, rfl, rfl⟩⟩
def rd_T74 (xs : List S74) (i : Int) : S74 := xs.getD i.toNat z74
theorem at_T74 {w : World} {A : Option Addr} {n : Nat} {xs : List S74} (h : Kd.C k74 w A n xs) (i : Int) (h0 : 0 ≤ i) (h1 : i < n) : ∃ ad , A = some ad ∧ w.cell? (ad.add (i.toNat * 3)) = some (.int .i64 (rd_T74 xs i).f0) ∧ w.cell? ⟨(ad.add (i.toNat * 3)).block, (ad.add (i.toNat * 3)).off + 1, none⟩ = some (.int .i64 (rd_T74 xs i).f1) ∧ w.cell? ⟨(ad.add (i.toNat * 3)).block, (ad.add (i.toNat * 3)).off + 2, none⟩ = some (.int .i64 (rd_T74 xs i).f2) := by
 obtain ⟨ad, c, e, _, hK, hc0⟩ := Kd.C_get h z74 i h0 h1
 have hc : ∀ j u, c[j]? = some u → w.cell? (ad.add (i.toNat * 3 + j)) = some u := hc0
 obtain rfl := k74_open hK
 exact ⟨ad, e, hc 0 _ rfl, by rw [← add_field _ _ 1 (by omega)]; exact hc 1 _ rfl, by rw [← add_field _ _ 2 (by omega)]; exact hc 2 _ rfl⟩

/-! #### struct type 55 -/
structure S55 where
 f0 : Int
 f1 : Int
 f2 : Int
def z55 : S55 := ⟨(0 : Int), (0 : Int), (0 : Int)⟩
def k55 : Kd S55 := Kd.iso (Kd.pair (Kd.int .i64) (Kd.pair (Kd.int .i64) (Kd.int .i64))) (fun x : S55 => (x.f0, x.f1, x.f2))
theorem k55_open {w : World} {x : S55} {cs : List Value} (h : k55.K w x cs) : cs = [.int .i64 x.f0, .int .i64 x.f1, .int .i64 x.f2] := by
 obtain ⟨_, _, rfl, rfl, ⟨_, _, rfl, rfl, rfl⟩⟩ := h
 exact rfl
def rd_T55 (xs : List S55) (i : Int) : S55 := xs.getD i.toNat z55
theorem at_T55 {w : World} {A : Option Addr} {n : Nat} {xs : List S55} (h : Kd.C k55 w A n xs) (i : Int) (h0 : 0 ≤ i) (h1 : i < n) : ∃ ad , A = some ad ∧ w.cell? (ad.add (i.toNat * 3)) = some (.int .i64 (rd_T55 xs i).f0) ∧ w.cell? ⟨(ad.add (i.toNat * 3)).block, (ad.add (i.toNat * 3)).off + 1, none⟩ = some (.int .i64 (rd_T55 xs i).f1) ∧ w.cell? ⟨(ad.add (i.toNat * 3)).block, (ad.add (i.toNat * 3)).off + 2, none⟩ = some (.int .i64 (rd_T55 xs i).f2) := by
 obtain ⟨ad, c, e, _, hK, hc0⟩ := Kd.C_get h z55 i h0 h1
 have hc : ∀ j u, c[j]? = some u → w.cell? (ad.add (i.toNat * 3 + j)) = some u := hc0
 obtain rfl := k55_open hK
 exact ⟨ad, e, hc 0 _ rfl, by rw [← add_field _ _ 1 (by omega)]; exact hc 1 _ rfl, by rw [← add_field _ _ 2 (by omega)]; exact hc 2 _ rfl⟩

end Go.Proofs.Ytpdcpekjafcohaa.XWear

namespace Go.Proofs.Ytpdcpekjafcohaa.XWear
open Go.RowKit Go.Proofs.YtpdcpekjafcohaaW.PrintWords Go.Proofs.YtpdcpekjafcohaaW.PrintLast Go.Proofs.YtpdcpekjafcohaaW.PrintMore
attribute [local go_sem] max2_int min2_int max_two min_two max_three min_three max_four min_four   -- for this text's walks alone
set_option linter.unusedVariables false
set_option linter.unusedSimpArgs false
/-! ### wear_Valid: function 27 -/
theorem wear_Valid.within_calls (a b c : Int) (w : World) :
  Calls Try.prog 52 #[.int .i64 a, .int .i64 b, .int .i64 c] w fun e w' => e = .returned (.bool (decide (a ≤ b) && decide (b ≤ c))) ∧ Drawn0 w w' := by
 by_cases h1 : a ≤ b
 ·
  have h1' : decide (a ≤ b) = true := decide_eq_true h1
  go_enter Try.func52, Try.ntmps52
  go_wp2
  go_ret
  exact ⟨by simp [h1], Drawn0.refl _⟩
 ·
  have h1' : decide (a ≤ b) = false := decide_eq_false h1
  go_enter Try.func52, Try.ntmps52
  go_wp2
  go_ret
  exact ⟨by simp [h1], Drawn0.refl _⟩

def wear_Valid.okR (x : Int) : Bool := !(decide (0 ≤ x) && decide (x ≤ 10000))

theorem wear_Valid.clos_calls (x : Int) (w : World) :
  Calls Try.prog 60 #[.int .i64 x] w fun e w' => e = .returned (.bool (wear_Valid.okR x)) ∧ Drawn0 w w' := by
 go_enter Try.func60, Try.ntmps60
 go_wp2_with (go_at_call 52; refine (wear_Valid.within_calls _ _ _ _).mono ?_; rintro e w' ⟨rfl, ⟨n, rfl⟩⟩)
 go_ret
 exact ⟨by simp [wear_Valid.okR], by repeat (first | exact Drawn0.refl _ | apply Drawn0.step)⟩
def wear_Valid.idxFrom (p : Int → Bool) (l : List Int) : Int := if l.any p then (l.findIdx p : Int) else -1

theorem wear_Valid.idxFrom_at {p : Int → Bool} {l : List Int} {i : Nat} (hi : i < l.length) (hp : p l[i] = true) (hb : ∀ j (h : j < l.length), j < i → p l[j] = false) : wear_Valid.idxFrom p l = i := by
 have ha : l.any p = true := List.any_eq_true.2 ⟨l[i], List.getElem_mem hi, hp⟩
 have hf : l.findIdx p = i := by
  rw [List.findIdx_eq hi]
  exact ⟨hp, fun j hj => hb j _ hj⟩
 simp [wear_Valid.idxFrom, ha, hf]
theorem wear_Valid.idxFrom_none {p : Int → Bool} {l : List Int} (hb : ∀ j (h : j < l.length), j < l.length → p l[j] = false) : wear_Valid.idxFrom p l = -1 := by
 have ha : l.any p = false := by
  rw [List.any_eq_false]
  intro x hx
  obtain ⟨j, hj, rfl⟩ := List.mem_iff_getElem.1 hx
  simp [hb j hj hj]
 simp [wear_Valid.idxFrom, ha]

theorem wear_Valid.rd_get (l : List Int) (x : Int) (h0 : 0 ≤ x) (h1 : x < (l.length : Int)) : ∃ h : x.toNat < l.length, rd l x = l[x.toNat] := by
 have h : x.toNat < l.length := by omega
 exact ⟨h, by simp [rd, List.getD_eq_getElem?_getD, h]⟩
set_option maxHeartbeats 1000000 in
theorem wear_Valid.index_calls (p : Int → Bool) (A0 : Option Addr) (c0 : Nat) (l0 : List Int) (w : World) (hr0 : Kd.C (Kd.int .i64) w A0 l0.length l0) (hc0 : l0.length ≤ c0) (hl : l0.length ≤ 9223372036854775807)
  (hf : ∀ x W, Calls Try.prog 60 #[.int .i64 x] W fun e w' => e = .returned (.bool (p x)) ∧ Drawn0 W w') :
  Calls Try.prog 83 #[.slice A0 l0.length c0, .func (.func 60) #[] #[]] w fun e w' => e = .returned (.int .i64 (wear_Valid.idxFrom p l0)) ∧ Drawn0 w w' := by
 have HR0 := Aside0.mk hr0
 clear hr0
 have HF := Aside0.mk hf
 clear hf
 go_enter Try.func83, Try.ntmps83
 go_wp2
 go_loopg [5, 8] l0.length (fun kq v5 v8 w' => ∃ x : Int, v8 = .int .i64 x ∧ Aside0 (0 ≤ x ∧ x ≤ l0.length ∧ ∀ j (h : j < l0.length), (j : Int) < x → p l0[j] = false) ∧ Aside0 (kq = l0.length - x.toNat) ∧ Drawn0 w w')
 case atStart => exact ⟨0, rfl, ⟨by omega, by omega, fun _ _ h => by omega⟩, ⟨rfl⟩, Drawn0.refl _⟩
 case round =>
  obtain ⟨x, rfl, HI, HK, ⟨n, rfl⟩⟩ := hrel
  by_cases hlt : x < (l0.length : Int)
  ·
   have h1 : decide (x < (l0.length : Int)) = true := decide_eq_true hlt
   have p1 : 0 ≤ x := HI.out.1
   obtain ⟨ad, e1, hx⟩ := Kd.at_int HR0.out x p1 hlt
   cases e1
   have HX := Aside0.mk (And.intro p1 hlt)
   replace p1 := eq_true p1
   replace hlt := eq_true hlt
   by_cases hp : p (rd l0 x) = true
   ·
    go_wp2_with (go_at_call 60; refine (HF.out _ _).mono ?_; rintro e w' ⟨rfl, ⟨n, rfl⟩⟩)
    go_ret
    obtain ⟨h2, h3⟩ := wear_Valid.rd_get l0 x HX.out.1 HX.out.2
    rw [h3] at hp
    refine ⟨?_, by repeat (first | exact Drawn0.refl _ | apply Drawn0.step)⟩
    rw [wear_Valid.idxFrom_at h2 hp (fun j hj hl => HI.out.2.2 j hj (by omega)), Int.toNat_of_nonneg HX.out.1]; rfl
   ·
    replace hp := Bool.eq_false_iff.mpr hp
    go_wp2_with (go_at_call 60; refine (HF.out _ _).mono ?_; rintro e w' ⟨rfl, ⟨n, rfl⟩⟩)
    go_roundg (l0.length - (x + 1).toNat)
    case measure => have := HX.out; have := HK.out; omega
    case rel =>
     obtain ⟨h2, h3⟩ := wear_Valid.rd_get l0 x HX.out.1 HX.out.2
     have hw : wrap64 (x + 1) = x + 1 := by unfold wrap64; have := HX.out; omega
     refine ⟨x + 1, by first | rfl | rw [hw], ⟨by have := HX.out; omega, by have := HX.out; omega, fun j hj hl => ?_⟩, ⟨rfl⟩, by repeat (first | exact Drawn0.refl _ | apply Drawn0.step)⟩
     by_cases hjx : (j : Int) < x
     ·
      exact HI.out.2.2 j hj hjx
     ·
      have : j = x.toNat := by omega
      subst this
      rw [← h3]; exact hp
  ·
   have h1 : decide (x < (l0.length : Int)) = false := decide_eq_false hlt
   go_wp2
   go_ret
   refine ⟨?_, by repeat (first | exact Drawn0.refl _ | apply Drawn0.step)⟩
   rw [wear_Valid.idxFrom_none (fun j hj hl => HI.out.2.2 j hj (by omega))]; rfl

theorem wear_Valid.idx_ge (p : Int → Bool) (l : List Int) : decide (0 ≤ wear_Valid.idxFrom p l) = l.any p := by
 unfold wear_Valid.idxFrom
 by_cases h : l.any p = true
 ·
  simp [h]
 ·
  have h2 : l.any p = false := by simpa using h
  simp [h2]
theorem wear_Valid.contains_calls (p : Int → Bool) (A0 : Option Addr) (c0 : Nat) (l0 : List Int) (w : World) (hr0 : Kd.C (Kd.int .i64) w A0 l0.length l0) (hc0 : l0.length ≤ c0) (hl : l0.length ≤ 9223372036854775807)
  (hf : ∀ x W, Calls Try.prog 60 #[.int .i64 x] W fun e w' => e = .returned (.bool (p x)) ∧ Drawn0 W w') :
  Calls Try.prog 59 #[.slice A0 l0.length c0, .func (.func 60) #[] #[]] w fun e w' => e = .returned (.bool (l0.any p)) ∧ Drawn0 w w' := by
 have HR0 := Aside0.mk hr0
 clear hr0
 have HF := Aside0.mk hf
 clear hf
 have hz := Aside0.mk (wear_Valid.idx_ge p l0)
 go_enter Try.func59, Try.ntmps59
 go_wp2_with (go_at_call 83; refine (wear_Valid.index_calls p _ _ l0 _ HR0.out hc0 hl HF.out).mono ?_; rintro e w' ⟨rfl, ⟨n, rfl⟩⟩)
 go_ret
 exact ⟨by rw [← hz.out]; rfl, by repeat (first | exact Drawn0.refl _ | apply Drawn0.step)⟩

def wear_Valid.f (l0 : List Int) : Option Bool := some (decide (1 ≤ l0.length) && decide (l0.length ≤ 40) && l0.all fun x => decide (0 ≤ x) && decide (x ≤ 10000))

theorem wear_Valid.calls (A0 : Option Addr) (c0 : Nat) (l0 : List Int) (r : Bool) (w : World) (hr0 : Kd.C (Kd.int .i64) w A0 l0.length l0) (hc0 : l0.length ≤ c0) (h : wear_Valid.f l0 = some r) :
  Calls Try.prog 27 #[.slice A0 l0.length c0] w fun e w' => e = .returned (.bool r) ∧ Drawn0 w w' := by
 have HR0 := Aside0.mk hr0
 clear hr0
 obtain rfl := Option.some.inj h
 by_cases h0 : 1 ≤ l0.length ∧ l0.length ≤ 40
 ·
  have h1 : (decide ((1 : Int) ≤ (l0.length : Int)) && decide ((l0.length : Int) ≤ 40)) = true := by simp; omega
  have H2 := Aside0.mk h0
  have H1 := Aside0.mk h1
  clear h0
  have hE := Aside0.mk (show (!l0.any wear_Valid.okR) = (decide (1 ≤ l0.length) && decide (l0.length ≤ 40) && l0.all fun x => decide (0 ≤ x) && decide (x ≤ 10000)) by
   rw [decide_eq_true H2.out.1, decide_eq_true H2.out.2, List.not_any_eq_all_not]; simp [wear_Valid.okR])
  go_enter Try.func27, Try.ntmps27
  go_wp2_with (first | (go_at_call 52; refine (wear_Valid.within_calls _ _ _ _).mono ?_; rintro e w' ⟨rfl, ⟨n, rfl⟩⟩; rw [H1.out]) | (go_at_call 59; refine (wear_Valid.contains_calls wear_Valid.okR _ _ l0 _ (by repeat (first | exact HR0.out | (with_reducible refine Kd.C_drewN ?_ _))) hc0 (by have := H2.out; omega) wear_Valid.clos_calls).mono ?_; rintro e w' ⟨rfl, ⟨n, rfl⟩⟩))
  go_ret
  exact ⟨by rw [← hE.out]; rfl, by repeat (first | exact Drawn0.refl _ | apply Drawn0.step)⟩
 ·
  have h1 : (decide ((1 : Int) ≤ (l0.length : Int)) && decide ((l0.length : Int) ≤ 40)) = false := by
   rw [Bool.eq_false_iff]; intro hh; apply h0; simp at hh; omega
  have H1 := Aside0.mk h1
  have hE := Aside0.mk (show false = (decide (1 ≤ l0.length) && decide (l0.length ≤ 40) && l0.all fun x => decide (0 ≤ x) && decide (x ≤ 10000)) by
   have h3 : (decide (1 ≤ l0.length) && decide (l0.length ≤ 40)) = false := by rw [Bool.eq_false_iff]; intro hh; apply h0; simpa using hh
   rw [h3]; rfl)
  clear h0 h1
  go_enter Try.func27, Try.ntmps27
  go_wp2_with (first | (go_at_call 52; refine (wear_Valid.within_calls _ _ _ _).mono ?_; rintro e w' ⟨rfl, ⟨n, rfl⟩⟩; rw [H1.out]))
  go_ret
  exact ⟨by rw [← hE.out]; rfl, by repeat (first | exact Drawn0.refl _ | apply Drawn0.step)⟩

/-! ### wear_within: function 52 -/
def wear_within.f (a0 : Int) (a1 : Int) (a2 : Int) : Option (Bool) := if a0 ≤ a1 then (some (decide (a1 ≤ a2))) else (some false)
set_option maxHeartbeats 8000000 in
set_option maxRecDepth 100000 in
theorem wear_within.calls (a0 : Int) (a1 : Int) (a2 : Int) (r : Bool) (w : World) (h : wear_within.f a0 a1 a2 = some r) :
  Calls Try.prog 52 #[.int .i64 a0, .int .i64 a1, .int .i64 a2] w fun e w' => e = .returned (.bool r) ∧ Drawn0 w w' := by
 have H : (if a0 ≤ a1 then (some (decide (a1 ≤ a2))) else (some false)) = some r := h
 clear h
 by_cases c4 : a0 ≤ a1
 ·
  rw [if_pos c4] at H
  have c4b0 : decide (a0 ≤ a1) = true := decide_eq_true c4
  clear c4
  obtain rfl := Option.some.inj H
  go_enter Try.func52, Try.ntmps52
  go_wp2
  go_ret
  exact ⟨by first | rfl | (simp; done) | (simp [*]; done), drz⟩
 ·
  rw [if_neg c4] at H
  have c4b0 : decide (a0 ≤ a1) = false := decide_eq_false c4
  clear c4
  obtain rfl := Option.some.inj H
  go_enter Try.func52, Try.ntmps52
  go_wp2
  go_ret
  exact ⟨by first | rfl | (simp; done) | (simp [*]; done), drz⟩

/-! ### slices_Sort_int_int: function 79 -/
theorem slices_Sort_int_int.reps_ints {w : World} {base : Nat} {ok : Nat → Prop} {xs : List Int} {cs : List Value} (h : Reps ((Kd.int .i64).M w base ok) 1 xs cs) : cs = xs.map (Value.int .i64) := by
 obtain ⟨h1, h2⟩ := h
 apply List.ext_getElem?
 intro j
 by_cases hj : j < xs.length
 ·
  have h3 := h2 j xs[j] (by simp [hj])
  have h4 : (cs.drop (j * 1)).take 1 = [.int .i64 xs[j]] := h3
  have h5 : ((cs.drop (j * 1)).take 1)[0]? = some (.int .i64 xs[j]) := by rw [h4]; rfl
  rw [List.getElem?_take_of_lt (by omega), List.getElem?_drop] at h5
  simp only [Nat.mul_one, Nat.add_zero] at h5
  rw [h5]; simp [hj]
 ·
  rw [List.getElem?_eq_none (by omega), List.getElem?_eq_none (by simp; omega)]

def slices_Sort_int_int.f (l0 : List Int) : Option (List Int) := if l0 = [] ∨ 4611686018427387904 ≤ l0.length then none else some (l0.mergeSort fun x y => decide (x ≤ y))
theorem slices_Sort_int_int.calls (P0_ : Nat → Prop) (u9000_ : Value) (l0 : List Int) (r : List Int) (w0 w : World) (hB : Below w0.heap.size w0 w) (ho0 : Kd.R (Kd.int .i64) 3 w w0.heap.size P0_ u9000_ l0) (h : slices_Sort_int_int.f l0 = some r) :
  Calls Try.prog 79 #[u9000_] w fun e w' => e = .returned (.tuple #[]) ∧ Kd.R (Kd.int .i64) 3 w' w0.heap.size (fun k_ => (P0_ k_ ∨ w.heap.size ≤ k_)) u9000_ r ∧ Below w0.heap.size w0 w' ∧ Kept w w' (fun k_ => P0_ k_) := by
 unfold slices_Sort_int_int.f at h
 by_cases hn : l0 = [] ∨ 4611686018427387904 ≤ l0.length
 ·
  rw [if_pos hn] at h; cases h
 rw [if_neg hn] at h
 obtain rfl := Option.some.inj h
 obtain ⟨hok, inner, ho, hr⟩ := ho0
 obtain rfl := slices_Sort_int_int.reps_ints hr
 rcases ho.2 with ⟨_, h0⟩ | ⟨g, cap, cur, rfl, hg, hh, hnc, hcm, hcs, ht⟩
 ·
  exact absurd (List.length_eq_zero_iff.1 h0) (fun hx => hn (.inl hx))
 have hb : g < w.heap.size := (Array.getElem?_eq_some_iff.1 hh).1
 have hcs' : cur.size = cap * 1 := hcs
 have ht' : cur.toList.take l0.length = l0.map (Value.int .i64) := by have h1 := ht; simp only [show (Kd.int IntKind.i64).sz = 1 from rfl, Nat.mul_one] at h1; exact h1
 refine (Try.slices_Sort_int g 0 cap l0 w (holds_of_blockI hh ht') hb (by omega)).mono ?_
 rintro e w' ⟨rfl, n, os, rfl⟩
 have hP : P0_ g := hok g (by simp [Value.ownBlock])
 have hsz : (l0.mergeSort fun x y => decide (x ≤ y)).length = l0.length := List.length_mergeSort _
 have hgr := grownBy_sortedI (w := w) (g := g) (n := n) (os := os) (l0.mergeSort fun x y => decide (x ≤ y)).toArray
 have hown := ownsRow_sortedI (w := w) (base := w0.heap.size) (n := n) (os := os) hsz hg hh hnc hcm hcs'
 refine ⟨rfl, ?_, ?_, ?_⟩
 ·
  refine Kd.R_of_own (enc := Value.int .i64) (h1 := fun _ => rfl) ?_ ?_
  ·
   rw [hsz]; exact hown
  ·
   intro k hk
   simp [Value.ownBlock] at hk
   subst hk
   exact .inl hP
 ·
  exact pw_below_grown hB (some g) hB.size hgr (fun k hk => by cases hk; exact hg)
 ·
  exact Kept.of_grown hgr (Kept.refl _ _) (fun k hk => by cases hk; exact .inl hP)

/-! ### wear_median: function 53 -/
mutual
def wear_median.l0 : Nat → List Int → Int → List Int → Int → Int → Option (List Int)
 | 0, _, _, _, _, _ => none
 | k + 1, x0, x1, x5, x10, x11 => if x11 < x10 then (wear_median.l1 k x0 x1 x5 x11 ([] : List Int) (wrap64 (x11 - x1)) x10 x11) else (some x5)
def wear_median.l1 : Nat → List Int → Int → List Int → Int → List Int → Int → Int → Int → Option (List Int)
 | 0, _, _, _, _, _, _, _, _ => none
 | k + 1, x0, x1, x5, x6, x7, x8, x10, x11 => if x8 ≤ (wrap64 (x6 + x1)) then (if 0 ≤ (mn (mx x8 0) (wrap64 ((x0.length : Int) - 1))) then (if (mn (mx x8 0) (wrap64 ((x0.length : Int) - 1))) < (x0.length : Int) then (if x7.length < 17592186044416 then (wear_median.l1 k x0 x1 x5 x6 (x7 ++ [rd x0 (mn (mx x8 0) (wrap64 ((x0.length : Int) - 1)))]) (wrap64 (x8 + 1)) x10 x11) else (none)) else (none)) else (none)) else ((slices_Sort_int_int.f x7).bind fun t105 => (if 0 ≤ x1 then (if x1 < (x7.length : Int) then (if x5.length < 17592186044416 then (wear_median.l0 k x0 x1 (x5 ++ [rd t105 x1]) x10 (wrap64 (x11 + 1))) else (none)) else (none)) else (none)))
end
def wear_median.f (k : Nat) (l0 : List Int) (a1 : Int) : Option (List Int) := wear_median.l0 k l0 a1 ([] : List Int) (l0.length : Int) 0
theorem wear_median.mono_l : ∀ k, (∀ y0 y1 y2 y3 y4, LeO (wear_median.l0 k y0 y1 y2 y3 y4) (wear_median.l0 (k + 1) y0 y1 y2 y3 y4)) ∧ (∀ y0 y1 y2 y3 y4 y5 y6 y7, LeO (wear_median.l1 k y0 y1 y2 y3 y4 y5 y6 y7) (wear_median.l1 (k + 1) y0 y1 y2 y3 y4 y5 y6 y7))
 | 0 => ⟨fun _ _ _ _ _ r h => by simp [wear_median.l0] at h, fun _ _ _ _ _ _ _ _ r h => by simp [wear_median.l1] at h⟩
 | k + 1 => by
  obtain ⟨ih0, ih1⟩ := wear_median.mono_l k
  refine ⟨?_, ?_⟩
  ·
   intro y0 y1 y2 y3 y4
   unfold wear_median.l0
   repeat' first
   | (with_reducible exact ih0 _ _ _ _ _)
   | (with_reducible exact ih1 _ _ _ _ _ _ _ _)
   | (with_reducible exact LeO.refl _)
   | (with_reducible exact LeO.none _)
   | (with_reducible refine LeO.ite ?_ ?_)
   | (with_reducible refine LeO.bind ?_ (fun _ => ?_))
   | exact ih0 _ _ _ _ _
   | exact ih1 _ _ _ _ _ _ _ _
   | exact LeO.none _
   | refine LeO.ite ?_ ?_
   | refine LeO.bind ?_ (fun _ => ?_)
  ·
   intro y0 y1 y2 y3 y4 y5 y6 y7
   unfold wear_median.l1
   repeat' first
   | (with_reducible exact ih0 _ _ _ _ _)
   | (with_reducible exact ih1 _ _ _ _ _ _ _ _)
   | (with_reducible exact LeO.refl _)
   | (with_reducible exact LeO.none _)
   | (with_reducible refine LeO.ite ?_ ?_)
   | (with_reducible refine LeO.bind ?_ (fun _ => ?_))
   | exact ih0 _ _ _ _ _
   | exact ih1 _ _ _ _ _ _ _ _
   | exact LeO.none _
   | refine LeO.ite ?_ ?_
   | refine LeO.bind ?_ (fun _ => ?_)
theorem wear_median.mono : ∀ a0 a1 k, LeO (wear_median.f k a0 a1) (wear_median.f (k + 1) a0 a1) := by
 intro a0 a1 k
 obtain ⟨ih0, ih1⟩ := wear_median.mono_l k
 unfold wear_median.f
 repeat' first
   | (with_reducible exact ih0 _ _ _ _ _)
   | (with_reducible exact ih1 _ _ _ _ _ _ _ _)
   | (with_reducible exact LeO.refl _)
   | (with_reducible exact LeO.none _)
   | (with_reducible refine LeO.ite ?_ ?_)
   | (with_reducible refine LeO.bind ?_ (fun _ => ?_))
   | exact ih0 _ _ _ _ _
   | exact ih1 _ _ _ _ _ _ _ _
   | exact LeO.none _
   | refine LeO.ite ?_ ?_
   | refine LeO.bind ?_ (fun _ => ?_)
set_option maxHeartbeats 8000000 in
set_option maxRecDepth 100000 in
theorem wear_median.calls (k : Nat) (A0 : Option Addr) (c0 : Nat) (l0 : List Int) (a1 : Int) (r : List Int) (w : World) (hr0 : Kd.C (Kd.int .i64) w A0 l0.length l0) (hc0 : l0.length ≤ c0) (h : wear_median.f k l0 a1 = some r) :
  Calls Try.prog 53 #[.slice A0 l0.length c0, .int .i64 a1] w fun e w' => ∃ v0_ : Value, e = .returned (v0_) ∧ Kd.R (Kd.int .i64) 3 w' w.heap.size (fun _ => True) v0_ r ∧ Below w.heap.size w w' := by
 have HR0 := Aside0.mk hr0
 have HC0 := Aside0.mk hc0
 clear hr0 hc0
 have HB := Aside0.mk (Below.refl w.heap.size w)
 have H : (wear_median.l0 k l0 a1 ([] : List Int) (l0.length : Int) 0) = some r := h
 clear h
 have H' := Aside0.mk H
 clear H
 go_enter Try.func53, Try.ntmps53
 go_wp2
 go_loopg [5, 11] k (fun kq v5 v11 w' => ∃ (x5_1 : List Int) (x11_1 : Int), v11 = .int .i64 x11_1 ∧ Aside0 (wear_median.l0 kq l0 a1 x5_1 (l0.length : Int) x11_1 = some r) ∧ Aside0 (kq ≤ k) ∧ Aside0 (Kd.R (Kd.int .i64) 3 w' w.heap.size (fun _ => True) v5 x5_1) ∧ Aside0 (Below w.heap.size w w'))
 case atStart => exact ⟨(([] : List Int)), (0), rsz, H', ⟨Nat.le_refl _⟩, ⟨by first | exact Kd.R_nil _ _ _ _ _ | exact Kd.N_nil _ _ _ _ _ | exact Kd.V_nil _ _ _ _ _ | exact Kd.Q_nil _ _ _ _ _ | exact Kd.S_nil _ _ _ _ _⟩, ⟨bel⟩⟩
 case round =>
  clear H'
  try clear p2
  obtain ⟨x5_1, x11_1, rfl, HA, HK1, HO_5, HB⟩ := hrel
  cases gk with
  | zero => exact absurd HA.out (by simp [wear_median.l0])
  | succ k1 =>
   have H := HA.out
   clear HA
   simp only [wear_median.l0] at H
   by_cases c3 : x11_1 < (l0.length : Int)
   ·
    rw [if_pos c3] at H
    have c3b0 : decide (x11_1 < (l0.length : Int)) = true := decide_eq_true c3
    clear c3
    have H' := Aside0.mk H
    clear H
    go_wp2
    go_loopg [7, 8] k1 (fun kq v7 v8 w' => ∃ (x7_2 : List Int) (x8_2 : Int), v8 = .int .i64 x8_2 ∧ Aside0 (wear_median.l1 kq l0 a1 x5_1 x11_1 x7_2 x8_2 (l0.length : Int) x11_1 = some r) ∧ Aside0 (kq ≤ k1) ∧ Aside0 (Kd.R (Kd.int .i64) 3 w' w.heap.size (fun k_ => some k_ ≠ (v7 : Value).ownBlock) u5 x5_1) ∧ Aside0 (Kd.R (Kd.int .i64) 3 w' w.heap.size (fun k_ => some k_ ≠ (u5 : Value).ownBlock) v7 x7_2) ∧ Aside0 (Below w.heap.size w w'))
    case atStart => exact ⟨(([] : List Int)), (wrap64 (x11_1 - a1)), rsz, H', ⟨Nat.le_refl _⟩, ⟨by (with_reducible repeat (first | apply Kd.R_alloc | apply Kd.R_drewN | apply Kd.R_drew)); exact Kd.R_mono HO_5.out (fun _ hk => (by simp [Value.ownBlock]))⟩, ⟨by first | exact Kd.R_nil _ _ _ _ _ | exact Kd.N_nil _ _ _ _ _ | exact Kd.V_nil _ _ _ _ _ | exact Kd.Q_nil _ _ _ _ _ | exact Kd.S_nil _ _ _ _ _⟩, ⟨bel⟩⟩
    case round =>
     clear H'
     try clear p2
     try clear c3
     try clear c3b0
     try clear p2
     obtain ⟨x7_2, x8_2, rfl, HA, HK2, HO_5, HO_7, HB⟩ := hrel
     cases gk with
     | zero => exact absurd HA.out (by simp [wear_median.l1])
     | succ k2 =>
      have H := HA.out
      clear HA
      simp only [wear_median.l1] at H
      by_cases c4 : x8_2 ≤ (wrap64 (x11_1 + a1))
      ·
       rw [if_pos c4] at H
       have c4b0 : decide (x8_2 ≤ (wrap64 (x11_1 + a1))) = true := decide_eq_true c4
       clear c4
       obtain ⟨ji5, hji5⟩ : ∃ j_ : Int, (mx x8_2 0) = j_ := ⟨_, rfl⟩
       replace H : (if 0 ≤ (mn (ji5) (wrap64 ((l0.length : Int) - 1))) then (if (mn (ji5) (wrap64 ((l0.length : Int) - 1))) < (l0.length : Int) then (if x7_2.length < 17592186044416 then (wear_median.l1 k2 l0 a1 x5_1 x11_1 (x7_2 ++ [rd l0 (mn (ji5) (wrap64 ((l0.length : Int) - 1)))]) (wrap64 (x8_2 + 1)) (l0.length : Int) x11_1) else (none)) else (none)) else (none)) = some r := by first | (rw [hji5] at H; exact H) | (simp only [hji5] at H ⊢; exact H)
       have hji5_ : (if x8_2 < 0 then 0 else x8_2) = ji5 := hji5
       obtain ⟨ji6, hji6⟩ : ∃ j_ : Int, (mn (ji5) (wrap64 ((l0.length : Int) - 1))) = j_ := ⟨_, rfl⟩
       replace H : (if 0 ≤ (ji6) then (if (ji6) < (l0.length : Int) then (if x7_2.length < 17592186044416 then (wear_median.l1 k2 l0 a1 x5_1 x11_1 (x7_2 ++ [rd l0 (ji6)]) (wrap64 (x8_2 + 1)) (l0.length : Int) x11_1) else (none)) else (none)) else (none)) = some r := by first | (rw [hji6] at H; exact H) | (simp only [hji6] at H ⊢; exact H)
       have hji6_ : (if (wrap64 ((l0.length : Int) - 1)) < (ji5) then (wrap64 ((l0.length : Int) - 1)) else (ji5)) = ji6 := hji6
       by_cases c7 : 0 ≤ (ji6)
       ·
        rw [if_pos c7] at H
        have c7b0 : decide (0 ≤ (ji6)) = true := decide_eq_true c7
        clear c7
        by_cases c8 : (ji6) < (l0.length : Int)
        ·
         rw [if_pos c8] at H
         have c8b0 : decide ((ji6) < (l0.length : Int)) = true := decide_eq_true c8
         clear c8
         by_cases c9 : x7_2.length < 17592186044416
         ·
          rw [if_pos c9] at H
          have LMc9 := Aside0.mk c9
          clear c9
          obtain ⟨y102, hy102⟩ : ∃ y_ : List Int, y_ = (x7_2 ++ [rd l0 (ji6)]) := ⟨_, rfl⟩
          replace H : (wear_median.l1 k2 l0 a1 x5_1 x11_1 y102 (wrap64 (x8_2 + 1)) (l0.length : Int) x11_1) = some r := by first | (rw [hy102]; with_reducible exact H) | (have H2_ := (Option.bind_some _ _).symm.trans H; rw [hy102]; with_reducible exact H2_) | (have H2_ := (Option.bind_some _ _).symm.trans H; with_reducible exact H2_) | with_reducible exact H | (rw [hy102]; exact H) | exact H
          have Ny102 := Aside0.mk hy102
          clear hy102
          have H' := Aside0.mk H
          clear H
          have p101 : 0 ≤ ((ji6) : Int) := of_decide_eq_true asz
          have q101 : (ji6) < (l0.length : Int) := of_decide_eq_true asz
          obtain ⟨ad101, e101, hx101_0⟩ := Kd.at_int HR0.out (ji6) p101 q101
          cases e101
          replace hx101_0 := (HB.out.cell (World.block_lt_of_cell? w _ hx101_0)).trans hx101_0
          replace p101 := eq_true p101
          replace q101 := eq_true q101
          go_wp2_with (first | ((with_reducible refine gate_builtin (b := .append) (xs := #[.tmp 24, .tmp 34]) rfl ?_); at_builtin; refine Kd.R_append (Kd.int .i64) (w0 := w) w.heap.size rfl (.tmp 24) (.tmp 34) 22 3 (.int .i64 0) 8 rfl Try.underlying22 info3 rfl (by decide) (by omega) u7 x7_2 (rd l0 (ji6)) [.int .i64 (rd l0 (ji6))] (fun k_ => some k_ ≠ (u5 : Value).ownBlock) (fun _ => False) rfl rfl ?aP (fun _ hk => hk.elim) ?aF ?aO ?aB ?aS ?aL ?_; (case aP => exact rfl); (case aB => exact bel); (case aF => exact (fun k_ hk => Kd.fresh' (Kd.R_lt (ownx HO_5)) k_ hk)); (case aO => exact (ownx HO_7)); (case aS => exact (below_size bel)); (case aL => have := LMc9.out; omega); intro v103 w10 ho hb hg hat; rw [← Ny102.out] at ho; have n0_ := Aside0.mk (Kd.R_after (ok := (fun _ => True)) (by (with_reducible repeat (first | apply Kd.R_alloc | apply Kd.R_drewN | apply Kd.R_drew)); exact Kd.R_mono HO_5.out (fun _ hk => ⟨trivial, hk⟩)) hg hat); have n1_ := Aside0.mk (hb); have n2_ := Aside0.mk (ho); clear HO_5; clear HB; clear HO_7; have HO_5 := n0_; have HB := n1_; have HO104 := n2_; clear n0_ n1_ n2_; clear ho hb hg hat))
          go_roundg k2
          case measure => have := HK1.out; have := HK2.out; omega
          case rel => exact ⟨(y102), (wrap64 (x8_2 + 1)), rsz, H', ⟨by have := HK1.out; have := HK2.out; omega⟩, ⟨by (with_reducible repeat (first | apply Kd.R_alloc | apply Kd.R_drewN | apply Kd.R_drew)); exact Kd.R_mono HO_5.out (fun _ hk => hk.2)⟩, ⟨by (with_reducible repeat (first | apply Kd.R_alloc | apply Kd.R_drewN | apply Kd.R_drew)); exact HO104.out⟩, ⟨bel⟩⟩
         ·
          rw [if_neg c9] at H
          exact absurd H (by simp)
        ·
         rw [if_neg c8] at H
         exact absurd H (by simp)
       ·
        rw [if_neg c7] at H
        exact absurd H (by simp)
      ·
       rw [if_neg c4] at H
       have c4b0 : decide (x8_2 ≤ (wrap64 (x11_1 + a1))) = false := decide_eq_false c4
       clear c4
       replace H := Option.bind_eq_some_iff.mp H
       obtain ⟨t105, A110, H⟩ := H
       replace H : (if 0 ≤ a1 then (if a1 < (x7_2.length : Int) then (if x5_1.length < 17592186044416 then (wear_median.l0 k2 l0 a1 (x5_1 ++ [rd t105 a1]) (l0.length : Int) (wrap64 (x11_1 + 1))) else (none)) else (none)) else (none)) = some r := H
       have A11 := Aside0.mk A110
       clear A110
       by_cases c12 : 0 ≤ a1
       ·
        rw [if_pos c12] at H
        have c12b0 : decide (0 ≤ a1) = true := decide_eq_true c12
        clear c12
        by_cases c13 : a1 < (x7_2.length : Int)
        ·
         rw [if_pos c13] at H
         have c13b0 : decide (a1 < (x7_2.length : Int)) = true := decide_eq_true c13
         clear c13
         by_cases c14 : x5_1.length < 17592186044416
         ·
          rw [if_pos c14] at H
          have LMc14 := Aside0.mk c14
          clear c14
          obtain ⟨y107, hy107⟩ : ∃ y_ : List Int, y_ = (x5_1 ++ [rd t105 a1]) := ⟨_, rfl⟩
          replace H : (wear_median.l0 k2 l0 a1 y107 (l0.length : Int) (wrap64 (x11_1 + 1))) = some r := by first | (rw [hy107]; with_reducible exact H) | (have H2_ := (Option.bind_some _ _).symm.trans H; rw [hy107]; with_reducible exact H2_) | (have H2_ := (Option.bind_some _ _).symm.trans H; with_reducible exact H2_) | with_reducible exact H | (rw [hy107]; exact H) | exact H
          have Ny107 := Aside0.mk hy107
          clear hy107
          have H' := Aside0.mk H
          clear H
          obtain ⟨Ao15, co15, eo15⟩ := Kd.R_slice HO_7.out
          subst eo15
          go_wp2_with (first | ((with_reducible refine gate_callee (f := 79) rfl ?_); refine goesL_ (some 37) rfl rfl Try.func79 (by kernel_rfl) rfl #[.slice Ao15 x7_2.length co15] rfl mapz ?_; (with_reducible refine (slices_Sort_int_int.calls (fun k_ => some k_ = (.slice Ao15 x7_2.length co15 : Value).ownBlock) (.slice Ao15 x7_2.length co15) x7_2 t105 w _ ?side1 ?side2 A11.out).mono ?_); (case side1 => repeat (first | (with_reducible first | exact HB.out | apply below_alloc | apply pw_below_drewN | apply below_drew1) | exact HB.out)); (case side2 => exact Kd.R_tight rfl HO_7.out); rintro e w16 ⟨rfl, hy0, hb, hkp⟩; refine ⟨_, rfl, ?_⟩; replace HO_5 := Aside0.mk (Kd.R_mono (ok' := fun k_ => some k_ ≠ (.slice Ao15 x7_2.length co15 : Value).ownBlock) (Kd.R_keptB (HO_5.out) hkp (fun k_ hk_ hs_ => (hk_) hs_)) (fun k_ hk_ => hk_.1)); replace HO_7 := Aside0.mk (Kd.R_reok rfl hy0 (fun k_ e_ => HO_7.out.1 k_ e_)); replace HB := Aside0.mk (hb); (try clear hb); (try clear hkp); (try clear hy0); have p106 : 0 ≤ (a1 : Int) := of_decide_eq_true asz; have q106 : a1 < (t105.length : Int) := (by have h_ : (a1 : Int) < ((x7_2.length : Int) : Int) := of_decide_eq_true asz; have e_ := (Kd.R_reads' HO_7.out).1; omega); have ql106 : ((a1 : Int) < ((x7_2.length : Int) : Int)) = True := eq_true (of_decide_eq_true asz); obtain ⟨ad106, e106, hx106_0⟩ := Kd.at_int (Kd.R_reads' HO_7.out).2.2 a1 p106 q106; cases e106; replace p106 := eq_true p106; replace q106 := eq_true q106) | ((with_reducible refine gate_builtin (b := .append) (xs := #[.tmp 38, .tmp 43]) rfl ?_); at_builtin; refine Kd.R_append (Kd.int .i64) (w0 := w) w.heap.size rfl (.tmp 38) (.tmp 43) 22 3 (.int .i64 0) 8 rfl Try.underlying22 info3 rfl (by decide) (by omega) u5 x5_1 (rd t105 a1) [.int .i64 (rd t105 a1)] (fun k_ => some k_ ≠ (.slice (some ad106) x7_2.length co15 : Value).ownBlock) (fun _ => False) rfl rfl ?aP (fun _ hk => hk.elim) ?aF ?aO ?aB ?aS ?aL ?_; (case aP => exact rfl); (case aB => exact bel); (case aF => exact (fun k_ hk => Kd.fresh' (Kd.R_lt (ownx HO_7)) k_ hk)); (case aO => exact (ownx HO_5)); (case aS => exact (below_size bel)); (case aL => have := LMc14.out; omega); intro v108 w17 ho hb hg hat; rw [← Ny107.out] at ho; have n0_ := Aside0.mk (Kd.R_after (ok := (fun _ => True)) (by (with_reducible repeat (first | apply Kd.R_alloc | apply Kd.R_drewN | apply Kd.R_drew)); exact Kd.R_mono HO_7.out (fun _ hk => ⟨trivial, hk⟩)) hg hat); have n1_ := Aside0.mk (hb); have n2_ := Aside0.mk (ho); clear HO_7; clear HB; clear HO_5; have HO_7 := n0_; have HB := n1_; have HO109 := n2_; clear n0_ n1_ n2_; clear ho hb hg hat))
          go_roundg k2
          case measure => have := HK1.out; have := HK2.out; omega
          case rel => exact ⟨(y107), (wrap64 (x11_1 + 1)), rsz, H', ⟨by have := HK1.out; have := HK2.out; omega⟩, ⟨by (with_reducible repeat (first | apply Kd.R_alloc | apply Kd.R_drewN | apply Kd.R_drew)); exact Kd.R_mono HO109.out (fun _ hk => trivial)⟩, ⟨bel⟩⟩
         ·
          rw [if_neg c14] at H
          exact absurd H (by simp)
        ·
         rw [if_neg c13] at H
         exact absurd H (by simp)
       ·
        rw [if_neg c12] at H
        exact absurd H (by simp)
   ·
    rw [if_neg c3] at H
    have c3b0 : decide (x11_1 < (l0.length : Int)) = false := decide_eq_false c3
    clear c3
    obtain rfl := Option.some.inj H
    go_wp2
    go_ret
    exact ⟨_, ezz, by (with_reducible repeat (first | apply Kd.R_alloc | apply Kd.R_drewN | apply Kd.R_drew)); exact HO_5.out, bel⟩

/-! ### wear_Median: function 16 -/
def wear_Median.f (k : Nat) (l0 : List Int) (a1 : Int) : Option (List Int × Int) := (wear_Valid.f l0).bind fun t110 => (if t110 = true then ((wear_within.f 0 a1 10).bind fun t111 => (if t111 = true then ((wear_median.f k l0 a1).bind fun t112 => (some (t112, 0))) else (some (([] : List Int), 2)))) else (some (([] : List Int), 70)))
theorem wear_Median.mono : ∀ a0 a1 k, LeO (wear_Median.f k a0 a1) (wear_Median.f (k + 1) a0 a1) := by
 intro a0 a1 k
 unfold wear_Median.f
 repeat' first
   | (with_reducible exact wear_median.mono _ _ _)
   | (with_reducible exact LeO.refl _)
   | (with_reducible exact LeO.none _)
   | (with_reducible refine LeO.ite ?_ ?_)
   | (with_reducible refine LeO.bind ?_ (fun _ => ?_))
   | exact wear_median.mono _ _ _
   | exact LeO.none _
   | refine LeO.ite ?_ ?_
   | refine LeO.bind ?_ (fun _ => ?_)
set_option maxHeartbeats 8000000 in
set_option maxRecDepth 100000 in
theorem wear_Median.calls (k : Nat) (A0 : Option Addr) (c0 : Nat) (l0 : List Int) (a1 : Int) (r1 : List Int) (r2 : Int) (w : World) (hr0 : Kd.C (Kd.int .i64) w A0 l0.length l0) (hc0 : l0.length ≤ c0) (h : wear_Median.f k l0 a1 = some (r1, r2)) :
  Calls Try.prog 16 #[.slice A0 l0.length c0, .int .i64 a1] w fun e w' => ∃ v0_ : Value, e = .returned (.tuple #[v0_, .int .i64 r2]) ∧ Kd.R (Kd.int .i64) 3 w' w.heap.size (fun _ => True) v0_ r1 ∧ Below w.heap.size w w' := by
 have HR0 := Aside0.mk hr0
 have HC0 := Aside0.mk hc0
 clear hr0 hc0
 have HB := Aside0.mk (Below.refl w.heap.size w)
 have H : ((wear_Valid.f l0).bind fun t110 => (if t110 = true then ((wear_within.f 0 a1 10).bind fun t111 => (if t111 = true then ((wear_median.f k l0 a1).bind fun t112 => (some (t112, 0))) else (some (([] : List Int), 2)))) else (some (([] : List Int), 70)))) = some (r1, r2) := h
 clear h
 replace H := Option.bind_eq_some_iff.mp H
 obtain ⟨t110, A30, H⟩ := H
 replace H : (if t110 = true then ((wear_within.f 0 a1 10).bind fun t111 => (if t111 = true then ((wear_median.f k l0 a1).bind fun t112 => (some (t112, 0))) else (some (([] : List Int), 2)))) else (some (([] : List Int), 70))) = some (r1, r2) := H
 have A3 := Aside0.mk A30
 clear A30
 by_cases c4 : t110 = true
 ·
  subst c4
  have H1 : ((wear_within.f 0 a1 10).bind fun t111 => (if t111 = true then ((wear_median.f k l0 a1).bind fun t112 => (some (t112, 0))) else (some (([] : List Int), 2)))) = some (r1, r2) := by rw [if_pos rfl] at H; exact H
  clear H
  have H := H1
  clear H1
  replace H := Option.bind_eq_some_iff.mp H
  obtain ⟨t111, A50, H⟩ := H
  replace H : (if t111 = true then ((wear_median.f k l0 a1).bind fun t112 => (some (t112, 0))) else (some (([] : List Int), 2))) = some (r1, r2) := H
  have A5 := Aside0.mk A50
  clear A50
  by_cases c6 : t111 = true
  ·
   subst c6
   have H1 : ((wear_median.f k l0 a1).bind fun t112 => (some (t112, 0))) = some (r1, r2) := by rw [if_pos rfl] at H; exact H
   clear H
   have H := H1
   clear H1
   replace H := Option.bind_eq_some_iff.mp H
   obtain ⟨t112, A70, H⟩ := H
   replace H : (some (t112, 0)) = some (r1, r2) := H
   have A7 := Aside0.mk A70
   clear A70
   simp only [Option.some.injEq, Prod.mk.injEq] at H
   obtain ⟨rfl, rfl⟩ := H
   go_enter Try.func16, Try.ntmps16
   go_wp2_with (first | ((with_reducible refine gate_callee (f := 27) rfl ?_); refine goesL_ (some 8) rfl rfl Try.func27 (by kernel_rfl) rfl #[.slice A0 l0.length c0] rfl mapz ?_; (with_reducible refine (wear_Valid.calls _ _ l0 true _ ?side1 ?side2 A3.out).mono ?_); (case side1 => repeat (first | exact HR0.out | (with_reducible refine Kd.C_alloc ?_ _) | (with_reducible refine Kd.C_drewN ?_ _) | (with_reducible refine Kd.C_drew ?_))); (case side2 => exact HC0.out); rintro e w' ⟨rfl, ⟨nd, rfl⟩⟩; refine ⟨_, rfl, ?_⟩) | ((with_reducible refine gate_callee (f := 52) rfl ?_); refine goesL_ (some 12) rfl rfl Try.func52 (by kernel_rfl) rfl #[.int .i64 0, .int .i64 a1, .int .i64 10] rfl mapz ?_; (with_reducible refine (wear_within.calls 0 a1 10 true _ A5.out).mono ?_); rintro e w' ⟨rfl, ⟨nd, rfl⟩⟩; refine ⟨_, rfl, ?_⟩) | ((with_reducible refine gate_callee (f := 53) rfl ?_); refine goesL_ (some 16) rfl rfl Try.func53 (by kernel_rfl) rfl #[.slice A0 l0.length c0, .int .i64 a1] rfl mapz ?_; (with_reducible refine (wear_median.calls k _ _ l0 a1 t112 _ ?side1 ?side2 A7.out).mono ?_); (case side1 => repeat (first | exact HR0.out | (with_reducible refine Kd.C_alloc ?_ _) | (with_reducible refine Kd.C_drewN ?_ _) | (with_reducible refine Kd.C_drew ?_))); (case side2 => exact HC0.out); rintro e w8 ⟨v113, rfl, ho0, hb⟩; refine ⟨_, rfl, ?_⟩; have HO114 := Aside0.mk (Kd.R_lower ho0 (below_size bel)); replace HB := Aside0.mk (below_step bel hb); (try clear hb); (try clear hb2); (try clear hk); (try clear hi); (try clear ho0)))
   go_ret2
   exact ⟨_, ezz, by (with_reducible repeat (first | apply Kd.R_alloc | apply Kd.R_drewN | apply Kd.R_drew)); exact HO114.out, bel⟩
  ·
   replace c6 := Bool.eq_false_iff.mpr c6
   subst c6
   have H1 : (some (([] : List Int), 2)) = some (r1, r2) := by rw [if_neg (show ¬ (false = true) by decide)] at H; exact H
   clear H
   have H := H1
   clear H1
   simp only [Option.some.injEq, Prod.mk.injEq] at H
   obtain ⟨rfl, rfl⟩ := H
   go_enter Try.func16, Try.ntmps16
   go_wp2_with (first | ((with_reducible refine gate_callee (f := 27) rfl ?_); refine goesL_ (some 8) rfl rfl Try.func27 (by kernel_rfl) rfl #[.slice A0 l0.length c0] rfl mapz ?_; (with_reducible refine (wear_Valid.calls _ _ l0 true _ ?side1 ?side2 A3.out).mono ?_); (case side1 => repeat (first | exact HR0.out | (with_reducible refine Kd.C_alloc ?_ _) | (with_reducible refine Kd.C_drewN ?_ _) | (with_reducible refine Kd.C_drew ?_))); (case side2 => exact HC0.out); rintro e w' ⟨rfl, ⟨nd, rfl⟩⟩; refine ⟨_, rfl, ?_⟩) | ((with_reducible refine gate_callee (f := 52) rfl ?_); refine goesL_ (some 12) rfl rfl Try.func52 (by kernel_rfl) rfl #[.int .i64 0, .int .i64 a1, .int .i64 10] rfl mapz ?_; (with_reducible refine (wear_within.calls 0 a1 10 false _ A5.out).mono ?_); rintro e w' ⟨rfl, ⟨nd, rfl⟩⟩; refine ⟨_, rfl, ?_⟩))
   go_ret2
   exact ⟨_, ezz, by first | exact Kd.R_nil _ _ _ _ _ | exact Kd.N_nil _ _ _ _ _ | exact Kd.V_nil _ _ _ _ _ | exact Kd.Q_nil _ _ _ _ _ | exact Kd.S_nil _ _ _ _ _, bel⟩
 ·
  replace c4 := Bool.eq_false_iff.mpr c4
  subst c4
  have H1 : (some (([] : List Int), 70)) = some (r1, r2) := by rw [if_neg (show ¬ (false = true) by decide)] at H; exact H
  clear H
  have H := H1
  clear H1
  simp only [Option.some.injEq, Prod.mk.injEq] at H
  obtain ⟨rfl, rfl⟩ := H
  go_enter Try.func16, Try.ntmps16
  go_wp2_with (first | ((with_reducible refine gate_callee (f := 27) rfl ?_); refine goesL_ (some 8) rfl rfl Try.func27 (by kernel_rfl) rfl #[.slice A0 l0.length c0] rfl mapz ?_; (with_reducible refine (wear_Valid.calls _ _ l0 false _ ?side1 ?side2 A3.out).mono ?_); (case side1 => repeat (first | exact HR0.out | (with_reducible refine Kd.C_alloc ?_ _) | (with_reducible refine Kd.C_drewN ?_ _) | (with_reducible refine Kd.C_drew ?_))); (case side2 => exact HC0.out); rintro e w' ⟨rfl, ⟨nd, rfl⟩⟩; refine ⟨_, rfl, ?_⟩))
  go_ret2
  exact ⟨_, ezz, by first | exact Kd.R_nil _ _ _ _ _ | exact Kd.N_nil _ _ _ _ _ | exact Kd.V_nil _ _ _ _ _ | exact Kd.Q_nil _ _ _ _ _ | exact Kd.S_nil _ _ _ _ _, bel⟩

/-! ### dropperlaw07_SameInts: function 18 -/
def dropperlaw07_SameInts.l0 : Nat → List Int → List Int → Int → Option (Bool)
 | 0, _, _, _ => none
 | k + 1, x0, x1, x5 => if x5 < (x0.length : Int) then (if 0 ≤ x5 then (if x5 < (x1.length : Int) then (if (rd x0 x5) = (rd x1 x5) then (dropperlaw07_SameInts.l0 k x0 x1 (wrap64 (x5 + 1))) else (some false)) else (none)) else (none)) else (some true)
def dropperlaw07_SameInts.f (k : Nat) (l0 : List Int) (l1 : List Int) : Option (Bool) := if (l0.length : Int) = (l1.length : Int) then (dropperlaw07_SameInts.l0 k l0 l1 0) else (some false)
theorem dropperlaw07_SameInts.mono_l : ∀ k, (∀ y0 y1 y2, LeO (dropperlaw07_SameInts.l0 k y0 y1 y2) (dropperlaw07_SameInts.l0 (k + 1) y0 y1 y2))
 | 0 => fun _ _ _ r h => by simp [dropperlaw07_SameInts.l0] at h
 | k + 1 => by
  have ih0 := dropperlaw07_SameInts.mono_l k
  ·
   intro y0 y1 y2
   unfold dropperlaw07_SameInts.l0
   repeat' first
   | (with_reducible exact ih0 _ _ _)
   | (with_reducible exact LeO.refl _)
   | (with_reducible exact LeO.none _)
   | (with_reducible refine LeO.ite ?_ ?_)
   | (with_reducible refine LeO.bind ?_ (fun _ => ?_))
   | exact ih0 _ _ _
   | exact LeO.none _
   | refine LeO.ite ?_ ?_
   | refine LeO.bind ?_ (fun _ => ?_)
theorem dropperlaw07_SameInts.mono : ∀ a0 a1 k, LeO (dropperlaw07_SameInts.f k a0 a1) (dropperlaw07_SameInts.f (k + 1) a0 a1) := by
 intro a0 a1 k
 have ih0 := dropperlaw07_SameInts.mono_l k
 unfold dropperlaw07_SameInts.f
 repeat' first
   | (with_reducible exact ih0 _ _ _)
   | (with_reducible exact LeO.refl _)
   | (with_reducible exact LeO.none _)
   | (with_reducible refine LeO.ite ?_ ?_)
   | (with_reducible refine LeO.bind ?_ (fun _ => ?_))
   | exact ih0 _ _ _
   | exact LeO.none _
   | refine LeO.ite ?_ ?_
   | refine LeO.bind ?_ (fun _ => ?_)
set_option maxHeartbeats 8000000 in
set_option maxRecDepth 100000 in
theorem dropperlaw07_SameInts.calls (k : Nat) (A0 : Option Addr) (c0 : Nat) (l0 : List Int) (A1 : Option Addr) (c1 : Nat) (l1 : List Int) (r : Bool) (w : World) (hr0 : Kd.C (Kd.int .i64) w A0 l0.length l0) (hc0 : l0.length ≤ c0) (hr1 : Kd.C (Kd.int .i64) w A1 l1.length l1) (hc1 : l1.length ≤ c1) (h : dropperlaw07_SameInts.f k l0 l1 = some r) :
  Calls Try.prog 18 #[.slice A0 l0.length c0, .slice A1 l1.length c1] w fun e w' => e = .returned (.bool r) ∧ Drawn0 w w' := by
 have HR0 := Aside0.mk hr0
 have HC0 := Aside0.mk hc0
 clear hr0 hc0
 have HR1 := Aside0.mk hr1
 have HC1 := Aside0.mk hc1
 clear hr1 hc1
 have H : (if (l0.length : Int) = (l1.length : Int) then (dropperlaw07_SameInts.l0 k l0 l1 0) else (some false)) = some r := h
 clear h
 by_cases c3 : (l0.length : Int) = (l1.length : Int)
 ·
  rw [if_pos c3] at H
  have c3b0 : ((l0.length : Int) == (l1.length : Int)) = true := beq_iff_eq.mpr c3
  have c3b1 : ((l0.length : Int) != (l1.length : Int)) = false := bne_eq_false_iff_eq.mpr c3
  have c3b2 : (l0.length == l1.length) = true := by first | simpa using c3 | (simp at c3 ⊢; omega)
  clear c3
  have H' := Aside0.mk H
  clear H
  go_enter Try.func18, Try.ntmps18
  go_wp2
  repeat (go_quiet (fail); try go_wp2)
  go_loopg [5] k (fun kq v5 w' => ∃ (x5_1 : Int), v5 = .int .i64 x5_1 ∧ Aside0 (dropperlaw07_SameInts.l0 kq l0 l1 x5_1 = some r) ∧ Aside0 (kq ≤ k) ∧ Drawn0 w w')
  case atStart => exact ⟨(0), rsz, H', ⟨Nat.le_refl _⟩, drz⟩
  case round =>
   clear H'
   try clear c1
   try clear p2
   try clear c3
   try clear c3b0
   try clear c3b1
   try clear c3b2
   obtain ⟨x5_1, rfl, HA, HK1, ⟨m1, rfl⟩⟩ := hrel
   cases gk with
   | zero => exact absurd HA.out (by simp [dropperlaw07_SameInts.l0])
   | succ k1 =>
    have H := HA.out
    clear HA
    simp only [dropperlaw07_SameInts.l0] at H
    by_cases c4 : x5_1 < (l0.length : Int)
    ·
     rw [if_pos c4] at H
     have c4b0 : decide (x5_1 < (l0.length : Int)) = true := decide_eq_true c4
     clear c4
     by_cases c5 : 0 ≤ x5_1
     ·
      rw [if_pos c5] at H
      have c5b0 : decide (0 ≤ x5_1) = true := decide_eq_true c5
      clear c5
      by_cases c6 : x5_1 < (l1.length : Int)
      ·
       rw [if_pos c6] at H
       have c6b0 : decide (x5_1 < (l1.length : Int)) = true := decide_eq_true c6
       clear c6
       by_cases c7 : (rd l0 x5_1) = (rd l1 x5_1)
       ·
        rw [if_pos c7] at H
        have c7b0 : ((rd l0 x5_1) == (rd l1 x5_1)) = true := beq_iff_eq.mpr c7
        have c7b1 : ((rd l0 x5_1) != (rd l1 x5_1)) = false := bne_eq_false_iff_eq.mpr c7
        clear c7
        have H' := Aside0.mk H
        clear H
        have p115 : 0 ≤ (x5_1 : Int) := of_decide_eq_true asz
        have q115 : x5_1 < (l0.length : Int) := of_decide_eq_true asz
        obtain ⟨ad115, e115, hx115_0⟩ := Kd.at_int HR0.out x5_1 p115 q115
        cases e115
        replace p115 := eq_true p115
        replace q115 := eq_true q115
        have p116 : 0 ≤ (x5_1 : Int) := of_decide_eq_true asz
        have q116 : x5_1 < (l1.length : Int) := of_decide_eq_true asz
        obtain ⟨ad116, e116, hx116_0⟩ := Kd.at_int HR1.out x5_1 p116 q116
        cases e116
        replace p116 := eq_true p116
        replace q116 := eq_true q116
        go_wp2
        repeat (go_quiet (fail); try go_wp2)
        go_roundg k1
        case measure => have := HK1.out; omega
        case rel => exact ⟨(wrap64 (x5_1 + 1)), rsz, H', ⟨by have := HK1.out; omega⟩, drz⟩
       ·
        rw [if_neg c7] at H
        have c7b0 : ((rd l0 x5_1) == (rd l1 x5_1)) = false := beq_eq_false_iff_ne.mpr c7
        have c7b1 : ((rd l0 x5_1) != (rd l1 x5_1)) = true := bne_iff_ne.mpr c7
        obtain rfl := Option.some.inj H
        have p115 : 0 ≤ (x5_1 : Int) := of_decide_eq_true asz
        have q115 : x5_1 < (l0.length : Int) := of_decide_eq_true asz
        obtain ⟨ad115, e115, hx115_0⟩ := Kd.at_int HR0.out x5_1 p115 q115
        cases e115
        replace p115 := eq_true p115
        replace q115 := eq_true q115
        have p116 : 0 ≤ (x5_1 : Int) := of_decide_eq_true asz
        have q116 : x5_1 < (l1.length : Int) := of_decide_eq_true asz
        obtain ⟨ad116, e116, hx116_0⟩ := Kd.at_int HR1.out x5_1 p116 q116
        cases e116
        replace p116 := eq_true p116
        replace q116 := eq_true q116
        go_wp2
        repeat (go_quiet (fail); try go_wp2)
        go_ret
        exact ⟨by first | rfl | (simp; done) | (simp [*]; done), drz⟩
      ·
       rw [if_neg c6] at H
       exact absurd H (by simp)
     ·
      rw [if_neg c5] at H
      exact absurd H (by simp)
    ·
     rw [if_neg c4] at H
     have c4b0 : decide (x5_1 < (l0.length : Int)) = false := decide_eq_false c4
     clear c4
     obtain rfl := Option.some.inj H
     go_wp2
     repeat (go_quiet (fail); try go_wp2)
     go_ret
     exact ⟨by first | rfl | (simp; done) | (simp [*]; done), drz⟩
 ·
  rw [if_neg c3] at H
  have c3b0 : ((l0.length : Int) == (l1.length : Int)) = false := beq_eq_false_iff_ne.mpr c3
  have c3b1 : ((l0.length : Int) != (l1.length : Int)) = true := bne_iff_ne.mpr c3
  have c3b2 : (l0.length == l1.length) = false := by first | simpa using c3 | (simp at c3 ⊢; omega)
  obtain rfl := Option.some.inj H
  go_enter Try.func18, Try.ntmps18
  go_wp2
  repeat (go_quiet (fail); try go_wp2)
  go_ret
  exact ⟨by first | rfl | (simp; done) | (simp [*]; done), drz⟩

/-! ### wear_gcd: function 70 -/
def wear_gcd.l0 : Nat → Int → Int → Option (Int)
 | 0, _, _ => none
 | k + 1, x0, x1 => if x1 = 0 then (some (mx x0 (wrap64 (-x0)))) else (wear_gcd.l0 k x1 (Int.tmod x0 x1))
def wear_gcd.f (k : Nat) (a0 : Int) (a1 : Int) : Option (Int) := wear_gcd.l0 k a0 a1
theorem wear_gcd.mono_l : ∀ k, (∀ y0 y1, LeO (wear_gcd.l0 k y0 y1) (wear_gcd.l0 (k + 1) y0 y1))
 | 0 => fun _ _ r h => by simp [wear_gcd.l0] at h
 | k + 1 => by
  have ih0 := wear_gcd.mono_l k
  ·
   intro y0 y1
   unfold wear_gcd.l0
   repeat' first
   | (with_reducible exact ih0 _ _)
   | (with_reducible exact LeO.refl _)
   | (with_reducible exact LeO.none _)
   | (with_reducible refine LeO.ite ?_ ?_)
   | (with_reducible refine LeO.bind ?_ (fun _ => ?_))
   | exact ih0 _ _
   | exact LeO.none _
   | refine LeO.ite ?_ ?_
   | refine LeO.bind ?_ (fun _ => ?_)
theorem wear_gcd.mono : ∀ a0 a1 k, LeO (wear_gcd.f k a0 a1) (wear_gcd.f (k + 1) a0 a1) := by
 intro a0 a1 k
 have ih0 := wear_gcd.mono_l k
 unfold wear_gcd.f
 repeat' first
   | (with_reducible exact ih0 _ _)
   | (with_reducible exact LeO.refl _)
   | (with_reducible exact LeO.none _)
   | (with_reducible refine LeO.ite ?_ ?_)
   | (with_reducible refine LeO.bind ?_ (fun _ => ?_))
   | exact ih0 _ _
   | exact LeO.none _
   | refine LeO.ite ?_ ?_
   | refine LeO.bind ?_ (fun _ => ?_)
set_option maxHeartbeats 8000000 in
set_option maxRecDepth 100000 in
theorem wear_gcd.calls (k : Nat) (a0 : Int) (a1 : Int) (r : Int) (w : World) (h : wear_gcd.f k a0 a1 = some r) :
  Calls Try.prog 70 #[.int .i64 a0, .int .i64 a1] w fun e w' => e = .returned (.int .i64 r) ∧ Below w.heap.size w w' := by
 have HB := Aside0.mk (Below.refl w.heap.size w)
 have H : (wear_gcd.l0 k a0 a1) = some r := h
 clear h
 have H' := Aside0.mk H
 clear H
 go_enter Try.func70, Try.ntmps70
 go_wp2
 repeat (go_quiet (fail); try go_wp2)
 go_loopg [0, 1] k (fun kq v0 v1 w' => ∃ (x0_1 : Int) (x1_1 : Int), v0 = .int .i64 x0_1 ∧ v1 = .int .i64 x1_1 ∧ Aside0 (wear_gcd.l0 kq x0_1 x1_1 = some r) ∧ Aside0 (kq ≤ k) ∧ Aside0 (Below w.heap.size w w'))
 case atStart => exact ⟨(a0), (a1), rsz, rsz, H', ⟨Nat.le_refl _⟩, ⟨bel⟩⟩
 case round =>
  clear H'
  try clear p2
  obtain ⟨x0_1, x1_1, rfl, rfl, HA, HK1, HB⟩ := hrel
  cases gk with
  | zero => exact absurd HA.out (by simp [wear_gcd.l0])
  | succ k1 =>
   have H := HA.out
   clear HA
   simp only [wear_gcd.l0] at H
   by_cases c3 : x1_1 = 0
   ·
    rw [if_pos c3] at H
    have c3b0 : (x1_1 == 0) = true := beq_iff_eq.mpr c3
    have c3b1 : (x1_1 != 0) = false := bne_eq_false_iff_eq.mpr c3
    clear c3
    obtain ⟨ji4, hji4⟩ : ∃ j_ : Int, (mx x0_1 (wrap64 (-x0_1))) = j_ := ⟨_, rfl⟩
    replace H : (some ji4) = some r := by first | (rw [hji4] at H; exact H) | (simp only [hji4] at H ⊢; exact H)
    have hji4_ : (if x0_1 < (wrap64 (-x0_1)) then (wrap64 (-x0_1)) else x0_1) = ji4 := hji4
    obtain rfl := Option.some.inj H
    go_wp2
    repeat (go_quiet (fail); try go_wp2)
    go_ret
    exact ⟨by first | rfl | (simp [errW_none, errW_some] <;> rfl) | (simp only [← hji4]; first | rfl | (simp [errW_none, errW_some] <;> rfl)) | (simp [*, errW_none, errW_some] <;> rfl), bel⟩
   ·
    rw [if_neg c3] at H
    have c3b0 : (x1_1 == 0) = false := beq_eq_false_iff_ne.mpr c3
    have c3b1 : (x1_1 != 0) = true := bne_iff_ne.mpr c3
    have H' := Aside0.mk H
    clear H
    go_wp2
    repeat (go_quiet (fail); try go_wp2)
    go_roundg k1
    case measure => have := HK1.out; omega
    case rel => exact ⟨(x1_1), (Int.tmod x0_1 x1_1), rsz, rsz, H', ⟨by have := HK1.out; omega⟩, ⟨bel⟩⟩

/-! ### wear_ratio: function 71 -/
def wear_ratio.f (k : Nat) (a0 : Int) (a1 : Int) : Option (Int × Int) := (wear_gcd.f k a0 a1).bind fun t120 => (if t120 = 0 then (none) else (some (wrap64 (Int.tdiv a0 t120), wrap64 (Int.tdiv a1 t120))))
theorem wear_ratio.mono : ∀ a0 a1 k, LeO (wear_ratio.f k a0 a1) (wear_ratio.f (k + 1) a0 a1) := by
 intro a0 a1 k
 unfold wear_ratio.f
 repeat' first
   | (with_reducible exact wear_gcd.mono _ _ _)
   | (with_reducible exact LeO.refl _)
   | (with_reducible exact LeO.none _)
   | (with_reducible refine LeO.ite ?_ ?_)
   | (with_reducible refine LeO.bind ?_ (fun _ => ?_))
   | exact wear_gcd.mono _ _ _
   | exact LeO.none _
   | refine LeO.ite ?_ ?_
   | refine LeO.bind ?_ (fun _ => ?_)
def wear_ratio.T2 : Bool × List (List Nat × List Nat) := (true, [([], []), ([], []), ([0, 1], [0, 1]), ([], []), ([], []), ([3, 4], [3, 4]), ([2, 5], [2, 5]), ([6, 0, 1, 2, 3, 4, 5, 6], [6])])
def wear_ratio.B2 : List Nat := [0, 0, 3, 0, 0, 24, 63, 127]
theorem wear_ratio.tab2 : rtab .any (opsOf Try.f71 2) = wear_ratio.T2 := by kernel_rfl
theorem wear_ratio.bits2 : waitsOk wear_ratio.T2.2 wear_ratio.B2 = true := by kernel_rfl
set_option maxHeartbeats 8000000 in
set_option maxRecDepth 100000 in
theorem wear_ratio.calls (k : Nat) (a0 : Int) (a1 : Int) (r1 : Int) (r2 : Int) (w : World) (h : wear_ratio.f k a0 a1 = some (r1, r2)) :
  Calls Try.prog 71 #[.int .i64 a0, .int .i64 a1] w fun e w' => e = .returned (.agg #[.int .i64 r1, .int .i64 r2]) ∧ Below w.heap.size w w' := by
 have hu35 := Try.underlying35
 have HB := Aside0.mk (Below.refl w.heap.size w)
 have H : ((wear_gcd.f k a0 a1).bind fun t120 => (if t120 = 0 then (none) else (some (wrap64 (Int.tdiv a0 t120), wrap64 (Int.tdiv a1 t120))))) = some (r1, r2) := h
 clear h
 replace H := Option.bind_eq_some_iff.mp H
 obtain ⟨t120, A30, H⟩ := H
 replace H : (if t120 = 0 then (none) else (some (wrap64 (Int.tdiv a0 t120), wrap64 (Int.tdiv a1 t120)))) = some (r1, r2) := H
 have A3 := Aside0.mk A30
 clear A30
 by_cases c4 : t120 = 0
 ·
  rw [if_pos c4] at H
  exact absurd H (by simp)
 ·
  rw [if_neg c4] at H
  have c4b0 : (t120 == 0) = false := beq_eq_false_iff_ne.mpr c4
  have c4b1 : (t120 != 0) = true := bne_iff_ne.mpr c4
  simp only [Option.some.injEq, Prod.mk.injEq] at H
  obtain ⟨rfl, rfl⟩ := H
  go_enter Try.func71, Try.ntmps71
  try go_wp2_with (first | ((with_reducible refine gate_dst (N := 4) rfl ?_); refine box_event ?hg (N := 4) ?hd (cs := #[.int .i64 0, .int .i64 0]) (t := 35) ?hr ?_; (case hd => rfl); (case hg => rfl); (case hr => first | (go_simp; done) | (go_simp; rfl)); intro gb119 hg w5 hbox hb; have BK119 := Aside0.mk (hbox); have GW119 := bsz (w := w) hg; have GE119 := GW119; replace HB := Aside0.mk (below_step bel hb); clear hb hbox hg) | ((with_reducible refine gate_callee (f := 70) rfl ?_); refine goesL_ (some 8) rfl rfl Try.func70 (by kernel_rfl) rfl #[.int .i64 a0, .int .i64 a1] rfl mapz ?_; (with_reducible refine (wear_gcd.calls k a0 a1 t120 _ A3.out).mono ?_); rintro e w6 ⟨rfl, hb⟩; refine ⟨_, rfl, ?_⟩; replace BK119 := Aside0.mk (blk_below (g := gb119) blkz hb); replace HB := Aside0.mk (below_step bel hb); (try clear hb); (try clear hb2); (try clear hk); (try clear hi)))
  have n0_ := Aside0.mk (blk_drew BK119.out)
  have n1_ := Aside0.mk (below_drew1 HB.out)
  clear BK119
  clear HB
  have BK119 := n0_
  have HB := n1_
  clear n0_ n1_
  refine start_ (n := 8) (S := fun w' => True) (ds := []) #[false, false, false, false, false, false, false, false] (by kernel_rfl) rfl rfl trivial (fun hHeld => ?_); refine with_tabW wear_ratio.tab2 wear_ratio.bits2 (fun HT_ HW_ => ?_)
  generalize w6.drew = w7 at BK119 HB hHeld ⊢
  refine pst (i := 0) (N := some 9) (bz 8 1) (any_of HT_.out (by kernel_rfl)) ?_
  refine pst (i := 1) (N := some 10) (bz 8 3) (any_of HT_.out (by kernel_rfl)) ?_
  refine pst (i := 2) (N := some 11) (bz 8 7) (any_of HT_.out (by kernel_rfl)) ?_
  refine pst (i := 3) (N := some 12) (bz 8 15) (any_of HT_.out (by kernel_rfl)) ?_
  refine pst (i := 4) (N := some 13) (bz 8 31) (any_of HT_.out (by kernel_rfl)) ?_
  refine pst (i := 5) (N := some 14) (bz 8 63) (any_of HT_.out (by kernel_rfl)) ?_
  refine pst (i := 6) (N := some 15) (bz 8 127) (any_of HT_.out (by kernel_rfl)) ?_
  refine one_ (i := 7) (N := none) #[true, true, true, true, true, true, true, true] rfl rfl (one_of HT_.out (by kernel_rfl)) (by decide) (fun K hK => ?_)
  have hs8 : w7.cell? ⟨gb119, 0, none⟩ = some (.int .i64 0) := (blk_cell BK119.out 0).trans rfl
  have hfs8 := blk_frozen BK119.out 0
  have hs9 : w7.cell? ⟨gb119, 1, none⟩ = some (.int .i64 0) := (blk_cell BK119.out 1).trans rfl
  have hfs9 := blk_frozen BK119.out 1
  refine skip_ (w1 := ?_) (by rfl) rfl ?_ ?_
  rotate_left
  ·
   go_simp
   rfl
  refine hK.out _ _ trivial (fun hHeld => ?_)
  clear hK K
  refine done_ (done_of HT_.out (by kernel_rfl)) ?_
  try go_wp2
  refine bodyPost_ret (results_cell_row rfl _ _ gb119 35 #[.int .i64 (wrap64 (Int.tdiv a0 t120)), .int .i64 (wrap64 (Int.tdiv a1 t120))] (0, 0) _ rfl (by (with_reducible repeat (first | refine blk_drewN ?_ _ | refine blk_drew ?_ | refine blk_alloc ?_ _)); refine blk_put (cs := #[.int .i64 (wrap64 (Int.tdiv a0 t120)), .int .i64 0]) ?_ 1 _ rfl; (with_reducible repeat (first | refine blk_drewN ?_ _ | refine blk_drew ?_ | refine blk_alloc ?_ _)); refine blk_put (cs := #[.int .i64 0, .int .i64 0]) ?_ 0 _ rfl; (with_reducible repeat (first | refine blk_drewN ?_ _ | refine blk_drew ?_ | refine blk_alloc ?_ _)); exact BK119.out) Try.underlying35 rfl (by kernel_rfl)) rfl ?_
  exact ⟨ezz, bel⟩

/-! ### wear_block_mean: function 82 -/
def wear_block_mean.f (k : Nat) (a0_0 : Int) (a0_1 : Int) (a0_2 : Int) : Option (Int × Int) := (wear_ratio.f k a0_1 a0_2).bind fun bt123 => (some (bt123.1, bt123.2))
theorem wear_block_mean.mono : ∀ a0 a1 a2 k, LeO (wear_block_mean.f k a0 a1 a2) (wear_block_mean.f (k + 1) a0 a1 a2) := by
 intro a0 a1 a2 k
 unfold wear_block_mean.f
 repeat' first
   | (with_reducible exact wear_ratio.mono _ _ _)
   | (with_reducible exact LeO.refl _)
   | (with_reducible exact LeO.none _)
   | (with_reducible refine LeO.ite ?_ ?_)
   | (with_reducible refine LeO.bind ?_ (fun _ => ?_))
   | exact wear_ratio.mono _ _ _
   | exact LeO.none _
   | refine LeO.ite ?_ ?_
   | refine LeO.bind ?_ (fun _ => ?_)
set_option maxHeartbeats 8000000 in
set_option maxRecDepth 100000 in
theorem wear_block_mean.calls (k : Nat) (a0_0 : Int) (a0_1 : Int) (a0_2 : Int) (r1 : Int) (r2 : Int) (w : World) (h : wear_block_mean.f k a0_0 a0_1 a0_2 = some (r1, r2)) :
  Calls Try.prog 82 #[.agg #[.int .i64 a0_0, .int .i64 a0_1, .int .i64 a0_2]] w fun e w' => e = .returned (.agg #[.int .i64 r1, .int .i64 r2]) ∧ Below w.heap.size w w' := by
 have hu74 := Try.underlying74
 have hu35 := Try.underlying35
 have HB := Aside0.mk (Below.refl w.heap.size w)
 have H : ((wear_ratio.f k a0_1 a0_2).bind fun bt123 => (some (bt123.1, bt123.2))) = some (r1, r2) := h
 clear h
 replace H := Option.bind_eq_some_iff.mp H
 obtain ⟨⟨t123, t124⟩, A20, H⟩ := H
 replace H : (some (t123, t124)) = some (r1, r2) := H
 have A2 := Aside0.mk A20
 clear A20
 simp only [Option.some.injEq, Prod.mk.injEq] at H
 obtain ⟨rfl, rfl⟩ := H
 go_enter Try.func82, Try.ntmps82
 go_wp2_with (first | ((with_reducible refine gate_dst (N := 1) rfl ?_); refine box_event ?hg (N := 1) ?hd (cs := #[.int .i64 a0_0, .int .i64 a0_1, .int .i64 a0_2]) (t := 74) ?hr ?_; (case hd => rfl); (case hg => rfl); (case hr => first | (go_simp; done) | (go_simp; rfl)); intro gb121 hg w3 hbox hb; have BK121 := Aside0.mk (hbox); have GW121 := bsz (w := w) hg; have GE121 := GW121; replace HB := Aside0.mk (below_step bel hb); clear hb hbox hg) | ((with_reducible refine gate_dst (N := 2) rfl ?_); refine box_event ?hg (N := 2) ?hd (cs := #[.int .i64 0, .int .i64 0]) (t := 35) ?hr ?_; (case hd => rfl); (case hg => rfl); (case hr => first | (go_simp; done) | (go_simp; rfl)); intro gb122 hg w4 hbox hb; have BK122 := Aside0.mk (hbox); have GW122 := bsz (w := w) hg; have GE122 := GW122; have NB121_122 := neL (g := gb121) hg; have NB122_121 := neR (g := gb121) hg; replace BK121 := Aside0.mk (blk_below (g := gb121) blkz hb); replace HB := Aside0.mk (below_step bel hb); clear hb hbox hg; have hnb5 := NB121_122.out; have hnc5 := NB122_121.out; have hcz6_0 := blkc BK121.out 0 (.int .i64 a0_0) rfl; have hcz6_1 := blkc BK121.out 1 (.int .i64 a0_1) rfl; have hcz6_2 := blkc BK121.out 2 (.int .i64 a0_2) rfl) | ((with_reducible refine gate_callee (f := 71) rfl ?_); refine goesL_ (some 7) rfl rfl Try.func71 (by kernel_rfl) rfl #[.int .i64 a0_1, .int .i64 a0_2] rfl mapz ?_; (with_reducible refine (wear_ratio.calls k a0_1 a0_2 t123 t124 _ A2.out).mono ?_); rintro e w7 ⟨rfl, hb⟩; refine ⟨_, rfl, ?_⟩; replace BK121 := Aside0.mk (blk_below (g := gb121) blkz hb); replace BK122 := Aside0.mk (blk_below (g := gb122) blkz hb); replace HB := Aside0.mk (below_step bel hb); (try clear hb); (try clear hb2); (try clear hk); (try clear hi); have hcz8_0 := blkc BK122.out 0 (.int .i64 0) rfl; have hcz8_1 := blkc BK122.out 1 (.int .i64 0) rfl; have hfz8_0 := blk_frozen BK122.out 0; have hfz8_1 := blk_frozen BK122.out 1))
 refine bodyPost_ret (results_cell_row rfl _ _ gb122 35 #[.int .i64 t123, .int .i64 t124] (0, 0) _ rfl (by (with_reducible repeat (first | refine blk_drewN ?_ _ | refine blk_drew ?_ | refine blk_alloc ?_ _)); refine blk_put (cs := #[.int .i64 t123, .int .i64 0]) ?_ 1 _ rfl; (with_reducible repeat (first | refine blk_drewN ?_ _ | refine blk_drew ?_ | refine blk_alloc ?_ _)); refine blk_put (cs := #[.int .i64 0, .int .i64 0]) ?_ 0 _ rfl; (with_reducible repeat (first | refine blk_drewN ?_ _ | refine blk_drew ?_ | refine blk_alloc ?_ _)); exact BK122.out) Try.underlying35 rfl (by kernel_rfl)) rfl ?_
 exact ⟨ezz, bel⟩

/-! ### wear_less: function 78 -/
def wear_less.f (a0_0 : Int) (a0_1 : Int) (a1_0 : Int) (a1_1 : Int) : Option (Bool) := some (decide ((wrap64 (a0_0 * a1_1)) < (wrap64 (a1_0 * a0_1))))
set_option maxHeartbeats 8000000 in
set_option maxRecDepth 100000 in
theorem wear_less.calls (a0_0 : Int) (a0_1 : Int) (a1_0 : Int) (a1_1 : Int) (r : Bool) (w : World) (h : wear_less.f a0_0 a0_1 a1_0 a1_1 = some r) :
  Calls Try.prog 78 #[.agg #[.int .i64 a0_0, .int .i64 a0_1], .agg #[.int .i64 a1_0, .int .i64 a1_1]] w fun e w' => e = .returned (.bool r) ∧ Below w.heap.size w w' := by
 have hu35 := Try.underlying35
 have HB := Aside0.mk (Below.refl w.heap.size w)
 have H : (some (decide ((wrap64 (a0_0 * a1_1)) < (wrap64 (a1_0 * a0_1))))) = some r := h
 clear h
 obtain rfl := Option.some.inj H
 go_enter Try.func78, Try.ntmps78
 go_wp2_with (first | ((with_reducible refine gate_dst (N := 2) rfl ?_); refine box_event ?hg (N := 2) ?hd (cs := #[.int .i64 a0_0, .int .i64 a0_1]) (t := 35) ?hr ?_; (case hd => rfl); (case hg => rfl); (case hr => first | (go_simp; done) | (go_simp; rfl)); intro gb117 hg w3 hbox hb; have BK117 := Aside0.mk (hbox); have GW117 := bsz (w := w) hg; have GE117 := GW117; replace HB := Aside0.mk (below_step bel hb); clear hb hbox hg) | ((with_reducible refine gate_dst (N := 3) rfl ?_); refine box_event ?hg (N := 3) ?hd (cs := #[.int .i64 a1_0, .int .i64 a1_1]) (t := 35) ?hr ?_; (case hd => rfl); (case hg => rfl); (case hr => first | (go_simp; done) | (go_simp; rfl)); intro gb118 hg w4 hbox hb; have BK118 := Aside0.mk (hbox); have GW118 := bsz (w := w) hg; have GE118 := GW118; have NB117_118 := neL (g := gb117) hg; have NB118_117 := neR (g := gb117) hg; replace BK117 := Aside0.mk (blk_below (g := gb117) blkz hb); replace HB := Aside0.mk (below_step bel hb); clear hb hbox hg; have hnb5 := NB117_118.out; have hnc5 := NB118_117.out; have hcz6_0 := blkc BK117.out 0 (.int .i64 a0_0) rfl; have hcz6_1 := blkc BK117.out 1 (.int .i64 a0_1) rfl; have hcz7_0 := blkc BK118.out 0 (.int .i64 a1_0) rfl; have hcz7_1 := blkc BK118.out 1 (.int .i64 a1_1) rfl))
 go_ret
 exact ⟨ezz, bel⟩

/-! ### wear_blocks: function 58 -/
mutual
def wear_blocks.l0 : Nat → List (S74) → List Int → Int → Int → Option ((List (S74)))
 | 0, _, _, _, _ => none
 | k + 1, x3, x8, x9, x10 => if x10 < x9 then (if 0 ≤ x10 then (if x10 < (x8.length : Int) then (wear_blocks.l1 k x3 (wrap64 ((x3.length : Int) - 1)) x8 x9 x10 x10 (rd x8 x10) 1) else (none)) else (none)) else (some x3)
def wear_blocks.l1 : Nat → List (S74) → Int → List Int → Int → Int → Int → Int → Int → Option ((List (S74)))
 | 0, _, _, _, _, _, _, _, _ => none
 | k + 1, x3, x7, x8, x9, x10, x127000, x127001, x127002 => if x7 ≥ 0 then (if 0 ≤ x7 then (if x7 < (x3.length : Int) then ((wear_block_mean.f k ((rd_T74 x3 x7).f0) ((rd_T74 x3 x7).f1) ((rd_T74 x3 x7).f2)).bind fun bt128 => ((wear_block_mean.f k x127000 x127001 x127002).bind fun bt130 => ((wear_less.f bt128.1 bt128.2 bt130.1 bt130.2).bind fun t132 => (if t132 = true then (if x3.length < 5864062014805 then (wear_blocks.l0 k (x3 ++ [(⟨x127000, x127001, x127002⟩ : S74)]) x8 x9 (wrap64 (x10 + 1))) else (none)) else (if x7 ≤ (x3.length : Int) then (wear_blocks.l1 k (x3.take (x7 : Int).toNat) (wrap64 (x7 - 1)) x8 x9 x10 ((rd_T74 x3 x7).f0) (wrap64 (((rd_T74 x3 x7).f1) + x127001)) (wrap64 (((rd_T74 x3 x7).f2) + x127002))) else (none)))))) else (none)) else (none)) else (if x3.length < 5864062014805 then (wear_blocks.l0 k (x3 ++ [(⟨x127000, x127001, x127002⟩ : S74)]) x8 x9 (wrap64 (x10 + 1))) else (none))
end
def wear_blocks.f (k : Nat) (l0 : List Int) : Option ((List (S74))) := wear_blocks.l0 k ([] : List (S74)) l0 (l0.length : Int) 0
theorem wear_blocks.mono_l : ∀ k, (∀ y0 y1 y2 y3, LeO (wear_blocks.l0 k y0 y1 y2 y3) (wear_blocks.l0 (k + 1) y0 y1 y2 y3)) ∧ (∀ y0 y1 y2 y3 y4 y5 y6 y7, LeO (wear_blocks.l1 k y0 y1 y2 y3 y4 y5 y6 y7) (wear_blocks.l1 (k + 1) y0 y1 y2 y3 y4 y5 y6 y7))
 | 0 => ⟨fun _ _ _ _ r h => by simp [wear_blocks.l0] at h, fun _ _ _ _ _ _ _ _ r h => by simp [wear_blocks.l1] at h⟩
 | k + 1 => by
  obtain ⟨ih0, ih1⟩ := wear_blocks.mono_l k
  refine ⟨?_, ?_⟩
  ·
   intro y0 y1 y2 y3
   unfold wear_blocks.l0
   repeat' first
   | (with_reducible exact ih0 _ _ _ _)
   | (with_reducible exact ih1 _ _ _ _ _ _ _ _)
   | (with_reducible exact wear_block_mean.mono _ _ _ _)
   | (with_reducible exact LeO.refl _)
   | (with_reducible exact LeO.none _)
   | (with_reducible refine LeO.ite ?_ ?_)
   | (with_reducible refine LeO.bind ?_ (fun _ => ?_))
   | exact ih0 _ _ _ _
   | exact ih1 _ _ _ _ _ _ _ _
   | exact wear_block_mean.mono _ _ _ _
   | exact LeO.none _
   | refine LeO.ite ?_ ?_
   | refine LeO.bind ?_ (fun _ => ?_)
  ·
   intro y0 y1 y2 y3 y4 y5 y6 y7
   unfold wear_blocks.l1
   repeat' first
   | (with_reducible exact ih0 _ _ _ _)
   | (with_reducible exact ih1 _ _ _ _ _ _ _ _)
   | (with_reducible exact wear_block_mean.mono _ _ _ _)
   | (with_reducible exact LeO.refl _)
   | (with_reducible exact LeO.none _)
   | (with_reducible refine LeO.ite ?_ ?_)
   | (with_reducible refine LeO.bind ?_ (fun _ => ?_))
   | exact ih0 _ _ _ _
   | exact ih1 _ _ _ _ _ _ _ _
   | exact wear_block_mean.mono _ _ _ _
   | exact LeO.none _
   | refine LeO.ite ?_ ?_
   | refine LeO.bind ?_ (fun _ => ?_)
theorem wear_blocks.mono : ∀ a0 k, LeO (wear_blocks.f k a0) (wear_blocks.f (k + 1) a0) := by
 intro a0 k
 obtain ⟨ih0, ih1⟩ := wear_blocks.mono_l k
 unfold wear_blocks.f
 repeat' first
   | (with_reducible exact ih0 _ _ _ _)
   | (with_reducible exact ih1 _ _ _ _ _ _ _ _)
   | (with_reducible exact wear_block_mean.mono _ _ _ _)
   | (with_reducible exact LeO.refl _)
   | (with_reducible exact LeO.none _)
   | (with_reducible refine LeO.ite ?_ ?_)
   | (with_reducible refine LeO.bind ?_ (fun _ => ?_))
   | exact ih0 _ _ _ _
   | exact ih1 _ _ _ _ _ _ _ _
   | exact wear_block_mean.mono _ _ _ _
   | exact LeO.none _
   | refine LeO.ite ?_ ?_
   | refine LeO.bind ?_ (fun _ => ?_)
def wear_blocks.T7 : Bool × List (List Nat × List Nat) := (true, [([], []), ([0], [0]), ([1], [1]), ([2], [2]), ([2], [2]), ([3, 4, 2], [2, 3, 4]), ([5, 2], [2, 5]), ([6, 2, 2], [2, 6]), ([2], [2]), ([8, 7, 2], [2, 8]), ([7, 9, 9, 2], [2, 7, 9]), ([10, 2], [2, 10]), ([2, 11], [2, 11])])
def wear_blocks.B7 : List Nat := [0, 1, 3, 7, 7, 31, 63, 127, 7, 511, 1023, 2047, 4095]
theorem wear_blocks.tab7 : rtab .any (opsOf Try.f58 7) = wear_blocks.T7 := by kernel_rfl
theorem wear_blocks.bits7 : waitsOk wear_blocks.T7.2 wear_blocks.B7 = true := by kernel_rfl
def wear_blocks.T9 : Bool × List (List Nat × List Nat) := (true, [([], []), ([], []), ([0, 1], [0, 1]), ([2], [2]), ([3], [3]), ([], []), ([], []), ([5, 6], [5, 6]), ([7], [7]), ([8], [8]), ([], []), ([10], [10]), ([9, 11], [9, 11]), ([], []), ([], []), ([13, 14], [13, 14]), ([15], [15]), ([16], [16]), ([], []), ([18], [18]), ([17, 19], [17, 19]), ([4, 12, 20], [4, 12, 20]), ([21, 0, 1, 2, 3, 4, 5, 6, 7, 8, 9, 10, 11, 12, 13, 14, 15, 16, 17, 18, 19, 20, 21], [21])])
def wear_blocks.B9 : List Nat := [0, 0, 3, 7, 15, 0, 0, 96, 224, 480, 0, 1024, 4064, 0, 0, 24576, 57344, 122880, 0, 262144, 1040384, 2097151, 4194303]
theorem wear_blocks.tab9 : rtab .any (opsOf Try.f58 9) = wear_blocks.T9 := by kernel_rfl
theorem wear_blocks.bits9 : waitsOk wear_blocks.T9.2 wear_blocks.B9 = true := by kernel_rfl
set_option maxHeartbeats 8000000 in
set_option maxRecDepth 100000 in
theorem wear_blocks.calls (k : Nat) (A0 : Option Addr) (c0 : Nat) (l0 : List Int) (r : List (S74)) (w : World) (hr0 : Kd.C (Kd.int .i64) w A0 l0.length l0) (hc0 : l0.length ≤ c0) (h : wear_blocks.f k l0 = some r) :
  Calls Try.prog 58 #[.slice A0 l0.length c0] w fun e w' => ∃ v0_ : Value, e = .returned (v0_) ∧ Kd.R k74 74 w' w.heap.size (fun _ => True) v0_ r ∧ Below w.heap.size w w' := by
 have hu74 := Try.underlying74
 have HR0 := Aside0.mk hr0
 have HC0 := Aside0.mk hc0
 clear hr0 hc0
 have HB := Aside0.mk (Below.refl w.heap.size w)
 have H : (wear_blocks.l0 k ([] : List (S74)) l0 (l0.length : Int) 0) = some r := h
 clear h
 have H' := Aside0.mk H
 clear H
 go_enter Try.func58, Try.ntmps58
 go_wp2
 go_loopg [3, 10] k (fun kq v3 v10 w' => ∃ (x3_1 : List (S74)) (x10_1 : Int), v10 = .int .i64 x10_1 ∧ Aside0 (wear_blocks.l0 kq x3_1 l0 (l0.length : Int) x10_1 = some r) ∧ Aside0 (kq ≤ k) ∧ Aside0 (Kd.R k74 74 w' w.heap.size (fun _ => True) v3 x3_1) ∧ Aside0 (Below w.heap.size w w'))
 case atStart => exact ⟨(([] : List (S74))), (0), rsz, H', ⟨Nat.le_refl _⟩, ⟨by first | exact Kd.R_nil _ _ _ _ _ | exact Kd.N_nil _ _ _ _ _ | exact Kd.V_nil _ _ _ _ _ | exact Kd.Q_nil _ _ _ _ _ | exact Kd.S_nil _ _ _ _ _⟩, ⟨bel⟩⟩
 case round =>
  clear H'
  obtain ⟨x3_1, x10_1, rfl, HA, HK1, HO_3, HB⟩ := hrel
  cases gk with
  | zero => exact absurd HA.out (by simp [wear_blocks.l0])
  | succ k1 =>
   have H := HA.out
   clear HA
   simp only [wear_blocks.l0] at H
   by_cases c2 : x10_1 < (l0.length : Int)
   ·
    rw [if_pos c2] at H
    have c2b0 : decide (x10_1 < (l0.length : Int)) = true := decide_eq_true c2
    clear c2
    by_cases c3 : 0 ≤ x10_1
    ·
     rw [if_pos c3] at H
     have c3b0 : decide (0 ≤ x10_1) = true := decide_eq_true c3
     clear c3
     by_cases c4 : x10_1 < (l0.length : Int)
     ·
      rw [if_pos c4] at H
      have c4b0 : decide (x10_1 < (l0.length : Int)) = true := decide_eq_true c4
      clear c4
      have H' := Aside0.mk H
      clear H
      have p125 : 0 ≤ (x10_1 : Int) := of_decide_eq_true asz
      have q125 : x10_1 < (l0.length : Int) := of_decide_eq_true asz
      obtain ⟨ad125, e125, hx125_0⟩ := Kd.at_int HR0.out x10_1 p125 q125
      cases e125
      replace hx125_0 := (HB.out.cell (World.block_lt_of_cell? w _ hx125_0)).trans hx125_0
      replace p125 := eq_true p125
      replace q125 := eq_true q125
      go_wp2_with (first | ((with_reducible refine gate_dst (N := 6) rfl ?_); refine box_event ?hg (N := 6) ?hd (cs := #[.int .i64 0, .int .i64 0, .int .i64 0]) (t := 74) ?hr ?_; (case hd => rfl); (case hg => rfl); (case hr => first | (go_simp; done) | (go_simp; rfl)); intro gb126 hg w5 hbox hb; have BK126 := Aside0.mk (hbox); have GW126 := bsz (w := w) hg; have GE126 := GW126; replace HO_3 := Aside0.mk (Kd.R_below (Kd.R_elderB (ownx HO_3) gb126 (Nat.le_of_eq hg.symm)) hb); replace HB := Aside0.mk (below_step bel hb); clear hb hbox hg; have hcz6_0 := blkc BK126.out 0 (.int .i64 0) rfl; have hcz6_1 := blkc BK126.out 1 (.int .i64 0) rfl; have hcz6_2 := blkc BK126.out 2 (.int .i64 0) rfl; have hfz6_0 := blk_frozen BK126.out 0; have hfz6_1 := blk_frozen BK126.out 1; have hfz6_2 := blk_frozen BK126.out 2; obtain ⟨Ao7, co7, eo7⟩ := Kd.R_slice HO_3.out; subst eo7))
      go_loopg [3, 7] k1 (fun kq v3 v7 w' => ∃ (x3_2 : List (S74)) (x7_2 : Int) (x127000_2 : Int) (x127001_2 : Int) (x127002_2 : Int), v7 = .int .i64 x7_2 ∧ Aside0 (wear_blocks.l1 kq x3_2 x7_2 l0 (l0.length : Int) x10_1 x127000_2 x127001_2 x127002_2 = some r) ∧ Aside0 (kq ≤ k1) ∧ Aside0 (Kd.R k74 74 w' w.heap.size (fun k_ => k_ ≠ gb126) v3 x3_2) ∧ Aside0 (w'.heap[gb126]? = some (.cells #[.int .i64 x127000_2, .int .i64 x127001_2, .int .i64 x127002_2] 74 (0, 0))) ∧ Aside0 (Below w.heap.size w w'))
      case atStart => exact ⟨(x3_1), (wrap64 ((x3_1.length : Int) - 1)), (x10_1), (rd l0 x10_1), (1), rsz, H', ⟨Nat.le_refl _⟩, ⟨by (with_reducible repeat (first | apply Kd.R_alloc | apply Kd.R_drewN | apply Kd.R_drew)); exact Kd.R_mono (Kd.R_far (p := ⟨gb126, 2, none⟩) (Kd.R_far (p := ⟨gb126, 1, none⟩) (Kd.R_far (p := ⟨gb126, 0, none⟩) (Kd.R_mono HO_3.out (fun k_ hk => (⟨hk, hk.2⟩ : _ ∧ k_ ≠ gb126))) (fun _ hk => hk.2) (.int .i64 x10_1)) (fun _ hk => hk.2) (.int .i64 (rd l0 x10_1))) (fun _ hk => hk.2) (.int .i64 1)) (fun _ hk => hk.1.2)⟩, ⟨by (with_reducible repeat (first | refine blk_drewN ?_ _ | refine blk_drew ?_ | refine blk_alloc ?_ _)); refine blk_put (cs := #[.int .i64 x10_1, .int .i64 (rd l0 x10_1), .int .i64 0]) ?_ 2 _ rfl; (with_reducible repeat (first | refine blk_drewN ?_ _ | refine blk_drew ?_ | refine blk_alloc ?_ _)); refine blk_put (cs := #[.int .i64 x10_1, .int .i64 0, .int .i64 0]) ?_ 1 _ rfl; (with_reducible repeat (first | refine blk_drewN ?_ _ | refine blk_drew ?_ | refine blk_alloc ?_ _)); refine blk_put (cs := #[.int .i64 0, .int .i64 0, .int .i64 0]) ?_ 0 _ rfl; (with_reducible repeat (first | refine blk_drewN ?_ _ | refine blk_drew ?_ | refine blk_alloc ?_ _)); exact BK126.out⟩, ⟨bel⟩⟩
      case round =>
       clear H'
       try clear p1
       try clear q1
       try clear hx1
       try clear c2
       try clear c2b0
       try clear p2
       try clear c3
       try clear c3b0
       try clear c4
       try clear c4b0
       try clear c5
       try clear p6
       try clear hcz6_0
       try clear hcz6_1
       try clear hcz6_2
       try clear hfz6_0
       try clear hfz6_1
       try clear hfz6_2
       try clear hx125_0
       try clear p125
       try clear q125
       obtain ⟨x3_2, x7_2, x127000_2, x127001_2, x127002_2, rfl, HA, HK2, HO_3, BK126, HB⟩ := hrel
       cases gk with
       | zero => exact absurd HA.out (by simp [wear_blocks.l1])
       | succ k2 =>
        have H := HA.out
        clear HA
        simp only [wear_blocks.l1] at H
        by_cases c8 : x7_2 ≥ 0
        ·
         rw [if_pos c8] at H
         have c8b0 : decide (0 ≤ x7_2) = true := decide_eq_true c8
         clear c8
         by_cases c9 : 0 ≤ x7_2
         ·
          rw [if_pos c9] at H
          have c9b0 : decide (0 ≤ x7_2) = true := decide_eq_true c9
          clear c9
          by_cases c10 : x7_2 < (x3_2.length : Int)
          ·
           rw [if_pos c10] at H
           have c10b0 : decide (x7_2 < (x3_2.length : Int)) = true := decide_eq_true c10
           clear c10
           replace H := Option.bind_eq_some_iff.mp H
           obtain ⟨⟨t128, t129⟩, A110, H⟩ := H
           replace H : ((wear_block_mean.f k2 x127000_2 x127001_2 x127002_2).bind fun bt130 => ((wear_less.f t128 t129 bt130.1 bt130.2).bind fun t132 => (if t132 = true then (if x3_2.length < 5864062014805 then (wear_blocks.l0 k2 (x3_2 ++ [(⟨x127000_2, x127001_2, x127002_2⟩ : S74)]) l0 (l0.length : Int) (wrap64 (x10_1 + 1))) else (none)) else (if x7_2 ≤ (x3_2.length : Int) then (wear_blocks.l1 k2 (x3_2.take (x7_2 : Int).toNat) (wrap64 (x7_2 - 1)) l0 (l0.length : Int) x10_1 ((rd_T74 x3_2 x7_2).f0) (wrap64 (((rd_T74 x3_2 x7_2).f1) + x127001_2)) (wrap64 (((rd_T74 x3_2 x7_2).f2) + x127002_2))) else (none))))) = some r := H
           have A11 := Aside0.mk A110
           clear A110
           replace H := Option.bind_eq_some_iff.mp H
           obtain ⟨⟨t130, t131⟩, A120, H⟩ := H
           replace H : ((wear_less.f t128 t129 t130 t131).bind fun t132 => (if t132 = true then (if x3_2.length < 5864062014805 then (wear_blocks.l0 k2 (x3_2 ++ [(⟨x127000_2, x127001_2, x127002_2⟩ : S74)]) l0 (l0.length : Int) (wrap64 (x10_1 + 1))) else (none)) else (if x7_2 ≤ (x3_2.length : Int) then (wear_blocks.l1 k2 (x3_2.take (x7_2 : Int).toNat) (wrap64 (x7_2 - 1)) l0 (l0.length : Int) x10_1 ((rd_T74 x3_2 x7_2).f0) (wrap64 (((rd_T74 x3_2 x7_2).f1) + x127001_2)) (wrap64 (((rd_T74 x3_2 x7_2).f2) + x127002_2))) else (none)))) = some r := H
           have A12 := Aside0.mk A120
           clear A120
           replace H := Option.bind_eq_some_iff.mp H
           obtain ⟨t132, A130, H⟩ := H
           replace H : (if t132 = true then (if x3_2.length < 5864062014805 then (wear_blocks.l0 k2 (x3_2 ++ [(⟨x127000_2, x127001_2, x127002_2⟩ : S74)]) l0 (l0.length : Int) (wrap64 (x10_1 + 1))) else (none)) else (if x7_2 ≤ (x3_2.length : Int) then (wear_blocks.l1 k2 (x3_2.take (x7_2 : Int).toNat) (wrap64 (x7_2 - 1)) l0 (l0.length : Int) x10_1 ((rd_T74 x3_2 x7_2).f0) (wrap64 (((rd_T74 x3_2 x7_2).f1) + x127001_2)) (wrap64 (((rd_T74 x3_2 x7_2).f2) + x127002_2))) else (none))) = some r := H
           have A13 := Aside0.mk A130
           clear A130
           by_cases c14 : t132 = true
           ·
            subst c14
            have H1 : (if x3_2.length < 5864062014805 then (wear_blocks.l0 k2 (x3_2 ++ [(⟨x127000_2, x127001_2, x127002_2⟩ : S74)]) l0 (l0.length : Int) (wrap64 (x10_1 + 1))) else (none)) = some r := by rw [if_pos rfl] at H; exact H
            clear H
            have H := H1
            clear H1
            by_cases c15 : x3_2.length < 5864062014805
            ·
             rw [if_pos c15] at H
             have LMc15 := Aside0.mk c15
             clear c15
             obtain ⟨y133, hy133⟩ : ∃ y_ : List (S74), y_ = (x3_2 ++ [(⟨x127000_2, x127001_2, x127002_2⟩ : S74)]) := ⟨_, rfl⟩
             replace H : (wear_blocks.l0 k2 y133 l0 (l0.length : Int) (wrap64 (x10_1 + 1))) = some r := by first | (rw [hy133]; with_reducible exact H) | (have H2_ := (Option.bind_some _ _).symm.trans H; rw [hy133]; with_reducible exact H2_) | (have H2_ := (Option.bind_some _ _).symm.trans H; with_reducible exact H2_) | with_reducible exact H | (rw [hy133]; exact H) | exact H
             have Ny133 := Aside0.mk hy133
             clear hy133
             have H' := Aside0.mk H
             clear H
             try go_wp2
             have n0_ := Aside0.mk (Kd.R_drew HO_3.out)
             have n1_ := Aside0.mk (blk_drew BK126.out)
             have n2_ := Aside0.mk (below_drew1 HB.out)
             clear HO_3
             clear BK126
             clear HB
             have HO_3 := n0_
             have BK126 := n1_
             have HB := n2_
             clear n0_ n1_ n2_
             obtain ⟨Ao17, co17, eo17⟩ := Kd.R_slice HO_3.out
             (first | subst eo17 | (injection eo17 with f1_ f2_ f3_; have f4_ := f1_.symm; have f5_ := f3_.symm; clear f1_ f2_ f3_; subst f4_; subst f5_))
             have p127 : 0 ≤ (x7_2 : Int) := of_decide_eq_true asz
             have q127 : x7_2 < (x3_2.length : Int) := of_decide_eq_true asz
             obtain ⟨ad127, e127, hx127_0, hx127_1, hx127_2⟩ := at_T74 (Kd.R_reads' HO_3.out).2.2 x7_2 p127 q127
             cases e127
             replace p127 := eq_true p127
             replace q127 := eq_true q127
             refine start_ (n := 13) (S := fun w' => w'.cell? ⟨gb126, 0, none⟩ = some (.int .i64 x127000_2) ∧ w'.cell? ⟨gb126, 1, none⟩ = some (.int .i64 x127001_2) ∧ w'.cell? ⟨gb126, 2, none⟩ = some (.int .i64 x127002_2) ∧ w'.cell? (ad127.add ((x7_2).toNat * 3)) = some (.int .i64 ((rd_T74 x3_2 x7_2).f0)) ∧ w'.cell? ⟨(ad127.add ((x7_2).toNat * 3)).block, (ad127.add ((x7_2).toNat * 3)).off + 1, none⟩ = some (.int .i64 ((rd_T74 x3_2 x7_2).f1)) ∧ w'.cell? ⟨(ad127.add ((x7_2).toNat * 3)).block, (ad127.add ((x7_2).toNat * 3)).off + 2, none⟩ = some (.int .i64 ((rd_T74 x3_2 x7_2).f2))) (ds := []) #[false, false, false, false, false, false, false, false, false, false, false, false, false] (by kernel_rfl) rfl rfl ⟨(blk_cell BK126.out 0).trans rfl, (blk_cell BK126.out 1).trans rfl, (blk_cell BK126.out 2).trans rfl, hx127_0, hx127_1, hx127_2⟩ (fun hHeld => ?_); refine with_tabW wear_blocks.tab7 wear_blocks.bits7 (fun HT_ HW_ => ?_)
             generalize wr.drew = w16 at HO_3 BK126 HB hx127_0 hx127_1 hx127_2 hHeld ⊢
             refine pst (i := 0) (N := some 21) (bz 13 1) (any_of HT_.out (by kernel_rfl)) ?_
             refine pst (i := 1) (N := some 22) (bz 13 3) (any_of HT_.out (by kernel_rfl)) ?_
             refine pst (i := 2) (N := some 23) (bz 13 7) (any_of HT_.out (by kernel_rfl)) ?_
             refine pst (i := 3) (N := some 24) (bz 13 15) (any_of HT_.out (by kernel_rfl)) ?_
             refine pst (i := 4) (N := some 25) (bz 13 31) (any_of HT_.out (by kernel_rfl)) ?_
             refine pst (i := 5) (N := some 26) (bz 13 63) (any_of HT_.out (by kernel_rfl)) ?_
             refine tst6 (i := 6) (N := some 27) (bz 13 127) (take_ofW HT_.out HW_.out (by kernel_rfl)) hHeld ?_
             refine tst6 (i := 8) (N := some 29) (bz 13 383) (take_ofW HT_.out HW_.out (by kernel_rfl)) hHeld ?_
             refine one_ (i := 7) (N := some 28) #[true, true, true, true, true, true, true, true, true, false, false, false, false] rfl rfl (one_of HT_.out (by kernel_rfl)) (by decide) (fun K hK => ?_)
             refine goes_ Try.func82 (by kernel_rfl) rfl #[.agg #[.int .i64 ((rd_T74 x3_2 x7_2).f0), .int .i64 ((rd_T74 x3_2 x7_2).f1), .int .i64 ((rd_T74 x3_2 x7_2).f2)]] (by rfl) rfl rfl mapz ?_
             with_reducible refine (wear_block_mean.calls k2 ((rd_T74 x3_2 x7_2).f0) ((rd_T74 x3_2 x7_2).f1) ((rd_T74 x3_2 x7_2).f2) t128 t129 _ A11.out).mono ?_
             rintro e w18 ⟨rfl, hb⟩
             have HS3_ := (hb.cell (World.block_lt_of_cell? _ _ (hHeld.2.2.2.1))).trans (hHeld.2.2.2.1)
             have HS4_ := (hb.cell (World.block_lt_of_cell? _ _ (hHeld.2.2.2.2.1))).trans (hHeld.2.2.2.2.1)
             have HS5_ := (hb.cell (World.block_lt_of_cell? _ _ (hHeld.2.2.2.2.2))).trans (hHeld.2.2.2.2.2)
             refine ⟨_, rfl, ?_⟩
             have n0_ := Aside0.mk (Kd.R_below (ownx HO_3) hb)
             have n1_ := Aside0.mk (blk_below (g := gb126) blkz hb)
             have n2_ := Aside0.mk (below_step bel hb)
             clear HO_3
             clear BK126
             clear HB
             have HO_3 := n0_
             have BK126 := n1_
             have HB := n2_
             clear n0_ n1_ n2_
             (try clear hb)
             (try clear hb2)
             (try clear hk)
             (try clear hi)
             refine hK.out _ _ ⟨(blk_cell BK126.out 0).trans rfl, (blk_cell BK126.out 1).trans rfl, (blk_cell BK126.out 2).trans rfl, HS3_, HS4_, HS5_⟩ (fun hHeld => ?_)
             clear hK K
             refine norm_ (a' := ?_) ?_ ?_
             rotate_left
             ·
              show Act.put _ (some 28) _ = _
              simp only [Act.put, List.setIfInBounds_toArray, List.set_cons_zero, List.set_cons_succ, i64_w, i32_w]
              rfl
             refine one_ (i := 9) (N := some 30) #[true, true, true, true, true, true, true, true, true, true, false, false, false] rfl rfl (one_of HT_.out (by kernel_rfl)) (by decide) (fun K hK => ?_)
             refine goes_ Try.func82 (by kernel_rfl) rfl #[.agg #[.int .i64 x127000_2, .int .i64 x127001_2, .int .i64 x127002_2]] (by rfl) rfl rfl mapz ?_
             with_reducible refine (wear_block_mean.calls k2 x127000_2 x127001_2 x127002_2 t130 t131 _ A12.out).mono ?_
             rintro e w19 ⟨rfl, hb⟩
             have HS3_ := (hb.cell (World.block_lt_of_cell? _ _ (hHeld.2.2.2.1))).trans (hHeld.2.2.2.1)
             have HS4_ := (hb.cell (World.block_lt_of_cell? _ _ (hHeld.2.2.2.2.1))).trans (hHeld.2.2.2.2.1)
             have HS5_ := (hb.cell (World.block_lt_of_cell? _ _ (hHeld.2.2.2.2.2))).trans (hHeld.2.2.2.2.2)
             refine ⟨_, rfl, ?_⟩
             have n0_ := Aside0.mk (Kd.R_below (ownx HO_3) hb)
             have n1_ := Aside0.mk (blk_below (g := gb126) blkz hb)
             have n2_ := Aside0.mk (below_step bel hb)
             clear HO_3
             clear BK126
             clear HB
             have HO_3 := n0_
             have BK126 := n1_
             have HB := n2_
             clear n0_ n1_ n2_
             (try clear hb)
             (try clear hb2)
             (try clear hk)
             (try clear hi)
             refine hK.out _ _ ⟨(blk_cell BK126.out 0).trans rfl, (blk_cell BK126.out 1).trans rfl, (blk_cell BK126.out 2).trans rfl, HS3_, HS4_, HS5_⟩ (fun hHeld => ?_)
             clear hK K
             refine norm_ (a' := ?_) ?_ ?_
             rotate_left
             ·
              show Act.put _ (some 30) _ = _
              simp only [Act.put, List.setIfInBounds_toArray, List.set_cons_zero, List.set_cons_succ, i64_w, i32_w]
              rfl
             refine one_ (i := 10) (N := some 31) #[true, true, true, true, true, true, true, true, true, true, true, false, false] rfl rfl (one_of HT_.out (by kernel_rfl)) (by decide) (fun K hK => ?_)
             refine goes_ Try.func78 (by kernel_rfl) rfl #[.agg #[.int .i64 t128, .int .i64 t129], .agg #[.int .i64 t130, .int .i64 t131]] (by rfl) rfl rfl mapz ?_
             with_reducible refine (wear_less.calls t128 t129 t130 t131 true _ A13.out).mono ?_
             rintro e w20 ⟨rfl, hb⟩
             have HS3_ := (hb.cell (World.block_lt_of_cell? _ _ (hHeld.2.2.2.1))).trans (hHeld.2.2.2.1)
             have HS4_ := (hb.cell (World.block_lt_of_cell? _ _ (hHeld.2.2.2.2.1))).trans (hHeld.2.2.2.2.1)
             have HS5_ := (hb.cell (World.block_lt_of_cell? _ _ (hHeld.2.2.2.2.2))).trans (hHeld.2.2.2.2.2)
             refine ⟨_, rfl, ?_⟩
             have n0_ := Aside0.mk (Kd.R_below (ownx HO_3) hb)
             have n1_ := Aside0.mk (blk_below (g := gb126) blkz hb)
             have n2_ := Aside0.mk (below_step bel hb)
             clear HO_3
             clear BK126
             clear HB
             have HO_3 := n0_
             have BK126 := n1_
             have HB := n2_
             clear n0_ n1_ n2_
             (try clear hb)
             (try clear hb2)
             (try clear hk)
             (try clear hi)
             refine hK.out _ _ ⟨(blk_cell BK126.out 0).trans rfl, (blk_cell BK126.out 1).trans rfl, (blk_cell BK126.out 2).trans rfl, HS3_, HS4_, HS5_⟩ (fun hHeld => ?_)
             clear hK K
             refine norm_ (a' := ?_) ?_ ?_
             rotate_left
             ·
              show Act.put _ (some 31) _ = _
              simp only [Act.put, List.setIfInBounds_toArray, List.set_cons_zero, List.set_cons_succ, i64_w, i32_w]
              rfl
             refine pst (i := 11) (N := some 32) (bz 13 4095) (any_of HT_.out (by kernel_rfl)) ?_
             refine pst (i := 12) (N := some 33) (bz 13 8191) (any_of HT_.out (by kernel_rfl)) ?_
             refine done_ (done_of HT_.out (by kernel_rfl)) ?_
             have hcz21_0 := blkc BK126.out 0 (.int .i64 x127000_2) rfl
             have hcz21_1 := blkc BK126.out 1 (.int .i64 x127001_2) rfl
             have hcz21_2 := blkc BK126.out 2 (.int .i64 x127002_2) rfl
             have hfz21_0 := blk_frozen BK126.out 0
             have hfz21_1 := blk_frozen BK126.out 1
             have hfz21_2 := blk_frozen BK126.out 2
             try go_wp2_with (first | ((with_reducible refine gate_builtin (b := .append) (xs := #[.tmp 61, .tmp 63]) rfl ?_); at_builtin; refine Kd.R_append k74 (w0 := w) w.heap.size rfl (.tmp 61) (.tmp 63) 71 74 (.agg #[(.int .i64 0), (.int .i64 0), (.int .i64 0)]) 24 rfl Try.underlying71 info74 rfl (by decide) (by omega) (.slice (some ad127) x3_2.length co17) x3_2 (⟨x127000_2, x127001_2, x127002_2⟩ : S74) [.int .i64 x127000_2, .int .i64 x127001_2, .int .i64 x127002_2] (fun k_ => k_ ≠ gb126) (fun _ => False) rfl rfl ?aP (fun _ hk => hk.elim) ?aF ?aO ?aB ?aS ?aL ?_; (case aP => exact k74_mkM _ _ _ (⟨x127000_2, x127001_2, x127002_2⟩ : S74)); (case aB => exact bel); (case aF => exact (fun k_ hk => Kd.freshB (g := gb126) (o := .cells #[.int .i64 x127000_2, .int .i64 x127001_2, .int .i64 x127002_2] 74 (0, 0)) blkz k_ hk)); (case aO => exact (ownx HO_3)); (case aS => exact (below_size bel)); (case aL => have := LMc15.out; omega); intro v134 w22 ho hb hg hat; rw [← Ny133.out] at ho; have n0_ := Aside0.mk (blk_grown (g := gb126) (o := .cells #[.int .i64 x127000_2, .int .i64 x127001_2, .int .i64 x127002_2] 74 (0, 0)) blkz hg (Kd.R_away HO_3.out (fun _ hk => hk))); have n1_ := Aside0.mk (hb); have n2_ := Aside0.mk (ho); clear BK126; clear HB; clear HO_3; have BK126 := n0_; have HB := n1_; have HO135 := n2_; clear n0_ n1_ n2_; clear ho hb hg hat))
             go_roundg k2
             case measure => have := HK1.out; have := HK2.out; omega
             case rel => exact ⟨(y133), (wrap64 (x10_1 + 1)), rsz, H', ⟨by have := HK1.out; have := HK2.out; omega⟩, ⟨by (with_reducible repeat (first | apply Kd.R_alloc | apply Kd.R_drewN | apply Kd.R_drew)); exact Kd.R_mono HO135.out (fun _ hk => trivial)⟩, ⟨bel⟩⟩
            ·
             rw [if_neg c15] at H
             exact absurd H (by simp)
           ·
            replace c14 := Bool.eq_false_iff.mpr c14
            subst c14
            have H1 : (if x7_2 ≤ (x3_2.length : Int) then (wear_blocks.l1 k2 (x3_2.take (x7_2 : Int).toNat) (wrap64 (x7_2 - 1)) l0 (l0.length : Int) x10_1 ((rd_T74 x3_2 x7_2).f0) (wrap64 (((rd_T74 x3_2 x7_2).f1) + x127001_2)) (wrap64 (((rd_T74 x3_2 x7_2).f2) + x127002_2))) else (none)) = some r := by rw [if_neg (show ¬ (false = true) by decide)] at H; exact H
            clear H
            have H := H1
            clear H1
            by_cases c23 : x7_2 ≤ (x3_2.length : Int)
            ·
             rw [if_pos c23] at H
             have c23b0 := eq_true c23
             have c23b1 : decide (x7_2 ≤ (x3_2.length : Int)) = true := decide_eq_true c23
             clear c23
             obtain ⟨y139, hy139⟩ : ∃ y_ : List (S74), y_ = (x3_2.take (x7_2 : Int).toNat) := ⟨_, rfl⟩
             replace H : (wear_blocks.l1 k2 y139 (wrap64 (x7_2 - 1)) l0 (l0.length : Int) x10_1 ((rd_T74 x3_2 x7_2).f0) (wrap64 (((rd_T74 x3_2 x7_2).f1) + x127001_2)) (wrap64 (((rd_T74 x3_2 x7_2).f2) + x127002_2))) = some r := by first | (rw [hy139]; with_reducible exact H) | (have H2_ := (Option.bind_some _ _).symm.trans H; rw [hy139]; with_reducible exact H2_) | (have H2_ := (Option.bind_some _ _).symm.trans H; with_reducible exact H2_) | with_reducible exact H | (rw [hy139]; exact H) | exact H
             have Ny139 := Aside0.mk hy139
             clear hy139
             have H' := Aside0.mk H
             clear H
             try go_wp2
             have n0_ := Aside0.mk (Kd.R_drew HO_3.out)
             have n1_ := Aside0.mk (blk_drew BK126.out)
             have n2_ := Aside0.mk (below_drew1 HB.out)
             clear HO_3
             clear BK126
             clear HB
             have HO_3 := n0_
             have BK126 := n1_
             have HB := n2_
             clear n0_ n1_ n2_
             obtain ⟨Ao25, co25, eo25⟩ := Kd.R_slice HO_3.out
             (first | subst eo25 | (injection eo25 with f1_ f2_ f3_; have f4_ := f1_.symm; have f5_ := f3_.symm; clear f1_ f2_ f3_; subst f4_; subst f5_))
             have p127 : 0 ≤ (x7_2 : Int) := of_decide_eq_true asz
             have q127 : x7_2 < (x3_2.length : Int) := of_decide_eq_true asz
             obtain ⟨ad127, e127, hx127_0, hx127_1, hx127_2⟩ := at_T74 (Kd.R_reads' HO_3.out).2.2 x7_2 p127 q127
             cases e127
             replace p127 := eq_true p127
             replace q127 := eq_true q127
             refine start_ (n := 13) (S := fun w' => w'.cell? ⟨gb126, 0, none⟩ = some (.int .i64 x127000_2) ∧ w'.cell? ⟨gb126, 1, none⟩ = some (.int .i64 x127001_2) ∧ w'.cell? ⟨gb126, 2, none⟩ = some (.int .i64 x127002_2) ∧ w'.cell? (ad127.add ((x7_2).toNat * 3)) = some (.int .i64 ((rd_T74 x3_2 x7_2).f0)) ∧ w'.cell? ⟨(ad127.add ((x7_2).toNat * 3)).block, (ad127.add ((x7_2).toNat * 3)).off + 1, none⟩ = some (.int .i64 ((rd_T74 x3_2 x7_2).f1)) ∧ w'.cell? ⟨(ad127.add ((x7_2).toNat * 3)).block, (ad127.add ((x7_2).toNat * 3)).off + 2, none⟩ = some (.int .i64 ((rd_T74 x3_2 x7_2).f2))) (ds := []) #[false, false, false, false, false, false, false, false, false, false, false, false, false] (by kernel_rfl) rfl rfl ⟨(blk_cell BK126.out 0).trans rfl, (blk_cell BK126.out 1).trans rfl, (blk_cell BK126.out 2).trans rfl, hx127_0, hx127_1, hx127_2⟩ (fun hHeld => ?_); refine with_tabW wear_blocks.tab7 wear_blocks.bits7 (fun HT_ HW_ => ?_)
             generalize wr.drew = w24 at HO_3 BK126 HB hx127_0 hx127_1 hx127_2 hHeld ⊢
             refine pst (i := 0) (N := some 21) (bz 13 1) (any_of HT_.out (by kernel_rfl)) ?_
             refine pst (i := 1) (N := some 22) (bz 13 3) (any_of HT_.out (by kernel_rfl)) ?_
             refine pst (i := 2) (N := some 23) (bz 13 7) (any_of HT_.out (by kernel_rfl)) ?_
             refine pst (i := 3) (N := some 24) (bz 13 15) (any_of HT_.out (by kernel_rfl)) ?_
             refine pst (i := 4) (N := some 25) (bz 13 31) (any_of HT_.out (by kernel_rfl)) ?_
             refine pst (i := 5) (N := some 26) (bz 13 63) (any_of HT_.out (by kernel_rfl)) ?_
             refine tst6 (i := 6) (N := some 27) (bz 13 127) (take_ofW HT_.out HW_.out (by kernel_rfl)) hHeld ?_
             refine tst6 (i := 8) (N := some 29) (bz 13 383) (take_ofW HT_.out HW_.out (by kernel_rfl)) hHeld ?_
             refine one_ (i := 7) (N := some 28) #[true, true, true, true, true, true, true, true, true, false, false, false, false] rfl rfl (one_of HT_.out (by kernel_rfl)) (by decide) (fun K hK => ?_)
             refine goes_ Try.func82 (by kernel_rfl) rfl #[.agg #[.int .i64 ((rd_T74 x3_2 x7_2).f0), .int .i64 ((rd_T74 x3_2 x7_2).f1), .int .i64 ((rd_T74 x3_2 x7_2).f2)]] (by rfl) rfl rfl mapz ?_
             with_reducible refine (wear_block_mean.calls k2 ((rd_T74 x3_2 x7_2).f0) ((rd_T74 x3_2 x7_2).f1) ((rd_T74 x3_2 x7_2).f2) t128 t129 _ A11.out).mono ?_
             rintro e w26 ⟨rfl, hb⟩
             have HS3_ := (hb.cell (World.block_lt_of_cell? _ _ (hHeld.2.2.2.1))).trans (hHeld.2.2.2.1)
             have HS4_ := (hb.cell (World.block_lt_of_cell? _ _ (hHeld.2.2.2.2.1))).trans (hHeld.2.2.2.2.1)
             have HS5_ := (hb.cell (World.block_lt_of_cell? _ _ (hHeld.2.2.2.2.2))).trans (hHeld.2.2.2.2.2)
             refine ⟨_, rfl, ?_⟩
             have n0_ := Aside0.mk (Kd.R_below (ownx HO_3) hb)
             have n1_ := Aside0.mk (blk_below (g := gb126) blkz hb)
             have n2_ := Aside0.mk (below_step bel hb)
             clear HO_3
             clear BK126
             clear HB
             have HO_3 := n0_
             have BK126 := n1_
             have HB := n2_
             clear n0_ n1_ n2_
             (try clear hb)
             (try clear hb2)
             (try clear hk)
             (try clear hi)
             refine hK.out _ _ ⟨(blk_cell BK126.out 0).trans rfl, (blk_cell BK126.out 1).trans rfl, (blk_cell BK126.out 2).trans rfl, HS3_, HS4_, HS5_⟩ (fun hHeld => ?_)
             clear hK K
             refine norm_ (a' := ?_) ?_ ?_
             rotate_left
             ·
              show Act.put _ (some 28) _ = _
              simp only [Act.put, List.setIfInBounds_toArray, List.set_cons_zero, List.set_cons_succ, i64_w, i32_w]
              rfl
             refine one_ (i := 9) (N := some 30) #[true, true, true, true, true, true, true, true, true, true, false, false, false] rfl rfl (one_of HT_.out (by kernel_rfl)) (by decide) (fun K hK => ?_)
             refine goes_ Try.func82 (by kernel_rfl) rfl #[.agg #[.int .i64 x127000_2, .int .i64 x127001_2, .int .i64 x127002_2]] (by rfl) rfl rfl mapz ?_
             with_reducible refine (wear_block_mean.calls k2 x127000_2 x127001_2 x127002_2 t130 t131 _ A12.out).mono ?_
             rintro e w27 ⟨rfl, hb⟩
             have HS3_ := (hb.cell (World.block_lt_of_cell? _ _ (hHeld.2.2.2.1))).trans (hHeld.2.2.2.1)
             have HS4_ := (hb.cell (World.block_lt_of_cell? _ _ (hHeld.2.2.2.2.1))).trans (hHeld.2.2.2.2.1)
             have HS5_ := (hb.cell (World.block_lt_of_cell? _ _ (hHeld.2.2.2.2.2))).trans (hHeld.2.2.2.2.2)
             refine ⟨_, rfl, ?_⟩
             have n0_ := Aside0.mk (Kd.R_below (ownx HO_3) hb)
             have n1_ := Aside0.mk (blk_below (g := gb126) blkz hb)
             have n2_ := Aside0.mk (below_step bel hb)
             clear HO_3
             clear BK126
             clear HB
             have HO_3 := n0_
             have BK126 := n1_
             have HB := n2_
             clear n0_ n1_ n2_
             (try clear hb)
             (try clear hb2)
             (try clear hk)
             (try clear hi)
             refine hK.out _ _ ⟨(blk_cell BK126.out 0).trans rfl, (blk_cell BK126.out 1).trans rfl, (blk_cell BK126.out 2).trans rfl, HS3_, HS4_, HS5_⟩ (fun hHeld => ?_)
             clear hK K
             refine norm_ (a' := ?_) ?_ ?_
             rotate_left
             ·
              show Act.put _ (some 30) _ = _
              simp only [Act.put, List.setIfInBounds_toArray, List.set_cons_zero, List.set_cons_succ, i64_w, i32_w]
              rfl
             refine one_ (i := 10) (N := some 31) #[true, true, true, true, true, true, true, true, true, true, true, false, false] rfl rfl (one_of HT_.out (by kernel_rfl)) (by decide) (fun K hK => ?_)
             refine goes_ Try.func78 (by kernel_rfl) rfl #[.agg #[.int .i64 t128, .int .i64 t129], .agg #[.int .i64 t130, .int .i64 t131]] (by rfl) rfl rfl mapz ?_
             with_reducible refine (wear_less.calls t128 t129 t130 t131 false _ A13.out).mono ?_
             rintro e w28 ⟨rfl, hb⟩
             have HS3_ := (hb.cell (World.block_lt_of_cell? _ _ (hHeld.2.2.2.1))).trans (hHeld.2.2.2.1)
             have HS4_ := (hb.cell (World.block_lt_of_cell? _ _ (hHeld.2.2.2.2.1))).trans (hHeld.2.2.2.2.1)
             have HS5_ := (hb.cell (World.block_lt_of_cell? _ _ (hHeld.2.2.2.2.2))).trans (hHeld.2.2.2.2.2)
             refine ⟨_, rfl, ?_⟩
             have n0_ := Aside0.mk (Kd.R_below (ownx HO_3) hb)
             have n1_ := Aside0.mk (blk_below (g := gb126) blkz hb)
             have n2_ := Aside0.mk (below_step bel hb)
             clear HO_3
             clear BK126
             clear HB
             have HO_3 := n0_
             have BK126 := n1_
             have HB := n2_
             clear n0_ n1_ n2_
             (try clear hb)
             (try clear hb2)
             (try clear hk)
             (try clear hi)
             refine hK.out _ _ ⟨(blk_cell BK126.out 0).trans rfl, (blk_cell BK126.out 1).trans rfl, (blk_cell BK126.out 2).trans rfl, HS3_, HS4_, HS5_⟩ (fun hHeld => ?_)
             clear hK K
             refine norm_ (a' := ?_) ?_ ?_
             rotate_left
             ·
              show Act.put _ (some 31) _ = _
              simp only [Act.put, List.setIfInBounds_toArray, List.set_cons_zero, List.set_cons_succ, i64_w, i32_w]
              rfl
             refine pst (i := 11) (N := some 32) (bz 13 4095) (any_of HT_.out (by kernel_rfl)) ?_
             refine pst (i := 12) (N := some 33) (bz 13 8191) (any_of HT_.out (by kernel_rfl)) ?_
             refine done_ (done_of HT_.out (by kernel_rfl)) ?_
             try go_wp2
             have n0_ := Aside0.mk (Kd.R_drew HO_3.out)
             have n1_ := Aside0.mk (blk_drew BK126.out)
             have n2_ := Aside0.mk (below_drew1 HB.out)
             clear HO_3
             clear BK126
             clear HB
             have HO_3 := n0_
             have BK126 := n1_
             have HB := n2_
             clear n0_ n1_ n2_
             have p136 : 0 ≤ (x7_2 : Int) := of_decide_eq_true asz
             have q136 : x7_2 < (x3_2.length : Int) := of_decide_eq_true asz
             obtain ⟨ad136, e136, hx136_0, hx136_1, hx136_2⟩ := at_T74 (Kd.R_reads' HO_3.out).2.2 x7_2 p136 q136
             obtain rfl : ad127 = ad136 := (by injection e136)
             replace p136 := eq_true p136
             replace q136 := eq_true q136
             have p137 : 0 ≤ (x7_2 : Int) := of_decide_eq_true asz
             have q137 : x7_2 < (x3_2.length : Int) := of_decide_eq_true asz
             obtain ⟨ad137, e137, hx137_0, hx137_1, hx137_2⟩ := at_T74 (Kd.R_reads' HO_3.out).2.2 x7_2 p137 q137
             obtain rfl : ad127 = ad137 := (by injection e137)
             replace p137 := eq_true p137
             replace q137 := eq_true q137
             have p138 : 0 ≤ (x7_2 : Int) := of_decide_eq_true asz
             have q138 : x7_2 < (x3_2.length : Int) := of_decide_eq_true asz
             obtain ⟨ad138, e138, hx138_0, hx138_1, hx138_2⟩ := at_T74 (Kd.R_reads' HO_3.out).2.2 x7_2 p138 q138
             obtain rfl : ad127 = ad138 := (by injection e138)
             replace p138 := eq_true p138
             replace q138 := eq_true q138
             refine start_ (n := 23) (S := fun w' => w'.cell? ⟨gb126, 0, none⟩ = some (.int .i64 x127000_2) ∧ w'.cell? ⟨gb126, 1, none⟩ = some (.int .i64 x127001_2) ∧ w'.cell? ⟨gb126, 2, none⟩ = some (.int .i64 x127002_2) ∧ w'.cell? (ad127.add ((x7_2).toNat * 3)) = some (.int .i64 ((rd_T74 x3_2 x7_2).f0)) ∧ w'.cell? ⟨(ad127.add ((x7_2).toNat * 3)).block, (ad127.add ((x7_2).toNat * 3)).off + 1, none⟩ = some (.int .i64 ((rd_T74 x3_2 x7_2).f1)) ∧ w'.cell? ⟨(ad127.add ((x7_2).toNat * 3)).block, (ad127.add ((x7_2).toNat * 3)).off + 2, none⟩ = some (.int .i64 ((rd_T74 x3_2 x7_2).f2)) ∧ w'.cell? (ad127.add ((x7_2).toNat * 3)) = some (.int .i64 ((rd_T74 x3_2 x7_2).f0)) ∧ w'.cell? ⟨(ad127.add ((x7_2).toNat * 3)).block, (ad127.add ((x7_2).toNat * 3)).off + 1, none⟩ = some (.int .i64 ((rd_T74 x3_2 x7_2).f1)) ∧ w'.cell? ⟨(ad127.add ((x7_2).toNat * 3)).block, (ad127.add ((x7_2).toNat * 3)).off + 2, none⟩ = some (.int .i64 ((rd_T74 x3_2 x7_2).f2)) ∧ w'.cell? (ad127.add ((x7_2).toNat * 3)) = some (.int .i64 ((rd_T74 x3_2 x7_2).f0)) ∧ w'.cell? ⟨(ad127.add ((x7_2).toNat * 3)).block, (ad127.add ((x7_2).toNat * 3)).off + 1, none⟩ = some (.int .i64 ((rd_T74 x3_2 x7_2).f1)) ∧ w'.cell? ⟨(ad127.add ((x7_2).toNat * 3)).block, (ad127.add ((x7_2).toNat * 3)).off + 2, none⟩ = some (.int .i64 ((rd_T74 x3_2 x7_2).f2))) (ds := [22]) #[false, false, false, false, false, false, false, false, false, false, false, false, false, false, false, false, false, false, false, false, false, false, false] (by kernel_rfl) rfl rfl ⟨(blk_cell BK126.out 0).trans rfl, (blk_cell BK126.out 1).trans rfl, (blk_cell BK126.out 2).trans rfl, hx136_0, hx136_1, hx136_2, hx137_0, hx137_1, hx137_2, hx138_0, hx138_1, hx138_2⟩ (fun hHeld => ?_); refine with_tabW wear_blocks.tab9 wear_blocks.bits9 (fun HT_ HW_ => ?_)
             generalize w28.drew = w29 at HO_3 BK126 HB hx136_0 hx136_1 hx136_2 hx137_0 hx137_1 hx137_2 hx138_0 hx138_1 hx138_2 hHeld ⊢
             refine pst (i := 0) (N := some 36) (bz 23 1) (any_of HT_.out (by kernel_rfl)) ?_
             refine pst (i := 1) (N := some 37) (bz 23 3) (any_of HT_.out (by kernel_rfl)) ?_
             refine pst (i := 2) (N := some 38) (bz 23 7) (any_of HT_.out (by kernel_rfl)) ?_
             refine pst (i := 3) (N := some 39) (bz 23 15) (any_of HT_.out (by kernel_rfl)) ?_
             refine pst (i := 5) (N := some 41) (bz 23 47) (any_of HT_.out (by kernel_rfl)) ?_
             refine pst (i := 6) (N := some 42) (bz 23 111) (any_of HT_.out (by kernel_rfl)) ?_
             refine pst (i := 7) (N := some 43) (bz 23 239) (any_of HT_.out (by kernel_rfl)) ?_
             refine pst (i := 8) (N := some 44) (bz 23 495) (any_of HT_.out (by kernel_rfl)) ?_
             refine pst (i := 10) (N := some 46) (bz 23 1519) (any_of HT_.out (by kernel_rfl)) ?_
             refine pst (i := 13) (N := some 49) (bz 23 9711) (any_of HT_.out (by kernel_rfl)) ?_
             refine pst (i := 14) (N := some 50) (bz 23 26095) (any_of HT_.out (by kernel_rfl)) ?_
             refine pst (i := 15) (N := some 51) (bz 23 58863) (any_of HT_.out (by kernel_rfl)) ?_
             refine pst (i := 16) (N := some 52) (bz 23 124399) (any_of HT_.out (by kernel_rfl)) ?_
             refine pst (i := 18) (N := some 54) (bz 23 386543) (any_of HT_.out (by kernel_rfl)) ?_
             refine tst12 (i := 4) (N := some 40) (bz 23 386559) (take_ofW HT_.out HW_.out (by kernel_rfl)) hHeld ?_
             refine tst12 (i := 9) (N := some 45) (bz 23 387071) (take_ofW HT_.out HW_.out (by kernel_rfl)) hHeld ?_
             refine tst12 (i := 11) (N := some 47) (bz 23 389119) (take_ofW HT_.out HW_.out (by kernel_rfl)) hHeld ?_
             refine pst (i := 12) (N := some 48) (bz 23 393215) (any_of HT_.out (by kernel_rfl)) ?_
             refine tst12 (i := 17) (N := some 53) (bz 23 524287) (take_ofW HT_.out HW_.out (by kernel_rfl)) hHeld ?_
             refine tst12 (i := 19) (N := some 55) (bz 23 1048575) (take_ofW HT_.out HW_.out (by kernel_rfl)) hHeld ?_
             refine pst (i := 20) (N := some 56) (bz 23 2097151) (any_of HT_.out (by kernel_rfl)) ?_
             refine pst (i := 21) (N := some 57) (bz 23 4194303) (any_of HT_.out (by kernel_rfl)) ?_
             refine last_ (i := 22) (N := none) #[true, true, true, true, true, true, true, true, true, true, true, true, true, true, true, true, true, true, true, true, true, true, true] rfl rfl (one_of HT_.out (by kernel_rfl)) (by decide) (fun K hK => ?_)
             have hs30 : w29.cell? ⟨gb126, 0, none⟩ = some (.int .i64 x127000_2) := (blk_cell BK126.out 0).trans rfl
             have hfs30 := blk_frozen BK126.out 0
             have hs31 : w29.cell? ⟨gb126, 1, none⟩ = some (.int .i64 x127001_2) := (blk_cell BK126.out 1).trans rfl
             have hfs31 := blk_frozen BK126.out 1
             have hs32 : w29.cell? ⟨gb126, 2, none⟩ = some (.int .i64 x127002_2) := (blk_cell BK126.out 2).trans rfl
             have hfs32 := blk_frozen BK126.out 2
             refine skip_ (w1 := ?_) (by rfl) rfl ?_ ?_
             rotate_left
             ·
              go_simp
              rfl
             refine hK.out _ _ ?_
             clear hK K
             refine done_ (done_of HT_.out (by kernel_rfl)) ?_
             have n0_ : Aside0 (Kd.R k74 74 (((w29.setCell ⟨gb126, 0, none⟩ (.int .i64 ((rd_T74 x3_2 x7_2).f0))).setCell ⟨gb126, 1, none⟩ (.int .i64 (wrap64 (((rd_T74 x3_2 x7_2).f1) + x127001_2)))).setCell ⟨gb126, 2, none⟩ (.int .i64 (wrap64 (((rd_T74 x3_2 x7_2).f2) + x127002_2)))) w.heap.size (fun k_ => k_ ≠ gb126) (.slice (some ad127) x3_2.length co25) x3_2) := ⟨by (with_reducible repeat (first | apply Kd.R_alloc | apply Kd.R_drewN | apply Kd.R_drew)); exact Kd.R_mono (Kd.R_far (p := ⟨gb126, 2, none⟩) (Kd.R_far (p := ⟨gb126, 1, none⟩) (Kd.R_far (p := ⟨gb126, 0, none⟩) (Kd.R_mono HO_3.out (fun k_ hk => (⟨hk, hk⟩ : _ ∧ k_ ≠ gb126))) (fun _ hk => hk.2) (.int .i64 ((rd_T74 x3_2 x7_2).f0))) (fun _ hk => hk.2) (.int .i64 (wrap64 (((rd_T74 x3_2 x7_2).f1) + x127001_2)))) (fun _ hk => hk.2) (.int .i64 (wrap64 (((rd_T74 x3_2 x7_2).f2) + x127002_2)))) (fun _ hk => hk.1)⟩
             have n1_ : Aside0 ((((w29.setCell ⟨gb126, 0, none⟩ (.int .i64 ((rd_T74 x3_2 x7_2).f0))).setCell ⟨gb126, 1, none⟩ (.int .i64 (wrap64 (((rd_T74 x3_2 x7_2).f1) + x127001_2)))).setCell ⟨gb126, 2, none⟩ (.int .i64 (wrap64 (((rd_T74 x3_2 x7_2).f2) + x127002_2)))).heap[gb126]? = some (.cells #[.int .i64 ((rd_T74 x3_2 x7_2).f0), .int .i64 (wrap64 (((rd_T74 x3_2 x7_2).f1) + x127001_2)), .int .i64 (wrap64 (((rd_T74 x3_2 x7_2).f2) + x127002_2))] 74 (0, 0))) := ⟨by (with_reducible repeat (first | refine blk_drewN ?_ _ | refine blk_drew ?_ | refine blk_alloc ?_ _)); refine blk_put (cs := #[.int .i64 ((rd_T74 x3_2 x7_2).f0), .int .i64 (wrap64 (((rd_T74 x3_2 x7_2).f1) + x127001_2)), .int .i64 x127002_2]) ?_ 2 _ rfl; (with_reducible repeat (first | refine blk_drewN ?_ _ | refine blk_drew ?_ | refine blk_alloc ?_ _)); refine blk_put (cs := #[.int .i64 ((rd_T74 x3_2 x7_2).f0), .int .i64 x127001_2, .int .i64 x127002_2]) ?_ 1 _ rfl; (with_reducible repeat (first | refine blk_drewN ?_ _ | refine blk_drew ?_ | refine blk_alloc ?_ _)); refine blk_put (cs := #[.int .i64 x127000_2, .int .i64 x127001_2, .int .i64 x127002_2]) ?_ 0 _ rfl; (with_reducible repeat (first | refine blk_drewN ?_ _ | refine blk_drew ?_ | refine blk_alloc ?_ _)); exact BK126.out⟩
             have n2_ : Aside0 (Below w.heap.size w (((w29.setCell ⟨gb126, 0, none⟩ (.int .i64 ((rd_T74 x3_2 x7_2).f0))).setCell ⟨gb126, 1, none⟩ (.int .i64 (wrap64 (((rd_T74 x3_2 x7_2).f1) + x127001_2)))).setCell ⟨gb126, 2, none⟩ (.int .i64 (wrap64 (((rd_T74 x3_2 x7_2).f2) + x127002_2))))) := ⟨bel⟩
             (try clear HO_3)
             (try clear BK126)
             (try clear HB)
             generalize (((w29.setCell ⟨gb126, 0, none⟩ (.int .i64 ((rd_T74 x3_2 x7_2).f0))).setCell ⟨gb126, 1, none⟩ (.int .i64 (wrap64 (((rd_T74 x3_2 x7_2).f1) + x127001_2)))).setCell ⟨gb126, 2, none⟩ (.int .i64 (wrap64 (((rd_T74 x3_2 x7_2).f2) + x127002_2)))) = w33 at n0_ n1_ n2_ ⊢
             have HO_3 := n0_
             have BK126 := n1_
             have HB := n2_
             clear n0_ n1_ n2_
             have q34 : (x7_2 : Int) ≤ ((x3_2.length : Int) : Int) := of_decide_eq_true asz
             obtain ⟨i034, hi034, _, hsz34, _⟩ := info_parts info74
             have hcut34 := cut_to (P := Try.prog) 71 74 .i64 Try.underlying71 hi034 (some ad127) x3_2.length co25 x7_2 (of_decide_eq_true asz) q34 (Kd.R_reads' HO_3.out).2.1
             have hr34 := Kd.R_take (m := (x7_2 : Int).toNat) HO_3.out (by omega)
             have hy34 : y139.length = (x7_2 : Int).toNat := (by rw [Ny139.out, List.length_take]; omega)
             rw [← Ny139.out] at hr34
             rw [← hy34] at hr34 hcut34
             clear hy34 hi034 hsz34 HO_3
             have HO141 := Aside0.mk hr34
             clear hr34
             replace q34 := eq_true q34
             try go_wp2
             go_roundg k2
             case measure => have := HK1.out; have := HK2.out; omega
             case rel => exact ⟨(y139), (wrap64 (x7_2 - 1)), ((rd_T74 x3_2 x7_2).f0), (wrap64 (((rd_T74 x3_2 x7_2).f1) + x127001_2)), (wrap64 (((rd_T74 x3_2 x7_2).f2) + x127002_2)), rsz, H', ⟨by have := HK1.out; have := HK2.out; omega⟩, ⟨by (with_reducible repeat (first | apply Kd.R_alloc | apply Kd.R_drewN | apply Kd.R_drew)); exact HO141.out⟩, ⟨blkz⟩, ⟨bel⟩⟩
            ·
             rw [if_neg c23] at H
             exact absurd H (by simp)
          ·
           rw [if_neg c10] at H
           exact absurd H (by simp)
         ·
          rw [if_neg c9] at H
          exact absurd H (by simp)
        ·
         rw [if_neg c8] at H
         have c8b0 : decide (0 ≤ x7_2) = false := decide_eq_false c8
         clear c8
         by_cases c35 : x3_2.length < 5864062014805
         ·
          rw [if_pos c35] at H
          have LMc35 := Aside0.mk c35
          clear c35
          obtain ⟨y142, hy142⟩ : ∃ y_ : List (S74), y_ = (x3_2 ++ [(⟨x127000_2, x127001_2, x127002_2⟩ : S74)]) := ⟨_, rfl⟩
          replace H : (wear_blocks.l0 k2 y142 l0 (l0.length : Int) (wrap64 (x10_1 + 1))) = some r := by first | (rw [hy142]; with_reducible exact H) | (have H2_ := (Option.bind_some _ _).symm.trans H; rw [hy142]; with_reducible exact H2_) | (have H2_ := (Option.bind_some _ _).symm.trans H; with_reducible exact H2_) | with_reducible exact H | (rw [hy142]; exact H) | exact H
          have Ny142 := Aside0.mk hy142
          clear hy142
          have H' := Aside0.mk H
          clear H
          try go_wp2
          have n0_ := Aside0.mk (Kd.R_drew HO_3.out)
          have n1_ := Aside0.mk (blk_drew BK126.out)
          have n2_ := Aside0.mk (below_drew1 HB.out)
          clear HO_3
          clear BK126
          clear HB
          have HO_3 := n0_
          have BK126 := n1_
          have HB := n2_
          clear n0_ n1_ n2_
          refine start_ (n := 13) (S := fun w' => True) (ds := []) #[false, false, false, false, false, false, false, false, false, false, false, false, false] (by kernel_rfl) rfl rfl trivial (fun hHeld => ?_); refine with_tabW wear_blocks.tab7 wear_blocks.bits7 (fun HT_ HW_ => ?_)
          generalize wr.drew = w36 at HO_3 BK126 HB hHeld ⊢
          refine pst (i := 0) (N := some 21) (bz 13 1) (any_of HT_.out (by kernel_rfl)) ?_
          refine pst (i := 1) (N := some 22) (bz 13 3) (any_of HT_.out (by kernel_rfl)) ?_
          refine pst (i := 2) (N := some 23) (bz 13 7) (any_of HT_.out (by kernel_rfl)) ?_
          refine pso (i := 3) (N := some 24) (bz 13 15) (any_of HT_.out (by kernel_rfl)) ?_
          refine pso (i := 4) (N := some 25) (bz 13 31) (any_of HT_.out (by kernel_rfl)) ?_
          refine pso (i := 5) (N := some 26) (bz 13 63) (any_of HT_.out (by kernel_rfl)) ?_
          refine pso (i := 6) (N := some 27) (bz 13 127) (any_of HT_.out (by kernel_rfl)) ?_
          refine pso (i := 7) (N := some 28) (bz 13 255) (any_of HT_.out (by kernel_rfl)) ?_
          refine pso (i := 8) (N := some 29) (bz 13 511) (any_of HT_.out (by kernel_rfl)) ?_
          refine pso (i := 9) (N := some 30) (bz 13 1023) (any_of HT_.out (by kernel_rfl)) ?_
          refine pso (i := 10) (N := some 31) (bz 13 2047) (any_of HT_.out (by kernel_rfl)) ?_
          refine pso (i := 11) (N := some 32) (bz 13 4095) (any_of HT_.out (by kernel_rfl)) ?_
          refine pst (i := 12) (N := some 33) (bz 13 8191) (any_of HT_.out (by kernel_rfl)) ?_
          refine done_ (done_of HT_.out (by kernel_rfl)) ?_
          have hcz37_0 := blkc BK126.out 0 (.int .i64 x127000_2) rfl
          have hcz37_1 := blkc BK126.out 1 (.int .i64 x127001_2) rfl
          have hcz37_2 := blkc BK126.out 2 (.int .i64 x127002_2) rfl
          have hfz37_0 := blk_frozen BK126.out 0
          have hfz37_1 := blk_frozen BK126.out 1
          have hfz37_2 := blk_frozen BK126.out 2
          try go_wp2_with (first | ((with_reducible refine gate_builtin (b := .append) (xs := #[.tmp 61, .tmp 63]) rfl ?_); at_builtin; refine Kd.R_append k74 (w0 := w) w.heap.size rfl (.tmp 61) (.tmp 63) 71 74 (.agg #[(.int .i64 0), (.int .i64 0), (.int .i64 0)]) 24 rfl Try.underlying71 info74 rfl (by decide) (by omega) u3 x3_2 (⟨x127000_2, x127001_2, x127002_2⟩ : S74) [.int .i64 x127000_2, .int .i64 x127001_2, .int .i64 x127002_2] (fun k_ => k_ ≠ gb126) (fun _ => False) rfl rfl ?aP (fun _ hk => hk.elim) ?aF ?aO ?aB ?aS ?aL ?_; (case aP => exact k74_mkM _ _ _ (⟨x127000_2, x127001_2, x127002_2⟩ : S74)); (case aB => exact bel); (case aF => exact (fun k_ hk => Kd.freshB (g := gb126) (o := .cells #[.int .i64 x127000_2, .int .i64 x127001_2, .int .i64 x127002_2] 74 (0, 0)) blkz k_ hk)); (case aO => exact (ownx HO_3)); (case aS => exact (below_size bel)); (case aL => have := LMc35.out; omega); intro v143 w38 ho hb hg hat; rw [← Ny142.out] at ho; have n0_ := Aside0.mk (blk_grown (g := gb126) (o := .cells #[.int .i64 x127000_2, .int .i64 x127001_2, .int .i64 x127002_2] 74 (0, 0)) blkz hg (Kd.R_away HO_3.out (fun _ hk => hk))); have n1_ := Aside0.mk (hb); have n2_ := Aside0.mk (ho); clear BK126; clear HB; clear HO_3; have BK126 := n0_; have HB := n1_; have HO144 := n2_; clear n0_ n1_ n2_; clear ho hb hg hat))
          go_roundg k2
          case measure => have := HK1.out; have := HK2.out; omega
          case rel => exact ⟨(y142), (wrap64 (x10_1 + 1)), rsz, H', ⟨by have := HK1.out; have := HK2.out; omega⟩, ⟨by (with_reducible repeat (first | apply Kd.R_alloc | apply Kd.R_drewN | apply Kd.R_drew)); exact Kd.R_mono HO144.out (fun _ hk => trivial)⟩, ⟨bel⟩⟩
         ·
          rw [if_neg c35] at H
          exact absurd H (by simp)
     ·
      rw [if_neg c4] at H
      exact absurd H (by simp)
    ·
     rw [if_neg c3] at H
     exact absurd H (by simp)
   ·
    rw [if_neg c2] at H
    have c2b0 : decide (x10_1 < (l0.length : Int)) = false := decide_eq_false c2
    clear c2
    obtain rfl := Option.some.inj H
    go_wp2
    go_ret
    exact ⟨_, ezz, by (with_reducible repeat (first | apply Kd.R_alloc | apply Kd.R_drewN | apply Kd.R_drew)); exact HO_3.out, bel⟩

/-! ### slices_Repeat_api_Ratio_api_Ratio: function 81 -/
theorem slices_Repeat_api_Ratio_api_Ratio.run_copy_cells (P : Program) (w : World) (dT sT ty elem : TypeId) (g o dLen dCap : Nat) (a : Addr) (sLen sCap : Nat) (cur : Array Value) (t : TypeId) (cs : List Value) (sz : Nat)
  (hu : P.underlying dT = some (.slice elem)) (hs : (P.info? elem).map (·.size) = some sz)
  (hg : w.heap[g]? = some (.cells cur t (0, 0))) (hn : cs.length = Nat.min sLen dLen * sz)
  (hsrc : ∀ j v, cs[j]? = some v → w.cell? (a.add j) = some v) (hfit : o + cs.length ≤ cur.size) (h1 : ∀ v ∈ cs, v.oneCell' = true) :
  (Builtin.copy_ #[dT, sT] ty #[.slice (some ⟨g, o, none⟩) dLen dCap, .slice (some a) sLen sCap]).run P w =
   .ok (goInt (Nat.min sLen dLen)) (w.setRow g (cur.toList.take o ++ cs ++ cur.toList.drop (o + cs.length)).toArray) := by
 have hl := run_firstCells_some (P := P) (w := w) sz (Nat.min sLen dLen) a sLen sCap cs hn hsrc
 have hst := run_storeCells_at P g o t cs 0 cur w hg (by simpa using hfit) h1
 cases hq : P.info? elem with
 | none => simp [hq] at hs
 | some i =>
  have hi : i.size = sz := by simpa [hq] using hs
  simp [Builtin.copy_, run_underlying hu, Builtin.lenOf, sizeOf, typeInfo, hq, hi, hl, hst]


theorem slices_Repeat_api_Ratio_api_Ratio.mul_one_calls (c : Int) (h0 : 0 ≤ c) (h1 : c ≤ 1000000) (w : World) :
  Calls Try.prog 90 #[.int .u64 1, .int .u64 c] w fun e w' => e = .returned (.tuple #[.int .u64 0, .int .u64 c]) ∧ w = w' := by
 obtain ⟨m, rfl⟩ := Int.eq_ofNat_of_zero_le h0
 have h2 : m < 18446744073709551616 := by omega
 refine (Try.bits_Mul 1 m (by decide) h2 w).mono ?_
 rintro e w' ⟨rfl, rfl⟩
 have e1 : 1 * m / 18446744073709551616 = 0 := by omega
 have e2 : 1 * m % 18446744073709551616 = m := by omega
 rw [e1, e2]; exact ⟨rfl, rfl⟩


def slices_Repeat_api_Ratio_api_Ratio.pairs (x : S35) (n : Nat) : List Value := (List.replicate n [Value.int .i64 x.f0, Value.int .i64 x.f1]).flatten
def slices_Repeat_api_Ratio_api_Ratio.rowB (x : S35) (n m : Nat) : Array Value := (slices_Repeat_api_Ratio_api_Ratio.pairs x n ++ slices_Repeat_api_Ratio_api_Ratio.pairs ⟨0, 0⟩ (m - n)).toArray
theorem slices_Repeat_api_Ratio_api_Ratio.pairs_len (x : S35) (n : Nat) : (slices_Repeat_api_Ratio_api_Ratio.pairs x n).length = 2 * n := by
 induction n with
 | zero => rfl
 | succ n ih => simp only [slices_Repeat_api_Ratio_api_Ratio.pairs, List.replicate_succ, List.flatten_cons, List.length_append, List.length_cons, List.length_nil]; simp only [slices_Repeat_api_Ratio_api_Ratio.pairs] at ih; omega
theorem slices_Repeat_api_Ratio_api_Ratio.pairs_add (x : S35) (n k : Nat) : slices_Repeat_api_Ratio_api_Ratio.pairs x (n + k) = slices_Repeat_api_Ratio_api_Ratio.pairs x n ++ slices_Repeat_api_Ratio_api_Ratio.pairs x k := by
 simp only [slices_Repeat_api_Ratio_api_Ratio.pairs, ← List.replicate_append_replicate, List.flatten_append]
theorem slices_Repeat_api_Ratio_api_Ratio.pairs_one (x : S35) (n : Nat) : ∀ v ∈ slices_Repeat_api_Ratio_api_Ratio.pairs x n, v.oneCell' = true := by
 intro v hv
 obtain ⟨l, hl, hv⟩ := List.mem_flatten.1 hv
 rw [List.eq_of_mem_replicate hl] at hv
 simp at hv
 rcases hv with rfl | rfl <;> rfl
theorem slices_Repeat_api_Ratio_api_Ratio.made_pairs (x : S35) (m : Nat) : madeCells #[Value.int .i64 0, Value.int .i64 0] (m * 2) = slices_Repeat_api_Ratio_api_Ratio.rowB x 0 m := by
 have h : ∀ k, (List.range (k * 2)).map (fun j => #[Value.int .i64 0, Value.int .i64 0][j % 2]!) = slices_Repeat_api_Ratio_api_Ratio.pairs ⟨0, 0⟩ k := by
  intro k
  induction k with
  | zero => rfl
  | succ k ih =>
   rw [slices_Repeat_api_Ratio_api_Ratio.pairs_add, ← ih, Nat.succ_mul, List.range_succ, List.range_succ]
   simp only [List.map_append, List.map_cons, List.map_nil, List.append_assoc]
   congr 1
   have e1 : k * 2 % 2 = 0 := by omega
   have e2 : (k * 2 + 1) % 2 = 1 := by omega
   rw [e1, e2]; rfl
 apply Array.ext'
 simp only [madeCells, slices_Repeat_api_Ratio_api_Ratio.rowB, Nat.sub_zero, Array.toList_map, Array.toList_range]
 rw [← h m]
 simp [slices_Repeat_api_Ratio_api_Ratio.pairs]
theorem slices_Repeat_api_Ratio_api_Ratio.setRow_alloc (w : World) (c d : Array Value) (t : TypeId) : (w.alloc (.cells c t)).setRow w.heap.size d = w.alloc (.cells d t) := by
 show ({ w with heap := (w.heap.push (.cells c t)).modify w.heap.size _ } : World) = { w with heap := w.heap.push (.cells d t) }
 congr 1
 apply Array.ext
 ·
  simp
 ·
  intro k h1 h2
  rw [Array.getElem_modify]
  by_cases hk : w.heap.size = k
  ·
   subst hk; simp
  ·
   rw [if_neg hk]
   have h3 : k < w.heap.size := by simp at h2; omega
   rw [Array.getElem_push_lt h3, Array.getElem_push_lt h3]
theorem slices_Repeat_api_Ratio_api_Ratio.setRow_drewN (w : World) (g : Nat) (c : Array Value) (q : Nat) : (w.drewN q).setRow g c = (w.setRow g c).drewN q := rfl

theorem slices_Repeat_api_Ratio_api_Ratio.copy_first (x : S35) (m : Nat) (A0 : Option Addr) (c0 : Nat) (w : World) (hr0 : Kd.C k35 w A0 1 [x]) (hm : 1 ≤ m) :
  (Builtin.copy_ #[31, 31] 3 #[.slice (some ⟨w.heap.size, 0, none⟩) m m, .slice A0 1 c0]).run Try.prog (w.alloc (.cells (slices_Repeat_api_Ratio_api_Ratio.rowB x 0 m) 35)) = .ok (.int .i64 1) (w.alloc (.cells (slices_Repeat_api_Ratio_api_Ratio.rowB x 1 m) 35)) := by
 obtain ⟨ad, rfl, hx0, hx1⟩ := at_T35 hr0 0 (by omega) (by omega)
 have hsz : (Try.prog.info? 35).map (·.size) = some 2 := by kernel_rfl
 have e0 : rd_T35 [x] 0 = x := rfl
 rw [e0] at hx0 hx1
 have hmin : Nat.min 1 m = 1 := Nat.min_eq_left hm
 have hlt : ∀ (a : Addr) v, w.cell? a = some v → (w.alloc (.cells (slices_Repeat_api_Ratio_api_Ratio.rowB x 0 m) 35)).cell? a = some v := fun a v h => pw_cell_below (below_alloc (Below.refl _ _) _) h
 have := slices_Repeat_api_Ratio_api_Ratio.run_copy_cells Try.prog (w.alloc (.cells (slices_Repeat_api_Ratio_api_Ratio.rowB x 0 m) 35)) 31 31 3 35 w.heap.size 0 m m ad 1 c0 (slices_Repeat_api_Ratio_api_Ratio.rowB x 0 m) 35 [.int .i64 x.f0, .int .i64 x.f1] 2 Try.underlying31 hsz (heap_alloc_new w _)
  (by rw [hmin]; rfl)
  (by
   intro j v hj
   match j, hj with
   | 0, hj =>
    cases hj
    exact hlt _ _ hx0
   | 1, hj =>
    cases hj
    have : ad.add 1 = ⟨(ad.add ((0 : Int).toNat * 2)).block, (ad.add ((0 : Int).toNat * 2)).off + 1, none⟩ := by simp [Addr.add]
    rw [this]
    exact hlt _ _ hx1)
  (by simp [slices_Repeat_api_Ratio_api_Ratio.rowB, slices_Repeat_api_Ratio_api_Ratio.pairs_len]; omega)
  (by intro v hv; simp at hv; rcases hv with rfl | rfl <;> rfl)
 rw [this, slices_Repeat_api_Ratio_api_Ratio.setRow_alloc, hmin]
 have e : (slices_Repeat_api_Ratio_api_Ratio.rowB x 0 m).toList.take 0 ++ [Value.int .i64 x.f0, Value.int .i64 x.f1] ++ (slices_Repeat_api_Ratio_api_Ratio.rowB x 0 m).toList.drop (0 + [Value.int .i64 x.f0, Value.int .i64 x.f1].length) = (slices_Repeat_api_Ratio_api_Ratio.rowB x 1 m).toList := by
  obtain ⟨k, rfl⟩ : ∃ k, m = 1 + k := ⟨m - 1, by omega⟩
  have e1 : 1 + k - 1 = k := by omega
  simp only [slices_Repeat_api_Ratio_api_Ratio.rowB, Nat.sub_zero, e1, slices_Repeat_api_Ratio_api_Ratio.pairs_add]
  simp [slices_Repeat_api_Ratio_api_Ratio.pairs]
 rw [e]
 rfl

theorem slices_Repeat_api_Ratio_api_Ratio.copy_next (x : S35) (n m q : Nat) (w : World) (h1 : 1 ≤ n) (h2 : n < m) :
  (Builtin.copy_ #[31, 31] 3 #[.slice (some ⟨w.heap.size, n * 2, none⟩) (m - n) (m - n), .slice (some ⟨w.heap.size, 0, none⟩) n m]).run Try.prog ((w.alloc (.cells (slices_Repeat_api_Ratio_api_Ratio.rowB x n m) 35)).drewN q) = .ok (.int .i64 (min n (m - n) : Nat)) ((w.alloc (.cells (slices_Repeat_api_Ratio_api_Ratio.rowB x (n + min n (m - n)) m) 35)).drewN q) := by
 have hsz : (Try.prog.info? 35).map (·.size) = some 2 := by kernel_rfl
 generalize hk : min n (m - n) = k
 have hk' : Nat.min n (m - n) = k := hk
 have hk1 : k ≤ n := by omega
 have hk2 : k ≤ m - n := by omega
 obtain ⟨r, hr⟩ : ∃ r, m - n = k + r := ⟨m - n - k, by omega⟩
 obtain ⟨s, rfl⟩ : ∃ s, n = k + s := ⟨n - k, by omega⟩
 have := slices_Repeat_api_Ratio_api_Ratio.run_copy_cells Try.prog ((w.alloc (.cells (slices_Repeat_api_Ratio_api_Ratio.rowB x (k + s) m) 35)).drewN q) 31 31 3 35 w.heap.size ((k + s) * 2) (m - (k + s)) (m - (k + s)) ⟨w.heap.size, 0, none⟩ (k + s) m (slices_Repeat_api_Ratio_api_Ratio.rowB x (k + s) m) 35 (slices_Repeat_api_Ratio_api_Ratio.pairs x k) 2 Try.underlying31 hsz (heap_alloc_new w _)
  (by rw [hk', slices_Repeat_api_Ratio_api_Ratio.pairs_len]; omega)
  (by
   intro j v hj
   have hjl : j < 2 * k := by
    have := (List.getElem?_eq_some_iff.1 hj).1
    rwa [slices_Repeat_api_Ratio_api_Ratio.pairs_len] at this
   have e1 : (⟨w.heap.size, 0, none⟩ : Addr).add j = ⟨w.heap.size, j, none⟩ := add_plain _ _
   rw [e1]
   have e2 : ((w.alloc (.cells (slices_Repeat_api_Ratio_api_Ratio.rowB x (k + s) m) 35)).drewN q).cell? ⟨w.heap.size, j, none⟩ = (slices_Repeat_api_Ratio_api_Ratio.rowB x (k + s) m)[j]? := cell_of_row _ _ _ _ _ _ (heap_alloc_new w _)
   rw [e2]
   simp only [slices_Repeat_api_Ratio_api_Ratio.rowB, slices_Repeat_api_Ratio_api_Ratio.pairs_add, List.getElem?_toArray, List.append_assoc]
   rw [List.getElem?_append_left (by rw [slices_Repeat_api_Ratio_api_Ratio.pairs_len]; omega)]
   exact hj)
  (by simp only [slices_Repeat_api_Ratio_api_Ratio.rowB, List.size_toArray, List.length_append, slices_Repeat_api_Ratio_api_Ratio.pairs_len]; omega)
  (slices_Repeat_api_Ratio_api_Ratio.pairs_one x k)
 rw [this, hk']
 have e : (slices_Repeat_api_Ratio_api_Ratio.rowB x (k + s) m).toList.take ((k + s) * 2) ++ slices_Repeat_api_Ratio_api_Ratio.pairs x k ++ (slices_Repeat_api_Ratio_api_Ratio.rowB x (k + s) m).toList.drop ((k + s) * 2 + (slices_Repeat_api_Ratio_api_Ratio.pairs x k).length) = (slices_Repeat_api_Ratio_api_Ratio.rowB x (k + s + k) m).toList := by
  have e3 : m - (k + s + k) = r := by omega
  simp only [slices_Repeat_api_Ratio_api_Ratio.rowB, hr, e3, slices_Repeat_api_Ratio_api_Ratio.pairs_len]
  rw [slices_Repeat_api_Ratio_api_Ratio.pairs_add x (k + s) k, slices_Repeat_api_Ratio_api_Ratio.pairs_add _ k r]
  rw [List.take_append_of_le_length (by rw [slices_Repeat_api_Ratio_api_Ratio.pairs_len]; omega), List.take_of_length_le (by rw [slices_Repeat_api_Ratio_api_Ratio.pairs_len]; omega)]
  rw [List.drop_append, List.drop_eq_nil_of_le (by rw [slices_Repeat_api_Ratio_api_Ratio.pairs_len]; omega), slices_Repeat_api_Ratio_api_Ratio.pairs_len, List.nil_append]
  rw [List.drop_append, List.drop_eq_nil_of_le (by rw [slices_Repeat_api_Ratio_api_Ratio.pairs_len]; omega), slices_Repeat_api_Ratio_api_Ratio.pairs_len, List.nil_append]
  have e4 : (k + s) * 2 + 2 * k - 2 * (k + s) - 2 * k = 0 := by omega
  rw [e4]; simp
 rw [e, slices_Repeat_api_Ratio_api_Ratio.setRow_drewN, slices_Repeat_api_Ratio_api_Ratio.setRow_alloc]
 rfl
set_option maxHeartbeats 2000000 in
set_option maxRecDepth 100000 in
theorem slices_Repeat_api_Ratio_api_Ratio.rep_calls (A0 : Option Addr) (c0 : Nat) (x : S35) (m : Nat) (w : World) (hr0 : Kd.C k35 w A0 1 [x]) (h1 : 1 ≤ m) (h2 : m ≤ 1000) :
  Calls Try.prog 81 #[.slice A0 1 c0, .int .i64 (m : Int)] w fun e w' => ∃ q, e = .returned (.slice (some ⟨w.heap.size, 0, none⟩) m m) ∧ w' = (w.alloc (.cells (slices_Repeat_api_Ratio_api_Ratio.rowB x m m) 35)).drewN q := by
 have H1 := Aside0.mk (And.intro h1 h2)
 have hc1 : decide ((m : Int) < 0) = false := decide_eq_false (by omega)
 have hw1 : IntKind.u64.wrap (m : Int) = m := by rw [IntKind.wrap_u64]; omega
 have hw2 : IntKind.u64.wrap 1 = 1 := by decide
 have hu31 := Try.underlying31
 have hmk : ∀ W : World, (Instr.makeSlice 31 (.int .i64 (m : Int)) (.int .i64 (m : Int))).run Try.prog W = .ok (.slice (some ⟨W.heap.size, 0, none⟩) m m) (W.alloc (.cells (slices_Repeat_api_Ratio_api_Ratio.rowB x 0 m) 35)) := by
  intro W
  have hi35 : (Try.prog.info? 35).map (fun i => (i.zero, i.size, i.bytes)) = some (some (.agg #[.int .i64 0, .int .i64 0]), 2, 16) := by kernel_rfl
  obtain ⟨i0, hi, hzz⟩ := Option.map_eq_some_iff.1 hi35
  simp only [Prod.mk.injEq] at hzz
  obtain ⟨hz0, hz1, hz2⟩ := hzz
  have := run_make (P := Try.prog) W 31 35 i0 _ Try.underlying31 hi hz0 .i64 .i64 m m (by omega) (by omega) (by rw [hz2]; omega) (by omega)
  rw [hz1] at this
  simp only [Int.toNat_natCast] at this
  rw [this, ← slices_Repeat_api_Ratio_api_Ratio.made_pairs x m]; rfl
 have hc2 : decide (9223372036854775807 < (m : Int)) = false := decide_eq_false (by omega)
 have hw3 : wrap64 (m : Int) = m := by unfold wrap64; omega
 have hw4 : IntKind.i64.wrap (m : Int) = m := by rw [IntKind.wrap_i64]; omega
 have hcp := slices_Repeat_api_Ratio_api_Ratio.copy_first x m A0 c0 w hr0 h1
 clear h1 h2 hr0
 go_enter Try.func81, Try.ntmps81
 go_wp2_with (first | (go_at_call 90; refine (slices_Repeat_api_Ratio_api_Ratio.mul_one_calls m (by have := H1.out; omega) (by have := H1.out; omega) _).mono ?_; rintro e w' ⟨rfl, rfl⟩))
 go_loopg [8] (m - 1) (fun kq v8 w' => ∃ n q : Nat, v8 = .int .i64 (n : Int) ∧ Aside0 (1 ≤ n ∧ n ≤ m ∧ kq = m - n) ∧ w' = (w.alloc (.cells (slices_Repeat_api_Ratio_api_Ratio.rowB x n m) 35)).drewN q)
 case atStart => exact ⟨1, 0, rfl, ⟨by omega, by have := H1.out; omega, rfl⟩, rfl⟩
 case round =>
  clear hcp
  obtain ⟨n, q, rfl, HI, rfl⟩ := hrel
  by_cases hlt : n < m
  ·
   have h1 : decide ((n : Int) < (m : Int)) = true := decide_eq_true (by omega)
   have hcp := fun q => slices_Repeat_api_Ratio_api_Ratio.copy_next x n m q w HI.out.1 hlt
   have ha : (n : Int) ≤ (m : Int) := by omega
   have ha2 : n ≤ m := by omega
   have ha3 : m ≠ n := by omega
   go_wp2
   go_region
   go_wp2
   clear hcp
   go_roundg (m - (n + min n (m - n)))
   case measure => have := HI.out; omega
   case rel =>
    have hw : wrap64 ((n : Int) + ((min n (m - n) : Nat) : Int)) = ((n + min n (m - n) : Nat) : Int) := by unfold wrap64; have := H1.out; omega
    exact ⟨n + min n (m - n), q + 1, by rw [hw], ⟨by have := HI.out; omega, by omega, rfl⟩, rfl⟩
  ·
   have h1 : decide ((n : Int) < (m : Int)) = false := decide_eq_false (by omega)
   obtain rfl : n = m := by have := HI.out; omega
   go_wp2
   go_ret
   exact ⟨q, rfl, rfl⟩

theorem slices_Repeat_api_Ratio_api_Ratio.rep_R (x : S35) (m q : Nat) (w : World) (h2 : m ≤ 1000) : Kd.R k35 35 ((w.alloc (.cells (slices_Repeat_api_Ratio_api_Ratio.rowB x m m) 35)).drewN q) w.heap.size (fun _ => True) (.slice (some ⟨w.heap.size, 0, none⟩) m m) (List.replicate m x) := by
 have hz : (slices_Repeat_api_Ratio_api_Ratio.rowB x m m).toList = slices_Repeat_api_Ratio_api_Ratio.pairs x m := by simp [slices_Repeat_api_Ratio_api_Ratio.rowB, slices_Repeat_api_Ratio_api_Ratio.pairs]
 refine ⟨fun _ _ => trivial, slices_Repeat_api_Ratio_api_Ratio.pairs x m, ⟨by rw [slices_Repeat_api_Ratio_api_Ratio.pairs_len, List.length_replicate]; show 2 * m = m * 2; omega, .inr ⟨w.heap.size, m, slices_Repeat_api_Ratio_api_Ratio.rowB x m m, by rw [List.length_replicate], Nat.le_refl _, heap_alloc_new w _, by rw [List.length_replicate]; exact Nat.le_refl _, by unfold maxLen; omega, ?_, ?_⟩⟩, ?_, ?_⟩
 ·
  show (slices_Repeat_api_Ratio_api_Ratio.rowB x m m).size = m * 2
  rw [← Array.length_toList, hz, slices_Repeat_api_Ratio_api_Ratio.pairs_len]; omega
 ·
  rw [hz, List.take_of_length_le]
  rw [slices_Repeat_api_Ratio_api_Ratio.pairs_len, List.length_replicate]; show 2 * m ≤ m * 2; omega
 ·
  rw [slices_Repeat_api_Ratio_api_Ratio.pairs_len, List.length_replicate]; show 2 * m = m * 2; omega
 ·
  intro j p hj
  have hj' : j < m := by
   have := (List.getElem?_eq_some_iff.1 hj).1
   rwa [List.length_replicate] at this
  obtain rfl : x = p := by
   obtain ⟨h, e⟩ := List.getElem?_eq_some_iff.1 hj
   rw [List.getElem_replicate] at e; exact e
  obtain ⟨k, rfl⟩ : ∃ k, m = j + (1 + k) := ⟨m - j - 1, by omega⟩
  have e : ((slices_Repeat_api_Ratio_api_Ratio.pairs x (j + (1 + k))).drop (j * 2)).take 2 = [.int .i64 x.f0, .int .i64 x.f1] := by
   rw [slices_Repeat_api_Ratio_api_Ratio.pairs_add, List.drop_append, List.drop_eq_nil_of_le (by rw [slices_Repeat_api_Ratio_api_Ratio.pairs_len]; omega), slices_Repeat_api_Ratio_api_Ratio.pairs_len, List.nil_append, show j * 2 - 2 * j = 0 by omega, List.drop_zero, slices_Repeat_api_Ratio_api_Ratio.pairs_add]
   rfl
  show k35.M _ _ _ x (((slices_Repeat_api_Ratio_api_Ratio.pairs x (j + (1 + k))).drop (j * 2)).take 2)
  rw [e]
  exact k35_mkM _ _ _ x

def slices_Repeat_api_Ratio_api_Ratio.f (l0 : List S35) (a1 : Int) : Option (List S35) :=
 match l0 with
 | [x] => if 1 ≤ a1 ∧ a1 ≤ 1000 then some (List.replicate a1.toNat x) else none
 | _ => none
theorem slices_Repeat_api_Ratio_api_Ratio.calls (A0 : Option Addr) (c0 : Nat) (l0 : List (S35)) (a1 : Int) (r : List (S35)) (w : World) (hr0 : Kd.C k35 w A0 l0.length l0) (hc0 : l0.length ≤ c0) (h : slices_Repeat_api_Ratio_api_Ratio.f l0 a1 = some r) :
  Calls Try.prog 81 #[.slice A0 l0.length c0, .int .i64 a1] w fun e w' => ∃ v0_ : Value, e = .returned (v0_) ∧ Kd.R k35 35 w' w.heap.size (fun _ => True) v0_ r ∧ Below w.heap.size w w' := by
 match l0, hr0, hc0, h with
 | [], _, _, h => cases h
 | _ :: _ :: _, _, _, h => cases h
 | [x], hr0, hc0, h =>
  by_cases hb : 1 ≤ a1 ∧ a1 ≤ 1000
  ·
   have h' : (if 1 ≤ a1 ∧ a1 ≤ 1000 then some (List.replicate a1.toNat x) else none) = some r := h
   rw [if_pos hb] at h'
   obtain rfl := Option.some.inj h'
   obtain ⟨m, rfl⟩ := Int.eq_ofNat_of_zero_le (show 0 ≤ a1 by omega)
   refine (slices_Repeat_api_Ratio_api_Ratio.rep_calls A0 c0 x m w hr0 (by omega) (by omega)).mono ?_
   rintro e w' ⟨q, rfl, rfl⟩
   exact ⟨_, rfl, slices_Repeat_api_Ratio_api_Ratio.rep_R x m q w (by omega), pw_below_drewN (below_alloc (Below.refl _ _) _) q⟩
  ·
   have h' : (if 1 ≤ a1 ∧ a1 ≤ 1000 then some (List.replicate a1.toNat x) else none) = some r := h
   rw [if_neg hb] at h'
   cases h'

/-! ### wear_nearest: function 56 -/
def wear_nearest.l0 : Nat → List (S35) → List (S74) → Int → Int → Option ((List (S35)))
 | 0, _, _, _, _ => none
 | k + 1, x3, x7, x8, x9 => if x9 < x8 then (if 0 ≤ x9 then (if x9 < (x7.length : Int) then ((wear_block_mean.f k ((rd_T74 x7 x9).f0) ((rd_T74 x7 x9).f1) ((rd_T74 x7 x9).f2)).bind fun bt152 => ((slices_Repeat_api_Ratio_api_Ratio.f (([(⟨bt152.1, bt152.2⟩ : S35)] : List (S35))) ((rd_T74 x7 x9).f2)).bind fun t157 => (if x3.length + t157.length < 8796093022208 then (wear_nearest.l0 k (x3 ++ t157) x7 x8 (wrap64 (x9 + 1))) else (none)))) else (none)) else (none)) else (some x3)
def wear_nearest.f (k : Nat) (l0 : List Int) : Option ((List (S35))) := (wear_blocks.f k l0).bind fun t147 => (wear_nearest.l0 k ([] : List (S35)) t147 (t147.length : Int) 0)
theorem wear_nearest.mono_l : ∀ k, (∀ y0 y1 y2 y3, LeO (wear_nearest.l0 k y0 y1 y2 y3) (wear_nearest.l0 (k + 1) y0 y1 y2 y3))
 | 0 => fun _ _ _ _ r h => by simp [wear_nearest.l0] at h
 | k + 1 => by
  have ih0 := wear_nearest.mono_l k
  ·
   intro y0 y1 y2 y3
   unfold wear_nearest.l0
   repeat' first
   | (with_reducible exact ih0 _ _ _ _)
   | (with_reducible exact wear_block_mean.mono _ _ _ _)
   | (with_reducible exact wear_blocks.mono _ _)
   | (with_reducible exact LeO.refl _)
   | (with_reducible exact LeO.none _)
   | (with_reducible refine LeO.ite ?_ ?_)
   | (with_reducible refine LeO.bind ?_ (fun _ => ?_))
   | exact ih0 _ _ _ _
   | exact wear_block_mean.mono _ _ _ _
   | exact wear_blocks.mono _ _
   | exact LeO.none _
   | refine LeO.ite ?_ ?_
   | refine LeO.bind ?_ (fun _ => ?_)
theorem wear_nearest.mono : ∀ a0 k, LeO (wear_nearest.f k a0) (wear_nearest.f (k + 1) a0) := by
 intro a0 k
 have ih0 := wear_nearest.mono_l k
 unfold wear_nearest.f
 repeat' first
   | (with_reducible exact ih0 _ _ _ _)
   | (with_reducible exact wear_block_mean.mono _ _ _ _)
   | (with_reducible exact wear_blocks.mono _ _)
   | (with_reducible exact LeO.refl _)
   | (with_reducible exact LeO.none _)
   | (with_reducible refine LeO.ite ?_ ?_)
   | (with_reducible refine LeO.bind ?_ (fun _ => ?_))
   | exact ih0 _ _ _ _
   | exact wear_block_mean.mono _ _ _ _
   | exact wear_blocks.mono _ _
   | exact LeO.none _
   | refine LeO.ite ?_ ?_
   | refine LeO.bind ?_ (fun _ => ?_)
def wear_nearest.T5 : Bool × List (List Nat × List Nat) := (true, [([], []), ([], []), ([1], [1]), ([2], [2]), ([], []), ([4], [4]), ([3, 5, 2], [3, 5]), ([0, 6, 6], [0, 6]), ([7, 7, 0, 1, 2, 3, 4, 5, 6, 7], [0, 7])])
def wear_nearest.B5 : List Nat := [0, 0, 2, 6, 0, 16, 62, 127, 255]
theorem wear_nearest.tab5 : rtab .any (opsOf Try.f56 5) = wear_nearest.T5 := by kernel_rfl
theorem wear_nearest.bits5 : waitsOk wear_nearest.T5.2 wear_nearest.B5 = true := by kernel_rfl
set_option maxHeartbeats 8000000 in
set_option maxRecDepth 100000 in
theorem wear_nearest.calls (k : Nat) (A0 : Option Addr) (c0 : Nat) (l0 : List Int) (r : List (S35)) (w : World) (hr0 : Kd.C (Kd.int .i64) w A0 l0.length l0) (hc0 : l0.length ≤ c0) (h : wear_nearest.f k l0 = some r) :
  Calls Try.prog 56 #[.slice A0 l0.length c0] w fun e w' => ∃ v0_ : Value, e = .returned (v0_) ∧ Kd.R k35 35 w' w.heap.size (fun _ => True) v0_ r ∧ Below w.heap.size w w' := by
 have hu74 := Try.underlying74
 have HR0 := Aside0.mk hr0
 have HC0 := Aside0.mk hc0
 clear hr0 hc0
 have HB := Aside0.mk (Below.refl w.heap.size w)
 have H : ((wear_blocks.f k l0).bind fun t147 => (wear_nearest.l0 k ([] : List (S35)) t147 (t147.length : Int) 0)) = some r := h
 clear h
 replace H := Option.bind_eq_some_iff.mp H
 obtain ⟨t147, A20, H⟩ := H
 replace H : (wear_nearest.l0 k ([] : List (S35)) t147 (t147.length : Int) 0) = some r := H
 have A2 := Aside0.mk A20
 clear A20
 have H' := Aside0.mk H
 clear H
 go_enter Try.func56, Try.ntmps56
 go_wp2_with (first | ((with_reducible refine gate_callee (f := 58) rfl ?_); refine goesL_ (some 7) rfl rfl Try.func58 (by kernel_rfl) rfl #[.slice A0 l0.length c0] rfl mapz ?_; (with_reducible refine (wear_blocks.calls k _ _ l0 t147 _ ?side1 ?side2 A2.out).mono ?_); (case side1 => repeat (first | exact HR0.out | (with_reducible refine Kd.C_alloc ?_ _) | (with_reducible refine Kd.C_drewN ?_ _) | (with_reducible refine Kd.C_drew ?_))); (case side2 => exact HC0.out); rintro e w3 ⟨v148, rfl, ho0, hb⟩; refine ⟨_, rfl, ?_⟩; have HO149 := Aside0.mk (Kd.R_lower ho0 (below_size bel)); replace HB := Aside0.mk (below_step bel hb); (try clear hb); (try clear hb2); (try clear hk); (try clear hi); (try clear ho0); obtain ⟨Ao4, co4, eo4⟩ := Kd.R_slice HO149.out; subst eo4))
 go_loopg [3, 9] k (fun kq v3 v9 w' => ∃ (x3_1 : List (S35)) (x9_1 : Int), v9 = .int .i64 x9_1 ∧ Aside0 (wear_nearest.l0 kq x3_1 t147 (t147.length : Int) x9_1 = some r) ∧ Aside0 (kq ≤ k) ∧ Aside0 (Kd.R k35 35 w' w.heap.size (fun _ => True) v3 x3_1) ∧ Aside0 (Kd.R k74 74 w' w.heap.size (fun _ => True) (.slice Ao4 t147.length co4) t147) ∧ Aside0 (Below w.heap.size w w'))
 case atStart => exact ⟨(([] : List (S35))), (0), rsz, H', ⟨Nat.le_refl _⟩, ⟨by first | exact Kd.R_nil _ _ _ _ _ | exact Kd.N_nil _ _ _ _ _ | exact Kd.V_nil _ _ _ _ _ | exact Kd.Q_nil _ _ _ _ _ | exact Kd.S_nil _ _ _ _ _⟩, ⟨by (with_reducible repeat (first | apply Kd.R_alloc | apply Kd.R_drewN | apply Kd.R_drew)); exact HO149.out⟩, ⟨bel⟩⟩
 case round =>
  clear H'
  try clear p2
  obtain ⟨x3_1, x9_1, rfl, HA, HK1, HO_3, HO_7, HB⟩ := hrel
  cases gk with
  | zero => exact absurd HA.out (by simp [wear_nearest.l0])
  | succ k1 =>
   have H := HA.out
   clear HA
   simp only [wear_nearest.l0] at H
   by_cases c5 : x9_1 < (t147.length : Int)
   ·
    rw [if_pos c5] at H
    have c5b0 : decide (x9_1 < (t147.length : Int)) = true := decide_eq_true c5
    clear c5
    by_cases c6 : 0 ≤ x9_1
    ·
     rw [if_pos c6] at H
     have c6b0 : decide (0 ≤ x9_1) = true := decide_eq_true c6
     clear c6
     by_cases c7 : x9_1 < (t147.length : Int)
     ·
      rw [if_pos c7] at H
      have c7b0 : decide (x9_1 < (t147.length : Int)) = true := decide_eq_true c7
      clear c7
      replace H := Option.bind_eq_some_iff.mp H
      obtain ⟨⟨t152, t153⟩, A80, H⟩ := H
      replace H : ((slices_Repeat_api_Ratio_api_Ratio.f (([(⟨t152, t153⟩ : S35)] : List (S35))) ((rd_T74 t147 x9_1).f2)).bind fun t157 => (if x3_1.length + t157.length < 8796093022208 then (wear_nearest.l0 k1 (x3_1 ++ t157) t147 (t147.length : Int) (wrap64 (x9_1 + 1))) else (none))) = some r := H
      have A8 := Aside0.mk A80
      clear A80
      obtain ⟨y154, hy154⟩ : ∃ y_ : List (S35), y_ = (([(⟨t152, t153⟩ : S35)] : List (S35))) := ⟨_, rfl⟩
      replace H : ((slices_Repeat_api_Ratio_api_Ratio.f y154 ((rd_T74 t147 x9_1).f2)).bind fun t157 => (if x3_1.length + t157.length < 8796093022208 then (wear_nearest.l0 k1 (x3_1 ++ t157) t147 (t147.length : Int) (wrap64 (x9_1 + 1))) else (none))) = some r := by first | (rw [hy154]; with_reducible exact H) | (have H2_ := (Option.bind_some _ _).symm.trans H; rw [hy154]; with_reducible exact H2_) | (have H2_ := (Option.bind_some _ _).symm.trans H; with_reducible exact H2_) | with_reducible exact H | (rw [hy154]; exact H) | exact H
      have Ny154 := Aside0.mk hy154
      clear hy154
      replace H := Option.bind_eq_some_iff.mp H
      obtain ⟨t157, A90, H⟩ := H
      replace H : (if x3_1.length + t157.length < 8796093022208 then (wear_nearest.l0 k1 (x3_1 ++ t157) t147 (t147.length : Int) (wrap64 (x9_1 + 1))) else (none)) = some r := H
      have A9 := Aside0.mk A90
      clear A90
      by_cases c10 : x3_1.length + t157.length < 8796093022208
      ·
       rw [if_pos c10] at H
       have LMc10 := Aside0.mk c10
       clear c10
       obtain ⟨y160, hy160⟩ : ∃ y_ : List (S35), y_ = (x3_1 ++ t157) := ⟨_, rfl⟩
       replace H : (wear_nearest.l0 k1 y160 t147 (t147.length : Int) (wrap64 (x9_1 + 1))) = some r := by first | (rw [hy160]; with_reducible exact H) | (have H2_ := (Option.bind_some _ _).symm.trans H; rw [hy160]; with_reducible exact H2_) | (have H2_ := (Option.bind_some _ _).symm.trans H; with_reducible exact H2_) | with_reducible exact H | (rw [hy160]; exact H) | exact H
       have Ny160 := Aside0.mk hy160
       clear hy160
       have H' := Aside0.mk H
       clear H
       have p150 : 0 ≤ (x9_1 : Int) := of_decide_eq_true asz
       have q150 : x9_1 < (t147.length : Int) := of_decide_eq_true asz
       obtain ⟨ad150, e150, hx150_0, hx150_1, hx150_2⟩ := at_T74 (Kd.R_reads' HO_7.out).2.2 x9_1 p150 q150
       cases e150
       replace p150 := eq_true p150
       replace q150 := eq_true q150
       try go_wp2_with (first | ((with_reducible refine gate_dst (N := 5) rfl ?_); refine box_event ?hg (N := 5) ?hd (cs := #[.int .i64 0, .int .i64 0, .int .i64 0]) (t := 74) ?hr ?_; (case hd => rfl); (case hg => rfl); (case hr => first | (go_simp; done) | (go_simp; rfl)); intro gb151 hg w11 hbox hb; have BK151 := Aside0.mk (hbox); have GW151 := bsz (w := w) hg; have GE151 := GW151; replace HO_3 := Aside0.mk (Kd.R_below (ownx HO_3) hb); replace HO_7 := Aside0.mk (Kd.R_below (Kd.R_elderB (ownx HO_7) gb151 (Nat.le_of_eq hg.symm)) hb); replace HB := Aside0.mk (below_step bel hb); clear hb hbox hg; have hcz12_0 := blkc BK151.out 0 (.int .i64 0) rfl; have hcz12_1 := blkc BK151.out 1 (.int .i64 0) rfl; have hcz12_2 := blkc BK151.out 2 (.int .i64 0) rfl; have hfz12_0 := blk_frozen BK151.out 0; have hfz12_1 := blk_frozen BK151.out 1; have hfz12_2 := blk_frozen BK151.out 2))
       have n0_ : Aside0 (Kd.R k35 35 (((w11.setCell ⟨gb151, 0, none⟩ (.int .i64 ((rd_T74 t147 x9_1).f0))).setCell ⟨gb151, 1, none⟩ (.int .i64 ((rd_T74 t147 x9_1).f1))).setCell ⟨gb151, 2, none⟩ (.int .i64 ((rd_T74 t147 x9_1).f2))) w.heap.size (fun _ => True) u3 x3_1) := ⟨by (with_reducible repeat (first | apply Kd.R_alloc | apply Kd.R_drewN | apply Kd.R_drew)); exact Kd.R_mono (Kd.R_far (p := ⟨gb151, 2, none⟩) (Kd.R_far (p := ⟨gb151, 1, none⟩) (Kd.R_far (p := ⟨gb151, 0, none⟩) (Kd.R_types HO_3.out BK151.out (by decide)) (fun _ hk => hk.2) (.int .i64 ((rd_T74 t147 x9_1).f0))) (fun _ hk => hk.2) (.int .i64 ((rd_T74 t147 x9_1).f1))) (fun _ hk => hk.2) (.int .i64 ((rd_T74 t147 x9_1).f2))) (fun _ hk => trivial)⟩
       have n1_ : Aside0 (Kd.R k74 74 (((w11.setCell ⟨gb151, 0, none⟩ (.int .i64 ((rd_T74 t147 x9_1).f0))).setCell ⟨gb151, 1, none⟩ (.int .i64 ((rd_T74 t147 x9_1).f1))).setCell ⟨gb151, 2, none⟩ (.int .i64 ((rd_T74 t147 x9_1).f2))) w.heap.size (fun k_ => k_ ≠ gb151) (.slice (some ad150) t147.length co4) t147) := ⟨by (with_reducible repeat (first | apply Kd.R_alloc | apply Kd.R_drewN | apply Kd.R_drew)); exact Kd.R_mono (Kd.R_far (p := ⟨gb151, 2, none⟩) (Kd.R_far (p := ⟨gb151, 1, none⟩) (Kd.R_far (p := ⟨gb151, 0, none⟩) (Kd.R_mono HO_7.out (fun k_ hk => (⟨hk, hk.2⟩ : _ ∧ k_ ≠ gb151))) (fun _ hk => hk.2) (.int .i64 ((rd_T74 t147 x9_1).f0))) (fun _ hk => hk.2) (.int .i64 ((rd_T74 t147 x9_1).f1))) (fun _ hk => hk.2) (.int .i64 ((rd_T74 t147 x9_1).f2))) (fun _ hk => hk.1.2)⟩
       have n2_ : Aside0 ((((w11.setCell ⟨gb151, 0, none⟩ (.int .i64 ((rd_T74 t147 x9_1).f0))).setCell ⟨gb151, 1, none⟩ (.int .i64 ((rd_T74 t147 x9_1).f1))).setCell ⟨gb151, 2, none⟩ (.int .i64 ((rd_T74 t147 x9_1).f2))).heap[gb151]? = some (.cells #[.int .i64 ((rd_T74 t147 x9_1).f0), .int .i64 ((rd_T74 t147 x9_1).f1), .int .i64 ((rd_T74 t147 x9_1).f2)] 74 (0, 0))) := ⟨by (with_reducible repeat (first | refine blk_drewN ?_ _ | refine blk_drew ?_ | refine blk_alloc ?_ _)); refine blk_put (cs := #[.int .i64 ((rd_T74 t147 x9_1).f0), .int .i64 ((rd_T74 t147 x9_1).f1), .int .i64 0]) ?_ 2 _ rfl; (with_reducible repeat (first | refine blk_drewN ?_ _ | refine blk_drew ?_ | refine blk_alloc ?_ _)); refine blk_put (cs := #[.int .i64 ((rd_T74 t147 x9_1).f0), .int .i64 0, .int .i64 0]) ?_ 1 _ rfl; (with_reducible repeat (first | refine blk_drewN ?_ _ | refine blk_drew ?_ | refine blk_alloc ?_ _)); refine blk_put (cs := #[.int .i64 0, .int .i64 0, .int .i64 0]) ?_ 0 _ rfl; (with_reducible repeat (first | refine blk_drewN ?_ _ | refine blk_drew ?_ | refine blk_alloc ?_ _)); exact BK151.out⟩
       have n3_ : Aside0 (Below w.heap.size w (((w11.setCell ⟨gb151, 0, none⟩ (.int .i64 ((rd_T74 t147 x9_1).f0))).setCell ⟨gb151, 1, none⟩ (.int .i64 ((rd_T74 t147 x9_1).f1))).setCell ⟨gb151, 2, none⟩ (.int .i64 ((rd_T74 t147 x9_1).f2)))) := ⟨bel⟩
       (try clear HO_3)
       (try clear HO_7)
       (try clear BK151)
       (try clear HB)
       generalize (((w11.setCell ⟨gb151, 0, none⟩ (.int .i64 ((rd_T74 t147 x9_1).f0))).setCell ⟨gb151, 1, none⟩ (.int .i64 ((rd_T74 t147 x9_1).f1))).setCell ⟨gb151, 2, none⟩ (.int .i64 ((rd_T74 t147 x9_1).f2))) = w13 at n0_ n1_ n2_ n3_ ⊢
       have HO_3 := n0_
       have HO_7 := n1_
       have BK151 := n2_
       have HB := n3_
       clear n0_ n1_ n2_ n3_
       have n0_ := Aside0.mk (Kd.R_drew HO_3.out)
       have n1_ := Aside0.mk (Kd.R_drew HO_7.out)
       have n2_ := Aside0.mk (blk_drew BK151.out)
       have n3_ := Aside0.mk (below_drew1 HB.out)
       clear HO_3
       clear HO_7
       clear BK151
       clear HB
       have HO_3 := n0_
       have HO_7 := n1_
       have BK151 := n2_
       have HB := n3_
       clear n0_ n1_ n2_ n3_
       refine start_ (n := 9) (S := fun w' => w'.cell? ⟨gb151, 0, none⟩ = some (.int .i64 ((rd_T74 t147 x9_1).f0)) ∧ w'.cell? ⟨gb151, 1, none⟩ = some (.int .i64 ((rd_T74 t147 x9_1).f1)) ∧ w'.cell? ⟨gb151, 2, none⟩ = some (.int .i64 ((rd_T74 t147 x9_1).f2))) (ds := []) #[false, false, false, false, false, false, false, false, false] (by kernel_rfl) rfl rfl ⟨(blk_cell BK151.out 0).trans rfl, (blk_cell BK151.out 1).trans rfl, (blk_cell BK151.out 2).trans rfl⟩ (fun hHeld => ?_); refine with_tabW wear_nearest.tab5 wear_nearest.bits5 (fun HT_ HW_ => ?_)
       generalize w13.drew = w14 at HO_3 HO_7 BK151 HB hHeld ⊢
       refine pst (i := 0) (N := some 13) (bz 9 1) (any_of HT_.out (by kernel_rfl)) ?_
       refine pst (i := 4) (N := some 17) (bz 9 17) (any_of HT_.out (by kernel_rfl)) ?_
       refine tst3 (i := 1) (N := some 14) (bz 9 19) (take_ofW HT_.out HW_.out (by kernel_rfl)) hHeld ?_
       refine tst3 (i := 5) (N := some 18) (bz 9 51) (take_ofW HT_.out HW_.out (by kernel_rfl)) hHeld ?_
       refine one_ (i := 2) (N := some 15) #[true, true, true, false, true, true, false, false, false] rfl rfl (one_of HT_.out (by kernel_rfl)) (by decide) (fun K hK => ?_)
       refine goes_ Try.func82 (by kernel_rfl) rfl #[.agg #[.int .i64 ((rd_T74 t147 x9_1).f0), .int .i64 ((rd_T74 t147 x9_1).f1), .int .i64 ((rd_T74 t147 x9_1).f2)]] (by rfl) rfl rfl mapz ?_
       with_reducible refine (wear_block_mean.calls k1 ((rd_T74 t147 x9_1).f0) ((rd_T74 t147 x9_1).f1) ((rd_T74 t147 x9_1).f2) t152 t153 _ A8.out).mono ?_
       rintro e w15 ⟨rfl, hb⟩
       refine ⟨_, rfl, ?_⟩
       have n0_ := Aside0.mk (Kd.R_below (ownx HO_3) hb)
       have n1_ := Aside0.mk (Kd.R_below (ownx HO_7) hb)
       have n2_ := Aside0.mk (blk_below (g := gb151) blkz hb)
       have n3_ := Aside0.mk (below_step bel hb)
       clear HO_3
       clear HO_7
       clear BK151
       clear HB
       have HO_3 := n0_
       have HO_7 := n1_
       have BK151 := n2_
       have HB := n3_
       clear n0_ n1_ n2_ n3_
       (try clear hb)
       (try clear hb2)
       (try clear hk)
       (try clear hi)
       refine hK.out _ _ ⟨(blk_cell BK151.out 0).trans rfl, (blk_cell BK151.out 1).trans rfl, (blk_cell BK151.out 2).trans rfl⟩ (fun hHeld => ?_)
       clear hK K
       refine norm_ (a' := ?_) ?_ ?_
       rotate_left
       ·
        show Act.put _ (some 15) _ = _
        simp only [Act.put, List.setIfInBounds_toArray, List.set_cons_zero, List.set_cons_succ, i64_w, i32_w]
        rfl
       refine one_ (i := 3) (N := some 16) #[true, true, true, true, true, true, false, false, false] rfl rfl (one_of HT_.out (by kernel_rfl)) (by decide) (fun K hK => ?_)
       refine Kd.R_lit_step k35 _ 35 ?hg (N := 16) ?hd (xs := ([(⟨t152, t153⟩ : S35)] : List (S35))) (inner := [.int .i64 t152, .int .i64 t153]) (ok := fun _ => True) (okp := fun _ => True) ?hr ?hp (fun _ hk => hk) trivial (Below.refl _ _) (Nat.le_refl _) (by simp) ?_; (case hd => rfl); (case hg => rfl); (case hr => first | (go_simp; done) | (go_simp; rfl)); (case hp => exact (Reps.c2 (show Kd.M k35 _ _ _ (⟨t152, t153⟩ : S35) [.int .i64 t152, .int .i64 t153] from (k35_mkM _ _ _ (⟨t152, t153⟩ : S35) )) (Reps.none _ _)))
       intro v155 w16 ho17 hb hg_ hnew_
       clear hg_ hnew_
       (first | rw [← Ny154.out] at ho17 | (simp only [Int.reduceToNat] at ho17; rw [← Ny154.out] at ho17))
       have n0_ := Aside0.mk (Kd.R_elder' (ownx HO_3) (Kd.R_base ho17) hb)
       have n1_ := Aside0.mk (Kd.R_below (ownx HO_7) hb)
       have n2_ := Aside0.mk (Kd.R_lower (Kd.R_new' ho17 (Kd.R_lt (ownx HO_3))) (below_size bel))
       have n3_ := Aside0.mk (blk_below (g := gb151) blkz hb)
       have n4_ := Aside0.mk (below_step bel hb)
       clear HO_3
       clear HO_7
       clear BK151
       clear HB
       have HO_3 := n0_
       have HO_7 := n1_
       have HO156 := n2_
       have BK151 := n3_
       have HB := n4_
       clear n0_ n1_ n2_ n3_ n4_
       clear hb ho17
       obtain ⟨Ao18, co18, eo18⟩ := Kd.R_slice HO156.out
       (first | subst eo18 | (injection eo18 with f1_ f2_ f3_; have f4_ := f1_.symm; have f5_ := f3_.symm; clear f1_ f2_ f3_; subst f4_; subst f5_))
       refine hK.out _ _ ⟨(blk_cell BK151.out 0).trans rfl, (blk_cell BK151.out 1).trans rfl, (blk_cell BK151.out 2).trans rfl⟩ (fun hHeld => ?_)
       clear hK K
       refine norm_ (a' := ?_) ?_ ?_
       rotate_left
       ·
        show Act.put _ (some 16) _ = _
        simp only [Act.put, List.setIfInBounds_toArray, List.set_cons_zero, List.set_cons_succ, i64_w, i32_w]
        rfl
       refine one_ (i := 6) (N := some 19) #[true, true, true, true, true, true, true, false, false] rfl rfl (one_of HT_.out (by kernel_rfl)) (by decide) (fun K hK => ?_)
       refine goes_ Try.func81 (by kernel_rfl) rfl #[.slice Ao18 y154.length co18, .int .i64 ((rd_T74 t147 x9_1).f2)] (by rfl) rfl rfl mapz ?_
       with_reducible refine (slices_Repeat_api_Ratio_api_Ratio.calls _ _ y154 ((rd_T74 t147 x9_1).f2) t157 _ ?side1 ?side2 A9.out).mono ?_
       (case side1 => repeat (first | exact (Kd.R_reads' HO156.out).2.2 | (with_reducible refine Kd.C_alloc ?_ _) | (with_reducible refine Kd.C_drewN ?_ _) | (with_reducible refine Kd.C_drew ?_)))
       (case side2 => exact (Kd.R_reads' HO156.out).2.1)
       rintro e w19 ⟨v158, rfl, ho0, hb⟩
       refine ⟨_, rfl, ?_⟩
       have n0_ := Aside0.mk (Kd.R_elder' (ownx HO_3) (Kd.R_base ho0) hb)
       have n1_ := Aside0.mk (Kd.R_below (ownx HO_7) hb)
       have n2_ := Aside0.mk (Kd.R_elder' (ownx HO156) (Kd.R_base ho0) hb)
       have n3_ := Aside0.mk (Kd.R_lower (Kd.R_new' (Kd.R_new' ho0 (Kd.R_lt (ownx HO_3))) (Kd.R_lt (ownx HO156))) (below_size bel))
       have n4_ := Aside0.mk (blk_below (g := gb151) blkz hb)
       have n5_ := Aside0.mk (below_step bel hb)
       clear HO_3
       clear HO_7
       clear HO156
       clear BK151
       clear HB
       have HO_3 := n0_
       have HO_7 := n1_
       have HO156 := n2_
       have HO159 := n3_
       have BK151 := n4_
       have HB := n5_
       clear n0_ n1_ n2_ n3_ n4_ n5_
       (try clear hb)
       (try clear hb2)
       (try clear hk)
       (try clear hi)
       (try clear ho0)
       obtain ⟨Ao21, co21, eo21⟩ := Kd.R_slice HO159.out
       (first | subst eo21 | (injection eo21 with f1_ f2_ f3_; have f4_ := f1_.symm; have f5_ := f3_.symm; clear f1_ f2_ f3_; subst f4_; subst f5_))
       refine hK.out _ _ ⟨(blk_cell BK151.out 0).trans rfl, (blk_cell BK151.out 1).trans rfl, (blk_cell BK151.out 2).trans rfl⟩ (fun hHeld => ?_)
       clear hK K
       refine norm_ (a' := ?_) ?_ ?_
       rotate_left
       ·
        show Act.put _ (some 19) _ = _
        simp only [Act.put, List.setIfInBounds_toArray, List.set_cons_zero, List.set_cons_succ, i64_w, i32_w]
        rfl
       refine one_ (i := 7) (N := some 20) #[true, true, true, true, true, true, true, true, false] rfl rfl (one_of HT_.out (by kernel_rfl)) (by decide) (fun K hK => ?_)
       refine Kd.R_append_rows_step k35 (w0 := w) w.heap.size (by rfl) (.tmp 13) (.tmp 19) 31 35 (.agg #[(.int .i64 0), (.int .i64 0)]) 16 rfl Try.underlying31 info35 rfl (by decide) (by omega) u3 x3_1 t157 _ _ _ (fun k_ => some k_ ≠ (.slice Ao18 y154.length co18 : Value).ownBlock ∧ some k_ ≠ (.slice Ao21 t157.length co21 : Value).ownBlock) (fun _ => False) rfl rfl ?aO ?aR (fun _ _ h => h) (fun _ h => h.elim) ?aF ?aB ?aS ?aL ?_
       (case aR => repeat (first | exact (Kd.R_reads' HO159.out).2.2 | (with_reducible refine Kd.C_alloc ?_ _) | (with_reducible refine Kd.C_drewN ?_ _) | (with_reducible refine Kd.C_drew ?_)))
       (case aB => exact bel)
       (case aF => exact (fun k_ hk => ⟨Kd.fresh' (Kd.R_lt (ownx HO156)) k_ hk, Kd.fresh' (Kd.R_lt (ownx HO159)) k_ hk⟩))
       (case aO => exact (by (with_reducible repeat (first | apply Kd.R_alloc | apply Kd.R_drewN | apply Kd.R_drew)); exact Kd.R_mono HO_3.out (fun _ hk => ⟨hk.1.2, hk.2⟩)))
       (case aS => exact (below_size bel))
       (case aL => have := LMc10.out; omega)
       intro v161 w20 ho hb hg hat
       rw [← Ny160.out] at ho
       have n0_ := Aside0.mk (Kd.R_over' (ownx HO_7) (Kd.R_typed (ownx HO_3)) (by decide) hg)
       have n1_ := Aside0.mk (blk_grown (g := gb151) (o := .cells #[.int .i64 ((rd_T74 t147 x9_1).f0), .int .i64 ((rd_T74 t147 x9_1).f1), .int .i64 ((rd_T74 t147 x9_1).f2)] 74 (0, 0)) blkz hg (Kd.R_ne HO_3.out BK151.out (by decide)))
       have n2_ := Aside0.mk (Kd.R_after (ok := (fun k_ => some k_ ≠ (.slice Ao21 t157.length co21 : Value).ownBlock)) (by (with_reducible repeat (first | apply Kd.R_alloc | apply Kd.R_drewN | apply Kd.R_drew)); exact Kd.R_mono HO156.out (fun _ hk => ⟨hk.2, hk.1.2⟩)) hg hat)
       have n3_ := Aside0.mk (Kd.R_after (ok := (fun k_ => some k_ ≠ (.slice Ao18 y154.length co18 : Value).ownBlock)) (by (with_reducible repeat (first | apply Kd.R_alloc | apply Kd.R_drewN | apply Kd.R_drew)); exact Kd.R_mono HO159.out (fun _ hk => ⟨hk.2, hk.1.2⟩)) hg hat)
       have n4_ := Aside0.mk (hb)
       have n5_ := Aside0.mk (ho)
       clear HO_7
       clear BK151
       clear HO156
       clear HO159
       clear HB
       clear HO_3
       have HO_7 := n0_
       have BK151 := n1_
       have HO156 := n2_
       have HO159 := n3_
       have HB := n4_
       have HO162 := n5_
       clear n0_ n1_ n2_ n3_ n4_ n5_
       clear ho hb hg hat
       refine hK.out _ _ ⟨(blk_cell BK151.out 0).trans rfl, (blk_cell BK151.out 1).trans rfl, (blk_cell BK151.out 2).trans rfl⟩ (fun hHeld => ?_)
       clear hK K
       refine norm_ (a' := ?_) ?_ ?_
       rotate_left
       ·
        show Act.put _ (some 20) _ = _
        simp only [Act.put, List.setIfInBounds_toArray, List.set_cons_zero, List.set_cons_succ, i64_w, i32_w]
        rfl
       refine pst (i := 8) (N := some 3) (bz 9 511) (any_of HT_.out (by kernel_rfl)) ?_
       refine done_ (done_of HT_.out (by kernel_rfl)) ?_
       try go_wp2
       go_roundg k1
       case measure => have := HK1.out; omega
       case rel => exact ⟨(y160), (wrap64 (x9_1 + 1)), rsz, H', ⟨by have := HK1.out; omega⟩, ⟨by (with_reducible repeat (first | apply Kd.R_alloc | apply Kd.R_drewN | apply Kd.R_drew)); exact Kd.R_mono HO162.out (fun _ hk => trivial)⟩, ⟨by (with_reducible repeat (first | apply Kd.R_alloc | apply Kd.R_drewN | apply Kd.R_drew)); exact Kd.R_mono HO_7.out (fun _ hk => trivial)⟩, ⟨bel⟩⟩
      ·
       rw [if_neg c10] at H
       exact absurd H (by simp)
     ·
      rw [if_neg c7] at H
      exact absurd H (by simp)
    ·
     rw [if_neg c6] at H
     exact absurd H (by simp)
   ·
    rw [if_neg c5] at H
    have c5b0 : decide (x9_1 < (t147.length : Int)) = false := decide_eq_false c5
    clear c5
    obtain rfl := Option.some.inj H
    go_wp2
    go_ret
    exact ⟨_, ezz, by (with_reducible repeat (first | apply Kd.R_alloc | apply Kd.R_drewN | apply Kd.R_drew)); exact HO_3.out, bel⟩

/-! ### wear_Nearest: function 20 -/
def wear_Nearest.f (k : Nat) (l0 : List Int) : Option ((List (S35)) × Int) := (wear_Valid.f l0).bind fun t163 => (if t163 = true then ((wear_nearest.f k l0).bind fun t164 => (some (t164, 0))) else (some (([] : List (S35)), 70)))
theorem wear_Nearest.mono : ∀ a0 k, LeO (wear_Nearest.f k a0) (wear_Nearest.f (k + 1) a0) := by
 intro a0 k
 unfold wear_Nearest.f
 repeat' first
   | (with_reducible exact wear_nearest.mono _ _)
   | (with_reducible exact LeO.refl _)
   | (with_reducible exact LeO.none _)
   | (with_reducible refine LeO.ite ?_ ?_)
   | (with_reducible refine LeO.bind ?_ (fun _ => ?_))
   | exact wear_nearest.mono _ _
   | exact LeO.none _
   | refine LeO.ite ?_ ?_
   | refine LeO.bind ?_ (fun _ => ?_)
set_option maxHeartbeats 8000000 in
set_option maxRecDepth 100000 in
theorem wear_Nearest.calls (k : Nat) (A0 : Option Addr) (c0 : Nat) (l0 : List Int) (r1 : List (S35)) (r2 : Int) (w : World) (hr0 : Kd.C (Kd.int .i64) w A0 l0.length l0) (hc0 : l0.length ≤ c0) (h : wear_Nearest.f k l0 = some (r1, r2)) :
  Calls Try.prog 20 #[.slice A0 l0.length c0] w fun e w' => ∃ v0_ : Value, e = .returned (.tuple #[v0_, .int .i64 r2]) ∧ Kd.R k35 35 w' w.heap.size (fun _ => True) v0_ r1 ∧ Below w.heap.size w w' := by
 have HR0 := Aside0.mk hr0
 have HC0 := Aside0.mk hc0
 clear hr0 hc0
 have HB := Aside0.mk (Below.refl w.heap.size w)
 have H : ((wear_Valid.f l0).bind fun t163 => (if t163 = true then ((wear_nearest.f k l0).bind fun t164 => (some (t164, 0))) else (some (([] : List (S35)), 70)))) = some (r1, r2) := h
 clear h
 replace H := Option.bind_eq_some_iff.mp H
 obtain ⟨t163, A20, H⟩ := H
 replace H : (if t163 = true then ((wear_nearest.f k l0).bind fun t164 => (some (t164, 0))) else (some (([] : List (S35)), 70))) = some (r1, r2) := H
 have A2 := Aside0.mk A20
 clear A20
 by_cases c3 : t163 = true
 ·
  subst c3
  have H1 : ((wear_nearest.f k l0).bind fun t164 => (some (t164, 0))) = some (r1, r2) := by rw [if_pos rfl] at H; exact H
  clear H
  have H := H1
  clear H1
  replace H := Option.bind_eq_some_iff.mp H
  obtain ⟨t164, A40, H⟩ := H
  replace H : (some (t164, 0)) = some (r1, r2) := H
  have A4 := Aside0.mk A40
  clear A40
  simp only [Option.some.injEq, Prod.mk.injEq] at H
  obtain ⟨rfl, rfl⟩ := H
  go_enter Try.func20, Try.ntmps20
  go_wp2_with (first | ((with_reducible refine gate_callee (f := 27) rfl ?_); refine goesL_ (some 5) rfl rfl Try.func27 (by kernel_rfl) rfl #[.slice A0 l0.length c0] rfl mapz ?_; (with_reducible refine (wear_Valid.calls _ _ l0 true _ ?side1 ?side2 A2.out).mono ?_); (case side1 => repeat (first | exact HR0.out | (with_reducible refine Kd.C_alloc ?_ _) | (with_reducible refine Kd.C_drewN ?_ _) | (with_reducible refine Kd.C_drew ?_))); (case side2 => exact HC0.out); rintro e w' ⟨rfl, ⟨nd, rfl⟩⟩; refine ⟨_, rfl, ?_⟩) | ((with_reducible refine gate_callee (f := 56) rfl ?_); refine goesL_ (some 8) rfl rfl Try.func56 (by kernel_rfl) rfl #[.slice A0 l0.length c0] rfl mapz ?_; (with_reducible refine (wear_nearest.calls k _ _ l0 t164 _ ?side1 ?side2 A4.out).mono ?_); (case side1 => repeat (first | exact HR0.out | (with_reducible refine Kd.C_alloc ?_ _) | (with_reducible refine Kd.C_drewN ?_ _) | (with_reducible refine Kd.C_drew ?_))); (case side2 => exact HC0.out); rintro e w5 ⟨v165, rfl, ho0, hb⟩; refine ⟨_, rfl, ?_⟩; have HO166 := Aside0.mk (Kd.R_lower ho0 (below_size bel)); replace HB := Aside0.mk (below_step bel hb); (try clear hb); (try clear hb2); (try clear hk); (try clear hi); (try clear ho0)))
  go_ret2
  exact ⟨_, ezz, by (with_reducible repeat (first | apply Kd.R_alloc | apply Kd.R_drewN | apply Kd.R_drew)); exact HO166.out, bel⟩
 ·
  replace c3 := Bool.eq_false_iff.mpr c3
  subst c3
  have H1 : (some (([] : List (S35)), 70)) = some (r1, r2) := by rw [if_neg (show ¬ (false = true) by decide)] at H; exact H
  clear H
  have H := H1
  clear H1
  simp only [Option.some.injEq, Prod.mk.injEq] at H
  obtain ⟨rfl, rfl⟩ := H
  go_enter Try.func20, Try.ntmps20
  go_wp2_with (first | ((with_reducible refine gate_callee (f := 27) rfl ?_); refine goesL_ (some 5) rfl rfl Try.func27 (by kernel_rfl) rfl #[.slice A0 l0.length c0] rfl mapz ?_; (with_reducible refine (wear_Valid.calls _ _ l0 false _ ?side1 ?side2 A2.out).mono ?_); (case side1 => repeat (first | exact HR0.out | (with_reducible refine Kd.C_alloc ?_ _) | (with_reducible refine Kd.C_drewN ?_ _) | (with_reducible refine Kd.C_drew ?_))); (case side2 => exact HC0.out); rintro e w' ⟨rfl, ⟨nd, rfl⟩⟩; refine ⟨_, rfl, ?_⟩))
  go_ret2
  exact ⟨_, ezz, by first | exact Kd.R_nil _ _ _ _ _ | exact Kd.N_nil _ _ _ _ _ | exact Kd.V_nil _ _ _ _ _ | exact Kd.Q_nil _ _ _ _ _ | exact Kd.S_nil _ _ _ _ _, bel⟩

end Go.Proofs.Ytpdcpekjafcohaa.XWear
-- Written by wip/xprint.py of this repo, over the kit's print.py: out of the translation; the oracles in it are by hand. Not trusted: Lean checks it.
namespace Go.Proofs.Ytpdcpekjafcohaa.XWear
open Go.RowKit Go.Proofs.YtpdcpekjafcohaaW.PrintWords Go.Proofs.YtpdcpekjafcohaaW.PrintLast Go.Proofs.YtpdcpekjafcohaaW.PrintMore
attribute [local go_sem] max2_int min2_int max_two min_two max_three min_three max_four min_four   -- for this text's walks alone
set_option linter.unusedVariables false
set_option linter.unusedSimpArgs false

theorem eqA35 (d : Nat) (w : World) (x0 y0 : Int) (x1 y1 : Int) :
  (Op.equalIn (d + 2) 35 (.agg #[.int .i64 x0, .int .i64 x1]) (.agg #[.int .i64 y0, .int .i64 y1])).run Try.prog w = .ok (x0 == y0 && (x1 == y1)) w := by
 refine eqA_of Try.underlying35 (by kernel_rfl) ?_
 refine eqf_cons (by rfl) (by go_simp; rfl) (by go_simp; rfl) (by go_simp) ?_
 exact eqf_last (by rfl) (by go_simp; rfl) (by go_simp; rfl) (by go_simp)
end Go.Proofs.Ytpdcpekjafcohaa.XWear

namespace Go.Proofs.Ytpdcpekjafcohaa.XWear
open Go.RowKit Go.Proofs.YtpdcpekjafcohaaW.PrintWords Go.Proofs.YtpdcpekjafcohaaW.PrintLast Go.Proofs.YtpdcpekjafcohaaW.PrintMore
attribute [local go_sem] max2_int min2_int max_two min_two max_three min_three max_four min_four   -- for this text's walks alone
set_option linter.unusedVariables false
set_option linter.unusedSimpArgs false
attribute [local go_sem high] eqA35
/-! ### dropperlaw07_SameRatios: function 28 -/
def dropperlaw07_SameRatios.l0 : Nat → List (S35) → List (S35) → Int → Option (Bool)
 | 0, _, _, _ => none
 | k + 1, x0, x1, x5 => if x5 < (x0.length : Int) then (if 0 ≤ x5 then (if x5 < (x1.length : Int) then (if (!(((rd_T35 x0 x5).f0) == ((rd_T35 x1 x5).f0)) || (!(((rd_T35 x0 x5).f1) == ((rd_T35 x1 x5).f1)))) = true then (some false) else (dropperlaw07_SameRatios.l0 k x0 x1 (wrap64 (x5 + 1)))) else (none)) else (none)) else (some true)
def dropperlaw07_SameRatios.f (k : Nat) (l0 : List (S35)) (l1 : List (S35)) : Option (Bool) := if (l0.length : Int) = (l1.length : Int) then (dropperlaw07_SameRatios.l0 k l0 l1 0) else (some false)
theorem dropperlaw07_SameRatios.mono_l : ∀ k, (∀ y0 y1 y2, LeO (dropperlaw07_SameRatios.l0 k y0 y1 y2) (dropperlaw07_SameRatios.l0 (k + 1) y0 y1 y2))
 | 0 => fun _ _ _ r h => by simp [dropperlaw07_SameRatios.l0] at h
 | k + 1 => by
  have ih0 := dropperlaw07_SameRatios.mono_l k
  ·
   intro y0 y1 y2
   unfold dropperlaw07_SameRatios.l0
   repeat' first
   | (with_reducible exact ih0 _ _ _)
   | (with_reducible exact LeO.refl _)
   | (with_reducible exact LeO.none _)
   | (with_reducible refine LeO.ite ?_ ?_)
   | (with_reducible refine LeO.bind ?_ (fun _ => ?_))
   | exact ih0 _ _ _
   | exact LeO.none _
   | refine LeO.ite ?_ ?_
   | refine LeO.bind ?_ (fun _ => ?_)
theorem dropperlaw07_SameRatios.mono : ∀ a0 a1 k, LeO (dropperlaw07_SameRatios.f k a0 a1) (dropperlaw07_SameRatios.f (k + 1) a0 a1) := by
 intro a0 a1 k
 have ih0 := dropperlaw07_SameRatios.mono_l k
 unfold dropperlaw07_SameRatios.f
 repeat' first
   | (with_reducible exact ih0 _ _ _)
   | (with_reducible exact LeO.refl _)
   | (with_reducible exact LeO.none _)
   | (with_reducible refine LeO.ite ?_ ?_)
   | (with_reducible refine LeO.bind ?_ (fun _ => ?_))
   | exact ih0 _ _ _
   | exact LeO.none _
   | refine LeO.ite ?_ ?_
   | refine LeO.bind ?_ (fun _ => ?_)
set_option maxHeartbeats 8000000 in
set_option maxRecDepth 100000 in
theorem dropperlaw07_SameRatios.calls (k : Nat) (A0 : Option Addr) (c0 : Nat) (l0 : List (S35)) (A1 : Option Addr) (c1 : Nat) (l1 : List (S35)) (r : Bool) (w : World) (hr0 : Kd.C k35 w A0 l0.length l0) (hc0 : l0.length ≤ c0) (hr1 : Kd.C k35 w A1 l1.length l1) (hc1 : l1.length ≤ c1) (h : dropperlaw07_SameRatios.f k l0 l1 = some r) :
  Calls Try.prog 28 #[.slice A0 l0.length c0, .slice A1 l1.length c1] w fun e w' => e = .returned (.bool r) ∧ Drawn0 w w' := by
 have hu35 := Try.underlying35
 have HR0 := Aside0.mk hr0
 have HC0 := Aside0.mk hc0
 clear hr0 hc0
 have HR1 := Aside0.mk hr1
 have HC1 := Aside0.mk hc1
 clear hr1 hc1
 have H : (if (l0.length : Int) = (l1.length : Int) then (dropperlaw07_SameRatios.l0 k l0 l1 0) else (some false)) = some r := h
 clear h
 by_cases c3 : (l0.length : Int) = (l1.length : Int)
 ·
  rw [if_pos c3] at H
  have c3b0 : ((l0.length : Int) == (l1.length : Int)) = true := beq_iff_eq.mpr c3
  have c3b1 : ((l0.length : Int) != (l1.length : Int)) = false := bne_eq_false_iff_eq.mpr c3
  have c3b2 : (l0.length == l1.length) = true := by first | simpa using c3 | (simp at c3 ⊢; omega)
  clear c3
  have H' := Aside0.mk H
  clear H
  go_enter Try.func28, Try.ntmps28
  go_wp2
  repeat (go_quiet (fail); try go_wp2)
  go_loopg [5] k (fun kq v5 w' => ∃ (x5_1 : Int), v5 = .int .i64 x5_1 ∧ Aside0 (dropperlaw07_SameRatios.l0 kq l0 l1 x5_1 = some r) ∧ Aside0 (kq ≤ k) ∧ Drawn0 w w')
  case atStart => exact ⟨(0), rsz, H', ⟨Nat.le_refl _⟩, drz⟩
  case round =>
   clear H'
   try clear c1
   try clear c2
   try clear p2
   try clear c3
   try clear c3b0
   try clear c3b1
   try clear c3b2
   obtain ⟨x5_1, rfl, HA, HK1, ⟨m1, rfl⟩⟩ := hrel
   cases gk with
   | zero => exact absurd HA.out (by simp [dropperlaw07_SameRatios.l0])
   | succ k1 =>
    have H := HA.out
    clear HA
    simp only [dropperlaw07_SameRatios.l0] at H
    by_cases c4 : x5_1 < (l0.length : Int)
    ·
     rw [if_pos c4] at H
     have c4b0 : decide (x5_1 < (l0.length : Int)) = true := decide_eq_true c4
     clear c4
     by_cases c5 : 0 ≤ x5_1
     ·
      rw [if_pos c5] at H
      have c5b0 : decide (0 ≤ x5_1) = true := decide_eq_true c5
      clear c5
      by_cases c6 : x5_1 < (l1.length : Int)
      ·
       rw [if_pos c6] at H
       have c6b0 : decide (x5_1 < (l1.length : Int)) = true := decide_eq_true c6
       clear c6
       by_cases c7 : (!(((rd_T35 l0 x5_1).f0) == ((rd_T35 l1 x5_1).f0)) || (!(((rd_T35 l0 x5_1).f1) == ((rd_T35 l1 x5_1).f1)))) = true
       ·
        rw [if_pos c7] at H
        have c7b0 : (!(((rd_T35 l0 x5_1).f0) == ((rd_T35 l1 x5_1).f0)) || (!(((rd_T35 l0 x5_1).f1) == ((rd_T35 l1 x5_1).f1)))) = true := c7
        clear c7
        obtain rfl := Option.some.inj H
        have p167 : 0 ≤ (x5_1 : Int) := of_decide_eq_true asz
        have q167 : x5_1 < (l0.length : Int) := of_decide_eq_true asz
        obtain ⟨ad167, e167, hx167_0, hx167_1⟩ := at_T35 HR0.out x5_1 p167 q167
        cases e167
        replace p167 := eq_true p167
        replace q167 := eq_true q167
        have p168 : 0 ≤ (x5_1 : Int) := of_decide_eq_true asz
        have q168 : x5_1 < (l1.length : Int) := of_decide_eq_true asz
        obtain ⟨ad168, e168, hx168_0, hx168_1⟩ := at_T35 HR1.out x5_1 p168 q168
        cases e168
        replace p168 := eq_true p168
        replace q168 := eq_true q168
        go_wp2
        repeat (go_quiet (fail); try go_wp2)
        go_ret
        exact ⟨by first | rfl | (simp; done) | (simp [*]; done), drz⟩
       ·
        rw [if_neg c7] at H
        have c7b0 : (!(((rd_T35 l0 x5_1).f0) == ((rd_T35 l1 x5_1).f0)) || (!(((rd_T35 l0 x5_1).f1) == ((rd_T35 l1 x5_1).f1)))) = false := by simpa using c7
        clear c7
        have H' := Aside0.mk H
        clear H
        have p167 : 0 ≤ (x5_1 : Int) := of_decide_eq_true asz
        have q167 : x5_1 < (l0.length : Int) := of_decide_eq_true asz
        obtain ⟨ad167, e167, hx167_0, hx167_1⟩ := at_T35 HR0.out x5_1 p167 q167
        cases e167
        replace p167 := eq_true p167
        replace q167 := eq_true q167
        have p168 : 0 ≤ (x5_1 : Int) := of_decide_eq_true asz
        have q168 : x5_1 < (l1.length : Int) := of_decide_eq_true asz
        obtain ⟨ad168, e168, hx168_0, hx168_1⟩ := at_T35 HR1.out x5_1 p168 q168
        cases e168
        replace p168 := eq_true p168
        replace q168 := eq_true q168
        go_wp2
        repeat (go_quiet (fail); try go_wp2)
        go_roundg k1
        case measure => have := HK1.out; omega
        case rel => exact ⟨(wrap64 (x5_1 + 1)), rsz, H', ⟨by have := HK1.out; omega⟩, drz⟩
      ·
       rw [if_neg c6] at H
       exact absurd H (by simp)
     ·
      rw [if_neg c5] at H
      exact absurd H (by simp)
    ·
     rw [if_neg c4] at H
     have c4b0 : decide (x5_1 < (l0.length : Int)) = false := decide_eq_false c4
     clear c4
     obtain rfl := Option.some.inj H
     go_wp2
     repeat (go_quiet (fail); try go_wp2)
     go_ret
     exact ⟨by first | rfl | (simp; done) | (simp [*]; done), drz⟩
 ·
  rw [if_neg c3] at H
  have c3b0 : ((l0.length : Int) == (l1.length : Int)) = false := beq_eq_false_iff_ne.mpr c3
  have c3b1 : ((l0.length : Int) != (l1.length : Int)) = true := bne_iff_ne.mpr c3
  have c3b2 : (l0.length == l1.length) = false := by first | simpa using c3 | (simp at c3 ⊢; omega)
  obtain rfl := Option.some.inj H
  go_enter Try.func28, Try.ntmps28
  go_wp2
  repeat (go_quiet (fail); try go_wp2)
  go_ret
  exact ⟨by first | rfl | (simp; done) | (simp [*]; done), drz⟩

end Go.Proofs.Ytpdcpekjafcohaa.XWear