-- Written by wip/pack.py of this repo: texts of this claim, put together.
import Derived.Shelf.Small.Bits
import Derived.Shelf.Small.Wraps
import Derived.Shelf.Strconv.Itoa0
import Derived.Shelf.Sort.Plain
import Derived.Shelf.Slices.Turned
import Derived.Ground.Names2Prog
import Derived.Shelf.Slices.Clone
import Derived.Shelf.Slices.SearchI
import Derived.Shelf.Slices.In.SortNone
import Derived.Ground.SlgnProg
import Derived.Shelf.SlicesE.Clone
import Derived.Test.YtoilhnmdemnknaaDoorProg
import Derived.StillTailTactics
import Derived.Maps.OwnSet
import Derived.Maps.RangeWalk
import Derived.Below
import Derived.Deep.Draws
import Derived.Deep.AppendLies
import Derived.Maps.AppendAt
import Derived.OwnWalk
import Derived.Laws.BytesArg
import Derived.Laws.MakeOwn
import Derived.Laws.OwnMore
import Derived.Deep.OwnRows
import Derived.Tactics
import Derived.Lib.ConvBytes
import Derived.Laws.Slices
import Derived.WalkKit
import Derived.KernelRfl
import Derived.RowKit3
import Derived.Deep.LoopGhost
import Derived.Deep.QuietTactic
import Derived.BigQuiet
import Derived.WideLaws
import Derived.Deep.DeepCutAuto
import Derived.Deep.CutBlock
import Derived.Deep.RegionHeld3
import Derived.Laws.Rows
import Derived.Lib.AppendStr
import Derived.ArgAppend
import Derived.Laws.IdiomCopy
import Derived.OrdersHeld
import Derived.Laws.BitsLemmas
import Derived.RowKit
import Derived.Laws.CopyOwn
import Derived.Sort.OwnSortedInts
import Derived.Test.YtoilhnmdemnknaaDoorKFeedReacha
/-
 DERIVED: THE SHELF's CONTRACTS AT THIS DUMP, IN PLAIN WORDS (tools/lay-plain.mjs out of 'TrydShelf.lean', which tools/lay-shelf.mjs wrote): THE SAME DECLARATIONS UNDER THE SAME NAMES: 'import', 'namespace', 'open', 'def', 'theorem' AND NOTHING ELSE: no command of the shelf's: FOR A HAND-IN. Each laying: the table of numbers ('.._ren') and one theorem, a field a fact of the dump's own or the kernel's comparison; each contract: ONE APPLICATION.
-/
namespace Go.Proofs
open Go.Shelf
def Tryd.lays189_ren : Go.Shelf.Ren := ⟨fun | 189 => 83 | 125 => 105 | 257 => 104 | 128 => 119 | 129 => 120 | 294 => 110 | 295 => 111 | 296 => 112 | 297 => 113 | 298 => 114 | 299 => 115 | 216 => 116 | 300 => 117 | 301 => 118 | 328 => 121 | 329 => 122 | 330 => 123 | 331 => 124 | 332 => 125 | 215 => 126 | 343 => 127 | n => n, fun | 28 => 28 | 3 => 3 | 46 => 90 | 0 => 0 | 51 => 129 | 53 => 131 | 4 => 4 | 183 => 136 | 182 => 135 | 131 => 125 | 5 => 5 | 9 => 9 | 218 => 143 | 222 => 147 | 228 => 149 | 229 => 150 | n => n, fun | n => n⟩
theorem Tryd.lays189 : Go.Proofs.Lays.n189 Tryd.prog Tryd.lays189_ren := {
 mixed := by kernel_rfl
 f125 := Tryd.func105.trans (congrArg some (by kernel_rfl))
 f128 := Tryd.func119.trans (congrArg some (by kernel_rfl))
 f129 := Tryd.func120.trans (congrArg some (by kernel_rfl))
 f189 := Tryd.func83.trans (congrArg some (by kernel_rfl))
 f215 := Tryd.func126.trans (congrArg some (by kernel_rfl))
 f216 := Tryd.func116.trans (congrArg some (by kernel_rfl))
 f257 := Tryd.func104.trans (congrArg some (by kernel_rfl))
 f294 := Tryd.func110.trans (congrArg some (by kernel_rfl))
 f295 := Tryd.func111.trans (congrArg some (by kernel_rfl))
 f296 := Tryd.func112.trans (congrArg some (by kernel_rfl))
 f297 := Tryd.func113.trans (congrArg some (by kernel_rfl))
 f298 := Tryd.func114.trans (congrArg some (by kernel_rfl))
 f299 := Tryd.func115.trans (congrArg some (by kernel_rfl))
 f300 := Tryd.func117.trans (congrArg some (by kernel_rfl))
 f301 := Tryd.func118.trans (congrArg some (by kernel_rfl))
 f328 := Tryd.func121.trans (congrArg some (by kernel_rfl))
 f329 := Tryd.func122.trans (congrArg some (by kernel_rfl))
 f330 := Tryd.func123.trans (congrArg some (by kernel_rfl))
 f331 := Tryd.func124.trans (congrArg some (by kernel_rfl))
 f332 := Tryd.func125.trans (congrArg some (by kernel_rfl))
 f343 := Tryd.func127.trans (congrArg some (by kernel_rfl))
 t0 := Tryd.underlying0
 a0 := Tryd.isAgg0
 z0 := Tryd.sizeOf0
 v0 := Tryd.zeroValue0
 t3 := Tryd.underlying3
 a3 := Tryd.isAgg3
 z3 := Tryd.sizeOf3
 v3 := Tryd.zeroValue3
 t4 := Tryd.underlying4
 a4 := Tryd.isAgg4
 z4 := Tryd.sizeOf4
 v4 := Tryd.zeroValue4
 t5 := Tryd.underlying5
 a5 := Tryd.isAgg5
 z5 := Tryd.sizeOf5
 v5 := Tryd.zeroValue5
 t9 := Tryd.underlying9
 a9 := Tryd.isAgg9
 z9 := Tryd.sizeOf9
 v9 := Tryd.zeroValue9
 t28 := Tryd.underlying28
 a28 := Tryd.isAgg28
 z28 := Tryd.sizeOf28
 v28 := Tryd.zeroValue28
 t46 := Tryd.underlying90
 a46 := Tryd.isAgg90
 z46 := Tryd.sizeOf90
 v46 := Tryd.zeroValue90
 t51 := Tryd.underlying129
 a51 := Tryd.isAgg129
 z51 := Tryd.sizeOf129
 v51 := Tryd.zeroValue129
 t53 := Tryd.underlying131
 a53 := Tryd.isAgg131
 z53 := Tryd.sizeOf131
 v53 := Tryd.zeroValue131
 t131 := Tryd.underlying125
 a131 := Tryd.isAgg125
 z131 := Tryd.sizeOf125
 v131 := Tryd.zeroValue125
 t182 := Tryd.underlying135
 a182 := Tryd.isAgg135
 z182 := Tryd.sizeOf135
 v182 := Tryd.zeroValue135
 t183 := Tryd.underlying136
 a183 := Tryd.isAgg136
 z183 := Tryd.sizeOf136
 v183 := Tryd.zeroValue136
 t218 := Tryd.underlying143
 a218 := Tryd.isAgg143
 z218 := Tryd.sizeOf143
 v218 := Tryd.zeroValue143
 t222 := Tryd.underlying147
 a222 := Tryd.isAgg147
 z222 := Tryd.sizeOf147
 v222 := Tryd.zeroValue147
 t228 := Tryd.underlying149
 a228 := Tryd.isAgg149
 z228 := Tryd.sizeOf149
 v228 := Tryd.zeroValue149
 t229 := Tryd.underlying150
 a229 := Tryd.isAgg150
 z229 := Tryd.sizeOf150
 v229 := Tryd.zeroValue150 }
open Go.Sort Go.RowKit in
theorem Tryd.slices_Sort_int (blk off cap : Nat) (zs : List Int) (w : World) (hH : Holds (Value.int .i64) w blk off zs.toArray) (hblk : blk < w.heap.size) (hsz : zs.length < 4611686018427387904) :
  Calls Tryd.prog 83 #[.slice (some ⟨blk, off, none⟩) zs.length cap] w fun e w' =>
   e = .returned (.tuple #[]) ∧ ∃ n os, w' = grow (putRow (Value.int .i64) (Sort.ahead w n) blk off (zs.mergeSort fun x y => decide (x ≤ y)).toArray) os := Any.slices_Sort_int Tryd.lays189 blk off cap zs w hH hblk hsz
def Tryd.laysNm215_ren : Go.Shelf.Ren := ⟨fun | 15 => 97 | n => n, fun | 22 => 28 | 3 => 3 | 4 => 4 | n => n, fun | n => n⟩
theorem Tryd.laysNm215 : Go.Proofs.Lays2.n15 Tryd.prog Tryd.laysNm215_ren := {
 mixed := by kernel_rfl
 f15 := Tryd.func97.trans (congrArg some (by kernel_rfl))
 t3 := Tryd.underlying3
 a3 := Tryd.isAgg3
 z3 := Tryd.sizeOf3
 v3 := Tryd.zeroValue3
 t4 := Tryd.underlying4
 a4 := Tryd.isAgg4
 z4 := Tryd.sizeOf4
 v4 := Tryd.zeroValue4
 t22 := Tryd.underlying28
 a22 := Tryd.isAgg28
 z22 := Tryd.sizeOf28
 v22 := Tryd.zeroValue28
 i3 := by kernel_rfl }
open Go.RowKit Go.Lib in
theorem Tryd.slices_Clone_int (b off n c : Nat) (zs : List Int) (w : World) (hz : n ≤ zs.length) (hbig : n * 8 ≤ 140737488355328) (hc : ∀ j, j < zs.length → w.cell? ⟨b, off + j, none⟩ = some (.int .i64 (zs.getD j 0))) :
  Calls Tryd.prog 97 #[.slice (some ⟨b, off, none⟩) n c] w fun e w' => ∃ v', e = .returned v' ∧ w'.ownsRow w.heap.size 3 1 v' n ((zs.take n).map (Value.int .i64)) ∧ v' ≠ .slice none 0 0 ∧ Below w.heap.size w w' := Any.slices_Clone_int Tryd.laysNm215 b off n c zs w hz hbig hc
open Go.RowKit Go.Lib in
theorem Tryd.slices_Clone_int_nil (n c : Nat) (w : World) :
  Calls Tryd.prog 97 #[.slice none n c] w fun e w' => e = .returned (.slice none 0 0) ∧ w' = w := Any.slices_Clone_int_nil Tryd.laysNm215 n c w
open Go.RowKit Go.Lib in
theorem Tryd.slices_Clone_int_zero (a : Addr) (c : Nat) (w : World) :
  Calls Tryd.prog 97 #[.slice (some a) 0 c] w fun e w' => ∃ v', e = .returned v' ∧ w'.ownsRow w.heap.size 3 1 v' 0 [] ∧ v' ≠ .slice none 0 0 ∧ Below w.heap.size w w' := Any.slices_Clone_int_zero Tryd.laysNm215 a c w
end Go.Proofs

namespace Go.Proofs.YtoilhnmdemnknaaDoor.Idx
def idxFrom {α : Type} (p : α → Bool) (l : List α) : Int := if l.any p then (l.findIdx p : Int) else -1
theorem idxFrom_at {α : Type} {p : α → Bool} {l : List α} {i : Nat} (hi : i < l.length) (hp : p l[i] = true) (hb : ∀ j (h : j < l.length), j < i → p l[j] = false) : idxFrom p l = i := by
 have ha : l.any p = true := List.any_eq_true.2 ⟨l[i], List.getElem_mem hi, hp⟩
 have hf : l.findIdx p = i := by
  rw [List.findIdx_eq hi]
  exact ⟨hp, fun j hj => hb j _ hj⟩
 simp [idxFrom, ha, hf]
theorem idxFrom_none {α : Type} {p : α → Bool} {l : List α} (hb : ∀ j (h : j < l.length), j < l.length → p l[j] = false) : idxFrom p l = -1 := by
 have ha : l.any p = false := by
  rw [List.any_eq_false]
  intro x hx
  obtain ⟨j, hj, rfl⟩ := List.mem_iff_getElem.1 hx
  simp [hb j hj hj]
 simp [idxFrom, ha]
theorem idx_ge {α : Type} (p : α → Bool) (l : List α) : decide (0 ≤ idxFrom p l) = l.any p := by
 unfold idxFrom
 by_cases h : l.any p = true
 ·
  simp [h]
 ·
  have h2 : l.any p = false := by simpa using h
  simp [h2]
end Go.Proofs.YtoilhnmdemnknaaDoor.Idx

namespace Go.Proofs.YtoilhnmdemnknaaDoor.Tab
open Go.RowKit Go.Proofs.YtoilhnmdemnknaaDoorW.PrintWords Go.Proofs.YtoilhnmdemnknaaDoorW.PrintLast Go.Proofs.YtoilhnmdemnknaaDoorW.PrintMore
def tab64 : List Int := [0, 1, 56, 2, 57, 49, 28, 3, 61, 58, 42, 50, 38, 29, 17, 4, 62, 47, 59, 36, 45, 43, 51, 22, 53, 39, 33, 30, 24, 18, 12, 5, 63, 55, 48, 27, 60, 41, 37, 16, 46, 35, 44, 21, 52, 32, 23, 11, 54, 26, 40, 15, 34, 20, 31, 10, 25, 14, 19, 9, 13, 8, 7, 6]
theorem val {i : Int} (h0 : 0 ≤ i) (h1 : i < 64) : 0 ≤ rd tab64 i ∧ rd tab64 i ≤ 63 := by
 obtain ⟨n, rfl⟩ := Int.eq_ofNat_of_zero_le h0
 have hn : n < 64 := by omega
 have key : ∀ n : Nat, n < 64 → 0 ≤ rd tab64 (n : Int) ∧ rd tab64 (n : Int) ≤ 63 := by decide +kernel
 exact key n hn
theorem rd_tab {i : Int} (_h0 : 0 ≤ i) : tab64.getD i.toNat 0 = rd tab64 i := by simp [rd]
def Tabs (w : World) : Prop := ∀ i, i < 64 → w.cell? ⟨1, i, none⟩ = some (.int .u8 (tab64.getD i 0))
theorem Tabs.size {w : World} (h : Tabs w) : 1 < w.heap.size := by
 have hcap := h 0 (by omega)
 unfold World.cell? at hcap
 split at hcap
 ·
  rename_i h; exact (Array.getElem?_eq_some_iff.1 h).1
 ·
  cases hcap
theorem Tabs.below {w w' : World} (h : Tabs w) (hb : Below w.heap.size w w') : Tabs w' := fun i hi => by rw [hb.cell h.size]; exact h i hi
theorem Tabs.alloc {w : World} (h : Tabs w) (o : Obj) : Tabs (w.alloc o) := h.below (below_alloc (Below.refl _ _) o)
theorem Tabs.drewN {w : World} (h : Tabs w) (n : Nat) : Tabs (w.drewN n) := h.below (pw_below_drewN (Below.refl _ _) n)
theorem Tabs.drew {w : World} (h : Tabs w) : Tabs w.drew := h.below (pw_below_drewN (Below.refl _ _) 1)
end Go.Proofs.YtoilhnmdemnknaaDoor.Tab

/- Short words for what the printed walks prove again and again: each bears its own proof as a default, found where it is used. -/
namespace Go.Proofs.YtoilhnmdemnknaaDoorW.PrintMore
open Go.RowKit Go.Proofs.YtoilhnmdemnknaaDoorW.PrintWords Go.Proofs.YtoilhnmdemnknaaDoorW.PrintLast
set_option linter.unusedVariables false

theorem bel {n : Nat} {w W : World} (h : Below n w W := by repeat (first | (with_reducible first | exact HB.out | apply below_alloc | apply pw_below_drewN | apply below_drew1 | refine below_set ?_ (Aside0.out (by assumption))) | exact HB.out)) : Below n w W := h
theorem blkz {W : World} {g : Nat} {o : Obj} (h : W.heap[g]? = some o := by (with_reducible repeat (first | refine blk_drewN ?_ _ | refine blk_drew ?_ | refine blk_alloc ?_ _)); exact Aside0.out (by assumption)) : W.heap[g]? = some o := h
theorem blkc {W : World} {g : Nat} {cs : Array Value} {t : TypeId} (h : W.heap[g]? = some (.cells cs t (0, 0))) (i : Nat) (v : Value) (e : cs[i]? = some v) : W.cell? ⟨g, i, none⟩ = some v := (blk_cell h i).trans e
theorem cbz {α : Type} {d : Kd α} {w W : World} {A : Option Addr} {n : Nat} {xs : List α} (K : Aside0 (d.C w A n xs)) (h : Below w.heap.size w W := by repeat (first | (with_reducible first | exact HB.out | apply below_alloc | apply pw_below_drewN | apply below_drew1 | refine below_set ?_ (Aside0.out (by assumption))) | exact HB.out)) : d.C W A n xs := Kd.C_below K.out h
theorem mapz {α : Type} {a b : α} (h : a = b := by (try simp only [List.map_toArray, List.map_cons, List.map_nil]); first | done | rfl | (simp only [List.length_drop, List.length_take]; rfl)) : a = b := h
theorem asz {p : Prop} (h : p := by first | (with_reducible assumption) | assumption) : p := h
theorem rsz {α : Sort _} {a b : α} (h : a = b := by first | rfl | (simp; done) | (simp [*]; done)) : a = b := h
theorem drz {w W : World} (h : Drawn0 w W := by repeat (first | exact Drawn0.refl _ | apply Drawn0.step)) : Drawn0 w W := h
theorem ownx {α : Type} {d : Kd α} {e : Nat} {W0 W : World} {base : Nat} {ok : Nat → Prop} {v : Value} {xs : List α} (K : Aside0 (d.R e W0 base ok v xs)) (h : d.R e W base ok v xs := by (with_reducible repeat (first | apply Kd.R_alloc | apply Kd.R_drewN | apply Kd.R_drew)); exact Aside0.out (by assumption)) : d.R e W base ok v xs := h
theorem ezz {α : Sort _} {a b : α} (h : a = b := by first | rfl | (simp [errW_none, errW_some] <;> rfl) | (simp [*, errW_none, errW_some] <;> rfl)) : a = b := h
theorem bsz {w W : World} {g : Nat} (hg : g = W.heap.size) (h : Below w.heap.size w W := by repeat (first | (with_reducible first | exact HB.out | apply below_alloc | apply pw_below_drewN | apply below_drew1 | refine below_set ?_ (Aside0.out (by assumption))) | exact HB.out)) : Aside0 (w.heap.size ≤ g) := ⟨by rw [hg]; exact below_size h⟩
theorem neL {W : World} {g g' : Nat} {o : Obj} (hg : g' = W.heap.size) (h : W.heap[g]? = some o := by (with_reducible repeat (first | refine blk_drewN ?_ _ | refine blk_drew ?_ | refine blk_alloc ?_ _)); exact Aside0.out (by assumption)) : Aside0 (g ≠ g') := ⟨by rw [hg]; exact Nat.ne_of_lt (blk_lt h)⟩
theorem neR {W : World} {g g' : Nat} {o : Obj} (hg : g' = W.heap.size) (h : W.heap[g]? = some o := by (with_reducible repeat (first | refine blk_drewN ?_ _ | refine blk_drew ?_ | refine blk_alloc ?_ _)); exact Aside0.out (by assumption)) : Aside0 (g' ≠ g) := ⟨by rw [hg]; exact Nat.ne_of_gt (blk_lt h)⟩
def bz (n m : Nat) : Array Bool := ((List.range n).map m.testBit).toArray
section
variable {P : Program} {md : Region.Mode} {ops : Array Oper} {Q : Exit → Act → World → Prop} {S : World → Prop} {ds : List Nat}
theorem pst {i : Nat} {N : Option Tmp} {oi : Oper} {v : Value} {fuel : Nat} {l : Array Bool} {a a' : Act} {w : World} (l' : Array Bool) (hc : anyB md ops l l' i = true) (h : wpAnyLast P md ops Q S ds fuel l' a' w)
  (hi : ops[i]? = some oi := by rfl) (hN : oi.dst = N := by rfl) (hy : Yields P ops oi v a := by exact Or.inl ⟨by rfl, by (intro w'; go_simp; with_reducible rfl)⟩) (ha : a.put N v = a' := by (simp only [Act.put, List.setIfInBounds_toArray, List.set_cons_zero, List.set_cons_succ, i64_w, i32_w]; rfl)) (hQ : ∀ c a w, Q (.panic c) (a.put oi.dst v) w → Q (.panic c) a w := by exact (fun _ _ _ h => h)) :
  wpAnyLast P md ops Q S ds (fuel + 1) l a w := pure_ l' hi hN hc hQ hy ha h
theorem pso {i : Nat} {N : Option Tmp} {oi : Oper} {fuel : Nat} {l : Array Bool} {a a' : Act} {w : World} (l' : Array Bool) (hc : anyB md ops l l' i = true) (h : wpAnyLast P md ops Q S ds fuel l' a' w)
  (hi : ops[i]? = some oi := by rfl) (hN : oi.dst = N := by rfl) (hy : Yields P ops oi undef a := by exact Or.inr ⟨by rfl, rfl⟩) (ha : a.put N undef = a' := by (simp only [Act.put, List.setIfInBounds_toArray, List.set_cons_zero, List.set_cons_succ, i64_w, i32_w]; rfl)) (hQ : ∀ c a w, Q (.panic c) (a.put oi.dst undef) w → Q (.panic c) a w := by exact (fun _ _ _ h => h)) :
  wpAnyLast P md ops Q S ds (fuel + 1) l a w := pure_ l' hi hN hc hQ hy ha h
theorem tst1 {i : Nat} {N : Option Tmp} {oi : Oper} {v : Value} {fuel : Nat} {l : Array Bool} {a a' : Act} {w : World} (l' : Array Bool) (hc : takeB md ops ds l l' i = true) (hS : S w) (h : wpAnyLast P md ops Q S ds fuel l' a' w)
  (hi : ops[i]? = some oi := by rfl) (hN : oi.dst = N := by rfl) (hy : YieldsIf P ops S oi v a := by exact Or.inl ⟨by rfl, by (rintro w' s0; go_simp; with_reducible rfl)⟩) (ha : a.put N v = a' := by (simp only [Act.put, List.setIfInBounds_toArray, List.set_cons_zero, List.set_cons_succ, i64_w, i32_w]; rfl)) (hQ : ∀ c a w, Q (.panic c) (a.put oi.dst v) w → Q (.panic c) a w := by exact (fun _ _ _ h => h)) :
  wpAnyLast P md ops Q S ds (fuel + 1) l a w := take_ l' hi hN hc hQ hy hS ha h
theorem tst2 {i : Nat} {N : Option Tmp} {oi : Oper} {v : Value} {fuel : Nat} {l : Array Bool} {a a' : Act} {w : World} (l' : Array Bool) (hc : takeB md ops ds l l' i = true) (hS : S w) (h : wpAnyLast P md ops Q S ds fuel l' a' w)
  (hi : ops[i]? = some oi := by rfl) (hN : oi.dst = N := by rfl) (hy : YieldsIf P ops S oi v a := by exact Or.inl ⟨by rfl, by (rintro w' ⟨s0, s1⟩; go_simp; with_reducible rfl)⟩) (ha : a.put N v = a' := by (simp only [Act.put, List.setIfInBounds_toArray, List.set_cons_zero, List.set_cons_succ, i64_w, i32_w]; rfl)) (hQ : ∀ c a w, Q (.panic c) (a.put oi.dst v) w → Q (.panic c) a w := by exact (fun _ _ _ h => h)) :
  wpAnyLast P md ops Q S ds (fuel + 1) l a w := take_ l' hi hN hc hQ hy hS ha h
theorem tst3 {i : Nat} {N : Option Tmp} {oi : Oper} {v : Value} {fuel : Nat} {l : Array Bool} {a a' : Act} {w : World} (l' : Array Bool) (hc : takeB md ops ds l l' i = true) (hS : S w) (h : wpAnyLast P md ops Q S ds fuel l' a' w)
  (hi : ops[i]? = some oi := by rfl) (hN : oi.dst = N := by rfl) (hy : YieldsIf P ops S oi v a := by exact Or.inl ⟨by rfl, by (rintro w' ⟨s0, s1, s2⟩; go_simp; with_reducible rfl)⟩) (ha : a.put N v = a' := by (simp only [Act.put, List.setIfInBounds_toArray, List.set_cons_zero, List.set_cons_succ, i64_w, i32_w]; rfl)) (hQ : ∀ c a w, Q (.panic c) (a.put oi.dst v) w → Q (.panic c) a w := by exact (fun _ _ _ h => h)) :
  wpAnyLast P md ops Q S ds (fuel + 1) l a w := take_ l' hi hN hc hQ hy hS ha h
theorem tst4 {i : Nat} {N : Option Tmp} {oi : Oper} {v : Value} {fuel : Nat} {l : Array Bool} {a a' : Act} {w : World} (l' : Array Bool) (hc : takeB md ops ds l l' i = true) (hS : S w) (h : wpAnyLast P md ops Q S ds fuel l' a' w)
  (hi : ops[i]? = some oi := by rfl) (hN : oi.dst = N := by rfl) (hy : YieldsIf P ops S oi v a := by exact Or.inl ⟨by rfl, by (rintro w' ⟨s0, s1, s2, s3⟩; go_simp; with_reducible rfl)⟩) (ha : a.put N v = a' := by (simp only [Act.put, List.setIfInBounds_toArray, List.set_cons_zero, List.set_cons_succ, i64_w, i32_w]; rfl)) (hQ : ∀ c a w, Q (.panic c) (a.put oi.dst v) w → Q (.panic c) a w := by exact (fun _ _ _ h => h)) :
  wpAnyLast P md ops Q S ds (fuel + 1) l a w := take_ l' hi hN hc hQ hy hS ha h
theorem tst5 {i : Nat} {N : Option Tmp} {oi : Oper} {v : Value} {fuel : Nat} {l : Array Bool} {a a' : Act} {w : World} (l' : Array Bool) (hc : takeB md ops ds l l' i = true) (hS : S w) (h : wpAnyLast P md ops Q S ds fuel l' a' w)
  (hi : ops[i]? = some oi := by rfl) (hN : oi.dst = N := by rfl) (hy : YieldsIf P ops S oi v a := by exact Or.inl ⟨by rfl, by (rintro w' ⟨s0, s1, s2, s3, s4⟩; go_simp; with_reducible rfl)⟩) (ha : a.put N v = a' := by (simp only [Act.put, List.setIfInBounds_toArray, List.set_cons_zero, List.set_cons_succ, i64_w, i32_w]; rfl)) (hQ : ∀ c a w, Q (.panic c) (a.put oi.dst v) w → Q (.panic c) a w := by exact (fun _ _ _ h => h)) :
  wpAnyLast P md ops Q S ds (fuel + 1) l a w := take_ l' hi hN hc hQ hy hS ha h
theorem tst6 {i : Nat} {N : Option Tmp} {oi : Oper} {v : Value} {fuel : Nat} {l : Array Bool} {a a' : Act} {w : World} (l' : Array Bool) (hc : takeB md ops ds l l' i = true) (hS : S w) (h : wpAnyLast P md ops Q S ds fuel l' a' w)
  (hi : ops[i]? = some oi := by rfl) (hN : oi.dst = N := by rfl) (hy : YieldsIf P ops S oi v a := by exact Or.inl ⟨by rfl, by (rintro w' ⟨s0, s1, s2, s3, s4, s5⟩; go_simp; with_reducible rfl)⟩) (ha : a.put N v = a' := by (simp only [Act.put, List.setIfInBounds_toArray, List.set_cons_zero, List.set_cons_succ, i64_w, i32_w]; rfl)) (hQ : ∀ c a w, Q (.panic c) (a.put oi.dst v) w → Q (.panic c) a w := by exact (fun _ _ _ h => h)) :
  wpAnyLast P md ops Q S ds (fuel + 1) l a w := take_ l' hi hN hc hQ hy hS ha h
end
end Go.Proofs.YtoilhnmdemnknaaDoorW.PrintMore

/- A map of the call's own, from integers to rows of integers of the call's own: each element is read as the very value that it is ('held'), so that the kit's laws on a map of plain elements serve; the rows stand beside it. -/
namespace Go.Proofs.YtoilhnmdemnknaaDoorW.PrintMore
open Go.RowKit Go.Proofs.YtoilhnmdemnknaaDoorW.PrintWords Go.Proofs.YtoilhnmdemnknaaDoorW.PrintLast
open Go.Maps (Keyed int_keyed keyOf_int_mk)
set_option linter.unusedVariables false

def anyElem (v : Value) : Option (DataW Value × List MemPlace) := some (.held v, [])
theorem anyElem_inv {v u : Value} {ps : List MemPlace} (h : anyElem v = some (.held u, ps)) : v = u := by
 simp only [anyElem, Option.some.injEq, Prod.mk.injEq, DataW.held.injEq] at h
 exact h.1
def hasKey (q : List (Int × List Int)) (s : Int) : Bool := q.any fun p => p.1 == s
def RMap (P : Program) (kk e : TypeId) (w : World) (base b n : Nat) (S : Nat → Prop) (q : List (Int × List Int)) : Prop :=
 ∃ D : DataW Value, w.ownsMap P kk anyElem b n D ∧ (∀ s, (Lit.int .i64 s).wf = true → Maps.has D (.int .i64 s) = hasKey q s) ∧
  ∀ p ∈ q, ∃ v, (∀ z, D.atKey (.int .i64 p.1) z = .held v) ∧ (Kd.int .i64).R e w base S v p.2
theorem ownsMap_keep {P : Program} {kk : TypeId} {H : Type} {R : Value → Option (DataW H × List MemPlace)} {w w1 : World} {b n : Nat} {D : DataW H} (h : w.ownsMap P kk R b n D) (hb : w1.heap[b]? = w.heap[b]?) : w1.ownsMap P kk R b n D := by
 obtain ⟨es, clock, h1, r⟩ := h
 exact ⟨es, clock, hb.trans h1, r⟩
section
variable {P : Program} {kk e : TypeId} {w w1 : World} {base b n : Nat} {S S' : Nat → Prop} {q : List (Int × List Int)}
theorem RMap.lt (h : RMap P kk e w base b n S q) : b < w.heap.size := by
 obtain ⟨D, h1, _⟩ := h
 exact h1.lt
theorem RMap.made (P : Program) (kk e : TypeId) (w : World) (base : Nat) (S : Nat → Prop) : RMap P kk e (w.alloc (.map #[] 0)) base w.heap.size 0 S [] :=
 ⟨.map [], World.ownsMap_made w P kk anyElem, fun _ _ => rfl, fun _ h => by cases h⟩
theorem RMap.keep (h : RMap P kk e w base b n S q) (hb : w1.heap[b]? = w.heap[b]?) (hs : ∀ k, S k → k < w.heap.size → w1.heap[k]? = w.heap[k]?) : RMap P kk e w1 base b n S q := by
 obtain ⟨D, h1, h2, h3⟩ := h
 refine ⟨D, ownsMap_keep h1 hb, h2, fun p hp => ?_⟩
 obtain ⟨v, hv, hr⟩ := h3 p hp
 exact ⟨v, hv, Kd.R_step hr hs⟩
theorem RMap.below (h : RMap P kk e w base b n S q) (hb : Below w.heap.size w w1) : RMap P kk e w1 base b n S q :=
 h.keep (hb.block b h.lt) (fun k _ hk => hb.block k hk)
theorem RMap.alloc (h : RMap P kk e w base b n S q) (o : Obj) : RMap P kk e (w.alloc o) base b n S q := h.below (below_alloc (Below.refl _ _) o)
theorem RMap.drewN (h : RMap P kk e w base b n S q) (m : Nat) : RMap P kk e (w.drewN m) base b n S q := h.keep rfl (fun _ _ _ => rfl)
theorem RMap.drew (h : RMap P kk e w base b n S q) : RMap P kk e w.drew base b n S q := h.keep rfl (fun _ _ _ => rfl)
theorem RMap.grown (h : RMap P kk e w base b n S q) {row : Option Nat} (hg : w.grownBy w1 row) (hb : some b ≠ row) (hs : ∀ k, S k → some k ≠ row) : RMap P kk e w1 base b n S q :=
 h.keep (hg.block b h.lt hb) (fun k hk hlt => hg.block k hlt (hs k hk))
theorem RMap.mono (h : RMap P kk e w base b n S q) {n' : Nat} (hn : n ≤ n') : RMap P kk e w base b n' S q := by
 obtain ⟨D, h1, h2⟩ := h
 exact ⟨D, h1.mono hn, h2⟩
theorem RMap.look_ok {t E : TypeId} (h : RMap P kk e w base b n S q) (ht : P.underlying t = some (.map kk E)) (hk : P.underlying kk = some (.int .i64)) (hz : (zeroValue E).run P w = .ok (.slice none 0 0) w) {s : Int} (hw : (Lit.int .i64 s).wf = true) :
  ∃ v, (Instr.lookup t (.map (some b)) (.int .i64 s) true).run P w = .ok (.tuple #[v, .bool (hasKey q s)]) w ∧ (hasKey q s = false → v = .slice none 0 0) ∧ ∀ zs, (s, zs) ∈ q → (Kd.int .i64).R e w base S v zs := by
 obtain ⟨D, h1, h2, h3⟩ := h
 obtain ⟨v, ps, hrun, hv⟩ := h1.look_ok (int_keyed hk) ht hz (zd := .held (.slice none 0 0)) (zp := []) rfl (keyOf_int_mk hk hw)
 refine ⟨v, by rw [hrun, h2 s hw], fun hn => ?_, fun zs hm => ?_⟩
 ·
  rw [Maps.atKey_of_not_has ((h2 s hw).trans hn)] at hv
  exact anyElem_inv hv
 ·
  obtain ⟨v', hv', hr⟩ := h3 _ hm
  rw [hv'] at hv
  rw [anyElem_inv hv]
  exact hr
theorem RMap.look {t E : TypeId} (h : RMap P kk e w base b n S q) (ht : P.underlying t = some (.map kk E)) (hk : P.underlying kk = some (.int .i64)) (hz : (zeroValue E).run P w = .ok (.slice none 0 0) w) {s : Int} (hw : (Lit.int .i64 s).wf = true) :
  ∃ v, (Instr.lookup t (.map (some b)) (.int .i64 s) false).run P w = .ok v w ∧ ∀ zs, (s, zs) ∈ q → (Kd.int .i64).R e w base S v zs := by
 obtain ⟨D, h1, h2, h3⟩ := h
 obtain ⟨v, ps, hrun, hv⟩ := h1.lookup (int_keyed hk) ht hz (zd := .held (.slice none 0 0)) (zp := []) rfl (keyOf_int_mk hk hw)
 refine ⟨v, hrun, fun zs hm => ?_⟩
 obtain ⟨v', hv', hr⟩ := h3 _ hm
 rw [hv'] at hv
 rw [anyElem_inv hv]
 exact hr
theorem hasKey_false {q : List (Int × List Int)} {s : Int} (h : hasKey q s = false) : ∀ p ∈ q, p.1 ≠ s := fun p hp e => by
 have := List.any_eq_false.1 h p hp
 simp [e] at this
theorem RMap.store {t E : TypeId} (h : RMap P kk e w base b n S q) (ht : P.underlying t = some (.map kk E)) (hk : P.underlying kk = some (.int .i64)) (hn : n < maxLen) {s : Int} (hw : (Lit.int .i64 s).wf = true) (hq : ∀ p ∈ q, (Lit.int .i64 p.1).wf = true)
  (hnew : hasKey q s = false) {v : Value} {zs : List Int} (hv : (Kd.int .i64).R e w base S' v zs) (hS : ∀ k, S k → S' k) (hSb : ¬ S' b) :
  ∃ w', (Instr.mapUpdate t (.map (some b)) (.int .i64 s) v).run P w = .ok () w' ∧ RMap P kk e w' base b (n + 1) S' (q ++ [(s, zs)]) ∧ w.grownBy w' (some b) := by
 obtain ⟨D, h1, h2, h3⟩ := h
 obtain ⟨w', hrun, ho, hg⟩ := h1.update (int_keyed hk) ht hn (val := v) (d := .held v) (ps := []) (keyOf_int_mk hk hw) rfl
 have hrow : ∀ k, S' k → some k ≠ some b := fun k hk e => by
  injection e with e
  exact hSb (e ▸ hk)
 have hkey : WideAt.IsKeyLit (.int .i64 s) := (int_keyed hk).key (keyOf_int_mk hk hw)
 refine ⟨w', hrun, ⟨_, ho, fun s' hw' => ?_, fun p hp => ?_⟩, hg⟩
 ·
  have e1 : hasKey (q ++ [(s, zs)]) s' = (hasKey q s' || (s == s')) := by simp [hasKey]
  rw [e1]
  by_cases hss : s' = s
  ·
   subst hss
   rw [Maps.has_put_same h1.isMap hkey]
   simp
  ·
   rw [Maps.has_put_other (fun e => hss (by injection e)), h2 s' hw']
   have : (s == s') = false := beq_eq_false_iff_ne.mpr (fun e => hss e.symm)
   rw [this, Bool.or_false]
 ·
  rcases List.mem_append.1 hp with hp | hp
  ·
   obtain ⟨u, hu, hr⟩ := h3 p hp
   refine ⟨u, fun z => ?_, Kd.R_grown (Kd.R_mono hr hS) hg hrow⟩
   rw [Maps.atKey_put_other (fun e => hasKey_false hnew p hp (by injection e)), hu]
  ·
   rw [List.mem_singleton] at hp
   subst hp
   exact ⟨v, fun z => Maps.atKey_put_same h1.isMap hkey _ _, Kd.R_grown hv hg hrow⟩
end
theorem rmap_store {P : Program} {w : World} {ops : Array Oper} {rest : List Oper} {o : Oper} {a : Act} {Q : Exit → Act → World → Prop} {kk e t E : TypeId} {base b n : Nat} {S S' : Nat → Prop} {q : List (Int × List Int)}
  (hg : o.guard = none) (m x v : Operand) (hop : o.op = Op.mapUpdate t m x v ∨ o.op = Op.insert t m x v) (hm : a.eval m = .map (some b)) (s : Int) (hx : a.eval x = .int .i64 s) (u : Value) (hv : a.eval v = u)
  (h : RMap P kk e w base b n S q) (ht : P.underlying t = some (.map kk E)) (hk : P.underlying kk = some (.int .i64)) (hn : n < maxLen) (hw : (Lit.int .i64 s).wf = true) (hq : ∀ p ∈ q, (Lit.int .i64 p.1).wf = true)
  (hnew : hasKey q s = false) (zs : List Int) (hr : (Kd.int .i64).R e w base S' u zs) (hS : ∀ k, S k → S' k) (hSb : ¬ S' b)
  (hK : ∀ w', RMap P kk e w' base b (n + 1) S' (q ++ [(s, zs)]) → w.grownBy w' (some b) → wpList P ops Q rest (a.put o.dst undef) w') :
  wpList P ops Q (o :: rest) a w := by
 refine wpList_plain hg fun K' hK' => ?_
 obtain ⟨w', hrun, r1, r2⟩ := h.store ht hk hn hw hq hnew hr hS hSb
 unfold Oper.wp
 rcases hop with hop | hop
 ·
  simp [execOp, hop, hm, hx, hv, hrun, Result.andThen]
  exact hK' _ _ (hK w' r1 r2)
 ·
  simp [execOp, hop, hm, hx, hv, hrun, Result.andThen]
  exact hK' _ _ (hK w' r1 r2)
end Go.Proofs.YtoilhnmdemnknaaDoorW.PrintMore

/- The keys of a map of whole numbers, collected by a range loop: a permutation of the keys, whatever the order; permutations sort to one list. -/
namespace Go.Proofs.YtoilhnmdemnknaaDoorW.PrintMore
open Go.RowKit Go.Proofs.YtoilhnmdemnknaaDoorW.PrintWords Go.Proofs.YtoilhnmdemnknaaDoorW.PrintLast
open Go.Maps (Keyed int_keyed keyOf_int_mk)
set_option linter.unusedVariables false

def Coll (q : List (Int × List Int)) (left : Lit → Bool) (out : List Int) : Prop :=
 out.Nodup ∧ (∀ x ∈ out, hasKey q x = true) ∧ ∀ x, (Lit.int .i64 x).wf = true → left (.int .i64 x) = (hasKey q x && !out.contains x)
theorem Coll.start {q : List (Int × List Int)} {left : Lit → Bool} (h : ∀ s, (Lit.int .i64 s).wf = true → left (.int .i64 s) = hasKey q s) : Coll q left [] :=
 ⟨List.nodup_nil, fun _ hx => (by cases hx), fun x hx => by simp [h x hx]⟩
theorem Coll.step {q : List (Int × List Int)} {left : Lit → Bool} {out : List Int} (h : Coll q left out) {x : Int} (hw : (Lit.int .i64 x).wf = true) (hl : left (.int .i64 x) = true) :
  Coll q (fun z => left z && !z.sameKey (.int .i64 x)) (out ++ [x]) := by
 obtain ⟨h1, h2, h3⟩ := h
 rw [h3 x hw, Bool.and_eq_true, Bool.not_eq_true'] at hl
 have hx : x ∉ out := fun e => by simp [e] at hl
 refine ⟨List.nodup_append.2 ⟨h1, by simp, fun a ha b hb e => ?_⟩, fun y hy => ?_, fun y hy => ?_⟩
 ·
  rw [List.mem_singleton] at hb
  subst hb; subst e
  exact hx ha
 ·
  rcases List.mem_append.1 hy with hy | hy
  ·
   exact h2 y hy
  ·
   rw [List.mem_singleton] at hy; subst hy; exact hl.1
 ·
  simp only [h3 y hy]
  by_cases e : y = x
  ·
   subst e
   rw [WideAt.sameKey_self (a := .int .i64 y) trivial]
   simp
  ·
   have : Lit.sameKey (.int .i64 y) (.int .i64 x) = false := Bool.eq_false_iff.2 (fun h => e (by have := WideAt.sameKey_eq h; injection this))
   rw [this]
   simp [e]
theorem Coll.perm {q : List (Int × List Int)} {left : Lit → Bool} {out : List Int} (h : Coll q left out) (hl : ∀ kl, left kl = false) (hw : ∀ p ∈ q, (Lit.int .i64 p.1).wf = true) (hn : (q.map Prod.fst).Nodup) : out.Perm (q.map Prod.fst) := by
 obtain ⟨h1, h2, h3⟩ := h
 refine (List.perm_ext_iff_of_nodup h1 hn).2 fun x => ⟨fun hx => ?_, fun hx => ?_⟩
 ·
  obtain ⟨p, hp, e⟩ := List.any_eq_true.1 (h2 x hx)
  exact List.mem_map.2 ⟨p, hp, by simpa using e⟩
 ·
  obtain ⟨p, hp, e⟩ := List.mem_map.1 hx
  have h4 := h3 x (e ▸ hw p hp)
  rw [hl] at h4
  have h5 : hasKey q x = true := List.any_eq_true.2 ⟨p, hp, by simpa using e⟩
  rw [h5] at h4
  simpa using h4
theorem mergeSort_int_perm {l l' : List Int} (h : l.Perm l') : (l.mergeSort fun x y => decide (x ≤ y)) = l'.mergeSort fun x y => decide (x ≤ y) := by
 have tr : ∀ a b c : Int, decide (a ≤ b) = true → decide (b ≤ c) = true → decide (a ≤ c) = true := fun a b c h1 h2 => by simp only [decide_eq_true_eq] at *; omega
 have tot : ∀ a b : Int, (decide (a ≤ b) || decide (b ≤ a)) = true := fun a b => by simp only [Bool.or_eq_true, decide_eq_true_eq]; omega
 refine List.Perm.eq_of_pairwise (le := fun a b => decide (a ≤ b) = true) (fun a b _ _ h1 h2 => ?_) (List.pairwise_mergeSort tr tot l) (List.pairwise_mergeSort tr tot l') (((List.mergeSort_perm l _).trans h).trans (List.mergeSort_perm l' _).symm)
 simp only [decide_eq_true_eq] at h1 h2
 omega
theorem ownsMap_size {P : Program} {kk : TypeId} {H : Type} {R : Value → Option (DataW H × List MemPlace)} {w : World} {b n : Nat} {D : DataW H} (h : w.ownsMap P kk R b n D) : Maps.size D ≤ n := by
 obtain ⟨es, clock, _, _, h1, rfl⟩ := h
 rw [Maps.size_eq, length_sorted]
 simpa using h1
theorem anyElem_all (v : Value) (y : DataW Value × List MemPlace) (_ : anyElem v = some y) : ∃ c : Value, v = id c := ⟨v, rfl⟩
end Go.Proofs.YtoilhnmdemnknaaDoorW.PrintMore

-- Written by wip/xprint.py of this repo, over the kit's print.py: out of the translation; the oracles in it are by hand. Not trusted: Lean checks it.
namespace Go.Proofs.YtoilhnmdemnknaaDoor.XFeed
open Go.RowKit Go.Proofs.YtoilhnmdemnknaaDoorW.PrintWords Go.Proofs.YtoilhnmdemnknaaDoorW.PrintLast Go.Proofs.YtoilhnmdemnknaaDoorW.PrintMore
attribute [local go_sem] max2_int min2_int max_two min_two max_three min_three max_four min_four   -- for this text's walks alone
set_option linter.unusedVariables false
set_option linter.unusedSimpArgs false



def errW : Option Int → Value
 | none => .nilIface
 | some c => .iface 0 (.int .i64 c)
theorem errW_none : errW none = .nilIface := rfl
theorem errW_some (c : Int) : errW (some c) = .iface 0 (.int .i64 c) := rfl

theorem info3 : (Tryd.prog.info? 3).map (fun i => (i.zero, i.size, i.bytes)) = some (some (.int .i64 0), 1, 8) := by kernel_rfl
theorem info4 : (Tryd.prog.info? 4).map (fun i => (i.zero, i.size, i.bytes)) = some (some (.bool false), 1, 1) := by kernel_rfl
theorem info90 : (Tryd.prog.info? 90).map (fun i => (i.zero, i.size, i.bytes)) = some (some (.int .u64 0), 1, 8) := by kernel_rfl
-- the values' own types
/-! #### struct type 69 -/
structure S69 where
 f0 : Int
 f1 : Int
def z69 : S69 := ⟨(0 : Int), (0 : Int)⟩
def k69 : Kd S69 := Kd.iso (Kd.pair (Kd.int .i64) (Kd.int .i64)) (fun x : S69 => (x.f0, x.f1))
theorem k69_open {w : World} {x : S69} {cs : List Value} (h : k69.K w x cs) : cs = [.int .i64 x.f0, .int .i64 x.f1] := by
 obtain ⟨_, _, rfl, rfl, rfl⟩ := h
 exact rfl
theorem k69_mkM (w : World) (base : Nat) (ok : Nat → Prop) (x : S69)  : k69.M w base ok x [.int .i64 x.f0, .int .i64 x.f1] := ⟨[.int .i64 x.f0], [.int .i64 x.f1], rfl, rfl, rfl⟩
def rd_T69 (xs : List S69) (i : Int) : S69 := xs.getD i.toNat z69
theorem at_T69 {w : World} {A : Option Addr} {n : Nat} {xs : List S69} (h : Kd.C k69 w A n xs) (i : Int) (h0 : 0 ≤ i) (h1 : i < n) : ∃ ad , A = some ad ∧ w.cell? (ad.add (i.toNat * 2)) = some (.int .i64 (rd_T69 xs i).f0) ∧ w.cell? ⟨(ad.add (i.toNat * 2)).block, (ad.add (i.toNat * 2)).off + 1, none⟩ = some (.int .i64 (rd_T69 xs i).f1) := by
 obtain ⟨ad, c, e, _, hK, hc0⟩ := Kd.C_get h z69 i h0 h1
 have hc : ∀ j u, c[j]? = some u → w.cell? (ad.add (i.toNat * 2 + j)) = some u := hc0
 obtain rfl := k69_open hK
 exact ⟨ad, e, hc 0 _ rfl, by rw [← add_field _ _ 1 (by omega)]; exact hc 1 _ rfl⟩

/-! #### struct type 71 -/
structure S71 where
 f0 : Int
 f1 : Int
def z71 : S71 := ⟨(0 : Int), (0 : Int)⟩
def k71 : Kd S71 := Kd.iso (Kd.pair (Kd.int .i64) (Kd.int .i64)) (fun x : S71 => (x.f0, x.f1))
theorem k71_open {w : World} {x : S71} {cs : List Value} (h : k71.K w x cs) : cs = [.int .i64 x.f0, .int .i64 x.f1] := by
 obtain ⟨_, _, rfl, rfl, rfl⟩ := h
 exact rfl
theorem k71_mkM (w : World) (base : Nat) (ok : Nat → Prop) (x : S71)  : k71.M w base ok x [.int .i64 x.f0, .int .i64 x.f1] := ⟨[.int .i64 x.f0], [.int .i64 x.f1], rfl, rfl, rfl⟩
def rd_T71 (xs : List S71) (i : Int) : S71 := xs.getD i.toNat z71
theorem at_T71 {w : World} {A : Option Addr} {n : Nat} {xs : List S71} (h : Kd.C k71 w A n xs) (i : Int) (h0 : 0 ≤ i) (h1 : i < n) : ∃ ad , A = some ad ∧ w.cell? (ad.add (i.toNat * 2)) = some (.int .i64 (rd_T71 xs i).f0) ∧ w.cell? ⟨(ad.add (i.toNat * 2)).block, (ad.add (i.toNat * 2)).off + 1, none⟩ = some (.int .i64 (rd_T71 xs i).f1) := by
 obtain ⟨ad, c, e, _, hK, hc0⟩ := Kd.C_get h z71 i h0 h1
 have hc : ∀ j u, c[j]? = some u → w.cell? (ad.add (i.toNat * 2 + j)) = some u := hc0
 obtain rfl := k71_open hK
 exact ⟨ad, e, hc 0 _ rfl, by rw [← add_field _ _ 1 (by omega)]; exact hc 1 _ rfl⟩

/-! #### struct type 114 -/
structure S114 where
 f0 : Int
 f1 : (List Int)
end Go.Proofs.YtoilhnmdemnknaaDoor.XFeed

namespace Go.Proofs.YtoilhnmdemnknaaDoor.XFeed
open Go.RowKit Go.Proofs.YtoilhnmdemnknaaDoorW.PrintWords Go.Proofs.YtoilhnmdemnknaaDoorW.PrintLast Go.Proofs.YtoilhnmdemnknaaDoorW.PrintMore
attribute [local go_sem] max2_int min2_int max_two min_two max_three min_three max_four min_four   -- for this text's walks alone
set_option linter.unusedVariables false
set_option linter.unusedSimpArgs false
/-! ### dropperlaw05_Large: function 11 -/
def dropperlaw05_Large.f (a0_0 : Int) (l0_1 : List (S69)) (l0_2 : List (S71)) (l1 : List Int) : Option (Bool) := if (l0_1.length : Int) > 20 then (some true) else (if (l0_2.length : Int) > 20 then (some true) else (some (decide ((l1.length : Int) > 1100))))
set_option maxHeartbeats 8000000 in
set_option maxRecDepth 100000 in
theorem dropperlaw05_Large.calls (a0_0 : Int) (A0_1 : Option Addr) (c0_1 : Nat) (l0_1 : List (S69)) (A0_2 : Option Addr) (c0_2 : Nat) (l0_2 : List (S71)) (A1 : Option Addr) (c1 : Nat) (l1 : List Int) (r : Bool) (w : World) (hr0_1 : Kd.C k69 w A0_1 l0_1.length l0_1) (hc0_1 : l0_1.length ≤ c0_1) (hr0_2 : Kd.C k71 w A0_2 l0_2.length l0_2) (hc0_2 : l0_2.length ≤ c0_2) (hr1 : Kd.C (Kd.int .i64) w A1 l1.length l1) (hc1 : l1.length ≤ c1) (h : dropperlaw05_Large.f a0_0 l0_1 l0_2 l1 = some r) :
  Calls Tryd.prog 11 #[.agg #[.int .i64 a0_0, .slice A0_1 l0_1.length c0_1, .slice A0_2 l0_2.length c0_2], .slice A1 l1.length c1] w fun e w' => e = .returned (.bool r) ∧ Below w.heap.size w w' := by
 have hu25 := Tryd.underlying25
 have HR0_1 := Aside0.mk hr0_1
 have HC0_1 := Aside0.mk hc0_1
 clear hr0_1 hc0_1
 have HR0_2 := Aside0.mk hr0_2
 have HC0_2 := Aside0.mk hc0_2
 clear hr0_2 hc0_2
 have HR1 := Aside0.mk hr1
 have HC1 := Aside0.mk hc1
 clear hr1 hc1
 have HB := Aside0.mk (Below.refl w.heap.size w)
 have H : (if (l0_1.length : Int) > 20 then (some true) else (if (l0_2.length : Int) > 20 then (some true) else (some (decide ((l1.length : Int) > 1100))))) = some r := h
 clear h
 by_cases c3 : (l0_1.length : Int) > 20
 ·
  rw [if_pos c3] at H
  have c3b0 : decide (20 < (l0_1.length : Int)) = true := decide_eq_true c3
  have c3b1 : decide (20 < l0_1.length) = true := decide_eq_true (by omega)
  clear c3
  obtain rfl := Option.some.inj H
  go_enter Tryd.func11, Tryd.ntmps11
  go_wp2_with (first | ((with_reducible refine gate_dst (N := 2) rfl ?_); (try (refine gate_guard (by rfl) ?_; dsimp only)); refine box_event ?hg (N := 2) ?hd (cs := #[.int .i64 a0_0, .slice A0_1 l0_1.length c0_1, .slice A0_2 l0_2.length c0_2]) (t := 25) ?hr ?_; (case hd => rfl); (case hg => rfl); (case hr => first | (go_simp; done) | (go_simp; rfl)); intro gb101 hg w4 hbox hb; have BK101 := Aside0.mk (hbox); have GW101 := bsz (w := w) hg; have GE101 := GW101; replace HB := Aside0.mk (below_step bel hb); clear hb hbox hg; have hcz5_0 := blkc BK101.out 0 (.int .i64 a0_0) rfl; have hcz5_1 := blkc BK101.out 1 (.slice A0_1 l0_1.length c0_1) rfl; have hcz5_2 := blkc BK101.out 2 (.slice A0_2 l0_2.length c0_2) rfl))
  go_ret
  exact ⟨ezz, bel⟩
 ·
  rw [if_neg c3] at H
  have c3b0 : decide (20 < (l0_1.length : Int)) = false := decide_eq_false c3
  have c3b1 : decide (20 < l0_1.length) = false := decide_eq_false (by omega)
  clear c3
  by_cases c6 : (l0_2.length : Int) > 20
  ·
   rw [if_pos c6] at H
   have c6b0 : decide (20 < (l0_2.length : Int)) = true := decide_eq_true c6
   have c6b1 : decide (20 < l0_2.length) = true := decide_eq_true (by omega)
   clear c6
   obtain rfl := Option.some.inj H
   go_enter Tryd.func11, Tryd.ntmps11
   go_wp2_with (first | ((with_reducible refine gate_dst (N := 2) rfl ?_); (try (refine gate_guard (by rfl) ?_; dsimp only)); refine box_event ?hg (N := 2) ?hd (cs := #[.int .i64 a0_0, .slice A0_1 l0_1.length c0_1, .slice A0_2 l0_2.length c0_2]) (t := 25) ?hr ?_; (case hd => rfl); (case hg => rfl); (case hr => first | (go_simp; done) | (go_simp; rfl)); intro gb101 hg w7 hbox hb; have BK101 := Aside0.mk (hbox); have GW101 := bsz (w := w) hg; have GE101 := GW101; replace HB := Aside0.mk (below_step bel hb); clear hb hbox hg; have hcz8_0 := blkc BK101.out 0 (.int .i64 a0_0) rfl; have hcz8_1 := blkc BK101.out 1 (.slice A0_1 l0_1.length c0_1) rfl; have hcz8_2 := blkc BK101.out 2 (.slice A0_2 l0_2.length c0_2) rfl))
   go_ret
   exact ⟨ezz, bel⟩
  ·
   rw [if_neg c6] at H
   have c6b0 : decide (20 < (l0_2.length : Int)) = false := decide_eq_false c6
   have c6b1 : decide (20 < l0_2.length) = false := decide_eq_false (by omega)
   clear c6
   obtain rfl := Option.some.inj H
   go_enter Tryd.func11, Tryd.ntmps11
   go_wp2_with (first | ((with_reducible refine gate_dst (N := 2) rfl ?_); (try (refine gate_guard (by rfl) ?_; dsimp only)); refine box_event ?hg (N := 2) ?hd (cs := #[.int .i64 a0_0, .slice A0_1 l0_1.length c0_1, .slice A0_2 l0_2.length c0_2]) (t := 25) ?hr ?_; (case hd => rfl); (case hg => rfl); (case hr => first | (go_simp; done) | (go_simp; rfl)); intro gb101 hg w9 hbox hb; have BK101 := Aside0.mk (hbox); have GW101 := bsz (w := w) hg; have GE101 := GW101; replace HB := Aside0.mk (below_step bel hb); clear hb hbox hg; have hcz10_0 := blkc BK101.out 0 (.int .i64 a0_0) rfl; have hcz10_1 := blkc BK101.out 1 (.slice A0_1 l0_1.length c0_1) rfl; have hcz10_2 := blkc BK101.out 2 (.slice A0_2 l0_2.length c0_2) rfl))
   go_ret
   exact ⟨ezz, bel⟩

/-! ### feed_grid_all: function 52 -/
def feed_grid_all.f (a0_0 : Int) (l0_1 : List (S69)) (l0_2 : List (S71)) : Option (Int) := some (shl .i64 1 (l0_1.length : Int))
set_option maxHeartbeats 8000000 in
set_option maxRecDepth 100000 in
theorem feed_grid_all.calls (a0_0 : Int) (A0_1 : Option Addr) (c0_1 : Nat) (l0_1 : List (S69)) (A0_2 : Option Addr) (c0_2 : Nat) (l0_2 : List (S71)) (r : Int) (w : World) (hr0_1 : Kd.C k69 w A0_1 l0_1.length l0_1) (hc0_1 : l0_1.length ≤ c0_1) (hr0_2 : Kd.C k71 w A0_2 l0_2.length l0_2) (hc0_2 : l0_2.length ≤ c0_2) (h : feed_grid_all.f a0_0 l0_1 l0_2 = some r) :
  Calls Tryd.prog 52 #[.agg #[.int .i64 a0_0, .slice A0_1 l0_1.length c0_1, .slice A0_2 l0_2.length c0_2]] w fun e w' => e = .returned (.int .i64 r) ∧ Below w.heap.size w w' := by
 have hu73 := Tryd.underlying73
 have HR0_1 := Aside0.mk hr0_1
 have HC0_1 := Aside0.mk hc0_1
 clear hr0_1 hc0_1
 have HR0_2 := Aside0.mk hr0_2
 have HC0_2 := Aside0.mk hc0_2
 clear hr0_2 hc0_2
 have HB := Aside0.mk (Below.refl w.heap.size w)
 have H : (some (shl .i64 1 (l0_1.length : Int))) = some r := h
 clear h
 obtain ⟨ji2, hji2⟩ : ∃ j_ : Int, (shl .i64 1 (l0_1.length : Int)) = j_ := ⟨_, rfl⟩
 replace H : (some ji2) = some r := by first | (rw [hji2] at H; exact H) | (simp only [hji2] at H ⊢; exact H)
 have hji2_ : (IntKind.i64.wrap (1 * 2 ^ min (l0_1.length : Int).toNat 64)) = ji2 := hji2
 have hji2z : (l0_1.length : Int) ≤ 64 → (IntKind.i64.wrap (1 * 2 ^ (l0_1.length : Int).toNat)) = ji2 := shl_small hji2
 have hji2p : (IntKind.i64.wrap (1 * 2 ^ min l0_1.length 64)) = ji2 := hji2_
 have hji2q : (l0_1.length : Int) ≤ 64 → (IntKind.i64.wrap (1 * 2 ^ l0_1.length)) = ji2 := hji2z
 have hji2r : (IntKind.i64.wrap (2 ^ min l0_1.length 64)) = ji2 := by have h_ := hji2p; rw [Int.one_mul] at h_; exact h_
 have hji2s : (l0_1.length : Int) ≤ 64 → (IntKind.i64.wrap (2 ^ l0_1.length)) = ji2 := fun hle_ => by have h_ := hji2q hle_; rw [Int.one_mul] at h_; exact h_
 have hji2u : (IntKind.i64.wrap (2 ^ min (l0_1.length : Int).toNat 64)) = ji2 := by have h_ := hji2_; rw [Int.one_mul] at h_; exact h_
 have hji2v : (l0_1.length : Int) ≤ 64 → (IntKind.i64.wrap (2 ^ (l0_1.length : Int).toNat)) = ji2 := fun hle_ => by have h_ := hji2z hle_; rw [Int.one_mul] at h_; exact h_
 have hji2y : (wrap64 (1 * 2 ^ min (l0_1.length : Int).toNat 64)) = ji2 := (i64_w _).symm.trans hji2_
 have hji2x : (l0_1.length : Int) ≤ 64 → (wrap64 (1 * 2 ^ (l0_1.length : Int).toNat)) = ji2 := fun h_ => (i64_w _).symm.trans (hji2z h_)
 obtain rfl := Option.some.inj H
 go_enter Tryd.func52, Tryd.ntmps52
 go_wp2_with (first | ((with_reducible refine gate_dst (N := 1) rfl ?_); refine box_event ?hg (N := 1) ?hd (cs := #[.int .i64 a0_0, .slice A0_1 l0_1.length c0_1, .slice A0_2 l0_2.length c0_2]) (t := 73) ?hr ?_; (case hd => rfl); (case hg => rfl); (case hr => first | (go_simp; done) | (go_simp; rfl)); intro gb102 hg w3 hbox hb; have BK102 := Aside0.mk (hbox); have GW102 := bsz (w := w) hg; have GE102 := GW102; replace HB := Aside0.mk (below_step bel hb); clear hb hbox hg; have hcz4_0 := blkc BK102.out 0 (.int .i64 a0_0) rfl; have hcz4_1 := blkc BK102.out 1 (.slice A0_1 l0_1.length c0_1) rfl; have hcz4_2 := blkc BK102.out 2 (.slice A0_2 l0_2.length c0_2) rfl))
 go_ret
 exact ⟨by first | rfl | (simp [errW_none, errW_some] <;> rfl) | (simp only [← hji2]; first | rfl | (simp [errW_none, errW_some] <;> rfl)) | (simp [*, errW_none, errW_some] <;> rfl), bel⟩

/-! ### feed_within: function 53 -/
def feed_within.f (a0 : Int) (a1 : Int) (a2 : Int) : Option (Bool) := if a0 ≤ a1 then (some (decide (a1 ≤ a2))) else (some false)
set_option maxHeartbeats 8000000 in
set_option maxRecDepth 100000 in
theorem feed_within.calls (a0 : Int) (a1 : Int) (a2 : Int) (r : Bool) (w : World) (h : feed_within.f a0 a1 a2 = some r) :
  Calls Tryd.prog 53 #[.int .i64 a0, .int .i64 a1, .int .i64 a2] w fun e w' => e = .returned (.bool r) ∧ Drawn0 w w' := by
 have H : (if a0 ≤ a1 then (some (decide (a1 ≤ a2))) else (some false)) = some r := h
 clear h
 by_cases c4 : a0 ≤ a1
 ·
  rw [if_pos c4] at H
  have c4b0 : decide (a0 ≤ a1) = true := decide_eq_true c4
  clear c4
  obtain rfl := Option.some.inj H
  go_enter Tryd.func53, Tryd.ntmps53
  go_wp2
  go_ret
  exact ⟨by first | rfl | (simp; done) | (simp [*]; done), drz⟩
 ·
  rw [if_neg c4] at H
  have c4b0 : decide (a0 ≤ a1) = false := decide_eq_false c4
  clear c4
  obtain rfl := Option.some.inj H
  go_enter Tryd.func53, Tryd.ntmps53
  go_wp2
  go_ret
  exact ⟨by first | rfl | (simp; done) | (simp [*]; done), drz⟩

/-! ### slices_ContainsFunc_api_Switch_api_Switch: function 54 -/
theorem slices_ContainsFunc_api_Switch_api_Switch.rd_get (l : List S69) (x : Int) (h0 : 0 ≤ x) (h1 : x < (l.length : Int)) : ∃ h : x.toNat < l.length, rd_T69 l x = l[x.toNat] := by
 have h : x.toNat < l.length := by omega
 exact ⟨h, by simp [rd_T69, List.getD_eq_getElem?_getD, h]⟩
set_option maxHeartbeats 2000000 in
set_option maxRecDepth 100000 in
theorem slices_ContainsFunc_api_Switch_api_Switch.index (c : Nat) (cs : Array Value) (p : S69 → Bool) (A0 : Option Addr) (c0 : Nat) (l0 : List S69) (w : World) (hr0 : Kd.C k69 w A0 l0.length l0) (hc0 : l0.length ≤ c0)
  (he : ∀ (vs : Array Value) (W : World), (callFunc c vs).run Tryd.prog W = .ok (.enter c vs) W)
  (hf : ∀ (x : S69), x ∈ l0 → ∀ (W : World), Below w.heap.size w W → Calls Tryd.prog c (#[.agg #[.int .i64 x.f0, .int .i64 x.f1]] ++ cs) W fun e w' => e = .returned (.bool (p x)) ∧ Below W.heap.size W w') :
  Calls Tryd.prog 91 #[.slice A0 l0.length c0, .func (.func c) #[] cs] w fun e w' => e = .returned (.int .i64 (Idx.idxFrom p l0)) ∧ Below w.heap.size w w' := by
 have hl : l0.length ≤ 9223372036854775807 := hr0.2.1
 have HR := Aside0.mk hr0
 have HF := Aside0.mk hf
 clear hr0 hf
 have hu := Tryd.underlying69
 go_enter Tryd.func91, Tryd.ntmps91
 go_wp2
 go_loopg [5, 8] l0.length (fun kq v5 v8 w' => ∃ x : Int, v8 = .int .i64 x ∧ Aside0 (0 ≤ x ∧ x ≤ l0.length ∧ ∀ j (h : j < l0.length), (j : Int) < x → p l0[j] = false) ∧ Aside0 (kq = l0.length - x.toNat) ∧ Aside0 (Below w.heap.size w w'))
 case atStart => exact ⟨0, rfl, ⟨by omega, by omega, fun _ _ h => by omega⟩, ⟨rfl⟩, ⟨Below.refl _ _⟩⟩
 case round =>
  obtain ⟨x, rfl, HI, HK, HB⟩ := hrel
  by_cases hlt : x < (l0.length : Int)
  ·
   have h1 : decide (x < (l0.length : Int)) = true := decide_eq_true hlt
   have p1 : 0 ≤ x := HI.out.1
   have HR0 := Aside0.mk (Kd.C_below HR.out HB.out)
   obtain ⟨ad, e1, hx0, hx1⟩ := at_T69 HR0.out x p1 hlt
   cases e1
   have HX := Aside0.mk (And.intro p1 hlt)
   have HM : Aside0 ((rd_T69 l0 x) ∈ l0) := ⟨by obtain ⟨h2, h3⟩ := slices_ContainsFunc_api_Switch_api_Switch.rd_get l0 x p1 hlt; rw [h3]; exact List.getElem_mem h2⟩
   replace p1 := eq_true p1
   replace hlt := eq_true hlt
   by_cases hp : p (rd_T69 l0 x) = true
   ·
    go_wp2_with (go_simp; with_reducible refine (HF.out (rd_T69 l0 x) HM.out _ HB.out).mono ?_; rintro e w' ⟨rfl, hb⟩; have HB2 := Aside0.mk hb; clear hb)
    go_ret
    obtain ⟨h2, h3⟩ := slices_ContainsFunc_api_Switch_api_Switch.rd_get l0 x HX.out.1 HX.out.2
    rw [h3] at hp
    refine ⟨?_, below_step HB.out HB2.out⟩
    rw [Idx.idxFrom_at h2 hp (fun j hj hl => HI.out.2.2 j hj (by omega)), Int.toNat_of_nonneg HX.out.1]; rfl
   ·
    replace hp := Bool.eq_false_iff.mpr hp
    go_wp2_with (go_simp; with_reducible refine (HF.out (rd_T69 l0 x) HM.out _ HB.out).mono ?_; rintro e w' ⟨rfl, hb⟩; have HB2 := Aside0.mk hb; clear hb)
    go_roundg (l0.length - (x + 1).toNat)
    case measure => have := HX.out; have := HK.out; omega
    case rel =>
     obtain ⟨h2, h3⟩ := slices_ContainsFunc_api_Switch_api_Switch.rd_get l0 x HX.out.1 HX.out.2
     have hw : wrap64 (x + 1) = x + 1 := by unfold wrap64; have := HX.out; omega
     refine ⟨x + 1, by first | rfl | rw [hw], ⟨by have := HX.out; omega, by have := HX.out; omega, fun j hj hl => ?_⟩, ⟨rfl⟩, ⟨below_step HB.out HB2.out⟩⟩
     by_cases hjx : (j : Int) < x
     ·
      exact HI.out.2.2 j hj hjx
     ·
      have : j = x.toNat := by omega
      subst this
      rw [← h3]; exact hp
  ·
   have h1 : decide (x < (l0.length : Int)) = false := decide_eq_false hlt
   go_wp2
   go_ret
   refine ⟨?_, HB.out⟩
   rw [Idx.idxFrom_none (fun j hj hl => HI.out.2.2 j hj (by omega))]; rfl
theorem slices_ContainsFunc_api_Switch_api_Switch.contains (c : Nat) (cs : Array Value) (p : S69 → Bool) (A0 : Option Addr) (c0 : Nat) (l0 : List S69) (w : World) (hr0 : Kd.C k69 w A0 l0.length l0) (hc0 : l0.length ≤ c0)
  (he : ∀ (vs : Array Value) (W : World), (callFunc c vs).run Tryd.prog W = .ok (.enter c vs) W)
  (hf : ∀ (x : S69), x ∈ l0 → ∀ (W : World), Below w.heap.size w W → Calls Tryd.prog c (#[.agg #[.int .i64 x.f0, .int .i64 x.f1]] ++ cs) W fun e w' => e = .returned (.bool (p x)) ∧ Below W.heap.size W w') :
  Calls Tryd.prog 54 #[.slice A0 l0.length c0, .func (.func c) #[] cs] w fun e w' => e = .returned (.bool (l0.any p)) ∧ Below w.heap.size w w' := by
 have HR0 := Aside0.mk hr0
 have HF := Aside0.mk hf
 clear hr0 hf
 have hz := Aside0.mk (Idx.idx_ge p l0)
 go_enter Tryd.func54, Tryd.ntmps54
 go_wp2_with (go_at_call 91; refine (slices_ContainsFunc_api_Switch_api_Switch.index c cs p _ _ l0 _ HR0.out hc0 he HF.out).mono ?_; rintro e w' ⟨rfl, hb⟩; have HB := Aside0.mk hb; clear hb)
 go_ret
 exact ⟨by rw [← hz.out]; rfl, HB.out⟩

/-! ### slices_ContainsFunc_api_Feeder_api_Feeder: function 56 -/
theorem slices_ContainsFunc_api_Feeder_api_Feeder.rd_get (l : List S71) (x : Int) (h0 : 0 ≤ x) (h1 : x < (l.length : Int)) : ∃ h : x.toNat < l.length, rd_T71 l x = l[x.toNat] := by
 have h : x.toNat < l.length := by omega
 exact ⟨h, by simp [rd_T71, List.getD_eq_getElem?_getD, h]⟩
set_option maxHeartbeats 2000000 in
set_option maxRecDepth 100000 in
theorem slices_ContainsFunc_api_Feeder_api_Feeder.index (c : Nat) (cs : Array Value) (p : S71 → Bool) (A0 : Option Addr) (c0 : Nat) (l0 : List S71) (w : World) (hr0 : Kd.C k71 w A0 l0.length l0) (hc0 : l0.length ≤ c0)
  (he : ∀ (vs : Array Value) (W : World), (callFunc c vs).run Tryd.prog W = .ok (.enter c vs) W)
  (hf : ∀ (x : S71), x ∈ l0 → ∀ (W : World), Below w.heap.size w W → Calls Tryd.prog c (#[.agg #[.int .i64 x.f0, .int .i64 x.f1]] ++ cs) W fun e w' => e = .returned (.bool (p x)) ∧ Below W.heap.size W w') :
  Calls Tryd.prog 92 #[.slice A0 l0.length c0, .func (.func c) #[] cs] w fun e w' => e = .returned (.int .i64 (Idx.idxFrom p l0)) ∧ Below w.heap.size w w' := by
 have hl : l0.length ≤ 9223372036854775807 := hr0.2.1
 have HR := Aside0.mk hr0
 have HF := Aside0.mk hf
 clear hr0 hf
 have hu := Tryd.underlying71
 go_enter Tryd.func92, Tryd.ntmps92
 go_wp2
 go_loopg [5, 8] l0.length (fun kq v5 v8 w' => ∃ x : Int, v8 = .int .i64 x ∧ Aside0 (0 ≤ x ∧ x ≤ l0.length ∧ ∀ j (h : j < l0.length), (j : Int) < x → p l0[j] = false) ∧ Aside0 (kq = l0.length - x.toNat) ∧ Aside0 (Below w.heap.size w w'))
 case atStart => exact ⟨0, rfl, ⟨by omega, by omega, fun _ _ h => by omega⟩, ⟨rfl⟩, ⟨Below.refl _ _⟩⟩
 case round =>
  obtain ⟨x, rfl, HI, HK, HB⟩ := hrel
  by_cases hlt : x < (l0.length : Int)
  ·
   have h1 : decide (x < (l0.length : Int)) = true := decide_eq_true hlt
   have p1 : 0 ≤ x := HI.out.1
   have HR0 := Aside0.mk (Kd.C_below HR.out HB.out)
   obtain ⟨ad, e1, hx0, hx1⟩ := at_T71 HR0.out x p1 hlt
   cases e1
   have HX := Aside0.mk (And.intro p1 hlt)
   have HM : Aside0 ((rd_T71 l0 x) ∈ l0) := ⟨by obtain ⟨h2, h3⟩ := slices_ContainsFunc_api_Feeder_api_Feeder.rd_get l0 x p1 hlt; rw [h3]; exact List.getElem_mem h2⟩
   replace p1 := eq_true p1
   replace hlt := eq_true hlt
   by_cases hp : p (rd_T71 l0 x) = true
   ·
    go_wp2_with (go_simp; with_reducible refine (HF.out (rd_T71 l0 x) HM.out _ HB.out).mono ?_; rintro e w' ⟨rfl, hb⟩; have HB2 := Aside0.mk hb; clear hb)
    go_ret
    obtain ⟨h2, h3⟩ := slices_ContainsFunc_api_Feeder_api_Feeder.rd_get l0 x HX.out.1 HX.out.2
    rw [h3] at hp
    refine ⟨?_, below_step HB.out HB2.out⟩
    rw [Idx.idxFrom_at h2 hp (fun j hj hl => HI.out.2.2 j hj (by omega)), Int.toNat_of_nonneg HX.out.1]; rfl
   ·
    replace hp := Bool.eq_false_iff.mpr hp
    go_wp2_with (go_simp; with_reducible refine (HF.out (rd_T71 l0 x) HM.out _ HB.out).mono ?_; rintro e w' ⟨rfl, hb⟩; have HB2 := Aside0.mk hb; clear hb)
    go_roundg (l0.length - (x + 1).toNat)
    case measure => have := HX.out; have := HK.out; omega
    case rel =>
     obtain ⟨h2, h3⟩ := slices_ContainsFunc_api_Feeder_api_Feeder.rd_get l0 x HX.out.1 HX.out.2
     have hw : wrap64 (x + 1) = x + 1 := by unfold wrap64; have := HX.out; omega
     refine ⟨x + 1, by first | rfl | rw [hw], ⟨by have := HX.out; omega, by have := HX.out; omega, fun j hj hl => ?_⟩, ⟨rfl⟩, ⟨below_step HB.out HB2.out⟩⟩
     by_cases hjx : (j : Int) < x
     ·
      exact HI.out.2.2 j hj hjx
     ·
      have : j = x.toNat := by omega
      subst this
      rw [← h3]; exact hp
  ·
   have h1 : decide (x < (l0.length : Int)) = false := decide_eq_false hlt
   go_wp2
   go_ret
   refine ⟨?_, HB.out⟩
   rw [Idx.idxFrom_none (fun j hj hl => HI.out.2.2 j hj (by omega))]; rfl
theorem slices_ContainsFunc_api_Feeder_api_Feeder.contains (c : Nat) (cs : Array Value) (p : S71 → Bool) (A0 : Option Addr) (c0 : Nat) (l0 : List S71) (w : World) (hr0 : Kd.C k71 w A0 l0.length l0) (hc0 : l0.length ≤ c0)
  (he : ∀ (vs : Array Value) (W : World), (callFunc c vs).run Tryd.prog W = .ok (.enter c vs) W)
  (hf : ∀ (x : S71), x ∈ l0 → ∀ (W : World), Below w.heap.size w W → Calls Tryd.prog c (#[.agg #[.int .i64 x.f0, .int .i64 x.f1]] ++ cs) W fun e w' => e = .returned (.bool (p x)) ∧ Below W.heap.size W w') :
  Calls Tryd.prog 56 #[.slice A0 l0.length c0, .func (.func c) #[] cs] w fun e w' => e = .returned (.bool (l0.any p)) ∧ Below w.heap.size w w' := by
 have HR0 := Aside0.mk hr0
 have HF := Aside0.mk hf
 clear hr0 hf
 have hz := Aside0.mk (Idx.idx_ge p l0)
 go_enter Tryd.func56, Tryd.ntmps56
 go_wp2_with (go_at_call 92; refine (slices_ContainsFunc_api_Feeder_api_Feeder.index c cs p _ _ l0 _ HR0.out hc0 he HF.out).mono ?_; rintro e w' ⟨rfl, hb⟩; have HB := Aside0.mk hb; clear hb)
 go_ret
 exact ⟨by rw [← hz.out]; rfl, HB.out⟩

/-! ### feed_Valid: function 19 -/
theorem feed_Valid.within_calls (a b c : Int) (w : World) :
  Calls Tryd.prog 53 #[.int .i64 a, .int .i64 b, .int .i64 c] w fun e w' => e = .returned (.bool (decide (a ≤ b) && decide (b ≤ c))) ∧ Drawn0 w w' := by
 by_cases h1 : a ≤ b
 ·
  have h1' : decide (a ≤ b) = true := decide_eq_true h1
  go_enter Tryd.func53, Tryd.ntmps53
  go_wp2
  go_ret
  exact ⟨by simp [h1], Drawn0.refl _⟩
 ·
  have h1' : decide (a ≤ b) = false := decide_eq_false h1
  go_enter Tryd.func53, Tryd.ntmps53
  go_wp2
  go_ret
  exact ⟨by simp [h1], Drawn0.refl _⟩
def feed_Valid.bad1 (n : Int) (x : S69) : Bool := !(decide (0 ≤ x.f0) && decide (x.f0 ≤ wrap64 (n - 1))) || !(decide (0 ≤ x.f1) && decide (x.f1 ≤ wrap64 (n - 1))) || (x.f0 == x.f1)
set_option maxHeartbeats 2000000 in
set_option maxRecDepth 100000 in
theorem feed_Valid.clos1 (n : Int) (g : Nat) (x : S69) (w : World) (hcap : w.cell? ⟨g, 0, none⟩ = some (.int .i64 n)) :
  Calls Tryd.prog 55 #[.agg #[.int .i64 x.f0, .int .i64 x.f1], .pointer (some ⟨g, 0, none⟩)] w fun e w' => e = .returned (.bool (feed_Valid.bad1 n x)) ∧ Below w.heap.size w w' := by
 have hu0 := Tryd.underlying69
 have hB : ∀ o n, Aside0 (Below w.heap.size w ((w.alloc o).drewN n)) := fun o n => ⟨pw_below_drewN (below_alloc (Below.refl _ _) o) n⟩
 have hB0 : ∀ o, Aside0 (Below w.heap.size w (w.alloc o)) := fun o => ⟨below_alloc (Below.refl _ _) o⟩
 have hg : g < w.heap.size := by
  unfold World.cell? at hcap
  split at hcap
  ·
   rename_i h; exact (Array.getElem?_eq_some_iff.1 h).1
  ·
   cases hcap
 have hcap2 : ∀ o, (w.alloc o).cell? ⟨g, 0, none⟩ = some (.int .i64 n) := fun o => by rw [← hcap]; exact ((below_alloc (Below.refl w.heap.size w) o).cell hg)
 by_cases h0 : (decide (0 ≤ x.f0) && decide (x.f0 ≤ wrap64 (n - 1))) = true
 ·
  skip
  by_cases h1 : (decide (0 ≤ x.f1) && decide (x.f1 ≤ wrap64 (n - 1))) = true
  ·
   skip
   have hE : Aside0 ((feed_Valid.bad1 n x) = (x.f0 == x.f1)) := ⟨by simp only [feed_Valid.bad1, h0, h1, Bool.not_true, Bool.false_or]⟩
   have H0 := Aside0.mk h0
   clear h0
   have H1 := Aside0.mk h1
   clear h1
   go_enter Tryd.func55, Tryd.ntmps55
   go_wp2_with (first | (go_at_call 53; (with_reducible refine (feed_Valid.within_calls 0 (x.f0) (wrap64 (n - 1)) _).mono ?_); rintro e w' ⟨rfl, ⟨nd_, rfl⟩⟩; rw [H0.out]) | (go_at_call 53; (with_reducible refine (feed_Valid.within_calls 0 (x.f1) (wrap64 (n - 1)) _).mono ?_); rintro e w' ⟨rfl, ⟨nd_, rfl⟩⟩; rw [H1.out]))
   go_ret
   exact ⟨by rw [hE.out]; rfl, by repeat (first | exact (hB _ _).out | exact (hB0 _).out | apply pw_below_drewN)⟩
  ·
   replace h1 := Bool.eq_false_iff.mpr h1
   have hE : Aside0 ((feed_Valid.bad1 n x) = true) := ⟨by simp only [feed_Valid.bad1, h0, h1, Bool.not_true, Bool.not_false, Bool.false_or, Bool.true_or]⟩
   have H0 := Aside0.mk h0
   clear h0
   have H1 := Aside0.mk h1
   clear h1
   go_enter Tryd.func55, Tryd.ntmps55
   go_wp2_with (first | (go_at_call 53; (with_reducible refine (feed_Valid.within_calls 0 (x.f0) (wrap64 (n - 1)) _).mono ?_); rintro e w' ⟨rfl, ⟨nd_, rfl⟩⟩; rw [H0.out]) | (go_at_call 53; (with_reducible refine (feed_Valid.within_calls 0 (x.f1) (wrap64 (n - 1)) _).mono ?_); rintro e w' ⟨rfl, ⟨nd_, rfl⟩⟩; rw [H1.out]))
   go_ret
   exact ⟨by rw [hE.out]; rfl, by repeat (first | exact (hB _ _).out | exact (hB0 _).out | apply pw_below_drewN)⟩
 ·
  replace h0 := Bool.eq_false_iff.mpr h0
  have hE : Aside0 ((feed_Valid.bad1 n x) = true) := ⟨by simp only [feed_Valid.bad1, h0, Bool.not_true, Bool.not_false, Bool.false_or, Bool.true_or]⟩
  have H0 := Aside0.mk h0
  clear h0
  go_enter Tryd.func55, Tryd.ntmps55
  go_wp2_with (first | (go_at_call 53; (with_reducible refine (feed_Valid.within_calls 0 (x.f0) (wrap64 (n - 1)) _).mono ?_); rintro e w' ⟨rfl, ⟨nd_, rfl⟩⟩; rw [H0.out]))
  go_ret
  exact ⟨by rw [hE.out]; rfl, by repeat (first | exact (hB _ _).out | exact (hB0 _).out | apply pw_below_drewN)⟩
def feed_Valid.bad2 (n : Int) (x : S71) : Bool := !(decide (0 ≤ x.f0) && decide (x.f0 ≤ wrap64 (n - 1))) || !(decide (1 ≤ x.f1) && decide (x.f1 ≤ 3))
set_option maxHeartbeats 2000000 in
set_option maxRecDepth 100000 in
theorem feed_Valid.clos2 (n : Int) (g : Nat) (x : S71) (w : World) (hcap : w.cell? ⟨g, 0, none⟩ = some (.int .i64 n)) :
  Calls Tryd.prog 57 #[.agg #[.int .i64 x.f0, .int .i64 x.f1], .pointer (some ⟨g, 0, none⟩)] w fun e w' => e = .returned (.bool (feed_Valid.bad2 n x)) ∧ Below w.heap.size w w' := by
 have hu0 := Tryd.underlying71
 have hB : ∀ o n, Aside0 (Below w.heap.size w ((w.alloc o).drewN n)) := fun o n => ⟨pw_below_drewN (below_alloc (Below.refl _ _) o) n⟩
 have hB0 : ∀ o, Aside0 (Below w.heap.size w (w.alloc o)) := fun o => ⟨below_alloc (Below.refl _ _) o⟩
 have hg : g < w.heap.size := by
  unfold World.cell? at hcap
  split at hcap
  ·
   rename_i h; exact (Array.getElem?_eq_some_iff.1 h).1
  ·
   cases hcap
 have hcap2 : ∀ o, (w.alloc o).cell? ⟨g, 0, none⟩ = some (.int .i64 n) := fun o => by rw [← hcap]; exact ((below_alloc (Below.refl w.heap.size w) o).cell hg)
 by_cases h0 : (decide (0 ≤ x.f0) && decide (x.f0 ≤ wrap64 (n - 1))) = true
 ·
  skip
  by_cases h1 : (decide (1 ≤ x.f1) && decide (x.f1 ≤ 3)) = true
  ·
   skip
   have hE : Aside0 ((feed_Valid.bad2 n x) = false) := ⟨by simp only [feed_Valid.bad2, h0, h1, Bool.not_true, Bool.false_or]⟩
   have H0 := Aside0.mk h0
   clear h0
   have H1 := Aside0.mk h1
   clear h1
   go_enter Tryd.func57, Tryd.ntmps57
   go_wp2_with (first | (go_at_call 53; (with_reducible refine (feed_Valid.within_calls 0 (x.f0) (wrap64 (n - 1)) _).mono ?_); rintro e w' ⟨rfl, ⟨nd_, rfl⟩⟩; rw [H0.out]) | (go_at_call 53; (with_reducible refine (feed_Valid.within_calls 1 (x.f1) (3) _).mono ?_); rintro e w' ⟨rfl, ⟨nd_, rfl⟩⟩; rw [H1.out]))
   go_ret
   exact ⟨by rw [hE.out]; rfl, by repeat (first | exact (hB _ _).out | exact (hB0 _).out | apply pw_below_drewN)⟩
  ·
   replace h1 := Bool.eq_false_iff.mpr h1
   have hE : Aside0 ((feed_Valid.bad2 n x) = true) := ⟨by simp only [feed_Valid.bad2, h0, h1, Bool.not_true, Bool.not_false, Bool.false_or, Bool.true_or]⟩
   have H0 := Aside0.mk h0
   clear h0
   have H1 := Aside0.mk h1
   clear h1
   go_enter Tryd.func57, Tryd.ntmps57
   go_wp2_with (first | (go_at_call 53; (with_reducible refine (feed_Valid.within_calls 0 (x.f0) (wrap64 (n - 1)) _).mono ?_); rintro e w' ⟨rfl, ⟨nd_, rfl⟩⟩; rw [H0.out]) | (go_at_call 53; (with_reducible refine (feed_Valid.within_calls 1 (x.f1) (3) _).mono ?_); rintro e w' ⟨rfl, ⟨nd_, rfl⟩⟩; rw [H1.out]))
   go_ret
   exact ⟨by rw [hE.out]; rfl, by repeat (first | exact (hB _ _).out | exact (hB0 _).out | apply pw_below_drewN)⟩
 ·
  replace h0 := Bool.eq_false_iff.mpr h0
  have hE : Aside0 ((feed_Valid.bad2 n x) = true) := ⟨by simp only [feed_Valid.bad2, h0, Bool.not_true, Bool.not_false, Bool.false_or, Bool.true_or]⟩
  have H0 := Aside0.mk h0
  clear h0
  go_enter Tryd.func57, Tryd.ntmps57
  go_wp2_with (first | (go_at_call 53; (with_reducible refine (feed_Valid.within_calls 0 (x.f0) (wrap64 (n - 1)) _).mono ?_); rintro e w' ⟨rfl, ⟨nd_, rfl⟩⟩; rw [H0.out]))
  go_ret
  exact ⟨by rw [hE.out]; rfl, by repeat (first | exact (hB _ _).out | exact (hB0 _).out | apply pw_below_drewN)⟩

def feed_Valid.f (a0_0 : Int) (l0_1 : List S69) (l0_2 : List S71) : Option Bool := some ((decide (1 ≤ a0_0) && decide (a0_0 ≤ 8)) && (decide ((l0_1.length : Int) ≤ 10) && (decide ((l0_2.length : Int) ≤ 6) && (!(l0_1.any (feed_Valid.bad1 a0_0)) && !(l0_2.any (feed_Valid.bad2 a0_0))))))
theorem feed_Valid.enter1 (vs : Array Value) (W : World) : (callFunc 55 vs).run Tryd.prog W = .ok (.enter 55 vs) W := enters_ Tryd.func55 (by kernel_rfl) (by kernel_rfl) vs W
theorem feed_Valid.enter2 (vs : Array Value) (W : World) : (callFunc 57 vs).run Tryd.prog W = .ok (.enter 57 vs) W := enters_ Tryd.func57 (by kernel_rfl) (by kernel_rfl) vs W
set_option maxHeartbeats 4000000 in
set_option maxRecDepth 100000 in
theorem feed_Valid.calls (a0_0 : Int) (A0_1 : Option Addr) (c0_1 : Nat) (l0_1 : List S69) (A0_2 : Option Addr) (c0_2 : Nat) (l0_2 : List S71) (r : Bool) (w : World) (hr0_1 : Kd.C k69 w A0_1 l0_1.length l0_1) (hc0_1 : l0_1.length ≤ c0_1) (hr0_2 : Kd.C k71 w A0_2 l0_2.length l0_2) (hc0_2 : l0_2.length ≤ c0_2) (h : feed_Valid.f a0_0 l0_1 l0_2 = some r) :
  Calls Tryd.prog 19 #[.agg #[.int .i64 a0_0, .slice A0_1 l0_1.length c0_1, .slice A0_2 l0_2.length c0_2]] w fun e w' => e = .returned (.bool r) ∧ Below w.heap.size w w' := by
 have hu := Tryd.underlying25
 have hl1 : l0_1.length ≤ 9223372036854775807 := hr0_1.2.1
 have hl2 : l0_2.length ≤ 9223372036854775807 := hr0_2.2.1
 have HR1 := Aside0.mk hr0_1
 have HR2 := Aside0.mk hr0_2
 clear hr0_1 hr0_2
 have hB0 : Aside0 (Below w.heap.size w (w.alloc (.cells #[.int .i64 a0_0, .slice A0_1 l0_1.length c0_1, .slice A0_2 l0_2.length c0_2] 25))) := ⟨below_alloc (Below.refl _ _) _⟩
 have hB1 : Aside0 (Below (w.alloc (.cells #[.int .i64 a0_0, .slice A0_1 l0_1.length c0_1, .slice A0_2 l0_2.length c0_2] 25)).heap.size (w.alloc (.cells #[.int .i64 a0_0, .slice A0_1 l0_1.length c0_1, .slice A0_2 l0_2.length c0_2] 25)) (w.alloc (.cells #[.int .i64 a0_0, .slice A0_1 l0_1.length c0_1, .slice A0_2 l0_2.length c0_2] 25))) := ⟨Below.refl _ _⟩
 have hcell : Aside0 (∀ W, Below (w.alloc (.cells #[.int .i64 a0_0, .slice A0_1 l0_1.length c0_1, .slice A0_2 l0_2.length c0_2] 25)).heap.size (w.alloc (.cells #[.int .i64 a0_0, .slice A0_1 l0_1.length c0_1, .slice A0_2 l0_2.length c0_2] 25)) W → W.cell? ⟨w.heap.size, 0, none⟩ = some (.int .i64 a0_0) ∧ W.cell? ⟨w.heap.size, 2, none⟩ = some (.slice A0_2 l0_2.length c0_2)) := ⟨fun W hb => by
  rw [hb.cell (by show w.heap.size < (w.heap.push _).size; rw [Array.size_push]; omega), hb.cell (by show w.heap.size < (w.heap.push _).size; rw [Array.size_push]; omega), World.cell?_alloc_at _ _ _ _ rfl, World.cell?_alloc_at _ _ _ _ rfl]; exact ⟨rfl, rfl⟩⟩
 obtain rfl := Option.some.inj h
 clear h
 by_cases h0 : (decide (1 ≤ a0_0) && decide (a0_0 ≤ 8)) = true
 ·
  rw [h0, Bool.true_and]
  have H0 := Aside0.mk h0
  clear h0
  by_cases h1 : (l0_1.length : Int) ≤ 10
  ·
   rw [decide_eq_true h1, Bool.true_and]
   have k1 : decide ((l0_1.length : Int) > 10) = false := decide_eq_false (by omega)
   by_cases h2 : (l0_2.length : Int) ≤ 6
   ·
    rw [decide_eq_true h2, Bool.true_and]
    have k2 : decide ((l0_2.length : Int) > 6) = false := decide_eq_false (by omega)
    clear h1 h2
    by_cases h3 : l0_1.any (feed_Valid.bad1 a0_0) = true
    ·
     rw [h3]
     have H3 := Aside0.mk h3
     clear h3
     go_enter Tryd.func19, Tryd.ntmps19
     go_wp2_with (first
      | (go_at_call 53; (with_reducible refine (feed_Valid.within_calls 1 a0_0 8 _).mono ?_); rintro e w' ⟨rfl, ⟨n, rfl⟩⟩; rw [H0.out])
      | (go_at_call 54; (refine (slices_ContainsFunc_api_Switch_api_Switch.contains 55 #[.pointer (some ⟨w.heap.size, 0, none⟩)] (feed_Valid.bad1 a0_0) A0_1 c0_1 l0_1 _ (Kd.C_drewN (Kd.C_below HR1.out hB0.out) _) hc0_1 feed_Valid.enter1 (fun x _ W hb => feed_Valid.clos1 a0_0 w.heap.size x W (hcell.out W (below_step (pw_below_drewN hB1.out _) hb)).1)).mono ?_); rintro e w' ⟨rfl, hb⟩; have HB := Aside0.mk (below_step (pw_below_drewN hB0.out _) hb); clear hb; rw [H3.out]))
     go_ret
     exact ⟨rfl, HB.out⟩
    ·
     replace h3 := Bool.eq_false_iff.mpr h3
     rw [h3]
     have H3 := Aside0.mk h3
     clear h3
     go_enter Tryd.func19, Tryd.ntmps19
     go_wp2_with (first
      | (go_at_call 53; (with_reducible refine (feed_Valid.within_calls 1 a0_0 8 _).mono ?_); rintro e w' ⟨rfl, ⟨n, rfl⟩⟩; rw [H0.out])
      | (go_at_call 54; (refine (slices_ContainsFunc_api_Switch_api_Switch.contains 55 #[.pointer (some ⟨w.heap.size, 0, none⟩)] (feed_Valid.bad1 a0_0) A0_1 c0_1 l0_1 _ (Kd.C_drewN (Kd.C_below HR1.out hB0.out) _) hc0_1 feed_Valid.enter1 (fun x _ W hb => feed_Valid.clos1 a0_0 w.heap.size x W (hcell.out W (below_step (pw_below_drewN hB1.out _) hb)).1)).mono ?_); rintro e w' ⟨rfl, hb⟩; have HB := Aside0.mk (below_step (pw_below_drewN hB0.out _) hb); have HB1 := Aside0.mk (below_step (pw_below_drewN hB1.out _) hb); have hc2 := (hcell.out w' HB1.out).2; clear hb; rw [H3.out])
      | (go_at_call 56; (refine (slices_ContainsFunc_api_Feeder_api_Feeder.contains 57 #[.pointer (some ⟨w.heap.size, 0, none⟩)] (feed_Valid.bad2 a0_0) A0_2 c0_2 l0_2 _ (Kd.C_below HR2.out HB.out) hc0_2 feed_Valid.enter2 (fun x _ W hb => feed_Valid.clos2 a0_0 w.heap.size x W (hcell.out W (below_step HB1.out hb)).1)).mono ?_); rintro e w' ⟨rfl, hb⟩; have HB2 := Aside0.mk hb; clear hb))
     go_ret
     exact ⟨rfl, below_step HB.out HB2.out⟩
   ·
    rw [decide_eq_false h2, Bool.false_and]
    have k2 : decide ((l0_2.length : Int) > 6) = true := decide_eq_true (by omega)
    clear h1 h2
    go_enter Tryd.func19, Tryd.ntmps19
    go_wp2_with (go_at_call 53; (with_reducible refine (feed_Valid.within_calls 1 a0_0 8 _).mono ?_); rintro e w' ⟨rfl, ⟨n, rfl⟩⟩; rw [H0.out])
    go_ret
    exact ⟨rfl, by repeat (first | exact hB0.out | apply pw_below_drewN)⟩
  ·
   rw [decide_eq_false h1, Bool.false_and]
   have k1 : decide ((l0_1.length : Int) > 10) = true := decide_eq_true (by omega)
   clear h1
   go_enter Tryd.func19, Tryd.ntmps19
   go_wp2_with (go_at_call 53; (with_reducible refine (feed_Valid.within_calls 1 a0_0 8 _).mono ?_); rintro e w' ⟨rfl, ⟨n, rfl⟩⟩; rw [H0.out])
   go_ret
   exact ⟨rfl, by repeat (first | exact hB0.out | apply pw_below_drewN)⟩
 ·
  replace h0 := Bool.eq_false_iff.mpr h0
  rw [h0, Bool.false_and]
  have H0 := Aside0.mk h0
  clear h0
  go_enter Tryd.func19, Tryd.ntmps19
  go_wp2_with (go_at_call 53; (with_reducible refine (feed_Valid.within_calls 1 a0_0 8 _).mono ?_); rintro e w' ⟨rfl, ⟨n, rfl⟩⟩; rw [H0.out])
  go_ret
  exact ⟨rfl, by repeat (first | exact hB0.out | apply pw_below_drewN)⟩

/-! ### feed_open: function 46 -/
def feed_open.f (a0_0 : Int) (l0_1 : List (S69)) (l0_2 : List (S71)) (a1 : Int) : Option (Int × Int) := (feed_Valid.f a0_0 l0_1 l0_2).bind fun t106 => (if t106 = true then ((feed_grid_all.f a0_0 l0_1 l0_2).bind fun t107 => ((feed_within.f 0 a1 (wrap64 (t107 - 1))).bind fun t108 => (if t108 = true then (some (a0_0, 0)) else (some (a0_0, 51))))) else (some (a0_0, 50)))
set_option maxHeartbeats 8000000 in
set_option maxRecDepth 100000 in
theorem feed_open.calls (a0_0 : Int) (A0_1 : Option Addr) (c0_1 : Nat) (l0_1 : List (S69)) (A0_2 : Option Addr) (c0_2 : Nat) (l0_2 : List (S71)) (a1 : Int) (r1 : Int) (r2 : Int) (w : World) (hr0_1 : Kd.C k69 w A0_1 l0_1.length l0_1) (hc0_1 : l0_1.length ≤ c0_1) (hr0_2 : Kd.C k71 w A0_2 l0_2.length l0_2) (hc0_2 : l0_2.length ≤ c0_2) (h : feed_open.f a0_0 l0_1 l0_2 a1 = some (r1, r2)) :
  Calls Tryd.prog 46 #[.agg #[.int .i64 a0_0, .slice A0_1 l0_1.length c0_1, .slice A0_2 l0_2.length c0_2], .int .i64 a1] w fun e w' => e = .returned (.tuple #[.agg #[.int .i64 r1, .slice A0_1 l0_1.length c0_1, .slice A0_2 l0_2.length c0_2], .int .i64 r2]) ∧ Below w.heap.size w w' := by
 have hu25 := Tryd.underlying25
 have hu73 := Tryd.underlying73
 have HR0_1 := Aside0.mk hr0_1
 have HC0_1 := Aside0.mk hc0_1
 clear hr0_1 hc0_1
 have HR0_2 := Aside0.mk hr0_2
 have HC0_2 := Aside0.mk hc0_2
 clear hr0_2 hc0_2
 have HB := Aside0.mk (Below.refl w.heap.size w)
 have H : ((feed_Valid.f a0_0 l0_1 l0_2).bind fun t106 => (if t106 = true then ((feed_grid_all.f a0_0 l0_1 l0_2).bind fun t107 => ((feed_within.f 0 a1 (wrap64 (t107 - 1))).bind fun t108 => (if t108 = true then (some (a0_0, 0)) else (some (a0_0, 51))))) else (some (a0_0, 50)))) = some (r1, r2) := h
 clear h
 replace H := Option.bind_eq_some_iff.mp H
 obtain ⟨t106, A30, H⟩ := H
 replace H : (if t106 = true then ((feed_grid_all.f a0_0 l0_1 l0_2).bind fun t107 => ((feed_within.f 0 a1 (wrap64 (t107 - 1))).bind fun t108 => (if t108 = true then (some (a0_0, 0)) else (some (a0_0, 51))))) else (some (a0_0, 50))) = some (r1, r2) := H
 have A3 := Aside0.mk A30
 clear A30
 by_cases c4 : t106 = true
 ·
  subst c4
  have H1 : ((feed_grid_all.f a0_0 l0_1 l0_2).bind fun t107 => ((feed_within.f 0 a1 (wrap64 (t107 - 1))).bind fun t108 => (if t108 = true then (some (a0_0, 0)) else (some (a0_0, 51))))) = some (r1, r2) := by rw [if_pos rfl] at H; exact H
  clear H
  have H := H1
  clear H1
  replace H := Option.bind_eq_some_iff.mp H
  obtain ⟨t107, A50, H⟩ := H
  replace H : ((feed_within.f 0 a1 (wrap64 (t107 - 1))).bind fun t108 => (if t108 = true then (some (a0_0, 0)) else (some (a0_0, 51)))) = some (r1, r2) := H
  have A5 := Aside0.mk A50
  clear A50
  replace H := Option.bind_eq_some_iff.mp H
  obtain ⟨t108, A60, H⟩ := H
  replace H : (if t108 = true then (some (a0_0, 0)) else (some (a0_0, 51))) = some (r1, r2) := H
  have A6 := Aside0.mk A60
  clear A60
  by_cases c7 : t108 = true
  ·
   subst c7
   have H1 : (some (a0_0, 0)) = some (r1, r2) := by rw [if_pos rfl] at H; exact H
   clear H
   have H := H1
   clear H1
   simp only [Option.some.injEq, Prod.mk.injEq] at H
   obtain ⟨rfl, rfl⟩ := H
   go_enter Tryd.func46, Tryd.ntmps46
   go_wp2_with (first | ((with_reducible refine gate_dst (N := 2) rfl ?_); refine box_event ?hg (N := 2) ?hd (cs := #[.int .i64 a0_0, .slice A0_1 l0_1.length c0_1, .slice A0_2 l0_2.length c0_2]) (t := 25) ?hr ?_; (case hd => rfl); (case hg => rfl); (case hr => first | (go_simp; done) | (go_simp; rfl)); intro gb103 hg w8 hbox hb; have BK103 := Aside0.mk (hbox); have GW103 := bsz (w := w) hg; have GE103 := GW103; replace HB := Aside0.mk (below_step bel hb); clear hb hbox hg) | ((with_reducible refine gate_dst (N := 4) rfl ?_); refine box_event ?hg (N := 4) ?hd (cs := #[.int .i64 0, .slice none 0 0, .slice none 0 0]) (t := 73) ?hr ?_; (case hd => rfl); (case hg => rfl); (case hr => first | (go_simp; done) | (go_simp; rfl)); intro gb104 hg w9 hbox hb; have BK104 := Aside0.mk (hbox); have GW104 := bsz (w := w) hg; have GE104 := GW104; have NB103_104 := neL (g := gb103) hg; have NB104_103 := neR (g := gb103) hg; replace BK103 := Aside0.mk (blk_below (g := gb103) blkz hb); replace HB := Aside0.mk (below_step bel hb); clear hb hbox hg; have hnb10 := NB103_104.out; have hnc10 := NB104_103.out; have hcz11_0 := blkc BK103.out 0 (.int .i64 a0_0) rfl; have hcz11_1 := blkc BK103.out 1 (.slice A0_1 l0_1.length c0_1) rfl; have hcz11_2 := blkc BK103.out 2 (.slice A0_2 l0_2.length c0_2) rfl) | ((with_reducible refine gate_dst (N := 6) rfl ?_); refine box_event ?hg (N := 6) ?hd (cs := #[.int .i64 0, .slice none 0 0, .slice none 0 0]) (t := 73) ?hr ?_; (case hd => rfl); (case hg => rfl); (case hr => first | (go_simp; done) | (go_simp; rfl)); intro gb105 hg w12 hbox hb; have BK105 := Aside0.mk (hbox); have GW105 := bsz (w := w) hg; have GE105 := GW105; have NB103_105 := neL (g := gb103) hg; have NB105_103 := neR (g := gb103) hg; have NB104_105 := neL (g := gb104) hg; have NB105_104 := neR (g := gb104) hg; replace BK103 := Aside0.mk (blk_below (g := gb103) blkz hb); replace BK104 := Aside0.mk (blk_below (g := gb104) blkz hb); replace HB := Aside0.mk (below_step bel hb); clear hb hbox hg; have hnb13 := NB105_103.out; have hnc13 := NB103_105.out; have hnb14 := NB105_104.out; have hnc14 := NB104_105.out; have hcz15_0 := blkc BK105.out 0 (.int .i64 0) rfl; have hcz15_1 := blkc BK105.out 1 (.slice none 0 0) rfl; have hcz15_2 := blkc BK105.out 2 (.slice none 0 0) rfl; have hfz15_0 := blk_frozen BK105.out 0; have hfz15_1 := blk_frozen BK105.out 1; have hfz15_2 := blk_frozen BK105.out 2; have hcz16_0 := blkc BK103.out 0 (.int .i64 a0_0) rfl; have hcz16_1 := blkc BK103.out 1 (.slice A0_1 l0_1.length c0_1) rfl; have hcz16_2 := blkc BK103.out 2 (.slice A0_2 l0_2.length c0_2) rfl) | ((with_reducible refine gate_callee (f := 19) rfl ?_); refine goesL_ (some 11) rfl rfl Tryd.func19 (by kernel_rfl) rfl #[.agg #[.int .i64 a0_0, .slice A0_1 l0_1.length c0_1, .slice A0_2 l0_2.length c0_2]] rfl mapz ?_; (with_reducible refine (feed_Valid.calls a0_0 _ _ l0_1 _ _ l0_2 true _ ?side1 ?side2 ?side3 ?side4 A3.out).mono ?_); (case side1 => exact cbz HR0_1); (case side2 => exact HC0_1.out); (case side3 => exact cbz HR0_2); (case side4 => exact HC0_2.out); rintro e w17 ⟨rfl, hb⟩; refine ⟨_, rfl, ?_⟩; replace BK103 := Aside0.mk (blk_below (g := gb103) (o := .cells #[.int .i64 a0_0, .slice A0_1 l0_1.length c0_1, .slice A0_2 l0_2.length c0_2] 25 (0, 0)) (by (with_reducible repeat (first | refine blk_drewN ?_ _ | refine blk_drew ?_ | refine blk_alloc ?_ _)); refine blk_far ?_ NB103_105.out _; (with_reducible repeat (first | refine blk_drewN ?_ _ | refine blk_drew ?_ | refine blk_alloc ?_ _)); refine blk_far ?_ NB103_105.out _; (with_reducible repeat (first | refine blk_drewN ?_ _ | refine blk_drew ?_ | refine blk_alloc ?_ _)); refine blk_far ?_ NB103_105.out _; (with_reducible repeat (first | refine blk_drewN ?_ _ | refine blk_drew ?_ | refine blk_alloc ?_ _)); exact BK103.out) hb); replace BK104 := Aside0.mk (blk_below (g := gb104) (o := .cells #[.int .i64 0, .slice none 0 0, .slice none 0 0] 73 (0, 0)) (by (with_reducible repeat (first | refine blk_drewN ?_ _ | refine blk_drew ?_ | refine blk_alloc ?_ _)); refine blk_far ?_ NB104_105.out _; (with_reducible repeat (first | refine blk_drewN ?_ _ | refine blk_drew ?_ | refine blk_alloc ?_ _)); refine blk_far ?_ NB104_105.out _; (with_reducible repeat (first | refine blk_drewN ?_ _ | refine blk_drew ?_ | refine blk_alloc ?_ _)); refine blk_far ?_ NB104_105.out _; (with_reducible repeat (first | refine blk_drewN ?_ _ | refine blk_drew ?_ | refine blk_alloc ?_ _)); exact BK104.out) hb); replace BK105 := Aside0.mk (blk_below (g := gb105) (o := .cells #[.int .i64 a0_0, .slice A0_1 l0_1.length c0_1, .slice A0_2 l0_2.length c0_2] 73 (0, 0)) (by (with_reducible repeat (first | refine blk_drewN ?_ _ | refine blk_drew ?_ | refine blk_alloc ?_ _)); refine blk_put (cs := #[.int .i64 a0_0, .slice A0_1 l0_1.length c0_1, .slice none 0 0]) ?_ 2 _ rfl; (with_reducible repeat (first | refine blk_drewN ?_ _ | refine blk_drew ?_ | refine blk_alloc ?_ _)); refine blk_put (cs := #[.int .i64 a0_0, .slice none 0 0, .slice none 0 0]) ?_ 1 _ rfl; (with_reducible repeat (first | refine blk_drewN ?_ _ | refine blk_drew ?_ | refine blk_alloc ?_ _)); refine blk_put (cs := #[.int .i64 0, .slice none 0 0, .slice none 0 0]) ?_ 0 _ rfl; (with_reducible repeat (first | refine blk_drewN ?_ _ | refine blk_drew ?_ | refine blk_alloc ?_ _)); exact BK105.out) hb); replace HB := Aside0.mk (below_step bel hb); (try clear hb); (try clear hb2); (try clear hk); (try clear hi); have hcz18_0 := blkc BK105.out 0 (.int .i64 a0_0) rfl; have hcz18_1 := blkc BK105.out 1 (.slice A0_1 l0_1.length c0_1) rfl; have hcz18_2 := blkc BK105.out 2 (.slice A0_2 l0_2.length c0_2) rfl; have hfz18_0 := blk_frozen BK105.out 0; have hfz18_1 := blk_frozen BK105.out 1; have hfz18_2 := blk_frozen BK105.out 2) | ((with_reducible refine gate_callee (f := 52) rfl ?_); refine goesL_ (some 17) rfl rfl Tryd.func52 (by kernel_rfl) rfl #[.agg #[.int .i64 a0_0, .slice A0_1 l0_1.length c0_1, .slice A0_2 l0_2.length c0_2]] rfl mapz ?_; (with_reducible refine (feed_grid_all.calls a0_0 _ _ l0_1 _ _ l0_2 t107 _ ?side1 ?side2 ?side3 ?side4 A5.out).mono ?_); (case side1 => exact cbz HR0_1); (case side2 => exact HC0_1.out); (case side3 => exact cbz HR0_2); (case side4 => exact HC0_2.out); rintro e w19 ⟨rfl, hb⟩; refine ⟨_, rfl, ?_⟩; replace BK103 := Aside0.mk (blk_below (g := gb103) blkz hb); replace BK104 := Aside0.mk (blk_below (g := gb104) blkz hb); replace BK105 := Aside0.mk (blk_below (g := gb105) blkz hb); replace HB := Aside0.mk (below_step bel hb); (try clear hb); (try clear hb2); (try clear hk); (try clear hi)) | ((with_reducible refine gate_callee (f := 53) rfl ?_); refine goesL_ (some 19) rfl rfl Tryd.func53 (by kernel_rfl) rfl #[.int .i64 0, .int .i64 a1, .int .i64 (wrap64 (t107 - 1))] rfl mapz ?_; (with_reducible refine (feed_within.calls 0 a1 (wrap64 (t107 - 1)) true _ A6.out).mono ?_); rintro e w' ⟨rfl, ⟨nd, rfl⟩⟩; refine ⟨_, rfl, ?_⟩; (try (rw [drewN_self w19]; generalize hq_ : World.drewN w19 _ = w19; have n0_ : Aside0 (w19.heap[gb103]? = some (.cells #[.int .i64 a0_0, .slice A0_1 l0_1.length c0_1, .slice A0_2 l0_2.length c0_2] 25 (0, 0))) := ⟨by rw [← hq_]; exact blkz⟩; have n1_ : Aside0 (w19.heap[gb104]? = some (.cells #[.int .i64 0, .slice none 0 0, .slice none 0 0] 73 (0, 0))) := ⟨by rw [← hq_]; exact blkz⟩; have n2_ : Aside0 (w19.heap[gb105]? = some (.cells #[.int .i64 a0_0, .slice A0_1 l0_1.length c0_1, .slice A0_2 l0_2.length c0_2] 73 (0, 0))) := ⟨by rw [← hq_]; exact blkz⟩; have n3_ : Aside0 (Below w.heap.size w w19) := ⟨by rw [← hq_]; exact bel⟩; clear BK103 BK104 BK105 HB hq_; have BK103 := n0_; have BK104 := n1_; have BK105 := n2_; have HB := n3_; clear n0_ n1_ n2_ n3_)); have hcz20_0 := blkc BK105.out 0 (.int .i64 a0_0) rfl; have hcz20_1 := blkc BK105.out 1 (.slice A0_1 l0_1.length c0_1) rfl; have hcz20_2 := blkc BK105.out 2 (.slice A0_2 l0_2.length c0_2) rfl; have hfz20_0 := blk_frozen BK105.out 0; have hfz20_1 := blk_frozen BK105.out 1; have hfz20_2 := blk_frozen BK105.out 2; have hcz21_0 := blkc BK104.out 0 (.int .i64 0) rfl; have hcz21_1 := blkc BK104.out 1 (.slice none 0 0) rfl; have hcz21_2 := blkc BK104.out 2 (.slice none 0 0) rfl; have hfz21_0 := blk_frozen BK104.out 0; have hfz21_1 := blk_frozen BK104.out 1; have hfz21_2 := blk_frozen BK104.out 2))
   refine bodyPost_ret (results_ct rfl _ _ gb104 73 #[.int .i64 a0_0, .slice A0_1 l0_1.length c0_1, .slice A0_2 l0_2.length c0_2] (0, 0) _ rfl (by (with_reducible repeat (first | refine blk_drewN ?_ _ | refine blk_drew ?_ | refine blk_alloc ?_ _)); refine blk_put (cs := #[.int .i64 a0_0, .slice A0_1 l0_1.length c0_1, .slice none 0 0]) ?_ 2 _ rfl; (with_reducible repeat (first | refine blk_drewN ?_ _ | refine blk_drew ?_ | refine blk_alloc ?_ _)); refine blk_put (cs := #[.int .i64 a0_0, .slice none 0 0, .slice none 0 0]) ?_ 1 _ rfl; (with_reducible repeat (first | refine blk_drewN ?_ _ | refine blk_drew ?_ | refine blk_alloc ?_ _)); refine blk_put (cs := #[.int .i64 0, .slice none 0 0, .slice none 0 0]) ?_ 0 _ rfl; (with_reducible repeat (first | refine blk_drewN ?_ _ | refine blk_drew ?_ | refine blk_alloc ?_ _)); exact BK104.out) Tryd.underlying73 rfl (by kernel_rfl)) rfl ?_
   exact ⟨ezz, bel⟩
  ·
   replace c7 := Bool.eq_false_iff.mpr c7
   subst c7
   have H1 : (some (a0_0, 51)) = some (r1, r2) := by rw [if_neg (show ¬ (false = true) by decide)] at H; exact H
   clear H
   have H := H1
   clear H1
   simp only [Option.some.injEq, Prod.mk.injEq] at H
   obtain ⟨rfl, rfl⟩ := H
   go_enter Tryd.func46, Tryd.ntmps46
   go_wp2_with (first | ((with_reducible refine gate_dst (N := 2) rfl ?_); refine box_event ?hg (N := 2) ?hd (cs := #[.int .i64 a0_0, .slice A0_1 l0_1.length c0_1, .slice A0_2 l0_2.length c0_2]) (t := 25) ?hr ?_; (case hd => rfl); (case hg => rfl); (case hr => first | (go_simp; done) | (go_simp; rfl)); intro gb103 hg w22 hbox hb; have BK103 := Aside0.mk (hbox); have GW103 := bsz (w := w) hg; have GE103 := GW103; replace HB := Aside0.mk (below_step bel hb); clear hb hbox hg) | ((with_reducible refine gate_dst (N := 4) rfl ?_); refine box_event ?hg (N := 4) ?hd (cs := #[.int .i64 0, .slice none 0 0, .slice none 0 0]) (t := 73) ?hr ?_; (case hd => rfl); (case hg => rfl); (case hr => first | (go_simp; done) | (go_simp; rfl)); intro gb104 hg w23 hbox hb; have BK104 := Aside0.mk (hbox); have GW104 := bsz (w := w) hg; have GE104 := GW104; have NB103_104 := neL (g := gb103) hg; have NB104_103 := neR (g := gb103) hg; replace BK103 := Aside0.mk (blk_below (g := gb103) blkz hb); replace HB := Aside0.mk (below_step bel hb); clear hb hbox hg; have hnb24 := NB103_104.out; have hnc24 := NB104_103.out; have hcz25_0 := blkc BK103.out 0 (.int .i64 a0_0) rfl; have hcz25_1 := blkc BK103.out 1 (.slice A0_1 l0_1.length c0_1) rfl; have hcz25_2 := blkc BK103.out 2 (.slice A0_2 l0_2.length c0_2) rfl) | ((with_reducible refine gate_dst (N := 6) rfl ?_); refine box_event ?hg (N := 6) ?hd (cs := #[.int .i64 0, .slice none 0 0, .slice none 0 0]) (t := 73) ?hr ?_; (case hd => rfl); (case hg => rfl); (case hr => first | (go_simp; done) | (go_simp; rfl)); intro gb105 hg w26 hbox hb; have BK105 := Aside0.mk (hbox); have GW105 := bsz (w := w) hg; have GE105 := GW105; have NB103_105 := neL (g := gb103) hg; have NB105_103 := neR (g := gb103) hg; have NB104_105 := neL (g := gb104) hg; have NB105_104 := neR (g := gb104) hg; replace BK103 := Aside0.mk (blk_below (g := gb103) blkz hb); replace BK104 := Aside0.mk (blk_below (g := gb104) blkz hb); replace HB := Aside0.mk (below_step bel hb); clear hb hbox hg; have hnb27 := NB105_103.out; have hnc27 := NB103_105.out; have hnb28 := NB105_104.out; have hnc28 := NB104_105.out; have hcz29_0 := blkc BK105.out 0 (.int .i64 0) rfl; have hcz29_1 := blkc BK105.out 1 (.slice none 0 0) rfl; have hcz29_2 := blkc BK105.out 2 (.slice none 0 0) rfl; have hfz29_0 := blk_frozen BK105.out 0; have hfz29_1 := blk_frozen BK105.out 1; have hfz29_2 := blk_frozen BK105.out 2; have hcz30_0 := blkc BK103.out 0 (.int .i64 a0_0) rfl; have hcz30_1 := blkc BK103.out 1 (.slice A0_1 l0_1.length c0_1) rfl; have hcz30_2 := blkc BK103.out 2 (.slice A0_2 l0_2.length c0_2) rfl) | ((with_reducible refine gate_callee (f := 19) rfl ?_); refine goesL_ (some 11) rfl rfl Tryd.func19 (by kernel_rfl) rfl #[.agg #[.int .i64 a0_0, .slice A0_1 l0_1.length c0_1, .slice A0_2 l0_2.length c0_2]] rfl mapz ?_; (with_reducible refine (feed_Valid.calls a0_0 _ _ l0_1 _ _ l0_2 true _ ?side1 ?side2 ?side3 ?side4 A3.out).mono ?_); (case side1 => exact cbz HR0_1); (case side2 => exact HC0_1.out); (case side3 => exact cbz HR0_2); (case side4 => exact HC0_2.out); rintro e w31 ⟨rfl, hb⟩; refine ⟨_, rfl, ?_⟩; replace BK103 := Aside0.mk (blk_below (g := gb103) (o := .cells #[.int .i64 a0_0, .slice A0_1 l0_1.length c0_1, .slice A0_2 l0_2.length c0_2] 25 (0, 0)) (by (with_reducible repeat (first | refine blk_drewN ?_ _ | refine blk_drew ?_ | refine blk_alloc ?_ _)); refine blk_far ?_ NB103_105.out _; (with_reducible repeat (first | refine blk_drewN ?_ _ | refine blk_drew ?_ | refine blk_alloc ?_ _)); refine blk_far ?_ NB103_105.out _; (with_reducible repeat (first | refine blk_drewN ?_ _ | refine blk_drew ?_ | refine blk_alloc ?_ _)); refine blk_far ?_ NB103_105.out _; (with_reducible repeat (first | refine blk_drewN ?_ _ | refine blk_drew ?_ | refine blk_alloc ?_ _)); exact BK103.out) hb); replace BK104 := Aside0.mk (blk_below (g := gb104) (o := .cells #[.int .i64 0, .slice none 0 0, .slice none 0 0] 73 (0, 0)) (by (with_reducible repeat (first | refine blk_drewN ?_ _ | refine blk_drew ?_ | refine blk_alloc ?_ _)); refine blk_far ?_ NB104_105.out _; (with_reducible repeat (first | refine blk_drewN ?_ _ | refine blk_drew ?_ | refine blk_alloc ?_ _)); refine blk_far ?_ NB104_105.out _; (with_reducible repeat (first | refine blk_drewN ?_ _ | refine blk_drew ?_ | refine blk_alloc ?_ _)); refine blk_far ?_ NB104_105.out _; (with_reducible repeat (first | refine blk_drewN ?_ _ | refine blk_drew ?_ | refine blk_alloc ?_ _)); exact BK104.out) hb); replace BK105 := Aside0.mk (blk_below (g := gb105) (o := .cells #[.int .i64 a0_0, .slice A0_1 l0_1.length c0_1, .slice A0_2 l0_2.length c0_2] 73 (0, 0)) (by (with_reducible repeat (first | refine blk_drewN ?_ _ | refine blk_drew ?_ | refine blk_alloc ?_ _)); refine blk_put (cs := #[.int .i64 a0_0, .slice A0_1 l0_1.length c0_1, .slice none 0 0]) ?_ 2 _ rfl; (with_reducible repeat (first | refine blk_drewN ?_ _ | refine blk_drew ?_ | refine blk_alloc ?_ _)); refine blk_put (cs := #[.int .i64 a0_0, .slice none 0 0, .slice none 0 0]) ?_ 1 _ rfl; (with_reducible repeat (first | refine blk_drewN ?_ _ | refine blk_drew ?_ | refine blk_alloc ?_ _)); refine blk_put (cs := #[.int .i64 0, .slice none 0 0, .slice none 0 0]) ?_ 0 _ rfl; (with_reducible repeat (first | refine blk_drewN ?_ _ | refine blk_drew ?_ | refine blk_alloc ?_ _)); exact BK105.out) hb); replace HB := Aside0.mk (below_step bel hb); (try clear hb); (try clear hb2); (try clear hk); (try clear hi); have hcz32_0 := blkc BK105.out 0 (.int .i64 a0_0) rfl; have hcz32_1 := blkc BK105.out 1 (.slice A0_1 l0_1.length c0_1) rfl; have hcz32_2 := blkc BK105.out 2 (.slice A0_2 l0_2.length c0_2) rfl; have hfz32_0 := blk_frozen BK105.out 0; have hfz32_1 := blk_frozen BK105.out 1; have hfz32_2 := blk_frozen BK105.out 2) | ((with_reducible refine gate_callee (f := 52) rfl ?_); refine goesL_ (some 17) rfl rfl Tryd.func52 (by kernel_rfl) rfl #[.agg #[.int .i64 a0_0, .slice A0_1 l0_1.length c0_1, .slice A0_2 l0_2.length c0_2]] rfl mapz ?_; (with_reducible refine (feed_grid_all.calls a0_0 _ _ l0_1 _ _ l0_2 t107 _ ?side1 ?side2 ?side3 ?side4 A5.out).mono ?_); (case side1 => exact cbz HR0_1); (case side2 => exact HC0_1.out); (case side3 => exact cbz HR0_2); (case side4 => exact HC0_2.out); rintro e w33 ⟨rfl, hb⟩; refine ⟨_, rfl, ?_⟩; replace BK103 := Aside0.mk (blk_below (g := gb103) blkz hb); replace BK104 := Aside0.mk (blk_below (g := gb104) blkz hb); replace BK105 := Aside0.mk (blk_below (g := gb105) blkz hb); replace HB := Aside0.mk (below_step bel hb); (try clear hb); (try clear hb2); (try clear hk); (try clear hi)) | ((with_reducible refine gate_callee (f := 53) rfl ?_); refine goesL_ (some 19) rfl rfl Tryd.func53 (by kernel_rfl) rfl #[.int .i64 0, .int .i64 a1, .int .i64 (wrap64 (t107 - 1))] rfl mapz ?_; (with_reducible refine (feed_within.calls 0 a1 (wrap64 (t107 - 1)) false _ A6.out).mono ?_); rintro e w' ⟨rfl, ⟨nd, rfl⟩⟩; refine ⟨_, rfl, ?_⟩; (try (rw [drewN_self w33]; generalize hq_ : World.drewN w33 _ = w33; have n0_ : Aside0 (w33.heap[gb103]? = some (.cells #[.int .i64 a0_0, .slice A0_1 l0_1.length c0_1, .slice A0_2 l0_2.length c0_2] 25 (0, 0))) := ⟨by rw [← hq_]; exact blkz⟩; have n1_ : Aside0 (w33.heap[gb104]? = some (.cells #[.int .i64 0, .slice none 0 0, .slice none 0 0] 73 (0, 0))) := ⟨by rw [← hq_]; exact blkz⟩; have n2_ : Aside0 (w33.heap[gb105]? = some (.cells #[.int .i64 a0_0, .slice A0_1 l0_1.length c0_1, .slice A0_2 l0_2.length c0_2] 73 (0, 0))) := ⟨by rw [← hq_]; exact blkz⟩; have n3_ : Aside0 (Below w.heap.size w w33) := ⟨by rw [← hq_]; exact bel⟩; clear BK103 BK104 BK105 HB hq_; have BK103 := n0_; have BK104 := n1_; have BK105 := n2_; have HB := n3_; clear n0_ n1_ n2_ n3_)); have hcz34_0 := blkc BK105.out 0 (.int .i64 a0_0) rfl; have hcz34_1 := blkc BK105.out 1 (.slice A0_1 l0_1.length c0_1) rfl; have hcz34_2 := blkc BK105.out 2 (.slice A0_2 l0_2.length c0_2) rfl; have hfz34_0 := blk_frozen BK105.out 0; have hfz34_1 := blk_frozen BK105.out 1; have hfz34_2 := blk_frozen BK105.out 2; have hcz35_0 := blkc BK104.out 0 (.int .i64 0) rfl; have hcz35_1 := blkc BK104.out 1 (.slice none 0 0) rfl; have hcz35_2 := blkc BK104.out 2 (.slice none 0 0) rfl; have hfz35_0 := blk_frozen BK104.out 0; have hfz35_1 := blk_frozen BK104.out 1; have hfz35_2 := blk_frozen BK104.out 2))
   refine bodyPost_ret (results_ct rfl _ _ gb104 73 #[.int .i64 a0_0, .slice A0_1 l0_1.length c0_1, .slice A0_2 l0_2.length c0_2] (0, 0) _ rfl (by (with_reducible repeat (first | refine blk_drewN ?_ _ | refine blk_drew ?_ | refine blk_alloc ?_ _)); refine blk_put (cs := #[.int .i64 a0_0, .slice A0_1 l0_1.length c0_1, .slice none 0 0]) ?_ 2 _ rfl; (with_reducible repeat (first | refine blk_drewN ?_ _ | refine blk_drew ?_ | refine blk_alloc ?_ _)); refine blk_put (cs := #[.int .i64 a0_0, .slice none 0 0, .slice none 0 0]) ?_ 1 _ rfl; (with_reducible repeat (first | refine blk_drewN ?_ _ | refine blk_drew ?_ | refine blk_alloc ?_ _)); refine blk_put (cs := #[.int .i64 0, .slice none 0 0, .slice none 0 0]) ?_ 0 _ rfl; (with_reducible repeat (first | refine blk_drewN ?_ _ | refine blk_drew ?_ | refine blk_alloc ?_ _)); exact BK104.out) Tryd.underlying73 rfl (by kernel_rfl)) rfl ?_
   exact ⟨ezz, bel⟩
 ·
  replace c4 := Bool.eq_false_iff.mpr c4
  subst c4
  have H1 : (some (a0_0, 50)) = some (r1, r2) := by rw [if_neg (show ¬ (false = true) by decide)] at H; exact H
  clear H
  have H := H1
  clear H1
  simp only [Option.some.injEq, Prod.mk.injEq] at H
  obtain ⟨rfl, rfl⟩ := H
  go_enter Tryd.func46, Tryd.ntmps46
  go_wp2_with (first | ((with_reducible refine gate_dst (N := 2) rfl ?_); refine box_event ?hg (N := 2) ?hd (cs := #[.int .i64 a0_0, .slice A0_1 l0_1.length c0_1, .slice A0_2 l0_2.length c0_2]) (t := 25) ?hr ?_; (case hd => rfl); (case hg => rfl); (case hr => first | (go_simp; done) | (go_simp; rfl)); intro gb103 hg w36 hbox hb; have BK103 := Aside0.mk (hbox); have GW103 := bsz (w := w) hg; have GE103 := GW103; replace HB := Aside0.mk (below_step bel hb); clear hb hbox hg) | ((with_reducible refine gate_dst (N := 4) rfl ?_); refine box_event ?hg (N := 4) ?hd (cs := #[.int .i64 0, .slice none 0 0, .slice none 0 0]) (t := 73) ?hr ?_; (case hd => rfl); (case hg => rfl); (case hr => first | (go_simp; done) | (go_simp; rfl)); intro gb104 hg w37 hbox hb; have BK104 := Aside0.mk (hbox); have GW104 := bsz (w := w) hg; have GE104 := GW104; have NB103_104 := neL (g := gb103) hg; have NB104_103 := neR (g := gb103) hg; replace BK103 := Aside0.mk (blk_below (g := gb103) blkz hb); replace HB := Aside0.mk (below_step bel hb); clear hb hbox hg; have hnb38 := NB103_104.out; have hnc38 := NB104_103.out; have hcz39_0 := blkc BK103.out 0 (.int .i64 a0_0) rfl; have hcz39_1 := blkc BK103.out 1 (.slice A0_1 l0_1.length c0_1) rfl; have hcz39_2 := blkc BK103.out 2 (.slice A0_2 l0_2.length c0_2) rfl) | ((with_reducible refine gate_dst (N := 6) rfl ?_); refine box_event ?hg (N := 6) ?hd (cs := #[.int .i64 0, .slice none 0 0, .slice none 0 0]) (t := 73) ?hr ?_; (case hd => rfl); (case hg => rfl); (case hr => first | (go_simp; done) | (go_simp; rfl)); intro gb105 hg w40 hbox hb; have BK105 := Aside0.mk (hbox); have GW105 := bsz (w := w) hg; have GE105 := GW105; have NB103_105 := neL (g := gb103) hg; have NB105_103 := neR (g := gb103) hg; have NB104_105 := neL (g := gb104) hg; have NB105_104 := neR (g := gb104) hg; replace BK103 := Aside0.mk (blk_below (g := gb103) blkz hb); replace BK104 := Aside0.mk (blk_below (g := gb104) blkz hb); replace HB := Aside0.mk (below_step bel hb); clear hb hbox hg; have hnb41 := NB105_103.out; have hnc41 := NB103_105.out; have hnb42 := NB105_104.out; have hnc42 := NB104_105.out; have hcz43_0 := blkc BK105.out 0 (.int .i64 0) rfl; have hcz43_1 := blkc BK105.out 1 (.slice none 0 0) rfl; have hcz43_2 := blkc BK105.out 2 (.slice none 0 0) rfl; have hfz43_0 := blk_frozen BK105.out 0; have hfz43_1 := blk_frozen BK105.out 1; have hfz43_2 := blk_frozen BK105.out 2; have hcz44_0 := blkc BK103.out 0 (.int .i64 a0_0) rfl; have hcz44_1 := blkc BK103.out 1 (.slice A0_1 l0_1.length c0_1) rfl; have hcz44_2 := blkc BK103.out 2 (.slice A0_2 l0_2.length c0_2) rfl) | ((with_reducible refine gate_callee (f := 19) rfl ?_); refine goesL_ (some 11) rfl rfl Tryd.func19 (by kernel_rfl) rfl #[.agg #[.int .i64 a0_0, .slice A0_1 l0_1.length c0_1, .slice A0_2 l0_2.length c0_2]] rfl mapz ?_; (with_reducible refine (feed_Valid.calls a0_0 _ _ l0_1 _ _ l0_2 false _ ?side1 ?side2 ?side3 ?side4 A3.out).mono ?_); (case side1 => exact cbz HR0_1); (case side2 => exact HC0_1.out); (case side3 => exact cbz HR0_2); (case side4 => exact HC0_2.out); rintro e w45 ⟨rfl, hb⟩; refine ⟨_, rfl, ?_⟩; replace BK103 := Aside0.mk (blk_below (g := gb103) (o := .cells #[.int .i64 a0_0, .slice A0_1 l0_1.length c0_1, .slice A0_2 l0_2.length c0_2] 25 (0, 0)) (by (with_reducible repeat (first | refine blk_drewN ?_ _ | refine blk_drew ?_ | refine blk_alloc ?_ _)); refine blk_far ?_ NB103_105.out _; (with_reducible repeat (first | refine blk_drewN ?_ _ | refine blk_drew ?_ | refine blk_alloc ?_ _)); refine blk_far ?_ NB103_105.out _; (with_reducible repeat (first | refine blk_drewN ?_ _ | refine blk_drew ?_ | refine blk_alloc ?_ _)); refine blk_far ?_ NB103_105.out _; (with_reducible repeat (first | refine blk_drewN ?_ _ | refine blk_drew ?_ | refine blk_alloc ?_ _)); exact BK103.out) hb); replace BK104 := Aside0.mk (blk_below (g := gb104) (o := .cells #[.int .i64 0, .slice none 0 0, .slice none 0 0] 73 (0, 0)) (by (with_reducible repeat (first | refine blk_drewN ?_ _ | refine blk_drew ?_ | refine blk_alloc ?_ _)); refine blk_far ?_ NB104_105.out _; (with_reducible repeat (first | refine blk_drewN ?_ _ | refine blk_drew ?_ | refine blk_alloc ?_ _)); refine blk_far ?_ NB104_105.out _; (with_reducible repeat (first | refine blk_drewN ?_ _ | refine blk_drew ?_ | refine blk_alloc ?_ _)); refine blk_far ?_ NB104_105.out _; (with_reducible repeat (first | refine blk_drewN ?_ _ | refine blk_drew ?_ | refine blk_alloc ?_ _)); exact BK104.out) hb); replace BK105 := Aside0.mk (blk_below (g := gb105) (o := .cells #[.int .i64 a0_0, .slice A0_1 l0_1.length c0_1, .slice A0_2 l0_2.length c0_2] 73 (0, 0)) (by (with_reducible repeat (first | refine blk_drewN ?_ _ | refine blk_drew ?_ | refine blk_alloc ?_ _)); refine blk_put (cs := #[.int .i64 a0_0, .slice A0_1 l0_1.length c0_1, .slice none 0 0]) ?_ 2 _ rfl; (with_reducible repeat (first | refine blk_drewN ?_ _ | refine blk_drew ?_ | refine blk_alloc ?_ _)); refine blk_put (cs := #[.int .i64 a0_0, .slice none 0 0, .slice none 0 0]) ?_ 1 _ rfl; (with_reducible repeat (first | refine blk_drewN ?_ _ | refine blk_drew ?_ | refine blk_alloc ?_ _)); refine blk_put (cs := #[.int .i64 0, .slice none 0 0, .slice none 0 0]) ?_ 0 _ rfl; (with_reducible repeat (first | refine blk_drewN ?_ _ | refine blk_drew ?_ | refine blk_alloc ?_ _)); exact BK105.out) hb); replace HB := Aside0.mk (below_step bel hb); (try clear hb); (try clear hb2); (try clear hk); (try clear hi); have hcz46_0 := blkc BK105.out 0 (.int .i64 a0_0) rfl; have hcz46_1 := blkc BK105.out 1 (.slice A0_1 l0_1.length c0_1) rfl; have hcz46_2 := blkc BK105.out 2 (.slice A0_2 l0_2.length c0_2) rfl; have hfz46_0 := blk_frozen BK105.out 0; have hfz46_1 := blk_frozen BK105.out 1; have hfz46_2 := blk_frozen BK105.out 2; have hcz47_0 := blkc BK104.out 0 (.int .i64 0) rfl; have hcz47_1 := blkc BK104.out 1 (.slice none 0 0) rfl; have hcz47_2 := blkc BK104.out 2 (.slice none 0 0) rfl; have hfz47_0 := blk_frozen BK104.out 0; have hfz47_1 := blk_frozen BK104.out 1; have hfz47_2 := blk_frozen BK104.out 2))
  refine bodyPost_ret (results_ct rfl _ _ gb104 73 #[.int .i64 a0_0, .slice A0_1 l0_1.length c0_1, .slice A0_2 l0_2.length c0_2] (0, 0) _ rfl (by (with_reducible repeat (first | refine blk_drewN ?_ _ | refine blk_drew ?_ | refine blk_alloc ?_ _)); refine blk_put (cs := #[.int .i64 a0_0, .slice A0_1 l0_1.length c0_1, .slice none 0 0]) ?_ 2 _ rfl; (with_reducible repeat (first | refine blk_drewN ?_ _ | refine blk_drew ?_ | refine blk_alloc ?_ _)); refine blk_put (cs := #[.int .i64 a0_0, .slice none 0 0, .slice none 0 0]) ?_ 1 _ rfl; (with_reducible repeat (first | refine blk_drewN ?_ _ | refine blk_drew ?_ | refine blk_alloc ?_ _)); refine blk_put (cs := #[.int .i64 0, .slice none 0 0, .slice none 0 0]) ?_ 0 _ rfl; (with_reducible repeat (first | refine blk_drewN ?_ _ | refine blk_drew ?_ | refine blk_alloc ?_ _)); exact BK104.out) Tryd.underlying73 rfl (by kernel_rfl)) rfl ?_
  exact ⟨ezz, bel⟩

/-! ### bits_OnesCount64: function 103 -/
def bits_OnesCount64.f (a0 : Int) : Option (Int) := some (Go.bits .and .i64 (wrap64 (IntKind.u64.wrap ((IntKind.u64.wrap ((IntKind.u64.wrap ((Go.bits .and .u64 (IntKind.u64.wrap (((IntKind.u64.wrap ((Go.bits .and .u64 ((IntKind.u64.wrap ((Go.bits .and .u64 (a0 / 2) 6148914691236517205) + (Go.bits .and .u64 a0 6148914691236517205))) / 4) 3689348814741910323) + (Go.bits .and .u64 (IntKind.u64.wrap ((Go.bits .and .u64 (a0 / 2) 6148914691236517205) + (Go.bits .and .u64 a0 6148914691236517205))) 3689348814741910323))) / 16) + (IntKind.u64.wrap ((Go.bits .and .u64 ((IntKind.u64.wrap ((Go.bits .and .u64 (a0 / 2) 6148914691236517205) + (Go.bits .and .u64 a0 6148914691236517205))) / 4) 3689348814741910323) + (Go.bits .and .u64 (IntKind.u64.wrap ((Go.bits .and .u64 (a0 / 2) 6148914691236517205) + (Go.bits .and .u64 a0 6148914691236517205))) 3689348814741910323))))) 1085102592571150095) + ((Go.bits .and .u64 (IntKind.u64.wrap (((IntKind.u64.wrap ((Go.bits .and .u64 ((IntKind.u64.wrap ((Go.bits .and .u64 (a0 / 2) 6148914691236517205) + (Go.bits .and .u64 a0 6148914691236517205))) / 4) 3689348814741910323) + (Go.bits .and .u64 (IntKind.u64.wrap ((Go.bits .and .u64 (a0 / 2) 6148914691236517205) + (Go.bits .and .u64 a0 6148914691236517205))) 3689348814741910323))) / 16) + (IntKind.u64.wrap ((Go.bits .and .u64 ((IntKind.u64.wrap ((Go.bits .and .u64 (a0 / 2) 6148914691236517205) + (Go.bits .and .u64 a0 6148914691236517205))) / 4) 3689348814741910323) + (Go.bits .and .u64 (IntKind.u64.wrap ((Go.bits .and .u64 (a0 / 2) 6148914691236517205) + (Go.bits .and .u64 a0 6148914691236517205))) 3689348814741910323))))) 1085102592571150095) / 256))) + ((IntKind.u64.wrap ((Go.bits .and .u64 (IntKind.u64.wrap (((IntKind.u64.wrap ((Go.bits .and .u64 ((IntKind.u64.wrap ((Go.bits .and .u64 (a0 / 2) 6148914691236517205) + (Go.bits .and .u64 a0 6148914691236517205))) / 4) 3689348814741910323) + (Go.bits .and .u64 (IntKind.u64.wrap ((Go.bits .and .u64 (a0 / 2) 6148914691236517205) + (Go.bits .and .u64 a0 6148914691236517205))) 3689348814741910323))) / 16) + (IntKind.u64.wrap ((Go.bits .and .u64 ((IntKind.u64.wrap ((Go.bits .and .u64 (a0 / 2) 6148914691236517205) + (Go.bits .and .u64 a0 6148914691236517205))) / 4) 3689348814741910323) + (Go.bits .and .u64 (IntKind.u64.wrap ((Go.bits .and .u64 (a0 / 2) 6148914691236517205) + (Go.bits .and .u64 a0 6148914691236517205))) 3689348814741910323))))) 1085102592571150095) + ((Go.bits .and .u64 (IntKind.u64.wrap (((IntKind.u64.wrap ((Go.bits .and .u64 ((IntKind.u64.wrap ((Go.bits .and .u64 (a0 / 2) 6148914691236517205) + (Go.bits .and .u64 a0 6148914691236517205))) / 4) 3689348814741910323) + (Go.bits .and .u64 (IntKind.u64.wrap ((Go.bits .and .u64 (a0 / 2) 6148914691236517205) + (Go.bits .and .u64 a0 6148914691236517205))) 3689348814741910323))) / 16) + (IntKind.u64.wrap ((Go.bits .and .u64 ((IntKind.u64.wrap ((Go.bits .and .u64 (a0 / 2) 6148914691236517205) + (Go.bits .and .u64 a0 6148914691236517205))) / 4) 3689348814741910323) + (Go.bits .and .u64 (IntKind.u64.wrap ((Go.bits .and .u64 (a0 / 2) 6148914691236517205) + (Go.bits .and .u64 a0 6148914691236517205))) 3689348814741910323))))) 1085102592571150095) / 256))) / 65536))) + ((IntKind.u64.wrap ((IntKind.u64.wrap ((Go.bits .and .u64 (IntKind.u64.wrap (((IntKind.u64.wrap ((Go.bits .and .u64 ((IntKind.u64.wrap ((Go.bits .and .u64 (a0 / 2) 6148914691236517205) + (Go.bits .and .u64 a0 6148914691236517205))) / 4) 3689348814741910323) + (Go.bits .and .u64 (IntKind.u64.wrap ((Go.bits .and .u64 (a0 / 2) 6148914691236517205) + (Go.bits .and .u64 a0 6148914691236517205))) 3689348814741910323))) / 16) + (IntKind.u64.wrap ((Go.bits .and .u64 ((IntKind.u64.wrap ((Go.bits .and .u64 (a0 / 2) 6148914691236517205) + (Go.bits .and .u64 a0 6148914691236517205))) / 4) 3689348814741910323) + (Go.bits .and .u64 (IntKind.u64.wrap ((Go.bits .and .u64 (a0 / 2) 6148914691236517205) + (Go.bits .and .u64 a0 6148914691236517205))) 3689348814741910323))))) 1085102592571150095) + ((Go.bits .and .u64 (IntKind.u64.wrap (((IntKind.u64.wrap ((Go.bits .and .u64 ((IntKind.u64.wrap ((Go.bits .and .u64 (a0 / 2) 6148914691236517205) + (Go.bits .and .u64 a0 6148914691236517205))) / 4) 3689348814741910323) + (Go.bits .and .u64 (IntKind.u64.wrap ((Go.bits .and .u64 (a0 / 2) 6148914691236517205) + (Go.bits .and .u64 a0 6148914691236517205))) 3689348814741910323))) / 16) + (IntKind.u64.wrap ((Go.bits .and .u64 ((IntKind.u64.wrap ((Go.bits .and .u64 (a0 / 2) 6148914691236517205) + (Go.bits .and .u64 a0 6148914691236517205))) / 4) 3689348814741910323) + (Go.bits .and .u64 (IntKind.u64.wrap ((Go.bits .and .u64 (a0 / 2) 6148914691236517205) + (Go.bits .and .u64 a0 6148914691236517205))) 3689348814741910323))))) 1085102592571150095) / 256))) + ((IntKind.u64.wrap ((Go.bits .and .u64 (IntKind.u64.wrap (((IntKind.u64.wrap ((Go.bits .and .u64 ((IntKind.u64.wrap ((Go.bits .and .u64 (a0 / 2) 6148914691236517205) + (Go.bits .and .u64 a0 6148914691236517205))) / 4) 3689348814741910323) + (Go.bits .and .u64 (IntKind.u64.wrap ((Go.bits .and .u64 (a0 / 2) 6148914691236517205) + (Go.bits .and .u64 a0 6148914691236517205))) 3689348814741910323))) / 16) + (IntKind.u64.wrap ((Go.bits .and .u64 ((IntKind.u64.wrap ((Go.bits .and .u64 (a0 / 2) 6148914691236517205) + (Go.bits .and .u64 a0 6148914691236517205))) / 4) 3689348814741910323) + (Go.bits .and .u64 (IntKind.u64.wrap ((Go.bits .and .u64 (a0 / 2) 6148914691236517205) + (Go.bits .and .u64 a0 6148914691236517205))) 3689348814741910323))))) 1085102592571150095) + ((Go.bits .and .u64 (IntKind.u64.wrap (((IntKind.u64.wrap ((Go.bits .and .u64 ((IntKind.u64.wrap ((Go.bits .and .u64 (a0 / 2) 6148914691236517205) + (Go.bits .and .u64 a0 6148914691236517205))) / 4) 3689348814741910323) + (Go.bits .and .u64 (IntKind.u64.wrap ((Go.bits .and .u64 (a0 / 2) 6148914691236517205) + (Go.bits .and .u64 a0 6148914691236517205))) 3689348814741910323))) / 16) + (IntKind.u64.wrap ((Go.bits .and .u64 ((IntKind.u64.wrap ((Go.bits .and .u64 (a0 / 2) 6148914691236517205) + (Go.bits .and .u64 a0 6148914691236517205))) / 4) 3689348814741910323) + (Go.bits .and .u64 (IntKind.u64.wrap ((Go.bits .and .u64 (a0 / 2) 6148914691236517205) + (Go.bits .and .u64 a0 6148914691236517205))) 3689348814741910323))))) 1085102592571150095) / 256))) / 65536))) / 4294967296)))) 127)
set_option maxHeartbeats 8000000 in
set_option maxRecDepth 100000 in
theorem bits_OnesCount64.calls (a0 : Int) (r : Int) (w : World) (h : bits_OnesCount64.f a0 = some r) :
  Calls Tryd.prog 103 #[.int .u64 a0] w fun e w' => e = .returned (.int .i64 r) ∧ Drawn0 w w' := by
 have H : (some (Go.bits .and .i64 (wrap64 (IntKind.u64.wrap ((IntKind.u64.wrap ((IntKind.u64.wrap ((Go.bits .and .u64 (IntKind.u64.wrap (((IntKind.u64.wrap ((Go.bits .and .u64 ((IntKind.u64.wrap ((Go.bits .and .u64 (a0 / 2) 6148914691236517205) + (Go.bits .and .u64 a0 6148914691236517205))) / 4) 3689348814741910323) + (Go.bits .and .u64 (IntKind.u64.wrap ((Go.bits .and .u64 (a0 / 2) 6148914691236517205) + (Go.bits .and .u64 a0 6148914691236517205))) 3689348814741910323))) / 16) + (IntKind.u64.wrap ((Go.bits .and .u64 ((IntKind.u64.wrap ((Go.bits .and .u64 (a0 / 2) 6148914691236517205) + (Go.bits .and .u64 a0 6148914691236517205))) / 4) 3689348814741910323) + (Go.bits .and .u64 (IntKind.u64.wrap ((Go.bits .and .u64 (a0 / 2) 6148914691236517205) + (Go.bits .and .u64 a0 6148914691236517205))) 3689348814741910323))))) 1085102592571150095) + ((Go.bits .and .u64 (IntKind.u64.wrap (((IntKind.u64.wrap ((Go.bits .and .u64 ((IntKind.u64.wrap ((Go.bits .and .u64 (a0 / 2) 6148914691236517205) + (Go.bits .and .u64 a0 6148914691236517205))) / 4) 3689348814741910323) + (Go.bits .and .u64 (IntKind.u64.wrap ((Go.bits .and .u64 (a0 / 2) 6148914691236517205) + (Go.bits .and .u64 a0 6148914691236517205))) 3689348814741910323))) / 16) + (IntKind.u64.wrap ((Go.bits .and .u64 ((IntKind.u64.wrap ((Go.bits .and .u64 (a0 / 2) 6148914691236517205) + (Go.bits .and .u64 a0 6148914691236517205))) / 4) 3689348814741910323) + (Go.bits .and .u64 (IntKind.u64.wrap ((Go.bits .and .u64 (a0 / 2) 6148914691236517205) + (Go.bits .and .u64 a0 6148914691236517205))) 3689348814741910323))))) 1085102592571150095) / 256))) + ((IntKind.u64.wrap ((Go.bits .and .u64 (IntKind.u64.wrap (((IntKind.u64.wrap ((Go.bits .and .u64 ((IntKind.u64.wrap ((Go.bits .and .u64 (a0 / 2) 6148914691236517205) + (Go.bits .and .u64 a0 6148914691236517205))) / 4) 3689348814741910323) + (Go.bits .and .u64 (IntKind.u64.wrap ((Go.bits .and .u64 (a0 / 2) 6148914691236517205) + (Go.bits .and .u64 a0 6148914691236517205))) 3689348814741910323))) / 16) + (IntKind.u64.wrap ((Go.bits .and .u64 ((IntKind.u64.wrap ((Go.bits .and .u64 (a0 / 2) 6148914691236517205) + (Go.bits .and .u64 a0 6148914691236517205))) / 4) 3689348814741910323) + (Go.bits .and .u64 (IntKind.u64.wrap ((Go.bits .and .u64 (a0 / 2) 6148914691236517205) + (Go.bits .and .u64 a0 6148914691236517205))) 3689348814741910323))))) 1085102592571150095) + ((Go.bits .and .u64 (IntKind.u64.wrap (((IntKind.u64.wrap ((Go.bits .and .u64 ((IntKind.u64.wrap ((Go.bits .and .u64 (a0 / 2) 6148914691236517205) + (Go.bits .and .u64 a0 6148914691236517205))) / 4) 3689348814741910323) + (Go.bits .and .u64 (IntKind.u64.wrap ((Go.bits .and .u64 (a0 / 2) 6148914691236517205) + (Go.bits .and .u64 a0 6148914691236517205))) 3689348814741910323))) / 16) + (IntKind.u64.wrap ((Go.bits .and .u64 ((IntKind.u64.wrap ((Go.bits .and .u64 (a0 / 2) 6148914691236517205) + (Go.bits .and .u64 a0 6148914691236517205))) / 4) 3689348814741910323) + (Go.bits .and .u64 (IntKind.u64.wrap ((Go.bits .and .u64 (a0 / 2) 6148914691236517205) + (Go.bits .and .u64 a0 6148914691236517205))) 3689348814741910323))))) 1085102592571150095) / 256))) / 65536))) + ((IntKind.u64.wrap ((IntKind.u64.wrap ((Go.bits .and .u64 (IntKind.u64.wrap (((IntKind.u64.wrap ((Go.bits .and .u64 ((IntKind.u64.wrap ((Go.bits .and .u64 (a0 / 2) 6148914691236517205) + (Go.bits .and .u64 a0 6148914691236517205))) / 4) 3689348814741910323) + (Go.bits .and .u64 (IntKind.u64.wrap ((Go.bits .and .u64 (a0 / 2) 6148914691236517205) + (Go.bits .and .u64 a0 6148914691236517205))) 3689348814741910323))) / 16) + (IntKind.u64.wrap ((Go.bits .and .u64 ((IntKind.u64.wrap ((Go.bits .and .u64 (a0 / 2) 6148914691236517205) + (Go.bits .and .u64 a0 6148914691236517205))) / 4) 3689348814741910323) + (Go.bits .and .u64 (IntKind.u64.wrap ((Go.bits .and .u64 (a0 / 2) 6148914691236517205) + (Go.bits .and .u64 a0 6148914691236517205))) 3689348814741910323))))) 1085102592571150095) + ((Go.bits .and .u64 (IntKind.u64.wrap (((IntKind.u64.wrap ((Go.bits .and .u64 ((IntKind.u64.wrap ((Go.bits .and .u64 (a0 / 2) 6148914691236517205) + (Go.bits .and .u64 a0 6148914691236517205))) / 4) 3689348814741910323) + (Go.bits .and .u64 (IntKind.u64.wrap ((Go.bits .and .u64 (a0 / 2) 6148914691236517205) + (Go.bits .and .u64 a0 6148914691236517205))) 3689348814741910323))) / 16) + (IntKind.u64.wrap ((Go.bits .and .u64 ((IntKind.u64.wrap ((Go.bits .and .u64 (a0 / 2) 6148914691236517205) + (Go.bits .and .u64 a0 6148914691236517205))) / 4) 3689348814741910323) + (Go.bits .and .u64 (IntKind.u64.wrap ((Go.bits .and .u64 (a0 / 2) 6148914691236517205) + (Go.bits .and .u64 a0 6148914691236517205))) 3689348814741910323))))) 1085102592571150095) / 256))) + ((IntKind.u64.wrap ((Go.bits .and .u64 (IntKind.u64.wrap (((IntKind.u64.wrap ((Go.bits .and .u64 ((IntKind.u64.wrap ((Go.bits .and .u64 (a0 / 2) 6148914691236517205) + (Go.bits .and .u64 a0 6148914691236517205))) / 4) 3689348814741910323) + (Go.bits .and .u64 (IntKind.u64.wrap ((Go.bits .and .u64 (a0 / 2) 6148914691236517205) + (Go.bits .and .u64 a0 6148914691236517205))) 3689348814741910323))) / 16) + (IntKind.u64.wrap ((Go.bits .and .u64 ((IntKind.u64.wrap ((Go.bits .and .u64 (a0 / 2) 6148914691236517205) + (Go.bits .and .u64 a0 6148914691236517205))) / 4) 3689348814741910323) + (Go.bits .and .u64 (IntKind.u64.wrap ((Go.bits .and .u64 (a0 / 2) 6148914691236517205) + (Go.bits .and .u64 a0 6148914691236517205))) 3689348814741910323))))) 1085102592571150095) + ((Go.bits .and .u64 (IntKind.u64.wrap (((IntKind.u64.wrap ((Go.bits .and .u64 ((IntKind.u64.wrap ((Go.bits .and .u64 (a0 / 2) 6148914691236517205) + (Go.bits .and .u64 a0 6148914691236517205))) / 4) 3689348814741910323) + (Go.bits .and .u64 (IntKind.u64.wrap ((Go.bits .and .u64 (a0 / 2) 6148914691236517205) + (Go.bits .and .u64 a0 6148914691236517205))) 3689348814741910323))) / 16) + (IntKind.u64.wrap ((Go.bits .and .u64 ((IntKind.u64.wrap ((Go.bits .and .u64 (a0 / 2) 6148914691236517205) + (Go.bits .and .u64 a0 6148914691236517205))) / 4) 3689348814741910323) + (Go.bits .and .u64 (IntKind.u64.wrap ((Go.bits .and .u64 (a0 / 2) 6148914691236517205) + (Go.bits .and .u64 a0 6148914691236517205))) 3689348814741910323))))) 1085102592571150095) / 256))) / 65536))) / 4294967296)))) 127)) = some r := h
 clear h
 obtain rfl := Option.some.inj H
 go_enter Tryd.func103, Tryd.ntmps103
 go_wp2
 go_ret
 exact ⟨by first | rfl | (simp; done) | (simp [*]; done), drz⟩

/-! ### bits_OnesCount: function 80 -/
def bits_OnesCount.f (a0 : Int) : Option (Int) := (bits_OnesCount64.f a0).bind fun t109 => (some t109)
set_option maxHeartbeats 8000000 in
set_option maxRecDepth 100000 in
theorem bits_OnesCount.calls (a0 : Int) (r : Int) (w : World) (h : bits_OnesCount.f a0 = some r) :
  Calls Tryd.prog 80 #[.int .u64 a0] w fun e w' => e = .returned (.int .i64 r) ∧ Drawn0 w w' := by
 have H : ((bits_OnesCount64.f a0).bind fun t109 => (some t109)) = some r := h
 clear h
 replace H := Option.bind_eq_some_iff.mp H
 obtain ⟨t109, A20, H⟩ := H
 replace H : (some t109) = some r := H
 have A2 := Aside0.mk A20
 clear A20
 obtain rfl := Option.some.inj H
 go_enter Tryd.func80, Tryd.ntmps80
 go_wp2_with (first | ((with_reducible refine gate_callee (f := 103) rfl ?_); refine goesL_ (some 7) rfl rfl Tryd.func103 (by kernel_rfl) rfl #[.int .u64 a0] rfl mapz ?_; (with_reducible refine (bits_OnesCount64.calls a0 t109 _ A2.out).mono ?_); rintro e w' ⟨rfl, ⟨nd, rfl⟩⟩; refine ⟨_, rfl, ?_⟩))
 go_ret
 exact ⟨by first | rfl | (simp; done) | (simp [*]; done), drz⟩

/-! ### feed_grid_group: function 66 -/
mutual
def feed_grid_group.l0 : Nat → Int → Int → Bool → Int → List (S69) → List (S71) → Option (Int)
 | 0, _, _, _, _, _, _ => none
 | k + 1, x1, x7, x8, x111000, x111001, x111002 => if x8 = true then (feed_grid_group.l1 k x1 x7 false x111001 (x111001.length : Int) 0 x111000 x111001 x111002) else (some x7)
def feed_grid_group.l1 : Nat → Int → Int → Bool → List (S69) → Int → Int → Int → List (S69) → List (S71) → Option (Int)
 | 0, _, _, _, _, _, _, _, _, _ => none
 | k + 1, x1, x7, x8, x17, x18, x19, x111000, x111001, x111002 => if x19 < x18 then (if 0 ≤ x19 then (if x19 < (x17.length : Int) then (if (Go.bits .and .i64 (shr .i64 x1 x19) 1) = 0 then (feed_grid_group.l1 k x1 x7 x8 x17 x18 (wrap64 (x19 + 1)) x111000 x111001 x111002) else (if 0 ≤ ((rd_T69 x17 x19).f0) then (if 0 ≤ ((rd_T69 x17 x19).f1) then (if (Go.bits .and .u64 x7 (Go.bits .or .u64 (shl .u64 1 ((rd_T69 x17 x19).f0)) (shl .u64 1 ((rd_T69 x17 x19).f1)))) = 0 then (feed_grid_group.l1 k x1 x7 x8 x17 x18 (wrap64 (x19 + 1)) x111000 x111001 x111002) else (if (Go.bits .and .u64 x7 (Go.bits .or .u64 (shl .u64 1 ((rd_T69 x17 x19).f0)) (shl .u64 1 ((rd_T69 x17 x19).f1)))) = (Go.bits .or .u64 (shl .u64 1 ((rd_T69 x17 x19).f0)) (shl .u64 1 ((rd_T69 x17 x19).f1))) then (feed_grid_group.l1 k x1 x7 x8 x17 x18 (wrap64 (x19 + 1)) x111000 x111001 x111002) else (feed_grid_group.l1 k x1 (Go.bits .or .u64 x7 (Go.bits .or .u64 (shl .u64 1 ((rd_T69 x17 x19).f0)) (shl .u64 1 ((rd_T69 x17 x19).f1)))) true x17 x18 (wrap64 (x19 + 1)) x111000 x111001 x111002))) else (none)) else (none))) else (none)) else (none)) else (feed_grid_group.l0 k x1 x7 x8 x111000 x111001 x111002)
end
def feed_grid_group.f (k : Nat) (a0_0 : Int) (l0_1 : List (S69)) (l0_2 : List (S71)) (a1 : Int) (a2 : Int) : Option (Int) := if 0 ≤ a2 then (feed_grid_group.l0 k a1 (shl .u64 1 a2) true a0_0 l0_1 l0_2) else (none)
theorem feed_grid_group.mono_l : ∀ k, (∀ y0 y1 y2 y3 y4 y5, LeO (feed_grid_group.l0 k y0 y1 y2 y3 y4 y5) (feed_grid_group.l0 (k + 1) y0 y1 y2 y3 y4 y5)) ∧ (∀ y0 y1 y2 y3 y4 y5 y6 y7 y8, LeO (feed_grid_group.l1 k y0 y1 y2 y3 y4 y5 y6 y7 y8) (feed_grid_group.l1 (k + 1) y0 y1 y2 y3 y4 y5 y6 y7 y8))
 | 0 => ⟨fun _ _ _ _ _ _ r h => by simp [feed_grid_group.l0] at h, fun _ _ _ _ _ _ _ _ _ r h => by simp [feed_grid_group.l1] at h⟩
 | k + 1 => by
  obtain ⟨ih0, ih1⟩ := feed_grid_group.mono_l k
  refine ⟨?_, ?_⟩
  ·
   intro y0 y1 y2 y3 y4 y5
   unfold feed_grid_group.l0
   repeat' first
   | (with_reducible exact ih0 _ _ _ _ _ _)
   | (with_reducible exact ih1 _ _ _ _ _ _ _ _ _)
   | (with_reducible exact LeO.refl _)
   | (with_reducible exact LeO.none _)
   | (with_reducible refine LeO.ite ?_ ?_)
   | (with_reducible refine LeO.bind ?_ (fun _ => ?_))
   | exact ih0 _ _ _ _ _ _
   | exact ih1 _ _ _ _ _ _ _ _ _
   | exact LeO.none _
   | refine LeO.ite ?_ ?_
   | refine LeO.bind ?_ (fun _ => ?_)
  ·
   intro y0 y1 y2 y3 y4 y5 y6 y7 y8
   unfold feed_grid_group.l1
   repeat' first
   | (with_reducible exact ih0 _ _ _ _ _ _)
   | (with_reducible exact ih1 _ _ _ _ _ _ _ _ _)
   | (with_reducible exact LeO.refl _)
   | (with_reducible exact LeO.none _)
   | (with_reducible refine LeO.ite ?_ ?_)
   | (with_reducible refine LeO.bind ?_ (fun _ => ?_))
   | exact ih0 _ _ _ _ _ _
   | exact ih1 _ _ _ _ _ _ _ _ _
   | exact LeO.none _
   | refine LeO.ite ?_ ?_
   | refine LeO.bind ?_ (fun _ => ?_)
theorem feed_grid_group.mono : ∀ a0 a1 a2 a3 a4 k, LeO (feed_grid_group.f k a0 a1 a2 a3 a4) (feed_grid_group.f (k + 1) a0 a1 a2 a3 a4) := by
 intro a0 a1 a2 a3 a4 k
 obtain ⟨ih0, ih1⟩ := feed_grid_group.mono_l k
 unfold feed_grid_group.f
 repeat' first
   | (with_reducible exact ih0 _ _ _ _ _ _)
   | (with_reducible exact ih1 _ _ _ _ _ _ _ _ _)
   | (with_reducible exact LeO.refl _)
   | (with_reducible exact LeO.none _)
   | (with_reducible refine LeO.ite ?_ ?_)
   | (with_reducible refine LeO.bind ?_ (fun _ => ?_))
   | exact ih0 _ _ _ _ _ _
   | exact ih1 _ _ _ _ _ _ _ _ _
   | exact LeO.none _
   | refine LeO.ite ?_ ?_
   | refine LeO.bind ?_ (fun _ => ?_)
set_option maxHeartbeats 8000000 in
set_option maxRecDepth 100000 in
theorem feed_grid_group.calls (k : Nat) (a0_0 : Int) (A0_1 : Option Addr) (c0_1 : Nat) (l0_1 : List (S69)) (A0_2 : Option Addr) (c0_2 : Nat) (l0_2 : List (S71)) (a1 : Int) (a2 : Int) (r : Int) (w : World) (hr0_1 : Kd.C k69 w A0_1 l0_1.length l0_1) (hc0_1 : l0_1.length ≤ c0_1) (hr0_2 : Kd.C k71 w A0_2 l0_2.length l0_2) (hc0_2 : l0_2.length ≤ c0_2) (h : feed_grid_group.f k a0_0 l0_1 l0_2 a1 a2 = some r) :
  Calls Tryd.prog 66 #[.agg #[.int .i64 a0_0, .slice A0_1 l0_1.length c0_1, .slice A0_2 l0_2.length c0_2], .int .i64 a1, .int .i64 a2] w fun e w' => e = .returned (.int .u64 r) ∧ Below w.heap.size w w' := by
 have hu73 := Tryd.underlying73
 have hu69 := Tryd.underlying69
 have HR0_1 := Aside0.mk hr0_1
 have HC0_1 := Aside0.mk hc0_1
 clear hr0_1 hc0_1
 have HR0_2 := Aside0.mk hr0_2
 have HC0_2 := Aside0.mk hc0_2
 clear hr0_2 hc0_2
 have HB := Aside0.mk (Below.refl w.heap.size w)
 have H : (if 0 ≤ a2 then (feed_grid_group.l0 k a1 (shl .u64 1 a2) true a0_0 l0_1 l0_2) else (none)) = some r := h
 clear h
 by_cases c4 : 0 ≤ a2
 ·
  rw [if_pos c4] at H
  have c4b0 := eq_true c4
  have c4b1 : decide (0 ≤ a2) = true := decide_eq_true c4
  clear c4
  obtain ⟨ji5, hji5⟩ : ∃ j_ : Int, (shl .u64 1 a2) = j_ := ⟨_, rfl⟩
  replace H : (feed_grid_group.l0 k a1 ji5 true a0_0 l0_1 l0_2) = some r := by first | (rw [hji5] at H; exact H) | (simp only [hji5] at H ⊢; exact H)
  have hji5_ : (IntKind.u64.wrap (1 * 2 ^ min a2.toNat 64)) = ji5 := hji5
  have hji5z : a2 ≤ 64 → (IntKind.u64.wrap (1 * 2 ^ a2.toNat)) = ji5 := shl_small hji5
  have hji5u : (IntKind.u64.wrap (2 ^ min a2.toNat 64)) = ji5 := by have h_ := hji5_; rw [Int.one_mul] at h_; exact h_
  have hji5v : a2 ≤ 64 → (IntKind.u64.wrap (2 ^ a2.toNat)) = ji5 := fun hle_ => by have h_ := hji5z hle_; rw [Int.one_mul] at h_; exact h_
  have H' := Aside0.mk H
  clear H
  go_enter Tryd.func66, Tryd.ntmps66
  go_wp2_with (first | ((with_reducible refine gate_dst (N := 3) rfl ?_); refine box_event ?hg (N := 3) ?hd (cs := #[.int .i64 a0_0, .slice A0_1 l0_1.length c0_1, .slice A0_2 l0_2.length c0_2]) (t := 73) ?hr ?_; (case hd => rfl); (case hg => rfl); (case hr => first | (go_simp; done) | (go_simp; rfl)); intro gb110 hg w6 hbox hb; have BK110 := Aside0.mk (hbox); have GW110 := bsz (w := w) hg; have GE110 := GW110; replace HB := Aside0.mk (below_step bel hb); clear hb hbox hg))
  repeat (go_quiet (first | ((with_reducible refine gate_dst (N := 3) rfl ?_); refine box_event ?hg (N := 3) ?hd (cs := #[.int .i64 a0_0, .slice A0_1 l0_1.length c0_1, .slice A0_2 l0_2.length c0_2]) (t := 73) ?hr ?_; (case hd => rfl); (case hg => rfl); (case hr => first | (go_simp; done) | (go_simp; rfl)); intro gb110 hg w6 hbox hb; have BK110 := Aside0.mk (hbox); have GW110 := bsz (w := w) hg; have GE110 := GW110; replace HB := Aside0.mk (below_step bel hb); clear hb hbox hg)); try go_wp2_with (first | ((with_reducible refine gate_dst (N := 3) rfl ?_); refine box_event ?hg (N := 3) ?hd (cs := #[.int .i64 a0_0, .slice A0_1 l0_1.length c0_1, .slice A0_2 l0_2.length c0_2]) (t := 73) ?hr ?_; (case hd => rfl); (case hg => rfl); (case hr => first | (go_simp; done) | (go_simp; rfl)); intro gb110 hg w6 hbox hb; have BK110 := Aside0.mk (hbox); have GW110 := bsz (w := w) hg; have GE110 := GW110; replace HB := Aside0.mk (below_step bel hb); clear hb hbox hg)))
  go_loopg [7, 8] k (fun kq v7 v8 w' => ∃ (x7_1 : Int) (x8_1 : Bool), v7 = .int .u64 x7_1 ∧ v8 = .bool x8_1 ∧ Aside0 (feed_grid_group.l0 kq a1 x7_1 x8_1 a0_0 l0_1 l0_2 = some r) ∧ Aside0 (kq ≤ k) ∧ Aside0 (w'.heap[gb110]? = some (.cells #[.int .i64 a0_0, (.slice A0_1 l0_1.length c0_1), (.slice A0_2 l0_2.length c0_2)] 73 (0, 0))) ∧ Aside0 (Below w.heap.size w w'))
  case atStart => exact ⟨(ji5), (true), (by first | rfl | (simp; done) | (simp only [← hji5] <;> (first | rfl | simp)) | (simp [*]; done)), rsz, H', ⟨Nat.le_refl _⟩, ⟨blkz⟩, ⟨bel⟩⟩
  case round =>
   clear H'
   try clear p2
   try clear c4
   try clear c4b0
   try clear c4b1
   try clear c6
   obtain ⟨x7_1, x8_1, rfl, rfl, HA, HK1, BK110, HB⟩ := hrel
   cases gk with
   | zero => exact absurd HA.out (by simp [feed_grid_group.l0])
   | succ k1 =>
    have H := HA.out
    clear HA
    simp only [feed_grid_group.l0] at H
    by_cases c7 : x8_1 = true
    ·
     subst c7
     have H1 : (feed_grid_group.l1 k1 a1 x7_1 false l0_1 (l0_1.length : Int) 0 a0_0 l0_1 l0_2) = some r := by rw [if_pos rfl] at H; exact H
     clear H
     have H := H1
     clear H1
     have H' := Aside0.mk H
     clear H
     have hcz8_0 := blkc BK110.out 0 (.int .i64 a0_0) rfl
     have hcz8_1 := blkc BK110.out 1 (.slice A0_1 l0_1.length c0_1) rfl
     have hcz8_2 := blkc BK110.out 2 (.slice A0_2 l0_2.length c0_2) rfl
     have hfz8_0 := blk_frozen BK110.out 0
     have hfz8_1 := blk_frozen BK110.out 1
     have hfz8_2 := blk_frozen BK110.out 2
     go_wp2
     repeat (go_quiet (fail); try go_wp2)
     go_loopg [7, 8, 19] k1 (fun kq v7 v8 v19 w' => ∃ (x7_2 : Int) (x8_2 : Bool) (x19_2 : Int), v7 = .int .u64 x7_2 ∧ v8 = .bool x8_2 ∧ v19 = .int .i64 x19_2 ∧ Aside0 (feed_grid_group.l1 kq a1 x7_2 x8_2 l0_1 (l0_1.length : Int) x19_2 a0_0 l0_1 l0_2 = some r) ∧ Aside0 (kq ≤ k1) ∧ Aside0 (w'.heap[gb110]? = some (.cells #[.int .i64 a0_0, (.slice A0_1 l0_1.length c0_1), (.slice A0_2 l0_2.length c0_2)] 73 (0, 0))) ∧ Aside0 (Below w.heap.size w w'))
     case atStart => exact ⟨(x7_1), (false), (0), rsz, rsz, rsz, H', ⟨Nat.le_refl _⟩, ⟨blkz⟩, ⟨bel⟩⟩
     case round =>
      clear H'
      try clear p2
      try clear c4
      try clear c4b0
      try clear c4b1
      try clear c6
      try clear c7
      try clear hcz8_0
      try clear hcz8_1
      try clear hcz8_2
      try clear hfz8_0
      try clear hfz8_1
      try clear hfz8_2
      try clear p2
      obtain ⟨x7_2, x8_2, x19_2, rfl, rfl, rfl, HA, HK2, BK110, HB⟩ := hrel
      cases gk with
      | zero => exact absurd HA.out (by simp [feed_grid_group.l1])
      | succ k2 =>
       have H := HA.out
       clear HA
       simp only [feed_grid_group.l1] at H
       by_cases c9 : x19_2 < (l0_1.length : Int)
       ·
        rw [if_pos c9] at H
        have c9b0 : decide (x19_2 < (l0_1.length : Int)) = true := decide_eq_true c9
        clear c9
        by_cases c10 : 0 ≤ x19_2
        ·
         rw [if_pos c10] at H
         have c10b0 : decide (0 ≤ x19_2) = true := decide_eq_true c10
         clear c10
         by_cases c11 : x19_2 < (l0_1.length : Int)
         ·
          rw [if_pos c11] at H
          have c11b0 : decide (x19_2 < (l0_1.length : Int)) = true := decide_eq_true c11
          clear c11
          have c12b0 := eq_true (of_decide_eq_true asz : 0 ≤ x19_2)
          obtain ⟨ji13, hji13⟩ : ∃ j_ : Int, (shr .i64 a1 x19_2) = j_ := ⟨_, rfl⟩
          replace H : (if (Go.bits .and .i64 (ji13) 1) = 0 then (feed_grid_group.l1 k2 a1 x7_2 x8_2 l0_1 (l0_1.length : Int) (wrap64 (x19_2 + 1)) a0_0 l0_1 l0_2) else (if 0 ≤ ((rd_T69 l0_1 x19_2).f0) then (if 0 ≤ ((rd_T69 l0_1 x19_2).f1) then (if (Go.bits .and .u64 x7_2 (Go.bits .or .u64 (shl .u64 1 ((rd_T69 l0_1 x19_2).f0)) (shl .u64 1 ((rd_T69 l0_1 x19_2).f1)))) = 0 then (feed_grid_group.l1 k2 a1 x7_2 x8_2 l0_1 (l0_1.length : Int) (wrap64 (x19_2 + 1)) a0_0 l0_1 l0_2) else (if (Go.bits .and .u64 x7_2 (Go.bits .or .u64 (shl .u64 1 ((rd_T69 l0_1 x19_2).f0)) (shl .u64 1 ((rd_T69 l0_1 x19_2).f1)))) = (Go.bits .or .u64 (shl .u64 1 ((rd_T69 l0_1 x19_2).f0)) (shl .u64 1 ((rd_T69 l0_1 x19_2).f1))) then (feed_grid_group.l1 k2 a1 x7_2 x8_2 l0_1 (l0_1.length : Int) (wrap64 (x19_2 + 1)) a0_0 l0_1 l0_2) else (feed_grid_group.l1 k2 a1 (Go.bits .or .u64 x7_2 (Go.bits .or .u64 (shl .u64 1 ((rd_T69 l0_1 x19_2).f0)) (shl .u64 1 ((rd_T69 l0_1 x19_2).f1)))) true l0_1 (l0_1.length : Int) (wrap64 (x19_2 + 1)) a0_0 l0_1 l0_2))) else (none)) else (none))) = some r := by first | (rw [hji13] at H; exact H) | (simp only [hji13] at H ⊢; exact H)
          have hji13_ : (a1 / 2 ^ min x19_2.toNat 64) = ji13 := hji13
          have hji13z : x19_2 ≤ 64 → (a1 / 2 ^ x19_2.toNat) = ji13 := shr_small hji13
          by_cases c14 : (Go.bits .and .i64 (ji13) 1) = 0
          ·
           rw [if_pos c14] at H
           have c14b0 : ((Go.bits .and .i64 (ji13) 1) == 0) = true := beq_iff_eq.mpr c14
           have c14b1 : ((Go.bits .and .i64 (ji13) 1) != 0) = false := bne_eq_false_iff_eq.mpr c14
           clear c14
           have H' := Aside0.mk H
           clear H
           have p111 : 0 ≤ (x19_2 : Int) := of_decide_eq_true asz
           have q111 : x19_2 < (l0_1.length : Int) := of_decide_eq_true asz
           obtain ⟨ad111, e111, hx111_0, hx111_1⟩ := at_T69 HR0_1.out x19_2 p111 q111
           cases e111
           replace hx111_0 := (HB.out.cell (World.block_lt_of_cell? w _ hx111_0)).trans hx111_0
           replace hx111_1 := (HB.out.cell (World.block_lt_of_cell? w _ hx111_1)).trans hx111_1
           replace p111 := eq_true p111
           replace q111 := eq_true q111
           go_wp2_with (first | ((with_reducible refine gate_dst (N := 10) rfl ?_); refine box_event ?hg (N := 10) ?hd (cs := #[.int .i64 0, .int .i64 0]) (t := 69) ?hr ?_; (case hd => rfl); (case hg => rfl); (case hr => first | (go_simp; done) | (go_simp; rfl)); intro gb112 hg w15 hbox hb; have BK112 := Aside0.mk (hbox); have GW112 := bsz (w := w) hg; have GE112 := GW112; have NB110_112 := neL (g := gb110) hg; have NB112_110 := neR (g := gb110) hg; replace BK110 := Aside0.mk (blk_below (g := gb110) blkz hb); replace HB := Aside0.mk (below_step bel hb); clear hb hbox hg; have hnb16 := NB112_110.out; have hnc16 := NB110_112.out; have hcz17_0 := blkc BK112.out 0 (.int .i64 0) rfl; have hcz17_1 := blkc BK112.out 1 (.int .i64 0) rfl; have hfz17_0 := blk_frozen BK112.out 0; have hfz17_1 := blk_frozen BK112.out 1))
           repeat (go_quiet (first | ((with_reducible refine gate_dst (N := 10) rfl ?_); refine box_event ?hg (N := 10) ?hd (cs := #[.int .i64 0, .int .i64 0]) (t := 69) ?hr ?_; (case hd => rfl); (case hg => rfl); (case hr => first | (go_simp; done) | (go_simp; rfl)); intro gb112 hg w15 hbox hb; have BK112 := Aside0.mk (hbox); have GW112 := bsz (w := w) hg; have GE112 := GW112; have NB110_112 := neL (g := gb110) hg; have NB112_110 := neR (g := gb110) hg; replace BK110 := Aside0.mk (blk_below (g := gb110) blkz hb); replace HB := Aside0.mk (below_step bel hb); clear hb hbox hg; have hnb16 := NB112_110.out; have hnc16 := NB110_112.out; have hcz17_0 := blkc BK112.out 0 (.int .i64 0) rfl; have hcz17_1 := blkc BK112.out 1 (.int .i64 0) rfl; have hfz17_0 := blk_frozen BK112.out 0; have hfz17_1 := blk_frozen BK112.out 1)); try go_wp2_with (first | ((with_reducible refine gate_dst (N := 10) rfl ?_); refine box_event ?hg (N := 10) ?hd (cs := #[.int .i64 0, .int .i64 0]) (t := 69) ?hr ?_; (case hd => rfl); (case hg => rfl); (case hr => first | (go_simp; done) | (go_simp; rfl)); intro gb112 hg w15 hbox hb; have BK112 := Aside0.mk (hbox); have GW112 := bsz (w := w) hg; have GE112 := GW112; have NB110_112 := neL (g := gb110) hg; have NB112_110 := neR (g := gb110) hg; replace BK110 := Aside0.mk (blk_below (g := gb110) blkz hb); replace HB := Aside0.mk (below_step bel hb); clear hb hbox hg; have hnb16 := NB112_110.out; have hnc16 := NB110_112.out; have hcz17_0 := blkc BK112.out 0 (.int .i64 0) rfl; have hcz17_1 := blkc BK112.out 1 (.int .i64 0) rfl; have hfz17_0 := blk_frozen BK112.out 0; have hfz17_1 := blk_frozen BK112.out 1)))
           go_roundg k2
           case measure => have := HK1.out; have := HK2.out; omega
           case rel => exact ⟨(x7_2), (x8_2), (wrap64 (x19_2 + 1)), rsz, rsz, rsz, H', ⟨by have := HK1.out; have := HK2.out; omega⟩, ⟨by (with_reducible repeat (first | refine blk_drewN ?_ _ | refine blk_drew ?_ | refine blk_alloc ?_ _)); refine blk_far ?_ NB110_112.out _; (with_reducible repeat (first | refine blk_drewN ?_ _ | refine blk_drew ?_ | refine blk_alloc ?_ _)); refine blk_far ?_ NB110_112.out _; (with_reducible repeat (first | refine blk_drewN ?_ _ | refine blk_drew ?_ | refine blk_alloc ?_ _)); exact BK110.out⟩, ⟨bel⟩⟩
          ·
           rw [if_neg c14] at H
           have c14b0 : ((Go.bits .and .i64 (ji13) 1) == 0) = false := beq_eq_false_iff_ne.mpr c14
           have c14b1 : ((Go.bits .and .i64 (ji13) 1) != 0) = true := bne_iff_ne.mpr c14
           by_cases c18 : 0 ≤ ((rd_T69 l0_1 x19_2).f0)
           ·
            rw [if_pos c18] at H
            have c18b0 := eq_true c18
            have c18b1 : decide (0 ≤ ((rd_T69 l0_1 x19_2).f0)) = true := decide_eq_true c18
            clear c18
            obtain ⟨ji19, hji19⟩ : ∃ j_ : Int, (shl .u64 1 ((rd_T69 l0_1 x19_2).f0)) = j_ := ⟨_, rfl⟩
            replace H : (if 0 ≤ ((rd_T69 l0_1 x19_2).f1) then (if (Go.bits .and .u64 x7_2 (Go.bits .or .u64 (ji19) (shl .u64 1 ((rd_T69 l0_1 x19_2).f1)))) = 0 then (feed_grid_group.l1 k2 a1 x7_2 x8_2 l0_1 (l0_1.length : Int) (wrap64 (x19_2 + 1)) a0_0 l0_1 l0_2) else (if (Go.bits .and .u64 x7_2 (Go.bits .or .u64 (ji19) (shl .u64 1 ((rd_T69 l0_1 x19_2).f1)))) = (Go.bits .or .u64 (ji19) (shl .u64 1 ((rd_T69 l0_1 x19_2).f1))) then (feed_grid_group.l1 k2 a1 x7_2 x8_2 l0_1 (l0_1.length : Int) (wrap64 (x19_2 + 1)) a0_0 l0_1 l0_2) else (feed_grid_group.l1 k2 a1 (Go.bits .or .u64 x7_2 (Go.bits .or .u64 (ji19) (shl .u64 1 ((rd_T69 l0_1 x19_2).f1)))) true l0_1 (l0_1.length : Int) (wrap64 (x19_2 + 1)) a0_0 l0_1 l0_2))) else (none)) = some r := by first | (rw [hji19] at H; exact H) | (simp only [hji19] at H ⊢; exact H)
            have hji19_ : (IntKind.u64.wrap (1 * 2 ^ min ((rd_T69 l0_1 x19_2).f0).toNat 64)) = ji19 := hji19
            have hji19z : ((rd_T69 l0_1 x19_2).f0) ≤ 64 → (IntKind.u64.wrap (1 * 2 ^ ((rd_T69 l0_1 x19_2).f0).toNat)) = ji19 := shl_small hji19
            have hji19u : (IntKind.u64.wrap (2 ^ min ((rd_T69 l0_1 x19_2).f0).toNat 64)) = ji19 := by have h_ := hji19_; rw [Int.one_mul] at h_; exact h_
            have hji19v : ((rd_T69 l0_1 x19_2).f0) ≤ 64 → (IntKind.u64.wrap (2 ^ ((rd_T69 l0_1 x19_2).f0).toNat)) = ji19 := fun hle_ => by have h_ := hji19z hle_; rw [Int.one_mul] at h_; exact h_
            by_cases c20 : 0 ≤ ((rd_T69 l0_1 x19_2).f1)
            ·
             rw [if_pos c20] at H
             have c20b0 := eq_true c20
             have c20b1 : decide (0 ≤ ((rd_T69 l0_1 x19_2).f1)) = true := decide_eq_true c20
             clear c20
             obtain ⟨ji21, hji21⟩ : ∃ j_ : Int, (shl .u64 1 ((rd_T69 l0_1 x19_2).f1)) = j_ := ⟨_, rfl⟩
             replace H : (if (Go.bits .and .u64 x7_2 (Go.bits .or .u64 (ji19) (ji21))) = 0 then (feed_grid_group.l1 k2 a1 x7_2 x8_2 l0_1 (l0_1.length : Int) (wrap64 (x19_2 + 1)) a0_0 l0_1 l0_2) else (if (Go.bits .and .u64 x7_2 (Go.bits .or .u64 (ji19) (ji21))) = (Go.bits .or .u64 (ji19) (ji21)) then (feed_grid_group.l1 k2 a1 x7_2 x8_2 l0_1 (l0_1.length : Int) (wrap64 (x19_2 + 1)) a0_0 l0_1 l0_2) else (feed_grid_group.l1 k2 a1 (Go.bits .or .u64 x7_2 (Go.bits .or .u64 (ji19) (ji21))) true l0_1 (l0_1.length : Int) (wrap64 (x19_2 + 1)) a0_0 l0_1 l0_2))) = some r := by first | (rw [hji21] at H; exact H) | (simp only [hji21] at H ⊢; exact H)
             have hji21_ : (IntKind.u64.wrap (1 * 2 ^ min ((rd_T69 l0_1 x19_2).f1).toNat 64)) = ji21 := hji21
             have hji21z : ((rd_T69 l0_1 x19_2).f1) ≤ 64 → (IntKind.u64.wrap (1 * 2 ^ ((rd_T69 l0_1 x19_2).f1).toNat)) = ji21 := shl_small hji21
             have hji21u : (IntKind.u64.wrap (2 ^ min ((rd_T69 l0_1 x19_2).f1).toNat 64)) = ji21 := by have h_ := hji21_; rw [Int.one_mul] at h_; exact h_
             have hji21v : ((rd_T69 l0_1 x19_2).f1) ≤ 64 → (IntKind.u64.wrap (2 ^ ((rd_T69 l0_1 x19_2).f1).toNat)) = ji21 := fun hle_ => by have h_ := hji21z hle_; rw [Int.one_mul] at h_; exact h_
             by_cases c22 : (Go.bits .and .u64 x7_2 (Go.bits .or .u64 (ji19) (ji21))) = 0
             ·
              rw [if_pos c22] at H
              have c22b0 : ((Go.bits .and .u64 x7_2 (Go.bits .or .u64 (ji19) (ji21))) == 0) = true := beq_iff_eq.mpr c22
              have c22b1 : ((Go.bits .and .u64 x7_2 (Go.bits .or .u64 (ji19) (ji21))) != 0) = false := bne_eq_false_iff_eq.mpr c22
              clear c22
              have H' := Aside0.mk H
              clear H
              have p111 : 0 ≤ (x19_2 : Int) := of_decide_eq_true asz
              have q111 : x19_2 < (l0_1.length : Int) := of_decide_eq_true asz
              obtain ⟨ad111, e111, hx111_0, hx111_1⟩ := at_T69 HR0_1.out x19_2 p111 q111
              cases e111
              replace hx111_0 := (HB.out.cell (World.block_lt_of_cell? w _ hx111_0)).trans hx111_0
              replace hx111_1 := (HB.out.cell (World.block_lt_of_cell? w _ hx111_1)).trans hx111_1
              replace p111 := eq_true p111
              replace q111 := eq_true q111
              go_wp2_with (first | ((with_reducible refine gate_dst (N := 10) rfl ?_); refine box_event ?hg (N := 10) ?hd (cs := #[.int .i64 0, .int .i64 0]) (t := 69) ?hr ?_; (case hd => rfl); (case hg => rfl); (case hr => first | (go_simp; done) | (go_simp; rfl)); intro gb112 hg w23 hbox hb; have BK112 := Aside0.mk (hbox); have GW112 := bsz (w := w) hg; have GE112 := GW112; have NB110_112 := neL (g := gb110) hg; have NB112_110 := neR (g := gb110) hg; replace BK110 := Aside0.mk (blk_below (g := gb110) blkz hb); replace HB := Aside0.mk (below_step bel hb); clear hb hbox hg; have hnb24 := NB112_110.out; have hnc24 := NB110_112.out; have hcz25_0 := blkc BK112.out 0 (.int .i64 0) rfl; have hcz25_1 := blkc BK112.out 1 (.int .i64 0) rfl; have hfz25_0 := blk_frozen BK112.out 0; have hfz25_1 := blk_frozen BK112.out 1))
              repeat (go_quiet (first | ((with_reducible refine gate_dst (N := 10) rfl ?_); refine box_event ?hg (N := 10) ?hd (cs := #[.int .i64 0, .int .i64 0]) (t := 69) ?hr ?_; (case hd => rfl); (case hg => rfl); (case hr => first | (go_simp; done) | (go_simp; rfl)); intro gb112 hg w23 hbox hb; have BK112 := Aside0.mk (hbox); have GW112 := bsz (w := w) hg; have GE112 := GW112; have NB110_112 := neL (g := gb110) hg; have NB112_110 := neR (g := gb110) hg; replace BK110 := Aside0.mk (blk_below (g := gb110) blkz hb); replace HB := Aside0.mk (below_step bel hb); clear hb hbox hg; have hnb24 := NB112_110.out; have hnc24 := NB110_112.out; have hcz25_0 := blkc BK112.out 0 (.int .i64 0) rfl; have hcz25_1 := blkc BK112.out 1 (.int .i64 0) rfl; have hfz25_0 := blk_frozen BK112.out 0; have hfz25_1 := blk_frozen BK112.out 1)); try go_wp2_with (first | ((with_reducible refine gate_dst (N := 10) rfl ?_); refine box_event ?hg (N := 10) ?hd (cs := #[.int .i64 0, .int .i64 0]) (t := 69) ?hr ?_; (case hd => rfl); (case hg => rfl); (case hr => first | (go_simp; done) | (go_simp; rfl)); intro gb112 hg w23 hbox hb; have BK112 := Aside0.mk (hbox); have GW112 := bsz (w := w) hg; have GE112 := GW112; have NB110_112 := neL (g := gb110) hg; have NB112_110 := neR (g := gb110) hg; replace BK110 := Aside0.mk (blk_below (g := gb110) blkz hb); replace HB := Aside0.mk (below_step bel hb); clear hb hbox hg; have hnb24 := NB112_110.out; have hnc24 := NB110_112.out; have hcz25_0 := blkc BK112.out 0 (.int .i64 0) rfl; have hcz25_1 := blkc BK112.out 1 (.int .i64 0) rfl; have hfz25_0 := blk_frozen BK112.out 0; have hfz25_1 := blk_frozen BK112.out 1)))
              go_roundg k2
              case measure => have := HK1.out; have := HK2.out; omega
              case rel => exact ⟨(x7_2), (x8_2), (wrap64 (x19_2 + 1)), rsz, rsz, rsz, H', ⟨by have := HK1.out; have := HK2.out; omega⟩, ⟨by (with_reducible repeat (first | refine blk_drewN ?_ _ | refine blk_drew ?_ | refine blk_alloc ?_ _)); refine blk_far ?_ NB110_112.out _; (with_reducible repeat (first | refine blk_drewN ?_ _ | refine blk_drew ?_ | refine blk_alloc ?_ _)); refine blk_far ?_ NB110_112.out _; (with_reducible repeat (first | refine blk_drewN ?_ _ | refine blk_drew ?_ | refine blk_alloc ?_ _)); exact BK110.out⟩, ⟨bel⟩⟩
             ·
              rw [if_neg c22] at H
              have c22b0 : ((Go.bits .and .u64 x7_2 (Go.bits .or .u64 (ji19) (ji21))) == 0) = false := beq_eq_false_iff_ne.mpr c22
              have c22b1 : ((Go.bits .and .u64 x7_2 (Go.bits .or .u64 (ji19) (ji21))) != 0) = true := bne_iff_ne.mpr c22
              by_cases c26 : (Go.bits .and .u64 x7_2 (Go.bits .or .u64 (ji19) (ji21))) = (Go.bits .or .u64 (ji19) (ji21))
              ·
               rw [if_pos c26] at H
               have c26b0 : ((Go.bits .and .u64 x7_2 (Go.bits .or .u64 (ji19) (ji21))) == (Go.bits .or .u64 (ji19) (ji21))) = true := beq_iff_eq.mpr c26
               have c26b1 : ((Go.bits .and .u64 x7_2 (Go.bits .or .u64 (ji19) (ji21))) != (Go.bits .or .u64 (ji19) (ji21))) = false := bne_eq_false_iff_eq.mpr c26
               clear c26
               have H' := Aside0.mk H
               clear H
               have p111 : 0 ≤ (x19_2 : Int) := of_decide_eq_true asz
               have q111 : x19_2 < (l0_1.length : Int) := of_decide_eq_true asz
               obtain ⟨ad111, e111, hx111_0, hx111_1⟩ := at_T69 HR0_1.out x19_2 p111 q111
               cases e111
               replace hx111_0 := (HB.out.cell (World.block_lt_of_cell? w _ hx111_0)).trans hx111_0
               replace hx111_1 := (HB.out.cell (World.block_lt_of_cell? w _ hx111_1)).trans hx111_1
               replace p111 := eq_true p111
               replace q111 := eq_true q111
               go_wp2_with (first | ((with_reducible refine gate_dst (N := 10) rfl ?_); refine box_event ?hg (N := 10) ?hd (cs := #[.int .i64 0, .int .i64 0]) (t := 69) ?hr ?_; (case hd => rfl); (case hg => rfl); (case hr => first | (go_simp; done) | (go_simp; rfl)); intro gb112 hg w27 hbox hb; have BK112 := Aside0.mk (hbox); have GW112 := bsz (w := w) hg; have GE112 := GW112; have NB110_112 := neL (g := gb110) hg; have NB112_110 := neR (g := gb110) hg; replace BK110 := Aside0.mk (blk_below (g := gb110) blkz hb); replace HB := Aside0.mk (below_step bel hb); clear hb hbox hg; have hnb28 := NB112_110.out; have hnc28 := NB110_112.out; have hcz29_0 := blkc BK112.out 0 (.int .i64 0) rfl; have hcz29_1 := blkc BK112.out 1 (.int .i64 0) rfl; have hfz29_0 := blk_frozen BK112.out 0; have hfz29_1 := blk_frozen BK112.out 1))
               repeat (go_quiet (first | ((with_reducible refine gate_dst (N := 10) rfl ?_); refine box_event ?hg (N := 10) ?hd (cs := #[.int .i64 0, .int .i64 0]) (t := 69) ?hr ?_; (case hd => rfl); (case hg => rfl); (case hr => first | (go_simp; done) | (go_simp; rfl)); intro gb112 hg w27 hbox hb; have BK112 := Aside0.mk (hbox); have GW112 := bsz (w := w) hg; have GE112 := GW112; have NB110_112 := neL (g := gb110) hg; have NB112_110 := neR (g := gb110) hg; replace BK110 := Aside0.mk (blk_below (g := gb110) blkz hb); replace HB := Aside0.mk (below_step bel hb); clear hb hbox hg; have hnb28 := NB112_110.out; have hnc28 := NB110_112.out; have hcz29_0 := blkc BK112.out 0 (.int .i64 0) rfl; have hcz29_1 := blkc BK112.out 1 (.int .i64 0) rfl; have hfz29_0 := blk_frozen BK112.out 0; have hfz29_1 := blk_frozen BK112.out 1)); try go_wp2_with (first | ((with_reducible refine gate_dst (N := 10) rfl ?_); refine box_event ?hg (N := 10) ?hd (cs := #[.int .i64 0, .int .i64 0]) (t := 69) ?hr ?_; (case hd => rfl); (case hg => rfl); (case hr => first | (go_simp; done) | (go_simp; rfl)); intro gb112 hg w27 hbox hb; have BK112 := Aside0.mk (hbox); have GW112 := bsz (w := w) hg; have GE112 := GW112; have NB110_112 := neL (g := gb110) hg; have NB112_110 := neR (g := gb110) hg; replace BK110 := Aside0.mk (blk_below (g := gb110) blkz hb); replace HB := Aside0.mk (below_step bel hb); clear hb hbox hg; have hnb28 := NB112_110.out; have hnc28 := NB110_112.out; have hcz29_0 := blkc BK112.out 0 (.int .i64 0) rfl; have hcz29_1 := blkc BK112.out 1 (.int .i64 0) rfl; have hfz29_0 := blk_frozen BK112.out 0; have hfz29_1 := blk_frozen BK112.out 1)))
               go_roundg k2
               case measure => have := HK1.out; have := HK2.out; omega
               case rel => exact ⟨(x7_2), (x8_2), (wrap64 (x19_2 + 1)), rsz, rsz, rsz, H', ⟨by have := HK1.out; have := HK2.out; omega⟩, ⟨by (with_reducible repeat (first | refine blk_drewN ?_ _ | refine blk_drew ?_ | refine blk_alloc ?_ _)); refine blk_far ?_ NB110_112.out _; (with_reducible repeat (first | refine blk_drewN ?_ _ | refine blk_drew ?_ | refine blk_alloc ?_ _)); refine blk_far ?_ NB110_112.out _; (with_reducible repeat (first | refine blk_drewN ?_ _ | refine blk_drew ?_ | refine blk_alloc ?_ _)); exact BK110.out⟩, ⟨bel⟩⟩
              ·
               rw [if_neg c26] at H
               have c26b0 : ((Go.bits .and .u64 x7_2 (Go.bits .or .u64 (ji19) (ji21))) == (Go.bits .or .u64 (ji19) (ji21))) = false := beq_eq_false_iff_ne.mpr c26
               have c26b1 : ((Go.bits .and .u64 x7_2 (Go.bits .or .u64 (ji19) (ji21))) != (Go.bits .or .u64 (ji19) (ji21))) = true := bne_iff_ne.mpr c26
               have H' := Aside0.mk H
               clear H
               have p111 : 0 ≤ (x19_2 : Int) := of_decide_eq_true asz
               have q111 : x19_2 < (l0_1.length : Int) := of_decide_eq_true asz
               obtain ⟨ad111, e111, hx111_0, hx111_1⟩ := at_T69 HR0_1.out x19_2 p111 q111
               cases e111
               replace hx111_0 := (HB.out.cell (World.block_lt_of_cell? w _ hx111_0)).trans hx111_0
               replace hx111_1 := (HB.out.cell (World.block_lt_of_cell? w _ hx111_1)).trans hx111_1
               replace p111 := eq_true p111
               replace q111 := eq_true q111
               go_wp2_with (first | ((with_reducible refine gate_dst (N := 10) rfl ?_); refine box_event ?hg (N := 10) ?hd (cs := #[.int .i64 0, .int .i64 0]) (t := 69) ?hr ?_; (case hd => rfl); (case hg => rfl); (case hr => first | (go_simp; done) | (go_simp; rfl)); intro gb112 hg w30 hbox hb; have BK112 := Aside0.mk (hbox); have GW112 := bsz (w := w) hg; have GE112 := GW112; have NB110_112 := neL (g := gb110) hg; have NB112_110 := neR (g := gb110) hg; replace BK110 := Aside0.mk (blk_below (g := gb110) blkz hb); replace HB := Aside0.mk (below_step bel hb); clear hb hbox hg; have hnb31 := NB112_110.out; have hnc31 := NB110_112.out; have hcz32_0 := blkc BK112.out 0 (.int .i64 0) rfl; have hcz32_1 := blkc BK112.out 1 (.int .i64 0) rfl; have hfz32_0 := blk_frozen BK112.out 0; have hfz32_1 := blk_frozen BK112.out 1))
               repeat (go_quiet (first | ((with_reducible refine gate_dst (N := 10) rfl ?_); refine box_event ?hg (N := 10) ?hd (cs := #[.int .i64 0, .int .i64 0]) (t := 69) ?hr ?_; (case hd => rfl); (case hg => rfl); (case hr => first | (go_simp; done) | (go_simp; rfl)); intro gb112 hg w30 hbox hb; have BK112 := Aside0.mk (hbox); have GW112 := bsz (w := w) hg; have GE112 := GW112; have NB110_112 := neL (g := gb110) hg; have NB112_110 := neR (g := gb110) hg; replace BK110 := Aside0.mk (blk_below (g := gb110) blkz hb); replace HB := Aside0.mk (below_step bel hb); clear hb hbox hg; have hnb31 := NB112_110.out; have hnc31 := NB110_112.out; have hcz32_0 := blkc BK112.out 0 (.int .i64 0) rfl; have hcz32_1 := blkc BK112.out 1 (.int .i64 0) rfl; have hfz32_0 := blk_frozen BK112.out 0; have hfz32_1 := blk_frozen BK112.out 1)); try go_wp2_with (first | ((with_reducible refine gate_dst (N := 10) rfl ?_); refine box_event ?hg (N := 10) ?hd (cs := #[.int .i64 0, .int .i64 0]) (t := 69) ?hr ?_; (case hd => rfl); (case hg => rfl); (case hr => first | (go_simp; done) | (go_simp; rfl)); intro gb112 hg w30 hbox hb; have BK112 := Aside0.mk (hbox); have GW112 := bsz (w := w) hg; have GE112 := GW112; have NB110_112 := neL (g := gb110) hg; have NB112_110 := neR (g := gb110) hg; replace BK110 := Aside0.mk (blk_below (g := gb110) blkz hb); replace HB := Aside0.mk (below_step bel hb); clear hb hbox hg; have hnb31 := NB112_110.out; have hnc31 := NB110_112.out; have hcz32_0 := blkc BK112.out 0 (.int .i64 0) rfl; have hcz32_1 := blkc BK112.out 1 (.int .i64 0) rfl; have hfz32_0 := blk_frozen BK112.out 0; have hfz32_1 := blk_frozen BK112.out 1)))
               go_roundg k2
               case measure => have := HK1.out; have := HK2.out; omega
               case rel => exact ⟨(Go.bits .or .u64 x7_2 (Go.bits .or .u64 (ji19) (ji21))), (true), (wrap64 (x19_2 + 1)), (by first | rfl | (simp; done) | (simp only [← hji19, ← hji21] <;> (first | rfl | simp)) | (simp [*]; done)), rsz, rsz, H', ⟨by have := HK1.out; have := HK2.out; omega⟩, ⟨by (with_reducible repeat (first | refine blk_drewN ?_ _ | refine blk_drew ?_ | refine blk_alloc ?_ _)); refine blk_far ?_ NB110_112.out _; (with_reducible repeat (first | refine blk_drewN ?_ _ | refine blk_drew ?_ | refine blk_alloc ?_ _)); refine blk_far ?_ NB110_112.out _; (with_reducible repeat (first | refine blk_drewN ?_ _ | refine blk_drew ?_ | refine blk_alloc ?_ _)); exact BK110.out⟩, ⟨bel⟩⟩
            ·
             rw [if_neg c20] at H
             exact absurd H (by simp)
           ·
            rw [if_neg c18] at H
            exact absurd H (by simp)
         ·
          rw [if_neg c11] at H
          exact absurd H (by simp)
        ·
         rw [if_neg c10] at H
         exact absurd H (by simp)
       ·
        rw [if_neg c9] at H
        have c9b0 : decide (x19_2 < (l0_1.length : Int)) = false := decide_eq_false c9
        clear c9
        have H' := Aside0.mk H
        clear H
        go_wp2
        repeat (go_quiet (fail); try go_wp2)
        go_roundg k2
        case measure => have := HK1.out; have := HK2.out; omega
        case rel => exact ⟨(x7_2), (x8_2), rsz, rsz, H', ⟨by have := HK1.out; have := HK2.out; omega⟩, ⟨blkz⟩, ⟨bel⟩⟩
    ·
     replace c7 := Bool.eq_false_iff.mpr c7
     subst c7
     have H1 : (some x7_1) = some r := by rw [if_neg (show ¬ (false = true) by decide)] at H; exact H
     clear H
     have H := H1
     clear H1
     obtain rfl := Option.some.inj H
     go_wp2
     repeat (go_quiet (fail); try go_wp2)
     go_ret
     exact ⟨by first | rfl | (simp [errW_none, errW_some] <;> rfl) | (simp only [← hji5]; first | rfl | (simp [errW_none, errW_some] <;> rfl)) | (simp [*, errW_none, errW_some] <;> rfl), bel⟩
 ·
  rw [if_neg c4] at H
  exact absurd H (by simp)

/-! ### feed_grid_fed: function 89 -/
mutual
def feed_grid_fed.l0 : Nat → Int → List Int → List (S71) → Int → Int → Int → List (S69) → List (S71) → Option (List Int)
 | 0, _, _, _, _, _, _, _, _ => none
 | k + 1, x1, x5, x16, x17, x18, x114000, x114001, x114002 => if x18 < x17 then (if 0 ≤ x18 then (if x18 < (x16.length : Int) then ((feed_grid_group.f k x114000 x114001 x114002 x1 ((rd_T71 x16 x18).f0)).bind fun t119 => (feed_grid_fed.l1 k x1 x5 t119 x16 x17 x18 (x5.length : Int) 0 x114000 x114001 x114002 ((rd_T71 x16 x18).f0) ((rd_T71 x16 x18).f1))) else (none)) else (none)) else (some x5)
def feed_grid_fed.l1 : Nat → Int → List Int → Int → List (S71) → Int → Int → Int → Int → Int → List (S69) → List (S71) → Int → Int → Option (List Int)
 | 0, _, _, _, _, _, _, _, _, _, _, _, _, _ => none
 | k + 1, x1, x5, x8, x16, x17, x18, x28, x29, x114000, x114001, x114002, x119000, x119001 => if x29 < x28 then (if 0 ≤ x29 then (if (Go.bits .and .u64 (shr .u64 x8 x29) 1) = 1 then (if x29 < (x5.length : Int) then (if 0 ≤ x119001 then (feed_grid_fed.l1 k x1 (x5.set (x29 : Int).toNat (Go.bits .or .u64 (rd x5 x29) (shl .u64 1 x119001))) x8 x16 x17 x18 x28 (wrap64 (x29 + 1)) x114000 x114001 x114002 x119000 x119001) else (none)) else (none)) else (feed_grid_fed.l1 k x1 x5 x8 x16 x17 x18 x28 (wrap64 (x29 + 1)) x114000 x114001 x114002 x119000 x119001)) else (none)) else (feed_grid_fed.l0 k x1 x5 x16 x17 (wrap64 (x18 + 1)) x114000 x114001 x114002)
end
def feed_grid_fed.f (k : Nat) (a0_0 : Int) (l0_1 : List (S69)) (l0_2 : List (S71)) (a1 : Int) : Option (List Int) := if 0 ≤ a0_0 then (if (a0_0 : Int).toNat ≤ 35184372088832 then (feed_grid_fed.l0 k a1 (List.replicate (a0_0 : Int).toNat 0) l0_2 (l0_2.length : Int) 0 a0_0 l0_1 l0_2) else (none)) else (none)
theorem feed_grid_fed.mono_l : ∀ k, (∀ y0 y1 y2 y3 y4 y5 y6 y7, LeO (feed_grid_fed.l0 k y0 y1 y2 y3 y4 y5 y6 y7) (feed_grid_fed.l0 (k + 1) y0 y1 y2 y3 y4 y5 y6 y7)) ∧ (∀ y0 y1 y2 y3 y4 y5 y6 y7 y8 y9 y10 y11 y12, LeO (feed_grid_fed.l1 k y0 y1 y2 y3 y4 y5 y6 y7 y8 y9 y10 y11 y12) (feed_grid_fed.l1 (k + 1) y0 y1 y2 y3 y4 y5 y6 y7 y8 y9 y10 y11 y12))
 | 0 => ⟨fun _ _ _ _ _ _ _ _ r h => by simp [feed_grid_fed.l0] at h, fun _ _ _ _ _ _ _ _ _ _ _ _ _ r h => by simp [feed_grid_fed.l1] at h⟩
 | k + 1 => by
  obtain ⟨ih0, ih1⟩ := feed_grid_fed.mono_l k
  refine ⟨?_, ?_⟩
  ·
   intro y0 y1 y2 y3 y4 y5 y6 y7
   unfold feed_grid_fed.l0
   repeat' first
   | (with_reducible exact ih0 _ _ _ _ _ _ _ _)
   | (with_reducible exact ih1 _ _ _ _ _ _ _ _ _ _ _ _ _)
   | (with_reducible exact feed_grid_group.mono _ _ _ _ _ _)
   | (with_reducible exact LeO.refl _)
   | (with_reducible exact LeO.none _)
   | (with_reducible refine LeO.ite ?_ ?_)
   | (with_reducible refine LeO.bind ?_ (fun _ => ?_))
   | exact ih0 _ _ _ _ _ _ _ _
   | exact ih1 _ _ _ _ _ _ _ _ _ _ _ _ _
   | exact feed_grid_group.mono _ _ _ _ _ _
   | exact LeO.none _
   | refine LeO.ite ?_ ?_
   | refine LeO.bind ?_ (fun _ => ?_)
  ·
   intro y0 y1 y2 y3 y4 y5 y6 y7 y8 y9 y10 y11 y12
   unfold feed_grid_fed.l1
   repeat' first
   | (with_reducible exact ih0 _ _ _ _ _ _ _ _)
   | (with_reducible exact ih1 _ _ _ _ _ _ _ _ _ _ _ _ _)
   | (with_reducible exact feed_grid_group.mono _ _ _ _ _ _)
   | (with_reducible exact LeO.refl _)
   | (with_reducible exact LeO.none _)
   | (with_reducible refine LeO.ite ?_ ?_)
   | (with_reducible refine LeO.bind ?_ (fun _ => ?_))
   | exact ih0 _ _ _ _ _ _ _ _
   | exact ih1 _ _ _ _ _ _ _ _ _ _ _ _ _
   | exact feed_grid_group.mono _ _ _ _ _ _
   | exact LeO.none _
   | refine LeO.ite ?_ ?_
   | refine LeO.bind ?_ (fun _ => ?_)
theorem feed_grid_fed.mono : ∀ a0 a1 a2 a3 k, LeO (feed_grid_fed.f k a0 a1 a2 a3) (feed_grid_fed.f (k + 1) a0 a1 a2 a3) := by
 intro a0 a1 a2 a3 k
 obtain ⟨ih0, ih1⟩ := feed_grid_fed.mono_l k
 unfold feed_grid_fed.f
 repeat' first
   | (with_reducible exact ih0 _ _ _ _ _ _ _ _)
   | (with_reducible exact ih1 _ _ _ _ _ _ _ _ _ _ _ _ _)
   | (with_reducible exact feed_grid_group.mono _ _ _ _ _ _)
   | (with_reducible exact LeO.refl _)
   | (with_reducible exact LeO.none _)
   | (with_reducible refine LeO.ite ?_ ?_)
   | (with_reducible refine LeO.bind ?_ (fun _ => ?_))
   | exact ih0 _ _ _ _ _ _ _ _
   | exact ih1 _ _ _ _ _ _ _ _ _ _ _ _ _
   | exact feed_grid_group.mono _ _ _ _ _ _
   | exact LeO.none _
   | refine LeO.ite ?_ ?_
   | refine LeO.bind ?_ (fun _ => ?_)
def feed_grid_fed.T10 : Bool × List (List Nat × List Nat) := (true, [([], []), ([], []), ([0, 1], [0, 1]), ([2], [2]), ([], []), ([4], [4]), ([5], [5]), ([3, 6], [3, 6]), ([0, 1, 0, 1, 2, 3, 4, 5, 6, 7], [0, 1]), ([8, 7, 0, 1, 2, 3, 4, 5, 6, 7], [7, 8])])
def feed_grid_fed.B10 : List Nat := [0, 0, 3, 7, 0, 16, 48, 127, 255, 511]
theorem feed_grid_fed.tab10 : rtab .any (opsOf Tryd.f89 10) = feed_grid_fed.T10 := by kernel_rfl
theorem feed_grid_fed.bits10 : waitsOk feed_grid_fed.T10.2 feed_grid_fed.B10 = true := by kernel_rfl
set_option maxHeartbeats 8000000 in
set_option maxRecDepth 100000 in
theorem feed_grid_fed.calls (k : Nat) (a0_0 : Int) (A0_1 : Option Addr) (c0_1 : Nat) (l0_1 : List (S69)) (A0_2 : Option Addr) (c0_2 : Nat) (l0_2 : List (S71)) (a1 : Int) (r : List Int) (w : World) (hr0_1 : Kd.C k69 w A0_1 l0_1.length l0_1) (hc0_1 : l0_1.length ≤ c0_1) (hr0_2 : Kd.C k71 w A0_2 l0_2.length l0_2) (hc0_2 : l0_2.length ≤ c0_2) (h : feed_grid_fed.f k a0_0 l0_1 l0_2 a1 = some r) :
  Calls Tryd.prog 89 #[.agg #[.int .i64 a0_0, .slice A0_1 l0_1.length c0_1, .slice A0_2 l0_2.length c0_2], .int .i64 a1] w fun e w' => ∃ v0_ : Value, e = .returned (v0_) ∧ Kd.R (Kd.int .u64) 90 w' w.heap.size (fun _ => True) v0_ r ∧ Below w.heap.size w w' := by
 have hu73 := Tryd.underlying73
 have hu71 := Tryd.underlying71
 have HR0_1 := Aside0.mk hr0_1
 have HC0_1 := Aside0.mk hc0_1
 clear hr0_1 hc0_1
 have HR0_2 := Aside0.mk hr0_2
 have HC0_2 := Aside0.mk hc0_2
 clear hr0_2 hc0_2
 have HB := Aside0.mk (Below.refl w.heap.size w)
 have H : (if 0 ≤ a0_0 then (if (a0_0 : Int).toNat ≤ 35184372088832 then (feed_grid_fed.l0 k a1 (List.replicate (a0_0 : Int).toNat 0) l0_2 (l0_2.length : Int) 0 a0_0 l0_1 l0_2) else (none)) else (none)) = some r := h
 clear h
 by_cases c3 : 0 ≤ a0_0
 ·
  rw [if_pos c3] at H
  have c3b0 := eq_true c3
  have c3b1 : decide (0 ≤ a0_0) = true := decide_eq_true c3
  clear c3
  by_cases c4 : (a0_0 : Int).toNat ≤ 35184372088832
  ·
   rw [if_pos c4] at H
   have c4b0 := eq_true c4
   have c4b1 : decide ((a0_0 : Int).toNat ≤ 35184372088832) = true := decide_eq_true c4
   clear c4
   obtain ⟨y114, hy114⟩ : ∃ y_ : List Int, y_ = (List.replicate (a0_0 : Int).toNat 0) := ⟨_, rfl⟩
   replace H : (feed_grid_fed.l0 k a1 y114 l0_2 (l0_2.length : Int) 0 a0_0 l0_1 l0_2) = some r := by first | (rw [hy114]; with_reducible exact H) | (have H2_ := (Option.bind_some _ _).symm.trans H; rw [hy114]; with_reducible exact H2_) | (have H2_ := (Option.bind_some _ _).symm.trans H; with_reducible exact H2_) | with_reducible exact H | (rw [hy114]; exact H) | exact H
   have Ny114 := Aside0.mk hy114
   clear hy114
   have H' := Aside0.mk H
   clear H
   go_enter Tryd.func89, Tryd.ntmps89
   go_wp2_with (first | ((with_reducible refine gate_dst (N := 2) rfl ?_); refine box_event ?hg (N := 2) ?hd (cs := #[.int .i64 a0_0, .slice A0_1 l0_1.length c0_1, .slice A0_2 l0_2.length c0_2]) (t := 73) ?hr ?_; (case hd => rfl); (case hg => rfl); (case hr => first | (go_simp; done) | (go_simp; rfl)); intro gb113 hg w5 hbox hb; have BK113 := Aside0.mk (hbox); have GW113 := bsz (w := w) hg; have GE113 := GW113; replace HB := Aside0.mk (below_step bel hb); clear hb hbox hg; have hcz6_0 := blkc BK113.out 0 (.int .i64 a0_0) rfl; have hcz6_1 := blkc BK113.out 1 (.slice A0_1 l0_1.length c0_1) rfl; have hcz6_2 := blkc BK113.out 2 (.slice A0_2 l0_2.length c0_2) rfl) | ((with_reducible refine gate_dst (N := 13) rfl ?_); refine Kd.R_make (Kd.int .u64) _ 90 rfl (N := 13) rfl 118 _ _ rfl a0_0 rfl rfl Tryd.underlying118 (.int .u64 0) 8 info90 rfl (by decide) (by omega) 0 (ok := fun _ => True) (okp := fun _ => True) rfl (fun _ hk => hk) trivial (of_decide_eq_true asz) (Nat.le_trans (Nat.mul_le_mul_right _ (of_decide_eq_true asz : a0_0.toNat ≤ 35184372088832)) (by omega)) (Below.refl _ _) (Nat.le_refl _) ?_; intro v115 w7 ho8 hb hg_ hnew_; clear hg_ hnew_; (first | rw [← Ny114.out] at ho8 | (simp only [Int.reduceToNat] at ho8; rw [← Ny114.out] at ho8)); have HO116 := Aside0.mk (Kd.R_lower ho8 (below_size bel)); replace BK113 := Aside0.mk (blk_below (g := gb113) blkz hb); replace HB := Aside0.mk (below_step bel hb); clear hb ho8; have hcz9_0 := blkc BK113.out 0 (.int .i64 a0_0) rfl; have hcz9_1 := blkc BK113.out 1 (.slice A0_1 l0_1.length c0_1) rfl; have hcz9_2 := blkc BK113.out 2 (.slice A0_2 l0_2.length c0_2) rfl))
   go_loopg [18] k (fun kq v18 w' => ∃ (x5_1 : List Int) (x18_1 : Int), v18 = .int .i64 x18_1 ∧ Aside0 (feed_grid_fed.l0 kq a1 x5_1 l0_2 (l0_2.length : Int) x18_1 a0_0 l0_1 l0_2 = some r) ∧ Aside0 (kq ≤ k) ∧ Aside0 (Kd.R (Kd.int .u64) 90 w' w.heap.size (fun _ => True) v115 x5_1) ∧ Aside0 (w'.heap[gb113]? = some (.cells #[.int .i64 a0_0, (.slice A0_1 l0_1.length c0_1), (.slice A0_2 l0_2.length c0_2)] 73 (0, 0))) ∧ Aside0 (Below w.heap.size w w'))
   case atStart => exact ⟨(y114), (0), rsz, H', ⟨Nat.le_refl _⟩, ⟨by (with_reducible repeat (first | apply Kd.R_alloc | apply Kd.R_drewN | apply Kd.R_drew)); exact HO116.out⟩, ⟨blkz⟩, ⟨bel⟩⟩
   case round =>
    clear H'
    try clear p2
    try clear c3
    try clear c3b0
    try clear c3b1
    try clear c4
    try clear c4b0
    try clear c4b1
    try clear c8
    try clear hcz6_0
    try clear hcz6_1
    try clear hcz6_2
    try clear hcz9_0
    try clear hcz9_1
    try clear hcz9_2
    try clear hfz6_0
    try clear hfz6_1
    try clear hfz6_2
    try clear hfz9_0
    try clear hfz9_1
    try clear hfz9_2
    obtain ⟨x5_1, x18_1, rfl, HA, HK1, HO_5, BK113, HB⟩ := hrel
    cases gk with
    | zero => exact absurd HA.out (by simp [feed_grid_fed.l0])
    | succ k1 =>
     have H := HA.out
     clear HA
     simp only [feed_grid_fed.l0] at H
     by_cases c10 : x18_1 < (l0_2.length : Int)
     ·
      rw [if_pos c10] at H
      have c10b0 : decide (x18_1 < (l0_2.length : Int)) = true := decide_eq_true c10
      clear c10
      by_cases c11 : 0 ≤ x18_1
      ·
       rw [if_pos c11] at H
       have c11b0 : decide (0 ≤ x18_1) = true := decide_eq_true c11
       clear c11
       by_cases c12 : x18_1 < (l0_2.length : Int)
       ·
        rw [if_pos c12] at H
        have c12b0 : decide (x18_1 < (l0_2.length : Int)) = true := decide_eq_true c12
        clear c12
        replace H := Option.bind_eq_some_iff.mp H
        obtain ⟨t119, A130, H⟩ := H
        replace H : (feed_grid_fed.l1 k1 a1 x5_1 t119 l0_2 (l0_2.length : Int) x18_1 (x5_1.length : Int) 0 a0_0 l0_1 l0_2 ((rd_T71 l0_2 x18_1).f0) ((rd_T71 l0_2 x18_1).f1)) = some r := H
        have A13 := Aside0.mk A130
        clear A130
        have H' := Aside0.mk H
        clear H
        have p117 : 0 ≤ (x18_1 : Int) := of_decide_eq_true asz
        have q117 : x18_1 < (l0_2.length : Int) := of_decide_eq_true asz
        obtain ⟨ad117, e117, hx117_0, hx117_1⟩ := at_T71 HR0_2.out x18_1 p117 q117
        cases e117
        replace hx117_0 := (HB.out.cell (World.block_lt_of_cell? w _ hx117_0)).trans hx117_0
        replace hx117_1 := (HB.out.cell (World.block_lt_of_cell? w _ hx117_1)).trans hx117_1
        replace p117 := eq_true p117
        replace q117 := eq_true q117
        go_wp2_with (first | ((with_reducible refine gate_dst (N := 7) rfl ?_); refine box_event ?hg (N := 7) ?hd (cs := #[.int .i64 0, .int .i64 0]) (t := 71) ?hr ?_; (case hd => rfl); (case hg => rfl); (case hr => first | (go_simp; done) | (go_simp; rfl)); intro gb118 hg w14 hbox hb; have BK118 := Aside0.mk (hbox); have GW118 := bsz (w := w) hg; have GE118 := GW118; have NB113_118 := neL (g := gb113) hg; have NB118_113 := neR (g := gb113) hg; replace HO_5 := Aside0.mk (Kd.R_below (ownx HO_5) hb); replace BK113 := Aside0.mk (blk_below (g := gb113) blkz hb); replace HB := Aside0.mk (below_step bel hb); clear hb hbox hg; have hnb15 := NB118_113.out; have hnc15 := NB113_118.out; have hcz16_0 := blkc BK118.out 0 (.int .i64 0) rfl; have hcz16_1 := blkc BK118.out 1 (.int .i64 0) rfl; have hfz16_0 := blk_frozen BK118.out 0; have hfz16_1 := blk_frozen BK118.out 1; have hcz17_0 := blkc BK113.out 0 (.int .i64 a0_0) rfl; have hcz17_1 := blkc BK113.out 1 (.slice A0_1 l0_1.length c0_1) rfl; have hcz17_2 := blkc BK113.out 2 (.slice (some ad117) l0_2.length c0_2) rfl) | ((with_reducible refine gate_callee (f := 66) rfl ?_); refine goesL_ (some 26) rfl rfl Tryd.func66 (by kernel_rfl) rfl #[.agg #[.int .i64 a0_0, .slice A0_1 l0_1.length c0_1, .slice (some ad117) l0_2.length c0_2], .int .i64 a1, .int .i64 ((rd_T71 l0_2 x18_1).f0)] rfl mapz ?_; (with_reducible refine (feed_grid_group.calls k1 a0_0 _ _ l0_1 _ _ l0_2 a1 ((rd_T71 l0_2 x18_1).f0) t119 _ ?side1 ?side2 ?side3 ?side4 A13.out).mono ?_); (case side1 => exact cbz HR0_1); (case side2 => exact HC0_1.out); (case side3 => exact cbz HR0_2); (case side4 => exact HC0_2.out); rintro e w18 ⟨rfl, hb⟩; refine ⟨_, rfl, ?_⟩; replace HO_5 := Aside0.mk (Kd.R_below (by (with_reducible repeat (first | apply Kd.R_alloc | apply Kd.R_drewN | apply Kd.R_drew)); exact (Kd.R_mono (Kd.R_far (p := ⟨gb118, 1, none⟩) (Kd.R_far (p := ⟨gb118, 0, none⟩) (Kd.R_types HO_5.out BK118.out (by decide)) (fun _ hk => hk.2) (.int .i64 ((rd_T71 l0_2 x18_1).f0))) (fun _ hk => hk.2) (.int .i64 ((rd_T71 l0_2 x18_1).f1))) (fun _ h_ => h_.1))) hb); replace BK113 := Aside0.mk (blk_below (g := gb113) (o := .cells #[.int .i64 a0_0, .slice A0_1 l0_1.length c0_1, .slice (some ad117) l0_2.length c0_2] 73 (0, 0)) (by (with_reducible repeat (first | refine blk_drewN ?_ _ | refine blk_drew ?_ | refine blk_alloc ?_ _)); refine blk_far ?_ NB113_118.out _; (with_reducible repeat (first | refine blk_drewN ?_ _ | refine blk_drew ?_ | refine blk_alloc ?_ _)); refine blk_far ?_ NB113_118.out _; (with_reducible repeat (first | refine blk_drewN ?_ _ | refine blk_drew ?_ | refine blk_alloc ?_ _)); exact BK113.out) hb); replace BK118 := Aside0.mk (blk_below (g := gb118) (o := .cells #[.int .i64 ((rd_T71 l0_2 x18_1).f0), .int .i64 ((rd_T71 l0_2 x18_1).f1)] 71 (0, 0)) (by (with_reducible repeat (first | refine blk_drewN ?_ _ | refine blk_drew ?_ | refine blk_alloc ?_ _)); refine blk_put (cs := #[.int .i64 ((rd_T71 l0_2 x18_1).f0), .int .i64 0]) ?_ 1 _ rfl; (with_reducible repeat (first | refine blk_drewN ?_ _ | refine blk_drew ?_ | refine blk_alloc ?_ _)); refine blk_put (cs := #[.int .i64 0, .int .i64 0]) ?_ 0 _ rfl; (with_reducible repeat (first | refine blk_drewN ?_ _ | refine blk_drew ?_ | refine blk_alloc ?_ _)); exact BK118.out) hb); replace HB := Aside0.mk (below_step bel hb); (try clear hb); (try clear hb2); (try clear hk); (try clear hi); obtain ⟨Ao19, co19, eo19⟩ := Kd.R_slice HO_5.out; subst eo19))
        go_loopg [29] k1 (fun kq v29 w' => ∃ (x5_2 : List Int) (x29_2 : Int), v29 = .int .i64 x29_2 ∧ Aside0 (feed_grid_fed.l1 kq a1 x5_2 t119 l0_2 (l0_2.length : Int) x18_1 (x5_1.length : Int) x29_2 a0_0 l0_1 l0_2 ((rd_T71 l0_2 x18_1).f0) ((rd_T71 l0_2 x18_1).f1) = some r) ∧ Aside0 (kq ≤ k1) ∧ Aside0 (Kd.R (Kd.int .u64) 90 w' w.heap.size (fun _ => True) (.slice Ao19 x5_1.length co19) x5_2) ∧ Aside0 (w'.heap[gb113]? = some (.cells #[.int .i64 a0_0, (.slice A0_1 l0_1.length c0_1), (.slice (some ad117) l0_2.length c0_2)] 73 (0, 0))) ∧ Aside0 (w'.heap[gb118]? = some (.cells #[.int .i64 ((rd_T71 l0_2 x18_1).f0), .int .i64 ((rd_T71 l0_2 x18_1).f1)] 71 (0, 0))) ∧ Aside0 (Below w.heap.size w w'))
        case atStart => exact ⟨(x5_1), (0), rsz, H', ⟨Nat.le_refl _⟩, ⟨by (with_reducible repeat (first | apply Kd.R_alloc | apply Kd.R_drewN | apply Kd.R_drew)); exact HO_5.out⟩, ⟨blkz⟩, ⟨blkz⟩, ⟨bel⟩⟩
        case round =>
         clear H'
         try clear c1
         try clear p1
         try clear q1
         try clear hx1
         try clear p2
         try clear c3
         try clear c3b0
         try clear c3b1
         try clear c4
         try clear c4b0
         try clear c4b1
         try clear c6
         try clear c8
         try clear c10
         try clear c10b0
         try clear c11
         try clear c11b0
         try clear p11
         try clear q11
         try clear hx11
         try clear c12
         try clear c12b0
         try clear c15
         try clear hcz16_0
         try clear hcz16_1
         try clear hcz17_0
         try clear hcz17_1
         try clear hcz17_2
         try clear hcz6_0
         try clear hcz6_1
         try clear hcz6_2
         try clear hcz9_0
         try clear hcz9_1
         try clear hcz9_2
         try clear hfz16_0
         try clear hfz16_1
         try clear hfz17_0
         try clear hfz17_1
         try clear hfz17_2
         try clear hfz6_0
         try clear hfz6_1
         try clear hfz6_2
         try clear hfz9_0
         try clear hfz9_1
         try clear hfz9_2
         try clear hx117_0
         try clear hx117_1
         try clear p117
         try clear p2
         try clear q117
         obtain ⟨x5_2, x29_2, rfl, HA, HK2, HO_5, BK113, BK118, HB⟩ := hrel
         have hl5_2 := (Kd.R_reads' HO_5.out).1
         rw [hl5_2] at HO_5
         (try simp only [hl5_2])
         (try simp only [hl5_2] at BK113)
         (try simp only [hl5_2] at BK118)
         cases gk with
         | zero => exact absurd HA.out (by simp [feed_grid_fed.l1])
         | succ k2 =>
          have H := HA.out
          clear HA
          simp only [feed_grid_fed.l1] at H
          by_cases c20 : x29_2 < (x5_1.length : Int)
          ·
           rw [if_pos c20] at H
           have c20b0 : decide (x29_2 < (x5_1.length : Int)) = true := decide_eq_true c20
           try (have c20b0hl5_2 := c20b0; simp only [hl5_2] at c20b0hl5_2)
           clear c20
           by_cases c21 : 0 ≤ x29_2
           ·
            rw [if_pos c21] at H
            have c21b0 := eq_true c21
            have c21b1 : decide (0 ≤ x29_2) = true := decide_eq_true c21
            clear c21
            obtain ⟨ji22, hji22⟩ : ∃ j_ : Int, (shr .u64 t119 x29_2) = j_ := ⟨_, rfl⟩
            replace H : (if (Go.bits .and .u64 (ji22) 1) = 1 then (if x29_2 < (x5_2.length : Int) then (if 0 ≤ ((rd_T71 l0_2 x18_1).f1) then (feed_grid_fed.l1 k2 a1 (x5_2.set (x29_2 : Int).toNat (Go.bits .or .u64 (rd x5_2 x29_2) (shl .u64 1 ((rd_T71 l0_2 x18_1).f1)))) t119 l0_2 (l0_2.length : Int) x18_1 (x5_1.length : Int) (wrap64 (x29_2 + 1)) a0_0 l0_1 l0_2 ((rd_T71 l0_2 x18_1).f0) ((rd_T71 l0_2 x18_1).f1)) else (none)) else (none)) else (feed_grid_fed.l1 k2 a1 x5_2 t119 l0_2 (l0_2.length : Int) x18_1 (x5_1.length : Int) (wrap64 (x29_2 + 1)) a0_0 l0_1 l0_2 ((rd_T71 l0_2 x18_1).f0) ((rd_T71 l0_2 x18_1).f1))) = some r := by first | (rw [hji22] at H; exact H) | (simp only [hji22] at H ⊢; exact H)
            have hji22_ : (t119 / 2 ^ min x29_2.toNat 64) = ji22 := hji22
            have hji22z : x29_2 ≤ 64 → (t119 / 2 ^ x29_2.toNat) = ji22 := shr_small hji22
            by_cases c23 : (Go.bits .and .u64 (ji22) 1) = 1
            ·
             rw [if_pos c23] at H
             have c23b0 : ((Go.bits .and .u64 (ji22) 1) == 1) = true := beq_iff_eq.mpr c23
             have c23b1 : ((Go.bits .and .u64 (ji22) 1) != 1) = false := bne_eq_false_iff_eq.mpr c23
             clear c23
             by_cases c24 : x29_2 < (x5_2.length : Int)
             ·
              rw [if_pos c24] at H
              have c24b0 : decide (x29_2 < (x5_2.length : Int)) = true := decide_eq_true c24
              try (have c24b0hl5_2 := c24b0; simp only [hl5_2] at c24b0hl5_2)
              clear c24
              by_cases c25 : 0 ≤ ((rd_T71 l0_2 x18_1).f1)
              ·
               rw [if_pos c25] at H
               have c25b0 := eq_true c25
               have c25b1 : decide (0 ≤ ((rd_T71 l0_2 x18_1).f1)) = true := decide_eq_true c25
               clear c25
               obtain ⟨ji26, hji26⟩ : ∃ j_ : Int, (shl .u64 1 ((rd_T71 l0_2 x18_1).f1)) = j_ := ⟨_, rfl⟩
               replace H : (feed_grid_fed.l1 k2 a1 (x5_2.set (x29_2 : Int).toNat (Go.bits .or .u64 (rd x5_2 x29_2) (ji26))) t119 l0_2 (l0_2.length : Int) x18_1 (x5_1.length : Int) (wrap64 (x29_2 + 1)) a0_0 l0_1 l0_2 ((rd_T71 l0_2 x18_1).f0) ((rd_T71 l0_2 x18_1).f1)) = some r := by first | (rw [hji26] at H; exact H) | (simp only [hji26] at H ⊢; exact H)
               have hji26_ : (IntKind.u64.wrap (1 * 2 ^ min ((rd_T71 l0_2 x18_1).f1).toNat 64)) = ji26 := hji26
               have hji26z : ((rd_T71 l0_2 x18_1).f1) ≤ 64 → (IntKind.u64.wrap (1 * 2 ^ ((rd_T71 l0_2 x18_1).f1).toNat)) = ji26 := shl_small hji26
               have hji26u : (IntKind.u64.wrap (2 ^ min ((rd_T71 l0_2 x18_1).f1).toNat 64)) = ji26 := by have h_ := hji26_; rw [Int.one_mul] at h_; exact h_
               have hji26v : ((rd_T71 l0_2 x18_1).f1) ≤ 64 → (IntKind.u64.wrap (2 ^ ((rd_T71 l0_2 x18_1).f1).toNat)) = ji26 := fun hle_ => by have h_ := hji26z hle_; rw [Int.one_mul] at h_; exact h_
               obtain ⟨y121, hy121⟩ : ∃ y_ : List Int, y_ = (x5_2.set (x29_2 : Int).toNat (Go.bits .or .u64 (rd x5_2 x29_2) (ji26))) := ⟨_, rfl⟩
               replace H : (feed_grid_fed.l1 k2 a1 y121 t119 l0_2 (l0_2.length : Int) x18_1 (x5_1.length : Int) (wrap64 (x29_2 + 1)) a0_0 l0_1 l0_2 ((rd_T71 l0_2 x18_1).f0) ((rd_T71 l0_2 x18_1).f1)) = some r := by first | (rw [hy121]; with_reducible exact H) | (have H2_ := (Option.bind_some _ _).symm.trans H; rw [hy121]; with_reducible exact H2_) | (have H2_ := (Option.bind_some _ _).symm.trans H; with_reducible exact H2_) | with_reducible exact H | (rw [hy121]; exact H) | exact H
               have Ny121 := Aside0.mk hy121
               clear hy121
               have H' := Aside0.mk H
               clear H
               try go_wp2
               have n0_ := Aside0.mk (Kd.R_drew HO_5.out)
               have n1_ := Aside0.mk (blk_drew BK113.out)
               have n2_ := Aside0.mk (blk_drew BK118.out)
               have n3_ := Aside0.mk (below_drew1 HB.out)
               clear HO_5
               clear BK113
               clear BK118
               clear HB
               have HO_5 := n0_
               have BK113 := n1_
               have BK118 := n2_
               have HB := n3_
               clear n0_ n1_ n2_ n3_
               have p120 : 0 ≤ (x29_2 : Int) := of_decide_eq_true asz
               have q120 : x29_2 < (x5_2.length : Int) := of_decide_eq_true asz
               obtain ⟨ad120, e120, hx120_0⟩ := Kd.at_int (Kd.R_reads' HO_5.out).2.2 x29_2 p120 q120
               cases e120
               replace p120 := eq_true p120
               replace q120 := eq_true q120
               have p27 : 0 ≤ (x29_2 : Int) := of_decide_eq_true asz
               have q27 : (x29_2 : Int) < ((x5_2.length : Int) : Int) := of_decide_eq_true asz
               obtain ⟨go27, co27, eo27, gb27, gl27, cl27, HG27⟩ := Kd.R_form HO_5.out (by omega)
               (first | cases eo27 | (injection eo27 with ea_ en_ ec_; (first | subst ea_ | (injection ea_ with ea_; subst ea_)); subst ec_; clear en_))
               have GB27 := Aside0.mk gb27
               have GG27 := Aside0.mk HG27
               clear gb27 gl27 HG27
               (first | simp only [add_plain] at hx120_0 | skip)
               obtain ⟨hx27_0, hf27_0⟩ := Kd.R_celln 0 HO_5.out (x29_2 : Int) p27 q27
               replace p27 := eq_true p27
               replace q27 := eq_true q27
               have HP29 := Kd.R_putn HO_5.out (x29_2 : Int) (Go.bits .or .u64 (rd x5_2 x29_2) (ji26))
               rw [← Ny121.out] at HP29
               have HQ29 := Aside0.mk HP29
               clear HP29
               refine start_ (n := 10) (S := fun w' => w'.cell? ⟨gb118, 0, none⟩ = some (.int .i64 ((rd_T71 l0_2 x18_1).f0)) ∧ w'.cell? ⟨gb118, 1, none⟩ = some (.int .i64 ((rd_T71 l0_2 x18_1).f1)) ∧ w'.cell? ⟨go27, (x29_2).toNat, none⟩ = some (.int .u64 (rd x5_2 x29_2))) (ds := [9]) #[false, false, false, false, false, false, false, false, false, false] (by kernel_rfl) rfl rfl ⟨(blk_cell BK118.out 0).trans rfl, (blk_cell BK118.out 1).trans rfl, hx120_0⟩ (fun hHeld => ?_); refine with_tabW feed_grid_fed.tab10 feed_grid_fed.bits10 (fun HT_ HW_ => ?_)
               generalize wr.drew = w28 at HO_5 BK113 BK118 HB GG27 HQ29 hf27_0 hx120_0 hx27_0 hHeld ⊢
               refine pst (i := 0) (N := some 37) (bz 10 1) (any_of HT_.out (by kernel_rfl)) ?_
               refine pst (i := 1) (N := some 38) (bz 10 3) (any_of HT_.out (by kernel_rfl)) ?_
               refine pst (i := 2) (N := some 39) (bz 10 7) (any_of HT_.out (by kernel_rfl)) ?_
               refine pst (i := 4) (N := some 41) (bz 10 23) (any_of HT_.out (by kernel_rfl)) ?_
               refine tst3 (i := 3) (N := some 40) (bz 10 31) (take_ofW HT_.out HW_.out (by kernel_rfl)) hHeld ?_
               refine tst3 (i := 5) (N := some 42) (bz 10 63) (take_ofW HT_.out HW_.out (by kernel_rfl)) hHeld ?_
               refine pst (i := 6) (N := some 43) (bz 10 127) (any_of HT_.out (by kernel_rfl)) ?_
               refine pst (i := 7) (N := some 44) (bz 10 255) (any_of HT_.out (by kernel_rfl)) ?_
               refine pst (i := 8) (N := some 45) (bz 10 511) (any_of HT_.out (by kernel_rfl)) ?_
               refine last_ (i := 9) (N := none) #[true, true, true, true, true, true, true, true, true, true] rfl rfl (one_of HT_.out (by kernel_rfl)) (by decide) (fun K hK => ?_)
               refine skip_ (w1 := ?_) (by rfl) rfl ?_ ?_
               rotate_left
               ·
                go_simp
                rfl
               refine hK.out _ _ ?_
               clear hK K
               refine done_ (done_of HT_.out (by kernel_rfl)) ?_
               try go_wp2
               (try simp only [← hl5_2])
               go_roundg k2
               case measure => have := HK1.out; have := HK2.out; omega
               case rel => exact ⟨(y121), (wrap64 (x29_2 + 1)), rsz, H', ⟨by have := HK1.out; have := HK2.out; omega⟩, ⟨by (try simp only [hl5_2]); (with_reducible repeat (first | apply Kd.R_alloc | apply Kd.R_drewN | apply Kd.R_drew)); exact HQ29.out⟩, ⟨by (try simp only [hl5_2]); (with_reducible repeat (first | refine blk_drewN ?_ _ | refine blk_drew ?_ | refine blk_alloc ?_ _)); refine blk_far ?_ (by have h_ := Kd.R_ne HO_5.out BK113.out (by decide); intro e_; exact h_ (by rw [e_]; rfl)) _; (with_reducible repeat (first | refine blk_drewN ?_ _ | refine blk_drew ?_ | refine blk_alloc ?_ _)); exact BK113.out⟩, ⟨by (try simp only [hl5_2]); (with_reducible repeat (first | refine blk_drewN ?_ _ | refine blk_drew ?_ | refine blk_alloc ?_ _)); refine blk_far ?_ (by have h_ := Kd.R_ne HO_5.out BK118.out (by decide); intro e_; exact h_ (by rw [e_]; rfl)) _; (with_reducible repeat (first | refine blk_drewN ?_ _ | refine blk_drew ?_ | refine blk_alloc ?_ _)); exact BK118.out⟩, ⟨by repeat (first | (with_reducible first | exact HB.out | apply below_alloc | apply pw_below_drewN | apply below_drew1 | refine below_set ?_ GB27.out | refine below_set ?_ GE113.out | refine below_set ?_ GE118.out) | exact HB.out)⟩⟩
              ·
               rw [if_neg c25] at H
               exact absurd H (by simp)
             ·
              rw [if_neg c24] at H
              exact absurd H (by simp)
            ·
             rw [if_neg c23] at H
             have c23b0 : ((Go.bits .and .u64 (ji22) 1) == 1) = false := beq_eq_false_iff_ne.mpr c23
             have c23b1 : ((Go.bits .and .u64 (ji22) 1) != 1) = true := bne_iff_ne.mpr c23
             have H' := Aside0.mk H
             clear H
             go_wp2
             (try simp only [← hl5_2])
             go_roundg k2
             case measure => have := HK1.out; have := HK2.out; omega
             case rel => exact ⟨(x5_2), (wrap64 (x29_2 + 1)), rsz, H', ⟨by have := HK1.out; have := HK2.out; omega⟩, ⟨by (try simp only [hl5_2]); (with_reducible repeat (first | apply Kd.R_alloc | apply Kd.R_drewN | apply Kd.R_drew)); exact HO_5.out⟩, ⟨by (try simp only [hl5_2]); (with_reducible repeat (first | refine blk_drewN ?_ _ | refine blk_drew ?_ | refine blk_alloc ?_ _)); exact BK113.out⟩, ⟨by (try simp only [hl5_2]); (with_reducible repeat (first | refine blk_drewN ?_ _ | refine blk_drew ?_ | refine blk_alloc ?_ _)); exact BK118.out⟩, ⟨bel⟩⟩
           ·
            rw [if_neg c21] at H
            exact absurd H (by simp)
          ·
           rw [if_neg c20] at H
           have c20b0 : decide (x29_2 < (x5_1.length : Int)) = false := decide_eq_false c20
           try (have c20b0hl5_2 := c20b0; simp only [hl5_2] at c20b0hl5_2)
           clear c20
           have H' := Aside0.mk H
           clear H
           go_wp2
           (try simp only [← hl5_2])
           go_roundg k2
           case measure => have := HK1.out; have := HK2.out; omega
           case rel => exact ⟨(x5_2), (wrap64 (x18_1 + 1)), rsz, H', ⟨by have := HK1.out; have := HK2.out; omega⟩, ⟨by (try simp only [hl5_2]); (with_reducible repeat (first | apply Kd.R_alloc | apply Kd.R_drewN | apply Kd.R_drew)); exact HO_5.out⟩, ⟨by (try simp only [hl5_2]); (with_reducible repeat (first | refine blk_drewN ?_ _ | refine blk_drew ?_ | refine blk_alloc ?_ _)); exact BK113.out⟩, ⟨bel⟩⟩
       ·
        rw [if_neg c12] at H
        exact absurd H (by simp)
      ·
       rw [if_neg c11] at H
       exact absurd H (by simp)
     ·
      rw [if_neg c10] at H
      have c10b0 : decide (x18_1 < (l0_2.length : Int)) = false := decide_eq_false c10
      clear c10
      obtain rfl := Option.some.inj H
      go_wp2
      go_ret
      exact ⟨_, ezz, by (with_reducible repeat (first | apply Kd.R_alloc | apply Kd.R_drewN | apply Kd.R_drew)); exact HO_5.out, bel⟩
  ·
   rw [if_neg c4] at H
   exact absurd H (by simp)
 ·
  rw [if_neg c3] at H
  exact absurd H (by simp)

/-! ### bits_TrailingZeros64: function 109 -/
def bits_TrailingZeros64.at_ (a0 : Int) : Int := IntKind.u64.wrap (Go.bits .and .u64 a0 (IntKind.u64.wrap (-a0)) * 285870213051353865) / 288230376151711744
def bits_TrailingZeros64.f (a0 : Int) : Option Int := if a0 = 0 then some 64 else some (rd Tab.tab64 (bits_TrailingZeros64.at_ a0))
set_option maxHeartbeats 4000000 in
set_option maxRecDepth 100000 in
theorem bits_TrailingZeros64.calls (a0 : Int) (r : Int) (w : World) (hT : Tab.Tabs w) (h : bits_TrailingZeros64.f a0 = some r) :
  Calls Tryd.prog 109 #[.int .u64 a0] w fun e w' => e = .returned (.int .i64 r) ∧ Drawn0 w w' := by
 unfold bits_TrailingZeros64.f at h
 by_cases h0 : a0 = 0
 ·
  subst h0
  obtain rfl := Option.some.inj h
  go_enter Tryd.func109, Tryd.ntmps109
  go_wp2
  go_ret
  exact ⟨rfl, by repeat (first | exact Drawn0.refl _ | apply Drawn0.step)⟩
 ·
  rw [if_neg h0] at h
  have k0 : decide (a0 = 0) = false := decide_eq_false h0
  have k1 : (a0 == 0) = false := by simpa using h0
  obtain rfl := Option.some.inj h
  clear h
  have hb : 0 ≤ bits_TrailingZeros64.at_ a0 ∧ bits_TrailingZeros64.at_ a0 < 64 := by
   unfold bits_TrailingZeros64.at_
   generalize Go.bits .and .u64 a0 (IntKind.u64.wrap (-a0)) * 285870213051353865 = z
   have h1 : IntKind.u64.wrap z = z % 18446744073709551616 := by simp [IntKind.wrap, IntKind.bits, IntKind.signed]
   rw [h1]
   omega
  have hv := Tab.val hb.1 hb.2
  have hc := hT (bits_TrailingZeros64.at_ a0).toNat (by omega)
  rw [Tab.rd_tab hb.1] at hc
  have HE : Aside0 (rd Tab.tab64 (bits_TrailingZeros64.at_ a0) = rd Tab.tab64 (bits_TrailingZeros64.at_ a0)) := ⟨rfl⟩
  unfold bits_TrailingZeros64.at_ at hb hc
  generalize hg : rd Tab.tab64 (IntKind.u64.wrap (Go.bits .and .u64 a0 (IntKind.u64.wrap (-a0)) * 285870213051353865) / 288230376151711744) = v at hc
  have hgv : rd Tab.tab64 (bits_TrailingZeros64.at_ a0) = v := hg
  rw [hgv] at hv ⊢
  have hw : IntKind.i64.wrap v = v := by rw [IntKind.wrap_i64]; omega
  have hb1 := eq_true hb.1
  have hb2 := eq_true hb.2
  clear hb hg hgv HE hT hv
  go_enter Tryd.func109, Tryd.ntmps109
  go_wp2
  go_ret
  exact ⟨rfl, by repeat (first | exact Drawn0.refl _ | apply Drawn0.step)⟩

/-! ### bits_TrailingZeros: function 90 -/
def bits_TrailingZeros.f (a0 : Int) : Option (Int) := (bits_TrailingZeros64.f a0).bind fun t122 => (some t122)
set_option maxHeartbeats 8000000 in
set_option maxRecDepth 100000 in
theorem bits_TrailingZeros.calls (a0 : Int) (r : Int) (w : World) (hT : Tab.Tabs w) (h : bits_TrailingZeros.f a0 = some r) :
  Calls Tryd.prog 90 #[.int .u64 a0] w fun e w' => e = .returned (.int .i64 r) ∧ Drawn0 w w' := by
 have HT := Aside0.mk hT
 clear hT
 have H : ((bits_TrailingZeros64.f a0).bind fun t122 => (some t122)) = some r := h
 clear h
 replace H := Option.bind_eq_some_iff.mp H
 obtain ⟨t122, A20, H⟩ := H
 replace H : (some t122) = some r := H
 have A2 := Aside0.mk A20
 clear A20
 obtain rfl := Option.some.inj H
 go_enter Tryd.func90, Tryd.ntmps90
 go_wp2_with (first | ((with_reducible refine gate_callee (f := 109) rfl ?_); refine goesL_ (some 7) rfl rfl Tryd.func109 (by kernel_rfl) rfl #[.int .u64 a0] rfl mapz ?_; (with_reducible refine (bits_TrailingZeros64.calls a0 t122 _ ?sideT A2.out).mono ?_); (case sideT => first | exact HT.out | exact Tab.Tabs.below HT.out bel | (with_reducible repeat (first | exact HT.out | apply Tab.Tabs.alloc | apply Tab.Tabs.drewN | apply Tab.Tabs.drew))); rintro e w' ⟨rfl, ⟨nd, rfl⟩⟩; refine ⟨_, rfl, ?_⟩))
 go_ret
 exact ⟨by first | rfl | (simp; done) | (simp [*]; done), drz⟩

/-! ### feed_grid_live: function 47 -/
def feed_grid_live.l0 : Nat → List Int → List Int → Int → Int → Option (List Int)
 | 0, _, _, _, _ => none
 | k + 1, x5, x10, x11, x12 => if x12 < x11 then (if 0 ≤ x12 then (if x12 < (x10.length : Int) then ((bits_OnesCount.f (rd x10 x12)).bind fun t128 => (if t128 = 0 then (if x5.length < 17592186044416 then (feed_grid_live.l0 k (x5 ++ [0]) x10 x11 (wrap64 (x12 + 1))) else (none)) else (if t128 = 1 then ((bits_TrailingZeros.f (rd x10 x12)).bind fun t132 => (if x5.length < 17592186044416 then (feed_grid_live.l0 k (x5 ++ [t132]) x10 x11 (wrap64 (x12 + 1))) else (none))) else (if x5.length < 17592186044416 then (feed_grid_live.l0 k (x5 ++ [(-1)]) x10 x11 (wrap64 (x12 + 1))) else (none))))) else (none)) else (none)) else (some x5)
def feed_grid_live.f (k : Nat) (a0_0 : Int) (l0_1 : List (S69)) (l0_2 : List (S71)) (a1 : Int) : Option (List Int) := (feed_grid_fed.f k a0_0 l0_1 l0_2 a1).bind fun t124 => (feed_grid_live.l0 k ([] : List Int) t124 (t124.length : Int) 0)
theorem feed_grid_live.mono_l : ∀ k, (∀ y0 y1 y2 y3, LeO (feed_grid_live.l0 k y0 y1 y2 y3) (feed_grid_live.l0 (k + 1) y0 y1 y2 y3))
 | 0 => fun _ _ _ _ r h => by simp [feed_grid_live.l0] at h
 | k + 1 => by
  have ih0 := feed_grid_live.mono_l k
  ·
   intro y0 y1 y2 y3
   unfold feed_grid_live.l0
   repeat' first
   | (with_reducible exact ih0 _ _ _ _)
   | (with_reducible exact feed_grid_fed.mono _ _ _ _ _)
   | (with_reducible exact LeO.refl _)
   | (with_reducible exact LeO.none _)
   | (with_reducible refine LeO.ite ?_ ?_)
   | (with_reducible refine LeO.bind ?_ (fun _ => ?_))
   | exact ih0 _ _ _ _
   | exact feed_grid_fed.mono _ _ _ _ _
   | exact LeO.none _
   | refine LeO.ite ?_ ?_
   | refine LeO.bind ?_ (fun _ => ?_)
theorem feed_grid_live.mono : ∀ a0 a1 a2 a3 k, LeO (feed_grid_live.f k a0 a1 a2 a3) (feed_grid_live.f (k + 1) a0 a1 a2 a3) := by
 intro a0 a1 a2 a3 k
 have ih0 := feed_grid_live.mono_l k
 unfold feed_grid_live.f
 repeat' first
   | (with_reducible exact ih0 _ _ _ _)
   | (with_reducible exact feed_grid_fed.mono _ _ _ _ _)
   | (with_reducible exact LeO.refl _)
   | (with_reducible exact LeO.none _)
   | (with_reducible refine LeO.ite ?_ ?_)
   | (with_reducible refine LeO.bind ?_ (fun _ => ?_))
   | exact ih0 _ _ _ _
   | exact feed_grid_fed.mono _ _ _ _ _
   | exact LeO.none _
   | refine LeO.ite ?_ ?_
   | refine LeO.bind ?_ (fun _ => ?_)
set_option maxHeartbeats 8000000 in
set_option maxRecDepth 100000 in
theorem feed_grid_live.calls (k : Nat) (a0_0 : Int) (A0_1 : Option Addr) (c0_1 : Nat) (l0_1 : List (S69)) (A0_2 : Option Addr) (c0_2 : Nat) (l0_2 : List (S71)) (a1 : Int) (r : List Int) (w : World) (hr0_1 : Kd.C k69 w A0_1 l0_1.length l0_1) (hc0_1 : l0_1.length ≤ c0_1) (hr0_2 : Kd.C k71 w A0_2 l0_2.length l0_2) (hc0_2 : l0_2.length ≤ c0_2) (hT : Tab.Tabs w) (h : feed_grid_live.f k a0_0 l0_1 l0_2 a1 = some r) :
  Calls Tryd.prog 47 #[.agg #[.int .i64 a0_0, .slice A0_1 l0_1.length c0_1, .slice A0_2 l0_2.length c0_2], .int .i64 a1] w fun e w' => ∃ v0_ : Value, e = .returned (v0_) ∧ Kd.R (Kd.int .i64) 3 w' w.heap.size (fun _ => True) v0_ r ∧ Below w.heap.size w w' := by
 have HT := Aside0.mk hT
 clear hT
 have hu73 := Tryd.underlying73
 have HR0_1 := Aside0.mk hr0_1
 have HC0_1 := Aside0.mk hc0_1
 clear hr0_1 hc0_1
 have HR0_2 := Aside0.mk hr0_2
 have HC0_2 := Aside0.mk hc0_2
 clear hr0_2 hc0_2
 have HB := Aside0.mk (Below.refl w.heap.size w)
 have H : ((feed_grid_fed.f k a0_0 l0_1 l0_2 a1).bind fun t124 => (feed_grid_live.l0 k ([] : List Int) t124 (t124.length : Int) 0)) = some r := h
 clear h
 replace H := Option.bind_eq_some_iff.mp H
 obtain ⟨t124, A30, H⟩ := H
 replace H : (feed_grid_live.l0 k ([] : List Int) t124 (t124.length : Int) 0) = some r := H
 have A3 := Aside0.mk A30
 clear A30
 have H' := Aside0.mk H
 clear H
 go_enter Tryd.func47, Tryd.ntmps47
 go_wp2_with (first | ((with_reducible refine gate_dst (N := 2) rfl ?_); refine box_event ?hg (N := 2) ?hd (cs := #[.int .i64 a0_0, .slice A0_1 l0_1.length c0_1, .slice A0_2 l0_2.length c0_2]) (t := 73) ?hr ?_; (case hd => rfl); (case hg => rfl); (case hr => first | (go_simp; done) | (go_simp; rfl)); intro gb123 hg w4 hbox hb; have BK123 := Aside0.mk (hbox); have GW123 := bsz (w := w) hg; have GE123 := GW123; replace HB := Aside0.mk (below_step bel hb); clear hb hbox hg; have hcz5_0 := blkc BK123.out 0 (.int .i64 a0_0) rfl; have hcz5_1 := blkc BK123.out 1 (.slice A0_1 l0_1.length c0_1) rfl; have hcz5_2 := blkc BK123.out 2 (.slice A0_2 l0_2.length c0_2) rfl) | ((with_reducible refine gate_callee (f := 89) rfl ?_); refine goesL_ (some 10) rfl rfl Tryd.func89 (by kernel_rfl) rfl #[.agg #[.int .i64 a0_0, .slice A0_1 l0_1.length c0_1, .slice A0_2 l0_2.length c0_2], .int .i64 a1] rfl mapz ?_; (with_reducible refine (feed_grid_fed.calls k a0_0 _ _ l0_1 _ _ l0_2 a1 t124 _ ?side1 ?side2 ?side3 ?side4 A3.out).mono ?_); (case side1 => exact cbz HR0_1); (case side2 => exact HC0_1.out); (case side3 => exact cbz HR0_2); (case side4 => exact HC0_2.out); rintro e w6 ⟨v125, rfl, ho0, hb⟩; refine ⟨_, rfl, ?_⟩; have HO126 := Aside0.mk (Kd.R_lower ho0 (below_size bel)); replace BK123 := Aside0.mk (blk_below (g := gb123) blkz hb); replace HB := Aside0.mk (below_step bel hb); (try clear hb); (try clear hb2); (try clear hk); (try clear hi); (try clear ho0); obtain ⟨Ao7, co7, eo7⟩ := Kd.R_slice HO126.out; subst eo7))
 go_loopg [5, 12] k (fun kq v5 v12 w' => ∃ (x5_1 : List Int) (x12_1 : Int), v12 = .int .i64 x12_1 ∧ Aside0 (feed_grid_live.l0 kq x5_1 t124 (t124.length : Int) x12_1 = some r) ∧ Aside0 (kq ≤ k) ∧ Aside0 (Kd.R (Kd.int .i64) 3 w' w.heap.size (fun _ => True) v5 x5_1) ∧ Aside0 (Kd.R (Kd.int .u64) 90 w' w.heap.size (fun _ => True) (.slice Ao7 t124.length co7) t124) ∧ Aside0 (w'.heap[gb123]? = some (.cells #[.int .i64 a0_0, (.slice A0_1 l0_1.length c0_1), (.slice A0_2 l0_2.length c0_2)] 73 (0, 0))) ∧ Aside0 (Below w.heap.size w w'))
 case atStart => exact ⟨(([] : List Int)), (0), rsz, H', ⟨Nat.le_refl _⟩, ⟨by first | exact Kd.R_nil _ _ _ _ _ | exact Kd.N_nil _ _ _ _ _ | exact Kd.V_nil _ _ _ _ _ | exact Kd.Q_nil _ _ _ _ _ | exact Kd.S_nil _ _ _ _ _⟩, ⟨by (with_reducible repeat (first | apply Kd.R_alloc | apply Kd.R_drewN | apply Kd.R_drew)); exact HO126.out⟩, ⟨blkz⟩, ⟨bel⟩⟩
 case round =>
  clear H'
  try clear p2
  try clear c4
  try clear hcz5_0
  try clear hcz5_1
  try clear hcz5_2
  try clear hfz5_0
  try clear hfz5_1
  try clear hfz5_2
  obtain ⟨x5_1, x12_1, rfl, HA, HK1, HO_5, HO_10, BK123, HB⟩ := hrel
  cases gk with
  | zero => exact absurd HA.out (by simp [feed_grid_live.l0])
  | succ k1 =>
   have H := HA.out
   clear HA
   simp only [feed_grid_live.l0] at H
   by_cases c8 : x12_1 < (t124.length : Int)
   ·
    rw [if_pos c8] at H
    have c8b0 : decide (x12_1 < (t124.length : Int)) = true := decide_eq_true c8
    clear c8
    by_cases c9 : 0 ≤ x12_1
    ·
     rw [if_pos c9] at H
     have c9b0 : decide (0 ≤ x12_1) = true := decide_eq_true c9
     clear c9
     by_cases c10 : x12_1 < (t124.length : Int)
     ·
      rw [if_pos c10] at H
      have c10b0 : decide (x12_1 < (t124.length : Int)) = true := decide_eq_true c10
      clear c10
      replace H := Option.bind_eq_some_iff.mp H
      obtain ⟨t128, A110, H⟩ := H
      replace H : (if t128 = 0 then (if x5_1.length < 17592186044416 then (feed_grid_live.l0 k1 (x5_1 ++ [0]) t124 (t124.length : Int) (wrap64 (x12_1 + 1))) else (none)) else (if t128 = 1 then ((bits_TrailingZeros.f (rd t124 x12_1)).bind fun t132 => (if x5_1.length < 17592186044416 then (feed_grid_live.l0 k1 (x5_1 ++ [t132]) t124 (t124.length : Int) (wrap64 (x12_1 + 1))) else (none))) else (if x5_1.length < 17592186044416 then (feed_grid_live.l0 k1 (x5_1 ++ [(-1)]) t124 (t124.length : Int) (wrap64 (x12_1 + 1))) else (none)))) = some r := H
      have A11 := Aside0.mk A110
      clear A110
      by_cases c12 : t128 = 0
      ·
       rw [if_pos c12] at H
       have c12b0 : (t128 == 0) = true := beq_iff_eq.mpr c12
       have c12b1 : (t128 != 0) = false := bne_eq_false_iff_eq.mpr c12
       clear c12
       by_cases c13 : x5_1.length < 17592186044416
       ·
        rw [if_pos c13] at H
        have LMc13 := Aside0.mk c13
        clear c13
        obtain ⟨y129, hy129⟩ : ∃ y_ : List Int, y_ = (x5_1 ++ [0]) := ⟨_, rfl⟩
        replace H : (feed_grid_live.l0 k1 y129 t124 (t124.length : Int) (wrap64 (x12_1 + 1))) = some r := by first | (rw [hy129]; with_reducible exact H) | (have H2_ := (Option.bind_some _ _).symm.trans H; rw [hy129]; with_reducible exact H2_) | (have H2_ := (Option.bind_some _ _).symm.trans H; with_reducible exact H2_) | with_reducible exact H | (rw [hy129]; exact H) | exact H
        have Ny129 := Aside0.mk hy129
        clear hy129
        have H' := Aside0.mk H
        clear H
        have p127 : 0 ≤ (x12_1 : Int) := of_decide_eq_true asz
        have q127 : x12_1 < (t124.length : Int) := of_decide_eq_true asz
        obtain ⟨ad127, e127, hx127_0⟩ := Kd.at_int (Kd.R_reads' HO_10.out).2.2 x12_1 p127 q127
        cases e127
        replace p127 := eq_true p127
        replace q127 := eq_true q127
        go_wp2_with (first | ((with_reducible refine gate_callee (f := 80) rfl ?_); refine goesL_ (some 17) rfl rfl Tryd.func80 (by kernel_rfl) rfl #[.int .u64 (rd t124 x12_1)] rfl mapz ?_; (with_reducible refine (bits_OnesCount.calls (rd t124 x12_1) t128 _ A11.out).mono ?_); rintro e w' ⟨rfl, ⟨nd, rfl⟩⟩; refine ⟨_, rfl, ?_⟩) | ((with_reducible refine gate_builtin (b := .append) (xs := #[.tmp 23, .tmp 24]) rfl ?_); at_builtin; refine Kd.R_append (Kd.int .i64) (w0 := w) w.heap.size rfl (.tmp 23) (.tmp 24) 28 3 (.int .i64 0) 8 rfl Tryd.underlying28 info3 rfl (by decide) (by omega) u5 x5_1 0 [.int .i64 0] (fun _ => True) (fun _ => False) rfl rfl ?aP (fun _ hk => hk.elim) ?aF ?aO ?aB ?aS ?aL ?_; (case aP => exact rfl); (case aB => exact bel); (case aF => exact (fun _ _ => trivial)); (case aO => exact (ownx HO_5)); (case aS => exact (below_size bel)); (case aL => have := LMc13.out; omega); intro v130 w14 ho hb hg hat; rw [← Ny129.out] at ho; have n0_ := Aside0.mk (Kd.R_over' (ownx HO_10) (Kd.R_typed (ownx HO_5)) (by decide) hg); have n1_ := Aside0.mk (blk_grown (g := gb123) (o := .cells #[.int .i64 a0_0, .slice A0_1 l0_1.length c0_1, .slice A0_2 l0_2.length c0_2] 73 (0, 0)) blkz hg (Kd.R_ne HO_5.out BK123.out (by decide))); have n2_ := Aside0.mk (hb); have n3_ := Aside0.mk (ho); clear HO_10; clear BK123; clear HB; clear HO_5; have HO_10 := n0_; have BK123 := n1_; have HB := n2_; have HO131 := n3_; clear n0_ n1_ n2_ n3_; clear ho hb hg hat))
        go_roundg k1
        case measure => have := HK1.out; omega
        case rel => exact ⟨(y129), (wrap64 (x12_1 + 1)), rsz, H', ⟨by have := HK1.out; omega⟩, ⟨by (with_reducible repeat (first | apply Kd.R_alloc | apply Kd.R_drewN | apply Kd.R_drew)); exact HO131.out⟩, ⟨by (with_reducible repeat (first | apply Kd.R_alloc | apply Kd.R_drewN | apply Kd.R_drew)); exact HO_10.out⟩, ⟨blkz⟩, ⟨bel⟩⟩
       ·
        rw [if_neg c13] at H
        exact absurd H (by simp)
      ·
       rw [if_neg c12] at H
       have c12b0 : (t128 == 0) = false := beq_eq_false_iff_ne.mpr c12
       have c12b1 : (t128 != 0) = true := bne_iff_ne.mpr c12
       by_cases c15 : t128 = 1
       ·
        rw [if_pos c15] at H
        have c15b0 : (t128 == 1) = true := beq_iff_eq.mpr c15
        have c15b1 : (t128 != 1) = false := bne_eq_false_iff_eq.mpr c15
        clear c15
        replace H := Option.bind_eq_some_iff.mp H
        obtain ⟨t132, A160, H⟩ := H
        replace H : (if x5_1.length < 17592186044416 then (feed_grid_live.l0 k1 (x5_1 ++ [t132]) t124 (t124.length : Int) (wrap64 (x12_1 + 1))) else (none)) = some r := H
        have A16 := Aside0.mk A160
        clear A160
        by_cases c17 : x5_1.length < 17592186044416
        ·
         rw [if_pos c17] at H
         have LMc17 := Aside0.mk c17
         clear c17
         obtain ⟨y133, hy133⟩ : ∃ y_ : List Int, y_ = (x5_1 ++ [t132]) := ⟨_, rfl⟩
         replace H : (feed_grid_live.l0 k1 y133 t124 (t124.length : Int) (wrap64 (x12_1 + 1))) = some r := by first | (rw [hy133]; with_reducible exact H) | (have H2_ := (Option.bind_some _ _).symm.trans H; rw [hy133]; with_reducible exact H2_) | (have H2_ := (Option.bind_some _ _).symm.trans H; with_reducible exact H2_) | with_reducible exact H | (rw [hy133]; exact H) | exact H
         have Ny133 := Aside0.mk hy133
         clear hy133
         have H' := Aside0.mk H
         clear H
         have p127 : 0 ≤ (x12_1 : Int) := of_decide_eq_true asz
         have q127 : x12_1 < (t124.length : Int) := of_decide_eq_true asz
         obtain ⟨ad127, e127, hx127_0⟩ := Kd.at_int (Kd.R_reads' HO_10.out).2.2 x12_1 p127 q127
         cases e127
         replace p127 := eq_true p127
         replace q127 := eq_true q127
         go_wp2_with (first | ((with_reducible refine gate_callee (f := 80) rfl ?_); refine goesL_ (some 17) rfl rfl Tryd.func80 (by kernel_rfl) rfl #[.int .u64 (rd t124 x12_1)] rfl mapz ?_; (with_reducible refine (bits_OnesCount.calls (rd t124 x12_1) t128 _ A11.out).mono ?_); rintro e w' ⟨rfl, ⟨nd, rfl⟩⟩; refine ⟨_, rfl, ?_⟩) | ((with_reducible refine gate_callee (f := 90) rfl ?_); refine goesL_ (some 30) rfl rfl Tryd.func90 (by kernel_rfl) rfl #[.int .u64 (rd t124 x12_1)] rfl mapz ?_; (with_reducible refine (bits_TrailingZeros.calls (rd t124 x12_1) t132 _ ?sideT A16.out).mono ?_); (case sideT => first | exact HT.out | exact Tab.Tabs.below HT.out bel | (with_reducible repeat (first | exact HT.out | apply Tab.Tabs.alloc | apply Tab.Tabs.drewN | apply Tab.Tabs.drew))); rintro e w' ⟨rfl, ⟨nd, rfl⟩⟩; refine ⟨_, rfl, ?_⟩) | ((with_reducible refine gate_builtin (b := .append) (xs := #[.tmp 28, .tmp 31]) rfl ?_); at_builtin; refine Kd.R_append (Kd.int .i64) (w0 := w) w.heap.size rfl (.tmp 28) (.tmp 31) 28 3 (.int .i64 0) 8 rfl Tryd.underlying28 info3 rfl (by decide) (by omega) u5 x5_1 t132 [.int .i64 t132] (fun _ => True) (fun _ => False) rfl rfl ?aP (fun _ hk => hk.elim) ?aF ?aO ?aB ?aS ?aL ?_; (case aP => exact rfl); (case aB => exact bel); (case aF => exact (fun _ _ => trivial)); (case aO => exact (ownx HO_5)); (case aS => exact (below_size bel)); (case aL => have := LMc17.out; omega); intro v134 w18 ho hb hg hat; rw [← Ny133.out] at ho; have n0_ := Aside0.mk (Kd.R_over' (ownx HO_10) (Kd.R_typed (ownx HO_5)) (by decide) hg); have n1_ := Aside0.mk (blk_grown (g := gb123) (o := .cells #[.int .i64 a0_0, .slice A0_1 l0_1.length c0_1, .slice A0_2 l0_2.length c0_2] 73 (0, 0)) blkz hg (Kd.R_ne HO_5.out BK123.out (by decide))); have n2_ := Aside0.mk (hb); have n3_ := Aside0.mk (ho); clear HO_10; clear BK123; clear HB; clear HO_5; have HO_10 := n0_; have BK123 := n1_; have HB := n2_; have HO135 := n3_; clear n0_ n1_ n2_ n3_; clear ho hb hg hat))
         go_roundg k1
         case measure => have := HK1.out; omega
         case rel => exact ⟨(y133), (wrap64 (x12_1 + 1)), rsz, H', ⟨by have := HK1.out; omega⟩, ⟨by (with_reducible repeat (first | apply Kd.R_alloc | apply Kd.R_drewN | apply Kd.R_drew)); exact HO135.out⟩, ⟨by (with_reducible repeat (first | apply Kd.R_alloc | apply Kd.R_drewN | apply Kd.R_drew)); exact HO_10.out⟩, ⟨blkz⟩, ⟨bel⟩⟩
        ·
         rw [if_neg c17] at H
         exact absurd H (by simp)
       ·
        rw [if_neg c15] at H
        have c15b0 : (t128 == 1) = false := beq_eq_false_iff_ne.mpr c15
        have c15b1 : (t128 != 1) = true := bne_iff_ne.mpr c15
        by_cases c19 : x5_1.length < 17592186044416
        ·
         rw [if_pos c19] at H
         have LMc19 := Aside0.mk c19
         clear c19
         obtain ⟨y136, hy136⟩ : ∃ y_ : List Int, y_ = (x5_1 ++ [(-1)]) := ⟨_, rfl⟩
         replace H : (feed_grid_live.l0 k1 y136 t124 (t124.length : Int) (wrap64 (x12_1 + 1))) = some r := by first | (rw [hy136]; with_reducible exact H) | (have H2_ := (Option.bind_some _ _).symm.trans H; rw [hy136]; with_reducible exact H2_) | (have H2_ := (Option.bind_some _ _).symm.trans H; with_reducible exact H2_) | with_reducible exact H | (rw [hy136]; exact H) | exact H
         have Ny136 := Aside0.mk hy136
         clear hy136
         have H' := Aside0.mk H
         clear H
         have p127 : 0 ≤ (x12_1 : Int) := of_decide_eq_true asz
         have q127 : x12_1 < (t124.length : Int) := of_decide_eq_true asz
         obtain ⟨ad127, e127, hx127_0⟩ := Kd.at_int (Kd.R_reads' HO_10.out).2.2 x12_1 p127 q127
         cases e127
         replace p127 := eq_true p127
         replace q127 := eq_true q127
         go_wp2_with (first | ((with_reducible refine gate_callee (f := 80) rfl ?_); refine goesL_ (some 17) rfl rfl Tryd.func80 (by kernel_rfl) rfl #[.int .u64 (rd t124 x12_1)] rfl mapz ?_; (with_reducible refine (bits_OnesCount.calls (rd t124 x12_1) t128 _ A11.out).mono ?_); rintro e w' ⟨rfl, ⟨nd, rfl⟩⟩; refine ⟨_, rfl, ?_⟩) | ((with_reducible refine gate_builtin (b := .append) (xs := #[.tmp 18, .tmp 19]) rfl ?_); at_builtin; refine Kd.R_append (Kd.int .i64) (w0 := w) w.heap.size rfl (.tmp 18) (.tmp 19) 28 3 (.int .i64 0) 8 rfl Tryd.underlying28 info3 rfl (by decide) (by omega) u5 x5_1 (-1) [.int .i64 (-1)] (fun _ => True) (fun _ => False) rfl rfl ?aP (fun _ hk => hk.elim) ?aF ?aO ?aB ?aS ?aL ?_; (case aP => exact rfl); (case aB => exact bel); (case aF => exact (fun _ _ => trivial)); (case aO => exact (ownx HO_5)); (case aS => exact (below_size bel)); (case aL => have := LMc19.out; omega); intro v137 w20 ho hb hg hat; rw [← Ny136.out] at ho; have n0_ := Aside0.mk (Kd.R_over' (ownx HO_10) (Kd.R_typed (ownx HO_5)) (by decide) hg); have n1_ := Aside0.mk (blk_grown (g := gb123) (o := .cells #[.int .i64 a0_0, .slice A0_1 l0_1.length c0_1, .slice A0_2 l0_2.length c0_2] 73 (0, 0)) blkz hg (Kd.R_ne HO_5.out BK123.out (by decide))); have n2_ := Aside0.mk (hb); have n3_ := Aside0.mk (ho); clear HO_10; clear BK123; clear HB; clear HO_5; have HO_10 := n0_; have BK123 := n1_; have HB := n2_; have HO138 := n3_; clear n0_ n1_ n2_ n3_; clear ho hb hg hat))
         go_roundg k1
         case measure => have := HK1.out; omega
         case rel => exact ⟨(y136), (wrap64 (x12_1 + 1)), rsz, H', ⟨by have := HK1.out; omega⟩, ⟨by (with_reducible repeat (first | apply Kd.R_alloc | apply Kd.R_drewN | apply Kd.R_drew)); exact HO138.out⟩, ⟨by (with_reducible repeat (first | apply Kd.R_alloc | apply Kd.R_drewN | apply Kd.R_drew)); exact HO_10.out⟩, ⟨blkz⟩, ⟨bel⟩⟩
        ·
         rw [if_neg c19] at H
         exact absurd H (by simp)
     ·
      rw [if_neg c10] at H
      exact absurd H (by simp)
    ·
     rw [if_neg c9] at H
     exact absurd H (by simp)
   ·
    rw [if_neg c8] at H
    have c8b0 : decide (x12_1 < (t124.length : Int)) = false := decide_eq_false c8
    clear c8
    obtain rfl := Option.some.inj H
    go_wp2
    go_ret
    exact ⟨_, ezz, by (with_reducible repeat (first | apply Kd.R_alloc | apply Kd.R_drewN | apply Kd.R_drew)); exact HO_5.out, bel⟩

/-! ### slices_Index_int_int: function 95 -/
def slices_Index_int_int.l0 : Nat → List Int → Int → Int → Int → Option (Int)
 | 0, _, _, _, _ => none
 | k + 1, x0, x1, x7, x8 => if x8 < x7 then (if 0 ≤ x8 then (if x8 < (x0.length : Int) then (if x1 = (rd x0 x8) then (some x8) else (slices_Index_int_int.l0 k x0 x1 x7 (wrap64 (x8 + 1)))) else (none)) else (none)) else (some (-1))
def slices_Index_int_int.f (k : Nat) (l0 : List Int) (a1 : Int) : Option (Int) := slices_Index_int_int.l0 k l0 a1 (l0.length : Int) 0
theorem slices_Index_int_int.mono_l : ∀ k, (∀ y0 y1 y2 y3, LeO (slices_Index_int_int.l0 k y0 y1 y2 y3) (slices_Index_int_int.l0 (k + 1) y0 y1 y2 y3))
 | 0 => fun _ _ _ _ r h => by simp [slices_Index_int_int.l0] at h
 | k + 1 => by
  have ih0 := slices_Index_int_int.mono_l k
  ·
   intro y0 y1 y2 y3
   unfold slices_Index_int_int.l0
   repeat' first
   | (with_reducible exact ih0 _ _ _ _)
   | (with_reducible exact LeO.refl _)
   | (with_reducible exact LeO.none _)
   | (with_reducible refine LeO.ite ?_ ?_)
   | (with_reducible refine LeO.bind ?_ (fun _ => ?_))
   | exact ih0 _ _ _ _
   | exact LeO.none _
   | refine LeO.ite ?_ ?_
   | refine LeO.bind ?_ (fun _ => ?_)
theorem slices_Index_int_int.mono : ∀ a0 a1 k, LeO (slices_Index_int_int.f k a0 a1) (slices_Index_int_int.f (k + 1) a0 a1) := by
 intro a0 a1 k
 have ih0 := slices_Index_int_int.mono_l k
 unfold slices_Index_int_int.f
 repeat' first
   | (with_reducible exact ih0 _ _ _ _)
   | (with_reducible exact LeO.refl _)
   | (with_reducible exact LeO.none _)
   | (with_reducible refine LeO.ite ?_ ?_)
   | (with_reducible refine LeO.bind ?_ (fun _ => ?_))
   | exact ih0 _ _ _ _
   | exact LeO.none _
   | refine LeO.ite ?_ ?_
   | refine LeO.bind ?_ (fun _ => ?_)
set_option maxHeartbeats 8000000 in
set_option maxRecDepth 100000 in
theorem slices_Index_int_int.calls (k : Nat) (A0 : Option Addr) (c0 : Nat) (l0 : List Int) (a1 : Int) (r : Int) (w : World) (hr0 : Kd.C (Kd.int .i64) w A0 l0.length l0) (hc0 : l0.length ≤ c0) (h : slices_Index_int_int.f k l0 a1 = some r) :
  Calls Tryd.prog 95 #[.slice A0 l0.length c0, .int .i64 a1] w fun e w' => e = .returned (.int .i64 r) ∧ Drawn0 w w' := by
 have HR0 := Aside0.mk hr0
 have HC0 := Aside0.mk hc0
 clear hr0 hc0
 have H : (slices_Index_int_int.l0 k l0 a1 (l0.length : Int) 0) = some r := h
 clear h
 have H' := Aside0.mk H
 clear H
 go_enter Tryd.func95, Tryd.ntmps95
 go_wp2
 go_loopg [8] k (fun kq v8 w' => ∃ (x8_1 : Int), v8 = .int .i64 x8_1 ∧ Aside0 (slices_Index_int_int.l0 kq l0 a1 (l0.length : Int) x8_1 = some r) ∧ Aside0 (kq ≤ k) ∧ Drawn0 w w')
 case atStart => exact ⟨(0), rsz, H', ⟨Nat.le_refl _⟩, drz⟩
 case round =>
  clear H'
  try clear p2
  obtain ⟨x8_1, rfl, HA, HK1, ⟨m1, rfl⟩⟩ := hrel
  cases gk with
  | zero => exact absurd HA.out (by simp [slices_Index_int_int.l0])
  | succ k1 =>
   have H := HA.out
   clear HA
   simp only [slices_Index_int_int.l0] at H
   by_cases c3 : x8_1 < (l0.length : Int)
   ·
    rw [if_pos c3] at H
    have c3b0 : decide (x8_1 < (l0.length : Int)) = true := decide_eq_true c3
    clear c3
    by_cases c4 : 0 ≤ x8_1
    ·
     rw [if_pos c4] at H
     have c4b0 : decide (0 ≤ x8_1) = true := decide_eq_true c4
     clear c4
     by_cases c5 : x8_1 < (l0.length : Int)
     ·
      rw [if_pos c5] at H
      have c5b0 : decide (x8_1 < (l0.length : Int)) = true := decide_eq_true c5
      clear c5
      by_cases c6 : a1 = (rd l0 x8_1)
      ·
       rw [if_pos c6] at H
       have c6b0 : (a1 == (rd l0 x8_1)) = true := beq_iff_eq.mpr c6
       have c6b1 : (a1 != (rd l0 x8_1)) = false := bne_eq_false_iff_eq.mpr c6
       clear c6
       obtain rfl := Option.some.inj H
       have p139 : 0 ≤ (x8_1 : Int) := of_decide_eq_true asz
       have q139 : x8_1 < (l0.length : Int) := of_decide_eq_true asz
       obtain ⟨ad139, e139, hx139_0⟩ := Kd.at_int HR0.out x8_1 p139 q139
       cases e139
       replace p139 := eq_true p139
       replace q139 := eq_true q139
       go_wp2
       go_ret
       exact ⟨by first | rfl | (simp; done) | (simp [*]; done), drz⟩
      ·
       rw [if_neg c6] at H
       have c6b0 : (a1 == (rd l0 x8_1)) = false := beq_eq_false_iff_ne.mpr c6
       have c6b1 : (a1 != (rd l0 x8_1)) = true := bne_iff_ne.mpr c6
       have H' := Aside0.mk H
       clear H
       have p139 : 0 ≤ (x8_1 : Int) := of_decide_eq_true asz
       have q139 : x8_1 < (l0.length : Int) := of_decide_eq_true asz
       obtain ⟨ad139, e139, hx139_0⟩ := Kd.at_int HR0.out x8_1 p139 q139
       cases e139
       replace p139 := eq_true p139
       replace q139 := eq_true q139
       go_wp2
       go_roundg k1
       case measure => have := HK1.out; omega
       case rel => exact ⟨(wrap64 (x8_1 + 1)), rsz, H', ⟨by have := HK1.out; omega⟩, drz⟩
     ·
      rw [if_neg c5] at H
      exact absurd H (by simp)
    ·
     rw [if_neg c4] at H
     exact absurd H (by simp)
   ·
    rw [if_neg c3] at H
    have c3b0 : decide (x8_1 < (l0.length : Int)) = false := decide_eq_false c3
    clear c3
    obtain rfl := Option.some.inj H
    go_wp2
    go_ret
    exact ⟨by first | rfl | (simp; done) | (simp [*]; done), drz⟩

/-! ### slices_Contains_int_int: function 68 -/
def slices_Contains_int_int.f (k : Nat) (l0 : List Int) (a1 : Int) : Option (Bool) := (slices_Index_int_int.f k l0 a1).bind fun t140 => (some (decide (t140 ≥ 0)))
theorem slices_Contains_int_int.mono : ∀ a0 a1 k, LeO (slices_Contains_int_int.f k a0 a1) (slices_Contains_int_int.f (k + 1) a0 a1) := by
 intro a0 a1 k
 unfold slices_Contains_int_int.f
 repeat' first
   | (with_reducible exact slices_Index_int_int.mono _ _ _)
   | (with_reducible exact LeO.refl _)
   | (with_reducible exact LeO.none _)
   | (with_reducible refine LeO.ite ?_ ?_)
   | (with_reducible refine LeO.bind ?_ (fun _ => ?_))
   | exact slices_Index_int_int.mono _ _ _
   | exact LeO.none _
   | refine LeO.ite ?_ ?_
   | refine LeO.bind ?_ (fun _ => ?_)
set_option maxHeartbeats 8000000 in
set_option maxRecDepth 100000 in
theorem slices_Contains_int_int.calls (k : Nat) (A0 : Option Addr) (c0 : Nat) (l0 : List Int) (a1 : Int) (r : Bool) (w : World) (hr0 : Kd.C (Kd.int .i64) w A0 l0.length l0) (hc0 : l0.length ≤ c0) (h : slices_Contains_int_int.f k l0 a1 = some r) :
  Calls Tryd.prog 68 #[.slice A0 l0.length c0, .int .i64 a1] w fun e w' => e = .returned (.bool r) ∧ Drawn0 w w' := by
 have HR0 := Aside0.mk hr0
 have HC0 := Aside0.mk hc0
 clear hr0 hc0
 have H : ((slices_Index_int_int.f k l0 a1).bind fun t140 => (some (decide (t140 ≥ 0)))) = some r := h
 clear h
 replace H := Option.bind_eq_some_iff.mp H
 obtain ⟨t140, A30, H⟩ := H
 replace H : (some (decide (t140 ≥ 0))) = some r := H
 have A3 := Aside0.mk A30
 clear A30
 obtain rfl := Option.some.inj H
 go_enter Tryd.func68, Tryd.ntmps68
 go_wp2_with (first | ((with_reducible refine gate_callee (f := 95) rfl ?_); refine goesL_ (some 7) rfl rfl Tryd.func95 (by kernel_rfl) rfl #[.slice A0 l0.length c0, .int .i64 a1] rfl mapz ?_; (with_reducible refine (slices_Index_int_int.calls k _ _ l0 a1 t140 _ ?side1 ?side2 A3.out).mono ?_); (case side1 => repeat (first | exact HR0.out | (with_reducible refine Kd.C_alloc ?_ _) | (with_reducible refine Kd.C_drewN ?_ _) | (with_reducible refine Kd.C_drew ?_))); (case side2 => exact HC0.out); rintro e w' ⟨rfl, ⟨nd, rfl⟩⟩; refine ⟨_, rfl, ?_⟩))
 go_ret
 exact ⟨by first | rfl | (simp; done) | (simp [*]; done), drz⟩

/-! ### feed_grid_right: function 50 -/
def feed_grid_right.f (k : Nat) (a0_0 : Int) (l0_1 : List (S69)) (l0_2 : List (S71)) (a1 : Int) : Option (Bool) := (feed_grid_live.f k a0_0 l0_1 l0_2 a1).bind fun t142 => ((slices_Contains_int_int.f k t142 (-1)).bind fun t145 => (some (!t145)))
theorem feed_grid_right.mono : ∀ a0 a1 a2 a3 k, LeO (feed_grid_right.f k a0 a1 a2 a3) (feed_grid_right.f (k + 1) a0 a1 a2 a3) := by
 intro a0 a1 a2 a3 k
 unfold feed_grid_right.f
 repeat' first
   | (with_reducible exact feed_grid_live.mono _ _ _ _ _)
   | (with_reducible exact slices_Contains_int_int.mono _ _ _)
   | (with_reducible exact LeO.refl _)
   | (with_reducible exact LeO.none _)
   | (with_reducible refine LeO.ite ?_ ?_)
   | (with_reducible refine LeO.bind ?_ (fun _ => ?_))
   | exact feed_grid_live.mono _ _ _ _ _
   | exact slices_Contains_int_int.mono _ _ _
   | exact LeO.none _
   | refine LeO.ite ?_ ?_
   | refine LeO.bind ?_ (fun _ => ?_)
set_option maxHeartbeats 8000000 in
set_option maxRecDepth 100000 in
theorem feed_grid_right.calls (k : Nat) (a0_0 : Int) (A0_1 : Option Addr) (c0_1 : Nat) (l0_1 : List (S69)) (A0_2 : Option Addr) (c0_2 : Nat) (l0_2 : List (S71)) (a1 : Int) (r : Bool) (w : World) (hr0_1 : Kd.C k69 w A0_1 l0_1.length l0_1) (hc0_1 : l0_1.length ≤ c0_1) (hr0_2 : Kd.C k71 w A0_2 l0_2.length l0_2) (hc0_2 : l0_2.length ≤ c0_2) (hT : Tab.Tabs w) (h : feed_grid_right.f k a0_0 l0_1 l0_2 a1 = some r) :
  Calls Tryd.prog 50 #[.agg #[.int .i64 a0_0, .slice A0_1 l0_1.length c0_1, .slice A0_2 l0_2.length c0_2], .int .i64 a1] w fun e w' => e = .returned (.bool r) ∧ Below w.heap.size w w' := by
 have HT := Aside0.mk hT
 clear hT
 have hu73 := Tryd.underlying73
 have HR0_1 := Aside0.mk hr0_1
 have HC0_1 := Aside0.mk hc0_1
 clear hr0_1 hc0_1
 have HR0_2 := Aside0.mk hr0_2
 have HC0_2 := Aside0.mk hc0_2
 clear hr0_2 hc0_2
 have HB := Aside0.mk (Below.refl w.heap.size w)
 have H : ((feed_grid_live.f k a0_0 l0_1 l0_2 a1).bind fun t142 => ((slices_Contains_int_int.f k t142 (-1)).bind fun t145 => (some (!t145)))) = some r := h
 clear h
 replace H := Option.bind_eq_some_iff.mp H
 obtain ⟨t142, A30, H⟩ := H
 replace H : ((slices_Contains_int_int.f k t142 (-1)).bind fun t145 => (some (!t145))) = some r := H
 have A3 := Aside0.mk A30
 clear A30
 replace H := Option.bind_eq_some_iff.mp H
 obtain ⟨t145, A40, H⟩ := H
 replace H : (some (!t145)) = some r := H
 have A4 := Aside0.mk A40
 clear A40
 obtain rfl := Option.some.inj H
 go_enter Tryd.func50, Tryd.ntmps50
 go_wp2_with (first | ((with_reducible refine gate_dst (N := 2) rfl ?_); refine box_event ?hg (N := 2) ?hd (cs := #[.int .i64 a0_0, .slice A0_1 l0_1.length c0_1, .slice A0_2 l0_2.length c0_2]) (t := 73) ?hr ?_; (case hd => rfl); (case hg => rfl); (case hr => first | (go_simp; done) | (go_simp; rfl)); intro gb141 hg w5 hbox hb; have BK141 := Aside0.mk (hbox); have GW141 := bsz (w := w) hg; have GE141 := GW141; replace HB := Aside0.mk (below_step bel hb); clear hb hbox hg; have hcz6_0 := blkc BK141.out 0 (.int .i64 a0_0) rfl; have hcz6_1 := blkc BK141.out 1 (.slice A0_1 l0_1.length c0_1) rfl; have hcz6_2 := blkc BK141.out 2 (.slice A0_2 l0_2.length c0_2) rfl) | ((with_reducible refine gate_callee (f := 47) rfl ?_); refine goesL_ (some 7) rfl rfl Tryd.func47 (by kernel_rfl) rfl #[.agg #[.int .i64 a0_0, .slice A0_1 l0_1.length c0_1, .slice A0_2 l0_2.length c0_2], .int .i64 a1] rfl mapz ?_; (with_reducible refine (feed_grid_live.calls k a0_0 _ _ l0_1 _ _ l0_2 a1 t142 _ ?side1 ?side2 ?side3 ?side4 ?sideT A3.out).mono ?_); (case sideT => first | exact HT.out | exact Tab.Tabs.below HT.out bel | (with_reducible repeat (first | exact HT.out | apply Tab.Tabs.alloc | apply Tab.Tabs.drewN | apply Tab.Tabs.drew))); (case side1 => exact cbz HR0_1); (case side2 => exact HC0_1.out); (case side3 => exact cbz HR0_2); (case side4 => exact HC0_2.out); rintro e w7 ⟨v143, rfl, ho0, hb⟩; refine ⟨_, rfl, ?_⟩; have HO144 := Aside0.mk (Kd.R_lower ho0 (below_size bel)); replace BK141 := Aside0.mk (blk_below (g := gb141) blkz hb); replace HB := Aside0.mk (below_step bel hb); (try clear hb); (try clear hb2); (try clear hk); (try clear hi); (try clear ho0); obtain ⟨Ao8, co8, eo8⟩ := Kd.R_slice HO144.out; subst eo8) | ((with_reducible refine gate_callee (f := 68) rfl ?_); refine goesL_ (some 8) rfl rfl Tryd.func68 (by kernel_rfl) rfl #[.slice Ao8 t142.length co8, .int .i64 (-1)] rfl mapz ?_; (with_reducible refine (slices_Contains_int_int.calls k _ _ t142 (-1) t145 _ ?side1 ?side2 A4.out).mono ?_); (case side1 => repeat (first | exact (Kd.R_reads' HO144.out).2.2 | (with_reducible refine Kd.C_alloc ?_ _) | (with_reducible refine Kd.C_drewN ?_ _) | (with_reducible refine Kd.C_drew ?_))); (case side2 => exact (Kd.R_reads' HO144.out).2.1); rintro e w' ⟨rfl, ⟨nd, rfl⟩⟩; refine ⟨_, rfl, ?_⟩))
 go_ret
 exact ⟨ezz, bel⟩

end Go.Proofs.YtoilhnmdemnknaaDoor.XFeed