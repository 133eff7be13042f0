-- Written by wip/pack.py of this repo: texts of this claim, put together.
import Derived.Shelf.Small.Bits
import Derived.Shelf.Small.Wraps
import Derived.Shelf.Strconv.Itoa0
import Derived.Shelf.Sort.Plain
import Derived.Shelf.Slices.Turned
import Derived.Ground.Names2Prog
import Derived.Shelf.Slices.Clone
import Derived.Shelf.Slices.SearchI
import Derived.Shelf.Slices.In.SortNone
import Derived.Ground.SlgnProg
import Derived.Shelf.SlicesE.Clone
import Derived.Test.YtldifdmfefpglaaDoorProg
import Derived.StillTailTactics
import Derived.Maps.OwnSet
import Derived.Maps.RangeWalk
import Derived.Below
import Derived.Deep.Draws
import Derived.Deep.AppendLies
import Derived.Maps.AppendAt
import Derived.OwnWalk
import Derived.Laws.BytesArg
import Derived.Laws.MakeOwn
import Derived.Laws.OwnMore
import Derived.Deep.OwnRows
import Derived.Tactics
import Derived.Lib.ConvBytes
import Derived.Laws.Slices
import Derived.WalkKit
import Derived.KernelRfl
import Derived.RowKit3
import Derived.Deep.LoopGhost
import Derived.Deep.QuietTactic
import Derived.BigQuiet
import Derived.WideLaws
import Derived.Deep.DeepCutAuto
import Derived.Deep.CutBlock
import Derived.Deep.RegionHeld3
import Derived.Laws.Rows
import Derived.Lib.AppendStr
import Derived.ArgAppend
import Derived.Laws.IdiomCopy
import Derived.OrdersHeld
import Derived.Laws.BitsLemmas
import Derived.RowKit
import Derived.Laws.CopyOwn
import Derived.Sort.OwnSortedInts
import Derived.Test.YtldifdmfefpglaaDoorKTopOrdera
/-
 DERIVED: THE SHELF's CONTRACTS AT THIS DUMP, IN PLAIN WORDS (tools/lay-plain.mjs out of 'TrydShelf.lean', which tools/lay-shelf.mjs wrote): THE SAME DECLARATIONS UNDER THE SAME NAMES: 'import', 'namespace', 'open', 'def', 'theorem' AND NOTHING ELSE: no command of the shelf's: FOR A HAND-IN. Each laying: the table of numbers ('.._ren') and one theorem, a field a fact of the dump's own or the kernel's comparison; each contract: ONE APPLICATION.
-/
namespace Go.Proofs
open Go.Shelf
def Tryd.lays189_ren : Go.Shelf.Ren := ⟨fun | 189 => 24 | 125 => 47 | 257 => 46 | 128 => 73 | 129 => 74 | 294 => 64 | 295 => 65 | 296 => 66 | 297 => 67 | 298 => 68 | 299 => 69 | 216 => 70 | 300 => 71 | 301 => 72 | 328 => 83 | 329 => 84 | 330 => 85 | 331 => 86 | 332 => 87 | 215 => 88 | 343 => 89 | n => n, fun | 28 => 26 | 3 => 3 | 46 => 80 | 0 => 0 | 51 => 100 | 53 => 102 | 4 => 4 | 183 => 93 | 182 => 92 | 131 => 97 | 5 => 5 | 9 => 9 | 218 => 106 | 222 => 110 | 228 => 114 | 229 => 115 | n => n, fun | n => n⟩
theorem Tryd.lays189 : Go.Proofs.Lays.n189 Tryd.prog Tryd.lays189_ren := {
 mixed := by kernel_rfl
 f125 := Tryd.func47.trans (congrArg some (by kernel_rfl))
 f128 := Tryd.func73.trans (congrArg some (by kernel_rfl))
 f129 := Tryd.func74.trans (congrArg some (by kernel_rfl))
 f189 := Tryd.func24.trans (congrArg some (by kernel_rfl))
 f215 := Tryd.func88.trans (congrArg some (by kernel_rfl))
 f216 := Tryd.func70.trans (congrArg some (by kernel_rfl))
 f257 := Tryd.func46.trans (congrArg some (by kernel_rfl))
 f294 := Tryd.func64.trans (congrArg some (by kernel_rfl))
 f295 := Tryd.func65.trans (congrArg some (by kernel_rfl))
 f296 := Tryd.func66.trans (congrArg some (by kernel_rfl))
 f297 := Tryd.func67.trans (congrArg some (by kernel_rfl))
 f298 := Tryd.func68.trans (congrArg some (by kernel_rfl))
 f299 := Tryd.func69.trans (congrArg some (by kernel_rfl))
 f300 := Tryd.func71.trans (congrArg some (by kernel_rfl))
 f301 := Tryd.func72.trans (congrArg some (by kernel_rfl))
 f328 := Tryd.func83.trans (congrArg some (by kernel_rfl))
 f329 := Tryd.func84.trans (congrArg some (by kernel_rfl))
 f330 := Tryd.func85.trans (congrArg some (by kernel_rfl))
 f331 := Tryd.func86.trans (congrArg some (by kernel_rfl))
 f332 := Tryd.func87.trans (congrArg some (by kernel_rfl))
 f343 := Tryd.func89.trans (congrArg some (by kernel_rfl))
 t0 := Tryd.underlying0
 a0 := Tryd.isAgg0
 z0 := Tryd.sizeOf0
 v0 := Tryd.zeroValue0
 t3 := Tryd.underlying3
 a3 := Tryd.isAgg3
 z3 := Tryd.sizeOf3
 v3 := Tryd.zeroValue3
 t4 := Tryd.underlying4
 a4 := Tryd.isAgg4
 z4 := Tryd.sizeOf4
 v4 := Tryd.zeroValue4
 t5 := Tryd.underlying5
 a5 := Tryd.isAgg5
 z5 := Tryd.sizeOf5
 v5 := Tryd.zeroValue5
 t9 := Tryd.underlying9
 a9 := Tryd.isAgg9
 z9 := Tryd.sizeOf9
 v9 := Tryd.zeroValue9
 t28 := Tryd.underlying26
 a28 := Tryd.isAgg26
 z28 := Tryd.sizeOf26
 v28 := Tryd.zeroValue26
 t46 := Tryd.underlying80
 a46 := Tryd.isAgg80
 z46 := Tryd.sizeOf80
 v46 := Tryd.zeroValue80
 t51 := Tryd.underlying100
 a51 := Tryd.isAgg100
 z51 := Tryd.sizeOf100
 v51 := Tryd.zeroValue100
 t53 := Tryd.underlying102
 a53 := Tryd.isAgg102
 z53 := Tryd.sizeOf102
 v53 := Tryd.zeroValue102
 t131 := Tryd.underlying97
 a131 := Tryd.isAgg97
 z131 := Tryd.sizeOf97
 v131 := Tryd.zeroValue97
 t182 := Tryd.underlying92
 a182 := Tryd.isAgg92
 z182 := Tryd.sizeOf92
 v182 := Tryd.zeroValue92
 t183 := Tryd.underlying93
 a183 := Tryd.isAgg93
 z183 := Tryd.sizeOf93
 v183 := Tryd.zeroValue93
 t218 := Tryd.underlying106
 a218 := Tryd.isAgg106
 z218 := Tryd.sizeOf106
 v218 := Tryd.zeroValue106
 t222 := Tryd.underlying110
 a222 := Tryd.isAgg110
 z222 := Tryd.sizeOf110
 v222 := Tryd.zeroValue110
 t228 := Tryd.underlying114
 a228 := Tryd.isAgg114
 z228 := Tryd.sizeOf114
 v228 := Tryd.zeroValue114
 t229 := Tryd.underlying115
 a229 := Tryd.isAgg115
 z229 := Tryd.sizeOf115
 v229 := Tryd.zeroValue115 }
open Go.Sort Go.RowKit in
theorem Tryd.slices_Sort_int (blk off cap : Nat) (zs : List Int) (w : World) (hH : Holds (Value.int .i64) w blk off zs.toArray) (hblk : blk < w.heap.size) (hsz : zs.length < 4611686018427387904) :
  Calls Tryd.prog 24 #[.slice (some ⟨blk, off, none⟩) zs.length cap] w fun e w' =>
   e = .returned (.tuple #[]) ∧ ∃ n os, w' = grow (putRow (Value.int .i64) (Sort.ahead w n) blk off (zs.mergeSort fun x y => decide (x ≤ y)).toArray) os := Any.slices_Sort_int Tryd.lays189 blk off cap zs w hH hblk hsz
def Tryd.laysNm215_ren : Go.Shelf.Ren := ⟨fun | 15 => 45 | n => n, fun | 22 => 26 | 3 => 3 | 4 => 4 | n => n, fun | n => n⟩
theorem Tryd.laysNm215 : Go.Proofs.Lays2.n15 Tryd.prog Tryd.laysNm215_ren := {
 mixed := by kernel_rfl
 f15 := Tryd.func45.trans (congrArg some (by kernel_rfl))
 t3 := Tryd.underlying3
 a3 := Tryd.isAgg3
 z3 := Tryd.sizeOf3
 v3 := Tryd.zeroValue3
 t4 := Tryd.underlying4
 a4 := Tryd.isAgg4
 z4 := Tryd.sizeOf4
 v4 := Tryd.zeroValue4
 t22 := Tryd.underlying26
 a22 := Tryd.isAgg26
 z22 := Tryd.sizeOf26
 v22 := Tryd.zeroValue26
 i3 := by kernel_rfl }
open Go.RowKit Go.Lib in
theorem Tryd.slices_Clone_int (b off n c : Nat) (zs : List Int) (w : World) (hz : n ≤ zs.length) (hbig : n * 8 ≤ 140737488355328) (hc : ∀ j, j < zs.length → w.cell? ⟨b, off + j, none⟩ = some (.int .i64 (zs.getD j 0))) :
  Calls Tryd.prog 45 #[.slice (some ⟨b, off, none⟩) n c] w fun e w' => ∃ v', e = .returned v' ∧ w'.ownsRow w.heap.size 3 1 v' n ((zs.take n).map (Value.int .i64)) ∧ v' ≠ .slice none 0 0 ∧ Below w.heap.size w w' := Any.slices_Clone_int Tryd.laysNm215 b off n c zs w hz hbig hc
open Go.RowKit Go.Lib in
theorem Tryd.slices_Clone_int_nil (n c : Nat) (w : World) :
  Calls Tryd.prog 45 #[.slice none n c] w fun e w' => e = .returned (.slice none 0 0) ∧ w' = w := Any.slices_Clone_int_nil Tryd.laysNm215 n c w
open Go.RowKit Go.Lib in
theorem Tryd.slices_Clone_int_zero (a : Addr) (c : Nat) (w : World) :
  Calls Tryd.prog 45 #[.slice (some a) 0 c] w fun e w' => ∃ v', e = .returned v' ∧ w'.ownsRow w.heap.size 3 1 v' 0 [] ∧ v' ≠ .slice none 0 0 ∧ Below w.heap.size w w' := Any.slices_Clone_int_zero Tryd.laysNm215 a c w
end Go.Proofs

namespace Go.Proofs.YtldifdmfefpglaaDoor.Idx
def idxFrom {α : Type} (p : α → Bool) (l : List α) : Int := if l.any p then (l.findIdx p : Int) else -1
theorem idxFrom_at {α : Type} {p : α → Bool} {l : List α} {i : Nat} (hi : i < l.length) (hp : p l[i] = true) (hb : ∀ j (h : j < l.length), j < i → p l[j] = false) : idxFrom p l = i := by
 have ha : l.any p = true := List.any_eq_true.2 ⟨l[i], List.getElem_mem hi, hp⟩
 have hf : l.findIdx p = i := by
  rw [List.findIdx_eq hi]
  exact ⟨hp, fun j hj => hb j _ hj⟩
 simp [idxFrom, ha, hf]
theorem idxFrom_none {α : Type} {p : α → Bool} {l : List α} (hb : ∀ j (h : j < l.length), j < l.length → p l[j] = false) : idxFrom p l = -1 := by
 have ha : l.any p = false := by
  rw [List.any_eq_false]
  intro x hx
  obtain ⟨j, hj, rfl⟩ := List.mem_iff_getElem.1 hx
  simp [hb j hj hj]
 simp [idxFrom, ha]
theorem idx_ge {α : Type} (p : α → Bool) (l : List α) : decide (0 ≤ idxFrom p l) = l.any p := by
 unfold idxFrom
 by_cases h : l.any p = true
 ·
  simp [h]
 ·
  have h2 : l.any p = false := by simpa using h
  simp [h2]
end Go.Proofs.YtldifdmfefpglaaDoor.Idx

namespace Go.Proofs.YtldifdmfefpglaaDoor.Tab
open Go.RowKit Go.Proofs.YtldifdmfefpglaaDoorW.PrintWords Go.Proofs.YtldifdmfefpglaaDoorW.PrintLast Go.Proofs.YtldifdmfefpglaaDoorW.PrintMore
def tab64 : List Int := [0, 1, 56, 2, 57, 49, 28, 3, 61, 58, 42, 50, 38, 29, 17, 4, 62, 47, 59, 36, 45, 43, 51, 22, 53, 39, 33, 30, 24, 18, 12, 5, 63, 55, 48, 27, 60, 41, 37, 16, 46, 35, 44, 21, 52, 32, 23, 11, 54, 26, 40, 15, 34, 20, 31, 10, 25, 14, 19, 9, 13, 8, 7, 6]
theorem val {i : Int} (h0 : 0 ≤ i) (h1 : i < 64) : 0 ≤ rd tab64 i ∧ rd tab64 i ≤ 63 := by
 obtain ⟨n, rfl⟩ := Int.eq_ofNat_of_zero_le h0
 have hn : n < 64 := by omega
 have key : ∀ n : Nat, n < 64 → 0 ≤ rd tab64 (n : Int) ∧ rd tab64 (n : Int) ≤ 63 := by decide +kernel
 exact key n hn
theorem rd_tab {i : Int} (_h0 : 0 ≤ i) : tab64.getD i.toNat 0 = rd tab64 i := by simp [rd]
def Tabs (w : World) : Prop := ∀ i, i < 64 → w.cell? ⟨1, i, none⟩ = some (.int .u8 (tab64.getD i 0))
theorem Tabs.size {w : World} (h : Tabs w) : 1 < w.heap.size := by
 have hcap := h 0 (by omega)
 unfold World.cell? at hcap
 split at hcap
 ·
  rename_i h; exact (Array.getElem?_eq_some_iff.1 h).1
 ·
  cases hcap
theorem Tabs.below {w w' : World} (h : Tabs w) (hb : Below w.heap.size w w') : Tabs w' := fun i hi => by rw [hb.cell h.size]; exact h i hi
theorem Tabs.alloc {w : World} (h : Tabs w) (o : Obj) : Tabs (w.alloc o) := h.below (below_alloc (Below.refl _ _) o)
theorem Tabs.drewN {w : World} (h : Tabs w) (n : Nat) : Tabs (w.drewN n) := h.below (pw_below_drewN (Below.refl _ _) n)
theorem Tabs.drew {w : World} (h : Tabs w) : Tabs w.drew := h.below (pw_below_drewN (Below.refl _ _) 1)
end Go.Proofs.YtldifdmfefpglaaDoor.Tab

/- Short words for what the printed walks prove again and again: each bears its own proof as a default, found where it is used. -/
namespace Go.Proofs.YtldifdmfefpglaaDoorW.PrintMore
open Go.RowKit Go.Proofs.YtldifdmfefpglaaDoorW.PrintWords Go.Proofs.YtldifdmfefpglaaDoorW.PrintLast
set_option linter.unusedVariables false

theorem bel {n : Nat} {w W : World} (h : Below n w W := by repeat (first | (with_reducible first | exact HB.out | apply below_alloc | apply pw_below_drewN | apply below_drew1 | refine below_set ?_ (Aside0.out (by assumption))) | exact HB.out)) : Below n w W := h
theorem blkz {W : World} {g : Nat} {o : Obj} (h : W.heap[g]? = some o := by (with_reducible repeat (first | refine blk_drewN ?_ _ | refine blk_drew ?_ | refine blk_alloc ?_ _)); exact Aside0.out (by assumption)) : W.heap[g]? = some o := h
theorem blkc {W : World} {g : Nat} {cs : Array Value} {t : TypeId} (h : W.heap[g]? = some (.cells cs t (0, 0))) (i : Nat) (v : Value) (e : cs[i]? = some v) : W.cell? ⟨g, i, none⟩ = some v := (blk_cell h i).trans e
theorem cbz {α : Type} {d : Kd α} {w W : World} {A : Option Addr} {n : Nat} {xs : List α} (K : Aside0 (d.C w A n xs)) (h : Below w.heap.size w W := by repeat (first | (with_reducible first | exact HB.out | apply below_alloc | apply pw_below_drewN | apply below_drew1 | refine below_set ?_ (Aside0.out (by assumption))) | exact HB.out)) : d.C W A n xs := Kd.C_below K.out h
theorem mapz {α : Type} {a b : α} (h : a = b := by (try simp only [List.map_toArray, List.map_cons, List.map_nil]); first | done | rfl | (simp only [List.length_drop, List.length_take]; rfl)) : a = b := h
theorem asz {p : Prop} (h : p := by first | (with_reducible assumption) | assumption) : p := h
theorem rsz {α : Sort _} {a b : α} (h : a = b := by first | rfl | (simp; done) | (simp [*]; done)) : a = b := h
theorem drz {w W : World} (h : Drawn0 w W := by repeat (first | exact Drawn0.refl _ | apply Drawn0.step)) : Drawn0 w W := h
theorem ownx {α : Type} {d : Kd α} {e : Nat} {W0 W : World} {base : Nat} {ok : Nat → Prop} {v : Value} {xs : List α} (K : Aside0 (d.R e W0 base ok v xs)) (h : d.R e W base ok v xs := by (with_reducible repeat (first | apply Kd.R_alloc | apply Kd.R_drewN | apply Kd.R_drew)); exact Aside0.out (by assumption)) : d.R e W base ok v xs := h
theorem ezz {α : Sort _} {a b : α} (h : a = b := by first | rfl | (simp [errW_none, errW_some] <;> rfl) | (simp [*, errW_none, errW_some] <;> rfl)) : a = b := h
theorem bsz {w W : World} {g : Nat} (hg : g = W.heap.size) (h : Below w.heap.size w W := by repeat (first | (with_reducible first | exact HB.out | apply below_alloc | apply pw_below_drewN | apply below_drew1 | refine below_set ?_ (Aside0.out (by assumption))) | exact HB.out)) : Aside0 (w.heap.size ≤ g) := ⟨by rw [hg]; exact below_size h⟩
theorem neL {W : World} {g g' : Nat} {o : Obj} (hg : g' = W.heap.size) (h : W.heap[g]? = some o := by (with_reducible repeat (first | refine blk_drewN ?_ _ | refine blk_drew ?_ | refine blk_alloc ?_ _)); exact Aside0.out (by assumption)) : Aside0 (g ≠ g') := ⟨by rw [hg]; exact Nat.ne_of_lt (blk_lt h)⟩
theorem neR {W : World} {g g' : Nat} {o : Obj} (hg : g' = W.heap.size) (h : W.heap[g]? = some o := by (with_reducible repeat (first | refine blk_drewN ?_ _ | refine blk_drew ?_ | refine blk_alloc ?_ _)); exact Aside0.out (by assumption)) : Aside0 (g' ≠ g) := ⟨by rw [hg]; exact Nat.ne_of_gt (blk_lt h)⟩
def bz (n m : Nat) : Array Bool := ((List.range n).map m.testBit).toArray
section
variable {P : Program} {md : Region.Mode} {ops : Array Oper} {Q : Exit → Act → World → Prop} {S : World → Prop} {ds : List Nat}
theorem pst {i : Nat} {N : Option Tmp} {oi : Oper} {v : Value} {fuel : Nat} {l : Array Bool} {a a' : Act} {w : World} (l' : Array Bool) (hc : anyB md ops l l' i = true) (h : wpAnyLast P md ops Q S ds fuel l' a' w)
  (hi : ops[i]? = some oi := by rfl) (hN : oi.dst = N := by rfl) (hy : Yields P ops oi v a := by exact Or.inl ⟨by rfl, by (intro w'; go_simp; with_reducible rfl)⟩) (ha : a.put N v = a' := by (simp only [Act.put, List.setIfInBounds_toArray, List.set_cons_zero, List.set_cons_succ, i64_w, i32_w]; rfl)) (hQ : ∀ c a w, Q (.panic c) (a.put oi.dst v) w → Q (.panic c) a w := by exact (fun _ _ _ h => h)) :
  wpAnyLast P md ops Q S ds (fuel + 1) l a w := pure_ l' hi hN hc hQ hy ha h
theorem pso {i : Nat} {N : Option Tmp} {oi : Oper} {fuel : Nat} {l : Array Bool} {a a' : Act} {w : World} (l' : Array Bool) (hc : anyB md ops l l' i = true) (h : wpAnyLast P md ops Q S ds fuel l' a' w)
  (hi : ops[i]? = some oi := by rfl) (hN : oi.dst = N := by rfl) (hy : Yields P ops oi undef a := by exact Or.inr ⟨by rfl, rfl⟩) (ha : a.put N undef = a' := by (simp only [Act.put, List.setIfInBounds_toArray, List.set_cons_zero, List.set_cons_succ, i64_w, i32_w]; rfl)) (hQ : ∀ c a w, Q (.panic c) (a.put oi.dst undef) w → Q (.panic c) a w := by exact (fun _ _ _ h => h)) :
  wpAnyLast P md ops Q S ds (fuel + 1) l a w := pure_ l' hi hN hc hQ hy ha h
theorem tst1 {i : Nat} {N : Option Tmp} {oi : Oper} {v : Value} {fuel : Nat} {l : Array Bool} {a a' : Act} {w : World} (l' : Array Bool) (hc : takeB md ops ds l l' i = true) (hS : S w) (h : wpAnyLast P md ops Q S ds fuel l' a' w)
  (hi : ops[i]? = some oi := by rfl) (hN : oi.dst = N := by rfl) (hy : YieldsIf P ops S oi v a := by exact Or.inl ⟨by rfl, by (rintro w' s0; go_simp; with_reducible rfl)⟩) (ha : a.put N v = a' := by (simp only [Act.put, List.setIfInBounds_toArray, List.set_cons_zero, List.set_cons_succ, i64_w, i32_w]; rfl)) (hQ : ∀ c a w, Q (.panic c) (a.put oi.dst v) w → Q (.panic c) a w := by exact (fun _ _ _ h => h)) :
  wpAnyLast P md ops Q S ds (fuel + 1) l a w := take_ l' hi hN hc hQ hy hS ha h
theorem tst2 {i : Nat} {N : Option Tmp} {oi : Oper} {v : Value} {fuel : Nat} {l : Array Bool} {a a' : Act} {w : World} (l' : Array Bool) (hc : takeB md ops ds l l' i = true) (hS : S w) (h : wpAnyLast P md ops Q S ds fuel l' a' w)
  (hi : ops[i]? = some oi := by rfl) (hN : oi.dst = N := by rfl) (hy : YieldsIf P ops S oi v a := by exact Or.inl ⟨by rfl, by (rintro w' ⟨s0, s1⟩; go_simp; with_reducible rfl)⟩) (ha : a.put N v = a' := by (simp only [Act.put, List.setIfInBounds_toArray, List.set_cons_zero, List.set_cons_succ, i64_w, i32_w]; rfl)) (hQ : ∀ c a w, Q (.panic c) (a.put oi.dst v) w → Q (.panic c) a w := by exact (fun _ _ _ h => h)) :
  wpAnyLast P md ops Q S ds (fuel + 1) l a w := take_ l' hi hN hc hQ hy hS ha h
theorem tst3 {i : Nat} {N : Option Tmp} {oi : Oper} {v : Value} {fuel : Nat} {l : Array Bool} {a a' : Act} {w : World} (l' : Array Bool) (hc : takeB md ops ds l l' i = true) (hS : S w) (h : wpAnyLast P md ops Q S ds fuel l' a' w)
  (hi : ops[i]? = some oi := by rfl) (hN : oi.dst = N := by rfl) (hy : YieldsIf P ops S oi v a := by exact Or.inl ⟨by rfl, by (rintro w' ⟨s0, s1, s2⟩; go_simp; with_reducible rfl)⟩) (ha : a.put N v = a' := by (simp only [Act.put, List.setIfInBounds_toArray, List.set_cons_zero, List.set_cons_succ, i64_w, i32_w]; rfl)) (hQ : ∀ c a w, Q (.panic c) (a.put oi.dst v) w → Q (.panic c) a w := by exact (fun _ _ _ h => h)) :
  wpAnyLast P md ops Q S ds (fuel + 1) l a w := take_ l' hi hN hc hQ hy hS ha h
theorem tst4 {i : Nat} {N : Option Tmp} {oi : Oper} {v : Value} {fuel : Nat} {l : Array Bool} {a a' : Act} {w : World} (l' : Array Bool) (hc : takeB md ops ds l l' i = true) (hS : S w) (h : wpAnyLast P md ops Q S ds fuel l' a' w)
  (hi : ops[i]? = some oi := by rfl) (hN : oi.dst = N := by rfl) (hy : YieldsIf P ops S oi v a := by exact Or.inl ⟨by rfl, by (rintro w' ⟨s0, s1, s2, s3⟩; go_simp; with_reducible rfl)⟩) (ha : a.put N v = a' := by (simp only [Act.put, List.setIfInBounds_toArray, List.set_cons_zero, List.set_cons_succ, i64_w, i32_w]; rfl)) (hQ : ∀ c a w, Q (.panic c) (a.put oi.dst v) w → Q (.panic c) a w := by exact (fun _ _ _ h => h)) :
  wpAnyLast P md ops Q S ds (fuel + 1) l a w := take_ l' hi hN hc hQ hy hS ha h
theorem tst5 {i : Nat} {N : Option Tmp} {oi : Oper} {v : Value} {fuel : Nat} {l : Array Bool} {a a' : Act} {w : World} (l' : Array Bool) (hc : takeB md ops ds l l' i = true) (hS : S w) (h : wpAnyLast P md ops Q S ds fuel l' a' w)
  (hi : ops[i]? = some oi := by rfl) (hN : oi.dst = N := by rfl) (hy : YieldsIf P ops S oi v a := by exact Or.inl ⟨by rfl, by (rintro w' ⟨s0, s1, s2, s3, s4⟩; go_simp; with_reducible rfl)⟩) (ha : a.put N v = a' := by (simp only [Act.put, List.setIfInBounds_toArray, List.set_cons_zero, List.set_cons_succ, i64_w, i32_w]; rfl)) (hQ : ∀ c a w, Q (.panic c) (a.put oi.dst v) w → Q (.panic c) a w := by exact (fun _ _ _ h => h)) :
  wpAnyLast P md ops Q S ds (fuel + 1) l a w := take_ l' hi hN hc hQ hy hS ha h
theorem tst6 {i : Nat} {N : Option Tmp} {oi : Oper} {v : Value} {fuel : Nat} {l : Array Bool} {a a' : Act} {w : World} (l' : Array Bool) (hc : takeB md ops ds l l' i = true) (hS : S w) (h : wpAnyLast P md ops Q S ds fuel l' a' w)
  (hi : ops[i]? = some oi := by rfl) (hN : oi.dst = N := by rfl) (hy : YieldsIf P ops S oi v a := by exact Or.inl ⟨by rfl, by (rintro w' ⟨s0, s1, s2, s3, s4, s5⟩; go_simp; with_reducible rfl)⟩) (ha : a.put N v = a' := by (simp only [Act.put, List.setIfInBounds_toArray, List.set_cons_zero, List.set_cons_succ, i64_w, i32_w]; rfl)) (hQ : ∀ c a w, Q (.panic c) (a.put oi.dst v) w → Q (.panic c) a w := by exact (fun _ _ _ h => h)) :
  wpAnyLast P md ops Q S ds (fuel + 1) l a w := take_ l' hi hN hc hQ hy hS ha h
end
end Go.Proofs.YtldifdmfefpglaaDoorW.PrintMore

/- More short words: all cells of a box at once; a table that is as it was. -/
namespace Go.Proofs.YtldifdmfefpglaaDoorW.PrintMore
open Go.RowKit Go.Proofs.YtldifdmfefpglaaDoorW.PrintWords Go.Proofs.YtldifdmfefpglaaDoorW.PrintLast
set_option linter.unusedVariables false
section
variable {W : World} {g : Nat} {t : TypeId} {a b c d e f : Value}
theorem bc1 (h : W.heap[g]? = some (.cells #[a] t (0, 0))) : W.cell? ⟨g, 0, none⟩ = some a := (blk_cell h 0).trans rfl
theorem bc2 (h : W.heap[g]? = some (.cells #[a, b] t (0, 0))) : W.cell? ⟨g, 0, none⟩ = some a ∧ W.cell? ⟨g, 1, none⟩ = some b := ⟨(blk_cell h 0).trans rfl, (blk_cell h 1).trans rfl⟩
theorem bc3 (h : W.heap[g]? = some (.cells #[a, b, c] t (0, 0))) : W.cell? ⟨g, 0, none⟩ = some a ∧ W.cell? ⟨g, 1, none⟩ = some b ∧ W.cell? ⟨g, 2, none⟩ = some c := ⟨(blk_cell h 0).trans rfl, (blk_cell h 1).trans rfl, (blk_cell h 2).trans rfl⟩
theorem bc4 (h : W.heap[g]? = some (.cells #[a, b, c, d] t (0, 0))) : W.cell? ⟨g, 0, none⟩ = some a ∧ W.cell? ⟨g, 1, none⟩ = some b ∧ W.cell? ⟨g, 2, none⟩ = some c ∧ W.cell? ⟨g, 3, none⟩ = some d := ⟨(blk_cell h 0).trans rfl, (blk_cell h 1).trans rfl, (blk_cell h 2).trans rfl, (blk_cell h 3).trans rfl⟩
theorem bc5 (h : W.heap[g]? = some (.cells #[a, b, c, d, e] t (0, 0))) : W.cell? ⟨g, 0, none⟩ = some a ∧ W.cell? ⟨g, 1, none⟩ = some b ∧ W.cell? ⟨g, 2, none⟩ = some c ∧ W.cell? ⟨g, 3, none⟩ = some d ∧ W.cell? ⟨g, 4, none⟩ = some e := ⟨(blk_cell h 0).trans rfl, (blk_cell h 1).trans rfl, (blk_cell h 2).trans rfl, (blk_cell h 3).trans rfl, (blk_cell h 4).trans rfl⟩
variable {cs : Array Value}
theorem bf1 (h : W.heap[g]? = some (.cells cs t (0, 0))) : W.frozen? ⟨g, 0, none⟩ = false := blk_frozen h 0
theorem bf2 (h : W.heap[g]? = some (.cells cs t (0, 0))) : W.frozen? ⟨g, 0, none⟩ = false ∧ W.frozen? ⟨g, 1, none⟩ = false := ⟨blk_frozen h 0, blk_frozen h 1⟩
theorem bf3 (h : W.heap[g]? = some (.cells cs t (0, 0))) : W.frozen? ⟨g, 0, none⟩ = false ∧ W.frozen? ⟨g, 1, none⟩ = false ∧ W.frozen? ⟨g, 2, none⟩ = false := ⟨blk_frozen h 0, blk_frozen h 1, blk_frozen h 2⟩
theorem bf4 (h : W.heap[g]? = some (.cells cs t (0, 0))) : W.frozen? ⟨g, 0, none⟩ = false ∧ W.frozen? ⟨g, 1, none⟩ = false ∧ W.frozen? ⟨g, 2, none⟩ = false ∧ W.frozen? ⟨g, 3, none⟩ = false := ⟨blk_frozen h 0, blk_frozen h 1, blk_frozen h 2, blk_frozen h 3⟩
theorem bf5 (h : W.heap[g]? = some (.cells cs t (0, 0))) : W.frozen? ⟨g, 0, none⟩ = false ∧ W.frozen? ⟨g, 1, none⟩ = false ∧ W.frozen? ⟨g, 2, none⟩ = false ∧ W.frozen? ⟨g, 3, none⟩ = false ∧ W.frozen? ⟨g, 4, none⟩ = false := ⟨blk_frozen h 0, blk_frozen h 1, blk_frozen h 2, blk_frozen h 3, blk_frozen h 4⟩
end
end Go.Proofs.YtldifdmfefpglaaDoorW.PrintMore
namespace Go.Proofs.YtldifdmfefpglaaDoor
open Go.RowKit Go.Proofs.YtldifdmfefpglaaDoorW.PrintWords Go.Proofs.YtldifdmfefpglaaDoorW.PrintLast Go.Proofs.YtldifdmfefpglaaDoorW.PrintMore
theorem tbz {w W : World} (T : Aside0 (Tab.Tabs w)) (h : Below w.heap.size w W := by repeat (first | (with_reducible first | exact HB.out | apply below_alloc | apply pw_below_drewN | apply below_drew1 | refine below_set ?_ (Aside0.out (by assumption))) | exact HB.out | exact Below.refl _ _)) : Tab.Tabs W := Tab.Tabs.below T.out h
end Go.Proofs.YtldifdmfefpglaaDoor

/- A map of the call's own, from integers to rows of integers of the call's own: each element is read as the very value that it is ('held'), so that the kit's laws on a map of plain elements serve; the rows stand beside it. -/
namespace Go.Proofs.YtldifdmfefpglaaDoorW.PrintMore
open Go.RowKit Go.Proofs.YtldifdmfefpglaaDoorW.PrintWords Go.Proofs.YtldifdmfefpglaaDoorW.PrintLast
open Go.Maps (Keyed int_keyed keyOf_int_mk)
set_option linter.unusedVariables false

def anyElem (v : Value) : Option (DataW Value × List MemPlace) := some (.held v, [])
theorem anyElem_inv {v u : Value} {ps : List MemPlace} (h : anyElem v = some (.held u, ps)) : v = u := by
 simp only [anyElem, Option.some.injEq, Prod.mk.injEq, DataW.held.injEq] at h
 exact h.1
def hasKey (q : List (Int × List Int)) (s : Int) : Bool := q.any fun p => p.1 == s
def RMap (P : Program) (kk e : TypeId) (w : World) (base b n : Nat) (S : Nat → Prop) (q : List (Int × List Int)) : Prop :=
 ∃ D : DataW Value, w.ownsMap P kk anyElem b n D ∧ (∀ s, (Lit.int .i64 s).wf = true → Maps.has D (.int .i64 s) = hasKey q s) ∧
  ∀ p ∈ q, ∃ v, (∀ z, D.atKey (.int .i64 p.1) z = .held v) ∧ (Kd.int .i64).R e w base S v p.2
theorem ownsMap_keep {P : Program} {kk : TypeId} {H : Type} {R : Value → Option (DataW H × List MemPlace)} {w w1 : World} {b n : Nat} {D : DataW H} (h : w.ownsMap P kk R b n D) (hb : w1.heap[b]? = w.heap[b]?) : w1.ownsMap P kk R b n D := by
 obtain ⟨es, clock, h1, r⟩ := h
 exact ⟨es, clock, hb.trans h1, r⟩
section
variable {P : Program} {kk e : TypeId} {w w1 : World} {base b n : Nat} {S S' : Nat → Prop} {q : List (Int × List Int)}
theorem RMap.lt (h : RMap P kk e w base b n S q) : b < w.heap.size := by
 obtain ⟨D, h1, _⟩ := h
 exact h1.lt
theorem RMap.made (P : Program) (kk e : TypeId) (w : World) (base : Nat) (S : Nat → Prop) : RMap P kk e (w.alloc (.map #[] 0)) base w.heap.size 0 S [] :=
 ⟨.map [], World.ownsMap_made w P kk anyElem, fun _ _ => rfl, fun _ h => by cases h⟩
theorem RMap.keep (h : RMap P kk e w base b n S q) (hb : w1.heap[b]? = w.heap[b]?) (hs : ∀ k, S k → k < w.heap.size → w1.heap[k]? = w.heap[k]?) : RMap P kk e w1 base b n S q := by
 obtain ⟨D, h1, h2, h3⟩ := h
 refine ⟨D, ownsMap_keep h1 hb, h2, fun p hp => ?_⟩
 obtain ⟨v, hv, hr⟩ := h3 p hp
 exact ⟨v, hv, Kd.R_step hr hs⟩
theorem RMap.below (h : RMap P kk e w base b n S q) (hb : Below w.heap.size w w1) : RMap P kk e w1 base b n S q :=
 h.keep (hb.block b h.lt) (fun k _ hk => hb.block k hk)
theorem RMap.alloc (h : RMap P kk e w base b n S q) (o : Obj) : RMap P kk e (w.alloc o) base b n S q := h.below (below_alloc (Below.refl _ _) o)
theorem RMap.drewN (h : RMap P kk e w base b n S q) (m : Nat) : RMap P kk e (w.drewN m) base b n S q := h.keep rfl (fun _ _ _ => rfl)
theorem RMap.drew (h : RMap P kk e w base b n S q) : RMap P kk e w.drew base b n S q := h.keep rfl (fun _ _ _ => rfl)
theorem RMap.grown (h : RMap P kk e w base b n S q) {row : Option Nat} (hg : w.grownBy w1 row) (hb : some b ≠ row) (hs : ∀ k, S k → some k ≠ row) : RMap P kk e w1 base b n S q :=
 h.keep (hg.block b h.lt hb) (fun k hk hlt => hg.block k hlt (hs k hk))
theorem RMap.look_ok {t E : TypeId} (h : RMap P kk e w base b n S q) (ht : P.underlying t = some (.map kk E)) (hk : P.underlying kk = some (.int .i64)) (hz : (zeroValue E).run P w = .ok (.slice none 0 0) w) {s : Int} (hw : (Lit.int .i64 s).wf = true) :
  ∃ v, (Instr.lookup t (.map (some b)) (.int .i64 s) true).run P w = .ok (.tuple #[v, .bool (hasKey q s)]) w ∧ (hasKey q s = false → v = .slice none 0 0) ∧ ∀ zs, (s, zs) ∈ q → (Kd.int .i64).R e w base S v zs := by
 obtain ⟨D, h1, h2, h3⟩ := h
 obtain ⟨v, ps, hrun, hv⟩ := h1.look_ok (int_keyed hk) ht hz (zd := .held (.slice none 0 0)) (zp := []) rfl (keyOf_int_mk hk hw)
 refine ⟨v, by rw [hrun, h2 s hw], fun hn => ?_, fun zs hm => ?_⟩
 ·
  rw [Maps.atKey_of_not_has ((h2 s hw).trans hn)] at hv
  exact anyElem_inv hv
 ·
  obtain ⟨v', hv', hr⟩ := h3 _ hm
  rw [hv'] at hv
  rw [anyElem_inv hv]
  exact hr
theorem RMap.look {t E : TypeId} (h : RMap P kk e w base b n S q) (ht : P.underlying t = some (.map kk E)) (hk : P.underlying kk = some (.int .i64)) (hz : (zeroValue E).run P w = .ok (.slice none 0 0) w) {s : Int} (hw : (Lit.int .i64 s).wf = true) :
  ∃ v, (Instr.lookup t (.map (some b)) (.int .i64 s) false).run P w = .ok v w ∧ ∀ zs, (s, zs) ∈ q → (Kd.int .i64).R e w base S v zs := by
 obtain ⟨D, h1, h2, h3⟩ := h
 obtain ⟨v, ps, hrun, hv⟩ := h1.lookup (int_keyed hk) ht hz (zd := .held (.slice none 0 0)) (zp := []) rfl (keyOf_int_mk hk hw)
 refine ⟨v, hrun, fun zs hm => ?_⟩
 obtain ⟨v', hv', hr⟩ := h3 _ hm
 rw [hv'] at hv
 rw [anyElem_inv hv]
 exact hr
theorem hasKey_false {q : List (Int × List Int)} {s : Int} (h : hasKey q s = false) : ∀ p ∈ q, p.1 ≠ s := fun p hp e => by
 have := List.any_eq_false.1 h p hp
 simp [e] at this
theorem RMap.store {t E : TypeId} (h : RMap P kk e w base b n S q) (ht : P.underlying t = some (.map kk E)) (hk : P.underlying kk = some (.int .i64)) (hn : n < maxLen) {s : Int} (hw : (Lit.int .i64 s).wf = true) (hq : ∀ p ∈ q, (Lit.int .i64 p.1).wf = true)
  (hnew : hasKey q s = false) {v : Value} {zs : List Int} (hv : (Kd.int .i64).R e w base S' v zs) (hS : ∀ k, S k → S' k) (hSb : ¬ S' b) :
  ∃ w', (Instr.mapUpdate t (.map (some b)) (.int .i64 s) v).run P w = .ok () w' ∧ RMap P kk e w' base b (n + 1) S' (q ++ [(s, zs)]) ∧ w.grownBy w' (some b) := by
 obtain ⟨D, h1, h2, h3⟩ := h
 obtain ⟨w', hrun, ho, hg⟩ := h1.update (int_keyed hk) ht hn (val := v) (d := .held v) (ps := []) (keyOf_int_mk hk hw) rfl
 have hrow : ∀ k, S' k → some k ≠ some b := fun k hk e => by
  injection e with e
  exact hSb (e ▸ hk)
 have hkey : WideAt.IsKeyLit (.int .i64 s) := (int_keyed hk).key (keyOf_int_mk hk hw)
 refine ⟨w', hrun, ⟨_, ho, fun s' hw' => ?_, fun p hp => ?_⟩, hg⟩
 ·
  have e1 : hasKey (q ++ [(s, zs)]) s' = (hasKey q s' || (s == s')) := by simp [hasKey]
  rw [e1]
  by_cases hss : s' = s
  ·
   subst hss
   rw [Maps.has_put_same h1.isMap hkey]
   simp
  ·
   rw [Maps.has_put_other (fun e => hss (by injection e)), h2 s' hw']
   have : (s == s') = false := beq_eq_false_iff_ne.mpr (fun e => hss e.symm)
   rw [this, Bool.or_false]
 ·
  rcases List.mem_append.1 hp with hp | hp
  ·
   obtain ⟨u, hu, hr⟩ := h3 p hp
   refine ⟨u, fun z => ?_, Kd.R_grown (Kd.R_mono hr hS) hg hrow⟩
   rw [Maps.atKey_put_other (fun e => hasKey_false hnew p hp (by injection e)), hu]
  ·
   rw [List.mem_singleton] at hp
   subst hp
   exact ⟨v, fun z => Maps.atKey_put_same h1.isMap hkey _ _, Kd.R_grown hv hg hrow⟩
end
theorem rmap_store {P : Program} {w : World} {ops : Array Oper} {rest : List Oper} {o : Oper} {a : Act} {Q : Exit → Act → World → Prop} {kk e t E : TypeId} {base b n : Nat} {S S' : Nat → Prop} {q : List (Int × List Int)}
  (hg : o.guard = none) (m x v : Operand) (hop : o.op = Op.mapUpdate t m x v ∨ o.op = Op.insert t m x v) (hm : a.eval m = .map (some b)) (s : Int) (hx : a.eval x = .int .i64 s) (u : Value) (hv : a.eval v = u)
  (h : RMap P kk e w base b n S q) (ht : P.underlying t = some (.map kk E)) (hk : P.underlying kk = some (.int .i64)) (hn : n < maxLen) (hw : (Lit.int .i64 s).wf = true) (hq : ∀ p ∈ q, (Lit.int .i64 p.1).wf = true)
  (hnew : hasKey q s = false) (zs : List Int) (hr : (Kd.int .i64).R e w base S' u zs) (hS : ∀ k, S k → S' k) (hSb : ¬ S' b)
  (hK : ∀ w', RMap P kk e w' base b (n + 1) S' (q ++ [(s, zs)]) → w.grownBy w' (some b) → wpList P ops Q rest (a.put o.dst undef) w') :
  wpList P ops Q (o :: rest) a w := by
 refine wpList_plain hg fun K' hK' => ?_
 obtain ⟨w', hrun, r1, r2⟩ := h.store ht hk hn hw hq hnew hr hS hSb
 unfold Oper.wp
 rcases hop with hop | hop
 ·
  simp [execOp, hop, hm, hx, hv, hrun, Result.andThen]
  exact hK' _ _ (hK w' r1 r2)
 ·
  simp [execOp, hop, hm, hx, hv, hrun, Result.andThen]
  exact hK' _ _ (hK w' r1 r2)
end Go.Proofs.YtldifdmfefpglaaDoorW.PrintMore

/- The keys of a map of whole numbers, collected by a range loop: a permutation of the keys, whatever the order; permutations sort to one list. -/
namespace Go.Proofs.YtldifdmfefpglaaDoorW.PrintMore
open Go.RowKit Go.Proofs.YtldifdmfefpglaaDoorW.PrintWords Go.Proofs.YtldifdmfefpglaaDoorW.PrintLast
open Go.Maps (Keyed int_keyed keyOf_int_mk)
set_option linter.unusedVariables false

def Coll (q : List (Int × List Int)) (left : Lit → Bool) (out : List Int) : Prop :=
 out.Nodup ∧ (∀ x ∈ out, hasKey q x = true) ∧ ∀ x, (Lit.int .i64 x).wf = true → left (.int .i64 x) = (hasKey q x && !out.contains x)
theorem Coll.start {q : List (Int × List Int)} {left : Lit → Bool} (h : ∀ s, (Lit.int .i64 s).wf = true → left (.int .i64 s) = hasKey q s) : Coll q left [] :=
 ⟨List.nodup_nil, fun _ hx => (by cases hx), fun x hx => by simp [h x hx]⟩
theorem Coll.step {q : List (Int × List Int)} {left : Lit → Bool} {out : List Int} (h : Coll q left out) {x : Int} (hw : (Lit.int .i64 x).wf = true) (hl : left (.int .i64 x) = true) :
  Coll q (fun z => left z && !z.sameKey (.int .i64 x)) (out ++ [x]) := by
 obtain ⟨h1, h2, h3⟩ := h
 rw [h3 x hw, Bool.and_eq_true, Bool.not_eq_true'] at hl
 have hx : x ∉ out := fun e => by simp [e] at hl
 refine ⟨List.nodup_append.2 ⟨h1, by simp, fun a ha b hb e => ?_⟩, fun y hy => ?_, fun y hy => ?_⟩
 ·
  rw [List.mem_singleton] at hb
  subst hb; subst e
  exact hx ha
 ·
  rcases List.mem_append.1 hy with hy | hy
  ·
   exact h2 y hy
  ·
   rw [List.mem_singleton] at hy; subst hy; exact hl.1
 ·
  simp only [h3 y hy]
  by_cases e : y = x
  ·
   subst e
   rw [WideAt.sameKey_self (a := .int .i64 y) trivial]
   simp
  ·
   have : Lit.sameKey (.int .i64 y) (.int .i64 x) = false := Bool.eq_false_iff.2 (fun h => e (by have := WideAt.sameKey_eq h; injection this))
   rw [this]
   simp [e]
theorem Coll.perm {q : List (Int × List Int)} {left : Lit → Bool} {out : List Int} (h : Coll q left out) (hl : ∀ kl, left kl = false) (hw : ∀ p ∈ q, (Lit.int .i64 p.1).wf = true) (hn : (q.map Prod.fst).Nodup) : out.Perm (q.map Prod.fst) := by
 obtain ⟨h1, h2, h3⟩ := h
 refine (List.perm_ext_iff_of_nodup h1 hn).2 fun x => ⟨fun hx => ?_, fun hx => ?_⟩
 ·
  obtain ⟨p, hp, e⟩ := List.any_eq_true.1 (h2 x hx)
  exact List.mem_map.2 ⟨p, hp, by simpa using e⟩
 ·
  obtain ⟨p, hp, e⟩ := List.mem_map.1 hx
  have h4 := h3 x (e ▸ hw p hp)
  rw [hl] at h4
  have h5 : hasKey q x = true := List.any_eq_true.2 ⟨p, hp, by simpa using e⟩
  rw [h5] at h4
  simpa using h4
theorem mergeSort_int_perm {l l' : List Int} (h : l.Perm l') : (l.mergeSort fun x y => decide (x ≤ y)) = l'.mergeSort fun x y => decide (x ≤ y) := by
 have tr : ∀ a b c : Int, decide (a ≤ b) = true → decide (b ≤ c) = true → decide (a ≤ c) = true := fun a b c h1 h2 => by simp only [decide_eq_true_eq] at *; omega
 have tot : ∀ a b : Int, (decide (a ≤ b) || decide (b ≤ a)) = true := fun a b => by simp only [Bool.or_eq_true, decide_eq_true_eq]; omega
 refine List.Perm.eq_of_pairwise (le := fun a b => decide (a ≤ b) = true) (fun a b _ _ h1 h2 => ?_) (List.pairwise_mergeSort tr tot l) (List.pairwise_mergeSort tr tot l') (((List.mergeSort_perm l _).trans h).trans (List.mergeSort_perm l' _).symm)
 simp only [decide_eq_true_eq] at h1 h2
 omega
theorem ownsMap_size {P : Program} {kk : TypeId} {H : Type} {R : Value → Option (DataW H × List MemPlace)} {w : World} {b n : Nat} {D : DataW H} (h : w.ownsMap P kk R b n D) : Maps.size D ≤ n := by
 obtain ⟨es, clock, _, _, h1, rfl⟩ := h
 rw [Maps.size_eq, length_sorted]
 simpa using h1
theorem anyElem_all (v : Value) (y : DataW Value × List MemPlace) (_ : anyElem v = some y) : ∃ c : Value, v = id c := ⟨v, rfl⟩
end Go.Proofs.YtldifdmfefpglaaDoorW.PrintMore

-- Written by wip/xprint.py of this repo, over the kit's print.py: out of the translation; the oracles in it are by hand. Not trusted: Lean checks it.
namespace Go.Proofs.YtldifdmfefpglaaDoor.XFeed
open Go.RowKit Go.Proofs.YtldifdmfefpglaaDoorW.PrintWords Go.Proofs.YtldifdmfefpglaaDoorW.PrintLast Go.Proofs.YtldifdmfefpglaaDoorW.PrintMore
attribute [local go_sem] max2_int min2_int max_two min_two max_three min_three max_four min_four   -- for this text's walks alone
set_option linter.unusedVariables false
set_option linter.unusedSimpArgs false



def errW : Option Int → Value
 | none => .nilIface
 | some c => .iface 0 (.int .i64 c)
theorem errW_none : errW none = .nilIface := rfl
theorem errW_some (c : Int) : errW (some c) = .iface 0 (.int .i64 c) := rfl

theorem info3 : (Tryd.prog.info? 3).map (fun i => (i.zero, i.size, i.bytes)) = some (some (.int .i64 0), 1, 8) := by kernel_rfl
theorem info4 : (Tryd.prog.info? 4).map (fun i => (i.zero, i.size, i.bytes)) = some (some (.bool false), 1, 1) := by kernel_rfl
theorem info80 : (Tryd.prog.info? 80).map (fun i => (i.zero, i.size, i.bytes)) = some (some (.int .u64 0), 1, 8) := by kernel_rfl
-- the values' own types
/-! #### struct type 47 -/
structure S47 where
 f0 : Int
 f1 : Int
def z47 : S47 := ⟨(0 : Int), (0 : Int)⟩
def k47 : Kd S47 := Kd.iso (Kd.pair (Kd.int .i64) (Kd.int .i64)) (fun x : S47 => (x.f0, x.f1))
theorem k47_open {w : World} {x : S47} {cs : List Value} (h : k47.K w x cs) : cs = [.int .i64 x.f0, .int .i64 x.f1] := by
 obtain ⟨_, _, rfl, rfl, rfl⟩ := h
 exact rfl
theorem k47_mkM (w : World) (base : Nat) (ok : Nat → Prop) (x : S47)  : k47.M w base ok x [.int .i64 x.f0, .int .i64 x.f1] := ⟨[.int .i64 x.f0], [.int .i64 x.f1], rfl, rfl, rfl⟩
def rd_T47 (xs : List S47) (i : Int) : S47 := xs.getD i.toNat z47
theorem at_T47 {w : World} {A : Option Addr} {n : Nat} {xs : List S47} (h : Kd.C k47 w A n xs) (i : Int) (h0 : 0 ≤ i) (h1 : i < n) : ∃ ad , A = some ad ∧ w.cell? (ad.add (i.toNat * 2)) = some (.int .i64 (rd_T47 xs i).f0) ∧ w.cell? ⟨(ad.add (i.toNat * 2)).block, (ad.add (i.toNat * 2)).off + 1, none⟩ = some (.int .i64 (rd_T47 xs i).f1) := by
 obtain ⟨ad, c, e, _, hK, hc0⟩ := Kd.C_get h z47 i h0 h1
 have hc : ∀ j u, c[j]? = some u → w.cell? (ad.add (i.toNat * 2 + j)) = some u := hc0
 obtain rfl := k47_open hK
 exact ⟨ad, e, hc 0 _ rfl, by rw [← add_field _ _ 1 (by omega)]; exact hc 1 _ rfl⟩

/-! #### struct type 49 -/
structure S49 where
 f0 : Int
 f1 : Int
def z49 : S49 := ⟨(0 : Int), (0 : Int)⟩
def k49 : Kd S49 := Kd.iso (Kd.pair (Kd.int .i64) (Kd.int .i64)) (fun x : S49 => (x.f0, x.f1))
theorem k49_open {w : World} {x : S49} {cs : List Value} (h : k49.K w x cs) : cs = [.int .i64 x.f0, .int .i64 x.f1] := by
 obtain ⟨_, _, rfl, rfl, rfl⟩ := h
 exact rfl
theorem k49_mkM (w : World) (base : Nat) (ok : Nat → Prop) (x : S49)  : k49.M w base ok x [.int .i64 x.f0, .int .i64 x.f1] := ⟨[.int .i64 x.f0], [.int .i64 x.f1], rfl, rfl, rfl⟩
def rd_T49 (xs : List S49) (i : Int) : S49 := xs.getD i.toNat z49
theorem at_T49 {w : World} {A : Option Addr} {n : Nat} {xs : List S49} (h : Kd.C k49 w A n xs) (i : Int) (h0 : 0 ≤ i) (h1 : i < n) : ∃ ad , A = some ad ∧ w.cell? (ad.add (i.toNat * 2)) = some (.int .i64 (rd_T49 xs i).f0) ∧ w.cell? ⟨(ad.add (i.toNat * 2)).block, (ad.add (i.toNat * 2)).off + 1, none⟩ = some (.int .i64 (rd_T49 xs i).f1) := by
 obtain ⟨ad, c, e, _, hK, hc0⟩ := Kd.C_get h z49 i h0 h1
 have hc : ∀ j u, c[j]? = some u → w.cell? (ad.add (i.toNat * 2 + j)) = some u := hc0
 obtain rfl := k49_open hK
 exact ⟨ad, e, hc 0 _ rfl, by rw [← add_field _ _ 1 (by omega)]; exact hc 1 _ rfl⟩

end Go.Proofs.YtldifdmfefpglaaDoor.XFeed

namespace Go.Proofs.YtldifdmfefpglaaDoor.XFeed
open Go.RowKit Go.Proofs.YtldifdmfefpglaaDoorW.PrintWords Go.Proofs.YtldifdmfefpglaaDoorW.PrintLast Go.Proofs.YtldifdmfefpglaaDoorW.PrintMore
attribute [local go_sem] max2_int min2_int max_two min_two max_three min_three max_four min_four   -- for this text's walks alone
set_option linter.unusedVariables false
set_option linter.unusedSimpArgs false
/-! ### dropperref05_section: function 17 -/
def dropperref05_section.f (a0_0 : Int) (l0_1 : List (S47)) (l0_2 : List (S49)) (a1 : Int) : Option (Bool) := if a1 ≥ 0 then (some (decide (a1 < a0_0))) else (some false)
set_option maxHeartbeats 8000000 in
set_option maxRecDepth 100000 in
theorem dropperref05_section.calls (a0_0 : Int) (A0_1 : Option Addr) (c0_1 : Nat) (l0_1 : List (S47)) (A0_2 : Option Addr) (c0_2 : Nat) (l0_2 : List (S49)) (a1 : Int) (r : Bool) (w : World) (hr0_1 : Kd.C k47 w A0_1 l0_1.length l0_1) (hc0_1 : l0_1.length ≤ c0_1) (hr0_2 : Kd.C k49 w A0_2 l0_2.length l0_2) (hc0_2 : l0_2.length ≤ c0_2) (h : dropperref05_section.f a0_0 l0_1 l0_2 a1 = some r) :
  Calls Tryd.prog 17 #[.agg #[.int .i64 a0_0, .slice A0_1 l0_1.length c0_1, .slice A0_2 l0_2.length c0_2], .int .i64 a1] w fun e w' => e = .returned (.bool r) ∧ Below w.heap.size w w' := by
 have hu25 := Tryd.underlying25
 have HR0_1 := Aside0.mk hr0_1
 have HC0_1 := Aside0.mk hc0_1
 clear hr0_1 hc0_1
 have HR0_2 := Aside0.mk hr0_2
 have HC0_2 := Aside0.mk hc0_2
 clear hr0_2 hc0_2
 have HB := Aside0.mk (Below.refl w.heap.size w)
 have H : (if a1 ≥ 0 then (some (decide (a1 < a0_0))) else (some false)) = some r := h
 clear h
 by_cases c3 : a1 ≥ 0
 ·
  rw [if_pos c3] at H
  have c3b0 : decide (0 ≤ a1) = true := decide_eq_true c3
  clear c3
  obtain rfl := Option.some.inj H
  go_enter Tryd.func17, Tryd.ntmps17
  go_wp2_with (first | ((with_reducible refine gate_dst (N := 2) rfl ?_); refine box_event ?hg (N := 2) ?hd (cs := #[.int .i64 a0_0, .slice A0_1 l0_1.length c0_1, .slice A0_2 l0_2.length c0_2]) (t := 25) ?hr ?_; (case hd => rfl); (case hg => rfl); (case hr => first | (go_simp; done) | (go_simp; rfl)); intro gb101 hg w4 hbox hb; have BK101 := Aside0.mk (hbox); have GW101 := bsz (w := w) hg; have GE101 := GW101; replace HB := Aside0.mk (below_step bel hb); clear hb hbox hg; obtain ⟨hcz5_0, hcz5_1, hcz5_2⟩ := bc3 BK101.out))
  go_ret
  exact ⟨ezz, bel⟩
 ·
  rw [if_neg c3] at H
  have c3b0 : decide (0 ≤ a1) = false := decide_eq_false c3
  clear c3
  obtain rfl := Option.some.inj H
  go_enter Tryd.func17, Tryd.ntmps17
  go_wp2_with (first | ((with_reducible refine gate_dst (N := 2) rfl ?_); refine box_event ?hg (N := 2) ?hd (cs := #[.int .i64 a0_0, .slice A0_1 l0_1.length c0_1, .slice A0_2 l0_2.length c0_2]) (t := 25) ?hr ?_; (case hd => rfl); (case hg => rfl); (case hr => first | (go_simp; done) | (go_simp; rfl)); intro gb101 hg w6 hbox hb; have BK101 := Aside0.mk (hbox); have GW101 := bsz (w := w) hg; have GE101 := GW101; replace HB := Aside0.mk (below_step bel hb); clear hb hbox hg))
  go_ret
  exact ⟨ezz, bel⟩

/-! ### dropperref05_Valid: function 4 -/
mutual
def dropperref05_Valid.j0 : Nat → Bool → Int → List (S47) → List (S49) → Option (Bool)
 | 0, _, _, _, _ => none
 | k + 1, x26, x103000, x103001, x103002 => if x26 = true then (some false) else (dropperref05_Valid.l0 k 0 x103000 x103001 x103002)
def dropperref05_Valid.l0 : Nat → Int → Int → List (S47) → List (S49) → Option (Bool)
 | 0, _, _, _, _ => none
 | k + 1, x3, x103000, x103001, x103002 => if x3 < (x103001.length : Int) then (if 0 ≤ x3 then ((dropperref05_section.f x103000 x103001 x103002 ((rd_T47 x103001 x3).f0)).bind fun t105 => (if t105 = true then ((dropperref05_section.f x103000 x103001 x103002 ((rd_T47 x103001 x3).f1)).bind fun t106 => (if t106 = true then (if ((rd_T47 x103001 x3).f0) = ((rd_T47 x103001 x3).f1) then (some false) else (dropperref05_Valid.l0 k (wrap64 (x3 + 1)) x103000 x103001 x103002)) else (some false))) else (some false))) else (none)) else (dropperref05_Valid.l1 k 0 x103000 x103001 x103002)
def dropperref05_Valid.l1 : Nat → Int → Int → List (S47) → List (S49) → Option (Bool)
 | 0, _, _, _, _ => none
 | k + 1, x5, x103000, x103001, x103002 => if x5 < (x103002.length : Int) then (if 0 ≤ x5 then ((dropperref05_section.f x103000 x103001 x103002 ((rd_T49 x103002 x5).f0)).bind fun t109 => (if t109 = true then (if ((rd_T49 x103002 x5).f1) < 1 then (some false) else (if ((rd_T49 x103002 x5).f1) > 3 then (some false) else (dropperref05_Valid.l1 k (wrap64 (x5 + 1)) x103000 x103001 x103002))) else (some false))) else (none)) else (some true)
end
def dropperref05_Valid.f (k : Nat) (a0_0 : Int) (l0_1 : List (S47)) (l0_2 : List (S49)) : Option (Bool) := if a0_0 < 1 then (dropperref05_Valid.j0 k true a0_0 l0_1 l0_2) else (if a0_0 > 8 then (dropperref05_Valid.j0 k true a0_0 l0_1 l0_2) else (if (l0_1.length : Int) > 10 then (dropperref05_Valid.j0 k true a0_0 l0_1 l0_2) else (dropperref05_Valid.j0 k (decide ((l0_2.length : Int) > 6)) a0_0 l0_1 l0_2)))
set_option maxHeartbeats 8000000 in
set_option maxRecDepth 100000 in
theorem dropperref05_Valid.calls (k : Nat) (a0_0 : Int) (A0_1 : Option Addr) (c0_1 : Nat) (l0_1 : List (S47)) (A0_2 : Option Addr) (c0_2 : Nat) (l0_2 : List (S49)) (r : Bool) (w : World) (hr0_1 : Kd.C k47 w A0_1 l0_1.length l0_1) (hc0_1 : l0_1.length ≤ c0_1) (hr0_2 : Kd.C k49 w A0_2 l0_2.length l0_2) (hc0_2 : l0_2.length ≤ c0_2) (h : dropperref05_Valid.f k a0_0 l0_1 l0_2 = some r) :
  Calls Tryd.prog 4 #[.agg #[.int .i64 a0_0, .slice A0_1 l0_1.length c0_1, .slice A0_2 l0_2.length c0_2]] w fun e w' => e = .returned (.bool r) ∧ Below w.heap.size w w' := by
 have hu25 := Tryd.underlying25
 have hu47 := Tryd.underlying47
 have hu49 := Tryd.underlying49
 have HR0_1 := Aside0.mk hr0_1
 have HC0_1 := Aside0.mk hc0_1
 clear hr0_1 hc0_1
 have HR0_2 := Aside0.mk hr0_2
 have HC0_2 := Aside0.mk hc0_2
 clear hr0_2 hc0_2
 have HB := Aside0.mk (Below.refl w.heap.size w)
 have H : (if a0_0 < 1 then (dropperref05_Valid.j0 k true a0_0 l0_1 l0_2) else (if a0_0 > 8 then (dropperref05_Valid.j0 k true a0_0 l0_1 l0_2) else (if (l0_1.length : Int) > 10 then (dropperref05_Valid.j0 k true a0_0 l0_1 l0_2) else (dropperref05_Valid.j0 k (decide ((l0_2.length : Int) > 6)) a0_0 l0_1 l0_2)))) = some r := h
 clear h
 have HC2 := Aside0.mk H
 clear H
 go_enter Tryd.func4, Tryd.ntmps4
 go_upto_region 1 with (first | ((with_reducible refine gate_dst (N := 1) rfl ?_); (try (refine gate_guard (by rfl) ?_; dsimp only)); refine box_event ?hg (N := 1) ?hd (cs := #[.int .i64 a0_0, .slice A0_1 l0_1.length c0_1, .slice A0_2 l0_2.length c0_2]) (t := 25) ?hr ?_; (case hd => rfl); (case hg => rfl); (case hr => first | (go_simp; done) | (go_simp; rfl)); intro gb102 hg w3 hbox hb; have BK102 := Aside0.mk (hbox); have GW102 := bsz (w := w) hg; have GE102 := GW102; replace HB := Aside0.mk (below_step bel hb); clear hb hbox hg))
 (try simp only [Act.put, List.setIfInBounds_toArray, List.set_cons_zero, List.set_cons_succ])
 go_cut [26] (fun v26 wc => ∃ (kq : Nat) (x26_1 : Bool), v26 = .bool x26_1 ∧ Aside0 (dropperref05_Valid.j0 kq x26_1 a0_0 l0_1 l0_2 = some r) ∧ Aside0 (kq ≤ k) ∧ Aside0 (wc.heap[gb102]? = some (.cells #[.int .i64 a0_0, (.slice A0_1 l0_1.length c0_1), (.slice A0_2 l0_2.length c0_2)] 25 (0, 0))) ∧ Aside0 (Below w.heap.size w wc))
 case first =>
  have H := HC2.out
  clear HC2
  by_cases c4 : a0_0 < 1
  ·
   rw [if_pos c4] at H
   have c4b0 : decide (a0_0 < 1) = true := decide_eq_true c4
   clear c4
   (first | rw [c4b0] | (simp only [i64_w, i32_w]; rw [c4b0]) | skip)
   have H' := Aside0.mk H
   clear H
   obtain ⟨hcz5_0, hcz5_1, hcz5_2⟩ := bc3 BK102.out
   obtain ⟨hfz5_0, hfz5_1, hfz5_2⟩ := bf3 BK102.out
   go_wp2
   go_meet
   case rel => exact ⟨_, (true), rsz, H', ⟨by first | omega | exact Nat.le_refl _⟩, ⟨blkz⟩, ⟨bel⟩⟩
  ·
   rw [if_neg c4] at H
   have c4b0 : decide (a0_0 < 1) = false := decide_eq_false c4
   clear c4
   (first | rw [c4b0] | (simp only [i64_w, i32_w]; rw [c4b0]) | skip)
   by_cases c6 : a0_0 > 8
   ·
    rw [if_pos c6] at H
    have c6b0 : decide (8 < a0_0) = true := decide_eq_true c6
    clear c6
    have H' := Aside0.mk H
    clear H
    obtain ⟨hcz7_0, hcz7_1, hcz7_2⟩ := bc3 BK102.out
    obtain ⟨hfz7_0, hfz7_1, hfz7_2⟩ := bf3 BK102.out
    go_wp2
    go_meet
    case rel => exact ⟨_, (true), rsz, H', ⟨by first | omega | exact Nat.le_refl _⟩, ⟨blkz⟩, ⟨bel⟩⟩
   ·
    rw [if_neg c6] at H
    have c6b0 : decide (8 < a0_0) = false := decide_eq_false c6
    clear c6
    by_cases c8 : (l0_1.length : Int) > 10
    ·
     rw [if_pos c8] at H
     have c8b0 : decide (10 < (l0_1.length : Int)) = true := decide_eq_true c8
     have c8b1 : decide (10 < l0_1.length) = true := decide_eq_true (by omega)
     clear c8
     have H' := Aside0.mk H
     clear H
     obtain ⟨hcz9_0, hcz9_1, hcz9_2⟩ := bc3 BK102.out
     obtain ⟨hfz9_0, hfz9_1, hfz9_2⟩ := bf3 BK102.out
     go_wp2
     go_meet
     case rel => exact ⟨_, (true), rsz, H', ⟨by first | omega | exact Nat.le_refl _⟩, ⟨blkz⟩, ⟨bel⟩⟩
    ·
     rw [if_neg c8] at H
     have c8b0 : decide (10 < (l0_1.length : Int)) = false := decide_eq_false c8
     have c8b1 : decide (10 < l0_1.length) = false := decide_eq_false (by omega)
     clear c8
     have H' := Aside0.mk H
     clear H
     obtain ⟨hcz10_0, hcz10_1, hcz10_2⟩ := bc3 BK102.out
     obtain ⟨hfz10_0, hfz10_1, hfz10_2⟩ := bf3 BK102.out
     go_wp2
     go_meet
     case rel => exact ⟨_, (decide ((l0_2.length : Int) > 6)), rsz, H', ⟨by first | omega | exact Nat.le_refl _⟩, ⟨blkz⟩, ⟨bel⟩⟩
 case rest =>
  clear HC2
  (try clear p2); (try clear c4); (try clear c4b0); (try clear c6); (try clear c6b0); (try clear c8); (try clear c8b0); (try clear c8b1); (try clear hcz10_0); (try clear hcz10_1); (try clear hcz10_2); (try clear hcz5_0); (try clear hcz5_1); (try clear hcz5_2); (try clear hcz7_0); (try clear hcz7_1); (try clear hcz7_2); (try clear hcz9_0); (try clear hcz9_1); (try clear hcz9_2); (try clear hfz10_0); (try clear hfz10_1); (try clear hfz10_2); (try clear hfz5_0); (try clear hfz5_1); (try clear hfz5_2); (try clear hfz7_0); (try clear hfz7_1); (try clear hfz7_2); (try clear hfz9_0); (try clear hfz9_1); (try clear hfz9_2)
  obtain ⟨kq, x26_1, rfl, HA, HJ1, BK102, HB⟩ := hcut
  cases kq with
  | zero => exact absurd HA.out (by simp [dropperref05_Valid.j0])
  | succ kj1 =>
   have H := HA.out
   clear HA
   simp only [dropperref05_Valid.j0] at H
   by_cases c11 : x26_1 = true
   ·
    subst c11
    rw [if_pos rfl] at H
    obtain rfl := Option.some.inj H
    go_wp2
    go_ret
    exact ⟨ezz, bel⟩
   ·
    replace c11 := Bool.eq_false_iff.mpr c11
    subst c11
    rw [if_neg (show ¬ (false = true) by decide)] at H
    have H' := Aside0.mk H
    clear H
    go_wp2
    go_loopg [3] kj1 (fun kq v3 w' => ∃ (x3_2 : Int), v3 = .int .i64 x3_2 ∧ Aside0 (dropperref05_Valid.l0 kq x3_2 a0_0 l0_1 l0_2 = some r) ∧ Aside0 (kq ≤ kj1) ∧ Aside0 (w'.heap[gb102]? = some (.cells #[.int .i64 a0_0, (.slice A0_1 l0_1.length c0_1), (.slice A0_2 l0_2.length c0_2)] 25 (0, 0))) ∧ Aside0 (Below w.heap.size w w'))
    case atStart => exact ⟨(0), rsz, H', ⟨Nat.le_refl _⟩, ⟨blkz⟩, ⟨bel⟩⟩
    case round =>
     clear H'
     (try clear c1); (try clear p2); (try clear c4); (try clear c4b0); (try clear c6); (try clear c6b0); (try clear c8); (try clear c8b0); (try clear c8b1); (try clear c11); (try clear hcz10_0); (try clear hcz10_1); (try clear hcz10_2); (try clear hcz5_0); (try clear hcz5_1); (try clear hcz5_2); (try clear hcz7_0); (try clear hcz7_1); (try clear hcz7_2); (try clear hcz9_0); (try clear hcz9_1); (try clear hcz9_2); (try clear hfz10_0); (try clear hfz10_1); (try clear hfz10_2); (try clear hfz5_0); (try clear hfz5_1); (try clear hfz5_2); (try clear hfz7_0); (try clear hfz7_1); (try clear hfz7_2); (try clear hfz9_0); (try clear hfz9_1); (try clear hfz9_2); (try clear p2)
     obtain ⟨x3_2, rfl, HA, HK2, BK102, HB⟩ := hrel
     cases gk with
     | zero => exact absurd HA.out (by simp [dropperref05_Valid.l0])
     | succ k2 =>
      have H := HA.out
      clear HA
      simp only [dropperref05_Valid.l0] at H
      by_cases c12 : x3_2 < (l0_1.length : Int)
      ·
       rw [if_pos c12] at H
       have c12b0 : decide (x3_2 < (l0_1.length : Int)) = true := decide_eq_true c12
       clear c12
       by_cases c13 : 0 ≤ x3_2
       ·
        rw [if_pos c13] at H
        have c13b0 : decide (0 ≤ x3_2) = true := decide_eq_true c13
        clear c13
        replace H := Option.bind_eq_some_iff.mp H
        obtain ⟨t105, A140, H⟩ := H
        try dsimp only at H
        have A14 := Aside0.mk A140
        clear A140
        by_cases c15 : t105 = true
        ·
         subst c15
         rw [if_pos rfl] at H
         replace H := Option.bind_eq_some_iff.mp H
         obtain ⟨t106, A160, H⟩ := H
         try dsimp only at H
         have A16 := Aside0.mk A160
         clear A160
         by_cases c17 : t106 = true
         ·
          subst c17
          rw [if_pos rfl] at H
          by_cases c18 : ((rd_T47 l0_1 x3_2).f0) = ((rd_T47 l0_1 x3_2).f1)
          ·
           rw [if_pos c18] at H
           have c18b0 : (((rd_T47 l0_1 x3_2).f0) == ((rd_T47 l0_1 x3_2).f1)) = true := beq_iff_eq.mpr c18
           have c18b1 : (((rd_T47 l0_1 x3_2).f0) != ((rd_T47 l0_1 x3_2).f1)) = false := bne_eq_false_iff_eq.mpr c18
           clear c18
           obtain rfl := Option.some.inj H
           obtain ⟨hcz19_0, hcz19_1, hcz19_2⟩ := bc3 BK102.out
           obtain ⟨hfz19_0, hfz19_1, hfz19_2⟩ := bf3 BK102.out
           have p103 : 0 ≤ (x3_2 : Int) := of_decide_eq_true asz
           have q103 : x3_2 < (l0_1.length : Int) := of_decide_eq_true asz
           obtain ⟨ad103, e103, hx103_0, hx103_1⟩ := at_T47 HR0_1.out x3_2 p103 q103
           cases e103
           replace hx103_0 := (HB.out.cell (World.block_lt_of_cell? w _ hx103_0)).trans hx103_0
           replace hx103_1 := (HB.out.cell (World.block_lt_of_cell? w _ hx103_1)).trans hx103_1
           replace p103 := eq_true p103
           replace q103 := eq_true q103
           go_wp2_with (first | ((with_reducible refine gate_dst (N := 4) rfl ?_); (try (refine gate_guard (by rfl) ?_; dsimp only)); refine box_event ?hg (N := 4) ?hd (cs := #[.int .i64 0, .int .i64 0]) (t := 47) ?hr ?_; (case hd => rfl); (case hg => rfl); (case hr => first | (go_simp; done) | (go_simp; rfl)); intro gb104 hg w20 hbox hb; have BK104 := Aside0.mk (hbox); have GW104 := bsz (w := w) hg; have GE104 := GW104; have NB102_104 := neL (g := gb102) hg; have NB104_102 := neR (g := gb102) hg; replace BK102 := Aside0.mk (blk_below (g := gb102) blkz hb); replace HB := Aside0.mk (below_step bel hb); clear hb hbox hg; have hnb21 := NB104_102.out; have hnc21 := NB102_104.out; obtain ⟨hcz22_0, hcz22_1⟩ := bc2 BK104.out; obtain ⟨hfz22_0, hfz22_1⟩ := bf2 BK104.out; obtain ⟨hcz23_0, hcz23_1, hcz23_2⟩ := bc3 BK102.out) | ((with_reducible refine gate_callee (f := 17) rfl ?_); refine goesL_ (some 42) rfl rfl Tryd.func17 (by kernel_rfl) rfl #[.agg #[.int .i64 a0_0, .slice (some ad103) l0_1.length c0_1, .slice A0_2 l0_2.length c0_2], .int .i64 ((rd_T47 l0_1 x3_2).f0)] rfl mapz ?_; (with_reducible refine (dropperref05_section.calls a0_0 _ _ l0_1 _ _ l0_2 ((rd_T47 l0_1 x3_2).f0) true _ (cbz HR0_1) HC0_1.out (cbz HR0_2) HC0_2.out A14.out).mono ?_); rintro e w24 ⟨rfl, hb⟩; refine ⟨_, rfl, ?_⟩; replace BK102 := Aside0.mk (blk_below (g := gb102) (o := .cells #[.int .i64 a0_0, .slice (some ad103) l0_1.length c0_1, .slice A0_2 l0_2.length c0_2] 25 (0, 0)) (by (with_reducible repeat (first | refine blk_drewN ?_ _ | refine blk_drew ?_ | refine blk_alloc ?_ _)); refine blk_far ?_ NB102_104.out _; (with_reducible repeat (first | refine blk_drewN ?_ _ | refine blk_drew ?_ | refine blk_alloc ?_ _)); refine blk_far ?_ NB102_104.out _; (with_reducible repeat (first | refine blk_drewN ?_ _ | refine blk_drew ?_ | refine blk_alloc ?_ _)); exact BK102.out) hb); replace BK104 := Aside0.mk (blk_below (g := gb104) (o := .cells #[.int .i64 ((rd_T47 l0_1 x3_2).f0), .int .i64 ((rd_T47 l0_1 x3_2).f1)] 47 (0, 0)) (by (with_reducible repeat (first | refine blk_drewN ?_ _ | refine blk_drew ?_ | refine blk_alloc ?_ _)); refine blk_put (cs := #[.int .i64 ((rd_T47 l0_1 x3_2).f0), .int .i64 0]) ?_ 1 _ rfl; (with_reducible repeat (first | refine blk_drewN ?_ _ | refine blk_drew ?_ | refine blk_alloc ?_ _)); refine blk_put (cs := #[.int .i64 0, .int .i64 0]) ?_ 0 _ rfl; (with_reducible repeat (first | refine blk_drewN ?_ _ | refine blk_drew ?_ | refine blk_alloc ?_ _)); exact BK104.out) hb); replace HB := Aside0.mk (below_step bel hb); clear hb; obtain ⟨hcz25_0, hcz25_1, hcz25_2⟩ := bc3 BK102.out; obtain ⟨hcz26_0, hcz26_1⟩ := bc2 BK104.out; obtain ⟨hfz26_0, hfz26_1⟩ := bf2 BK104.out) | (go_at_call 17; (with_reducible refine (dropperref05_section.calls a0_0 _ _ l0_1 _ _ l0_2 ((rd_T47 l0_1 x3_2).f1) true _ (cbz HR0_1) HC0_1.out (cbz HR0_2) HC0_2.out A16.out).mono ?_); rintro e w27 ⟨rfl, hb⟩; replace BK102 := Aside0.mk (blk_below (g := gb102) blkz hb); replace BK104 := Aside0.mk (blk_below (g := gb104) blkz hb); replace HB := Aside0.mk (below_step bel hb); clear hb; obtain ⟨hcz28_0, hcz28_1⟩ := bc2 BK104.out; obtain ⟨hfz28_0, hfz28_1⟩ := bf2 BK104.out))
           go_ret
           exact ⟨ezz, bel⟩
          ·
           rw [if_neg c18] at H
           have c18b0 : (((rd_T47 l0_1 x3_2).f0) == ((rd_T47 l0_1 x3_2).f1)) = false := beq_eq_false_iff_ne.mpr c18
           have c18b1 : (((rd_T47 l0_1 x3_2).f0) != ((rd_T47 l0_1 x3_2).f1)) = true := bne_iff_ne.mpr c18
           have H' := Aside0.mk H
           clear H
           obtain ⟨hcz29_0, hcz29_1, hcz29_2⟩ := bc3 BK102.out
           obtain ⟨hfz29_0, hfz29_1, hfz29_2⟩ := bf3 BK102.out
           have p103 : 0 ≤ (x3_2 : Int) := of_decide_eq_true asz
           have q103 : x3_2 < (l0_1.length : Int) := of_decide_eq_true asz
           obtain ⟨ad103, e103, hx103_0, hx103_1⟩ := at_T47 HR0_1.out x3_2 p103 q103
           cases e103
           replace hx103_0 := (HB.out.cell (World.block_lt_of_cell? w _ hx103_0)).trans hx103_0
           replace hx103_1 := (HB.out.cell (World.block_lt_of_cell? w _ hx103_1)).trans hx103_1
           replace p103 := eq_true p103
           replace q103 := eq_true q103
           go_wp2_with (first | ((with_reducible refine gate_dst (N := 4) rfl ?_); (try (refine gate_guard (by rfl) ?_; dsimp only)); refine box_event ?hg (N := 4) ?hd (cs := #[.int .i64 0, .int .i64 0]) (t := 47) ?hr ?_; (case hd => rfl); (case hg => rfl); (case hr => first | (go_simp; done) | (go_simp; rfl)); intro gb104 hg w30 hbox hb; have BK104 := Aside0.mk (hbox); have GW104 := bsz (w := w) hg; have GE104 := GW104; have NB102_104 := neL (g := gb102) hg; have NB104_102 := neR (g := gb102) hg; replace BK102 := Aside0.mk (blk_below (g := gb102) blkz hb); replace HB := Aside0.mk (below_step bel hb); clear hb hbox hg; have hnb31 := NB104_102.out; have hnc31 := NB102_104.out; obtain ⟨hcz32_0, hcz32_1⟩ := bc2 BK104.out; obtain ⟨hfz32_0, hfz32_1⟩ := bf2 BK104.out; obtain ⟨hcz33_0, hcz33_1, hcz33_2⟩ := bc3 BK102.out) | ((with_reducible refine gate_callee (f := 17) rfl ?_); refine goesL_ (some 42) rfl rfl Tryd.func17 (by kernel_rfl) rfl #[.agg #[.int .i64 a0_0, .slice (some ad103) l0_1.length c0_1, .slice A0_2 l0_2.length c0_2], .int .i64 ((rd_T47 l0_1 x3_2).f0)] rfl mapz ?_; (with_reducible refine (dropperref05_section.calls a0_0 _ _ l0_1 _ _ l0_2 ((rd_T47 l0_1 x3_2).f0) true _ (cbz HR0_1) HC0_1.out (cbz HR0_2) HC0_2.out A14.out).mono ?_); rintro e w34 ⟨rfl, hb⟩; refine ⟨_, rfl, ?_⟩; replace BK102 := Aside0.mk (blk_below (g := gb102) (o := .cells #[.int .i64 a0_0, .slice (some ad103) l0_1.length c0_1, .slice A0_2 l0_2.length c0_2] 25 (0, 0)) (by (with_reducible repeat (first | refine blk_drewN ?_ _ | refine blk_drew ?_ | refine blk_alloc ?_ _)); refine blk_far ?_ NB102_104.out _; (with_reducible repeat (first | refine blk_drewN ?_ _ | refine blk_drew ?_ | refine blk_alloc ?_ _)); refine blk_far ?_ NB102_104.out _; (with_reducible repeat (first | refine blk_drewN ?_ _ | refine blk_drew ?_ | refine blk_alloc ?_ _)); exact BK102.out) hb); replace BK104 := Aside0.mk (blk_below (g := gb104) (o := .cells #[.int .i64 ((rd_T47 l0_1 x3_2).f0), .int .i64 ((rd_T47 l0_1 x3_2).f1)] 47 (0, 0)) (by (with_reducible repeat (first | refine blk_drewN ?_ _ | refine blk_drew ?_ | refine blk_alloc ?_ _)); refine blk_put (cs := #[.int .i64 ((rd_T47 l0_1 x3_2).f0), .int .i64 0]) ?_ 1 _ rfl; (with_reducible repeat (first | refine blk_drewN ?_ _ | refine blk_drew ?_ | refine blk_alloc ?_ _)); refine blk_put (cs := #[.int .i64 0, .int .i64 0]) ?_ 0 _ rfl; (with_reducible repeat (first | refine blk_drewN ?_ _ | refine blk_drew ?_ | refine blk_alloc ?_ _)); exact BK104.out) hb); replace HB := Aside0.mk (below_step bel hb); clear hb; obtain ⟨hcz35_0, hcz35_1, hcz35_2⟩ := bc3 BK102.out; obtain ⟨hcz36_0, hcz36_1⟩ := bc2 BK104.out; obtain ⟨hfz36_0, hfz36_1⟩ := bf2 BK104.out) | (go_at_call 17; (with_reducible refine (dropperref05_section.calls a0_0 _ _ l0_1 _ _ l0_2 ((rd_T47 l0_1 x3_2).f1) true _ (cbz HR0_1) HC0_1.out (cbz HR0_2) HC0_2.out A16.out).mono ?_); rintro e w37 ⟨rfl, hb⟩; replace BK102 := Aside0.mk (blk_below (g := gb102) blkz hb); replace BK104 := Aside0.mk (blk_below (g := gb104) blkz hb); replace HB := Aside0.mk (below_step bel hb); clear hb; obtain ⟨hcz38_0, hcz38_1⟩ := bc2 BK104.out; obtain ⟨hfz38_0, hfz38_1⟩ := bf2 BK104.out))
           go_roundg k2
           case measure => have := HJ1.out; have := HK2.out; omega
           case rel => exact ⟨(wrap64 (x3_2 + 1)), rsz, H', ⟨by have := HJ1.out; have := HK2.out; omega⟩, ⟨blkz⟩, ⟨bel⟩⟩
         ·
          replace c17 := Bool.eq_false_iff.mpr c17
          subst c17
          rw [if_neg (show ¬ (false = true) by decide)] at H
          obtain rfl := Option.some.inj H
          obtain ⟨hcz39_0, hcz39_1, hcz39_2⟩ := bc3 BK102.out
          obtain ⟨hfz39_0, hfz39_1, hfz39_2⟩ := bf3 BK102.out
          have p103 : 0 ≤ (x3_2 : Int) := of_decide_eq_true asz
          have q103 : x3_2 < (l0_1.length : Int) := of_decide_eq_true asz
          obtain ⟨ad103, e103, hx103_0, hx103_1⟩ := at_T47 HR0_1.out x3_2 p103 q103
          cases e103
          replace hx103_0 := (HB.out.cell (World.block_lt_of_cell? w _ hx103_0)).trans hx103_0
          replace hx103_1 := (HB.out.cell (World.block_lt_of_cell? w _ hx103_1)).trans hx103_1
          replace p103 := eq_true p103
          replace q103 := eq_true q103
          go_wp2_with (first | ((with_reducible refine gate_dst (N := 4) rfl ?_); (try (refine gate_guard (by rfl) ?_; dsimp only)); refine box_event ?hg (N := 4) ?hd (cs := #[.int .i64 0, .int .i64 0]) (t := 47) ?hr ?_; (case hd => rfl); (case hg => rfl); (case hr => first | (go_simp; done) | (go_simp; rfl)); intro gb104 hg w40 hbox hb; have BK104 := Aside0.mk (hbox); have GW104 := bsz (w := w) hg; have GE104 := GW104; have NB102_104 := neL (g := gb102) hg; have NB104_102 := neR (g := gb102) hg; replace BK102 := Aside0.mk (blk_below (g := gb102) blkz hb); replace HB := Aside0.mk (below_step bel hb); clear hb hbox hg; have hnb41 := NB104_102.out; have hnc41 := NB102_104.out; obtain ⟨hcz42_0, hcz42_1⟩ := bc2 BK104.out; obtain ⟨hfz42_0, hfz42_1⟩ := bf2 BK104.out; obtain ⟨hcz43_0, hcz43_1, hcz43_2⟩ := bc3 BK102.out) | ((with_reducible refine gate_callee (f := 17) rfl ?_); refine goesL_ (some 42) rfl rfl Tryd.func17 (by kernel_rfl) rfl #[.agg #[.int .i64 a0_0, .slice (some ad103) l0_1.length c0_1, .slice A0_2 l0_2.length c0_2], .int .i64 ((rd_T47 l0_1 x3_2).f0)] rfl mapz ?_; (with_reducible refine (dropperref05_section.calls a0_0 _ _ l0_1 _ _ l0_2 ((rd_T47 l0_1 x3_2).f0) true _ (cbz HR0_1) HC0_1.out (cbz HR0_2) HC0_2.out A14.out).mono ?_); rintro e w44 ⟨rfl, hb⟩; refine ⟨_, rfl, ?_⟩; replace BK102 := Aside0.mk (blk_below (g := gb102) (o := .cells #[.int .i64 a0_0, .slice (some ad103) l0_1.length c0_1, .slice A0_2 l0_2.length c0_2] 25 (0, 0)) (by (with_reducible repeat (first | refine blk_drewN ?_ _ | refine blk_drew ?_ | refine blk_alloc ?_ _)); refine blk_far ?_ NB102_104.out _; (with_reducible repeat (first | refine blk_drewN ?_ _ | refine blk_drew ?_ | refine blk_alloc ?_ _)); refine blk_far ?_ NB102_104.out _; (with_reducible repeat (first | refine blk_drewN ?_ _ | refine blk_drew ?_ | refine blk_alloc ?_ _)); exact BK102.out) hb); replace BK104 := Aside0.mk (blk_below (g := gb104) (o := .cells #[.int .i64 ((rd_T47 l0_1 x3_2).f0), .int .i64 ((rd_T47 l0_1 x3_2).f1)] 47 (0, 0)) (by (with_reducible repeat (first | refine blk_drewN ?_ _ | refine blk_drew ?_ | refine blk_alloc ?_ _)); refine blk_put (cs := #[.int .i64 ((rd_T47 l0_1 x3_2).f0), .int .i64 0]) ?_ 1 _ rfl; (with_reducible repeat (first | refine blk_drewN ?_ _ | refine blk_drew ?_ | refine blk_alloc ?_ _)); refine blk_put (cs := #[.int .i64 0, .int .i64 0]) ?_ 0 _ rfl; (with_reducible repeat (first | refine blk_drewN ?_ _ | refine blk_drew ?_ | refine blk_alloc ?_ _)); exact BK104.out) hb); replace HB := Aside0.mk (below_step bel hb); clear hb; obtain ⟨hcz45_0, hcz45_1, hcz45_2⟩ := bc3 BK102.out; obtain ⟨hcz46_0, hcz46_1⟩ := bc2 BK104.out; obtain ⟨hfz46_0, hfz46_1⟩ := bf2 BK104.out) | (go_at_call 17; (with_reducible refine (dropperref05_section.calls a0_0 _ _ l0_1 _ _ l0_2 ((rd_T47 l0_1 x3_2).f1) false _ (cbz HR0_1) HC0_1.out (cbz HR0_2) HC0_2.out A16.out).mono ?_); rintro e w47 ⟨rfl, hb⟩; replace BK102 := Aside0.mk (blk_below (g := gb102) blkz hb); replace BK104 := Aside0.mk (blk_below (g := gb104) blkz hb); replace HB := Aside0.mk (below_step bel hb); clear hb))
          go_ret
          exact ⟨ezz, bel⟩
        ·
         replace c15 := Bool.eq_false_iff.mpr c15
         subst c15
         rw [if_neg (show ¬ (false = true) by decide)] at H
         obtain rfl := Option.some.inj H
         obtain ⟨hcz48_0, hcz48_1, hcz48_2⟩ := bc3 BK102.out
         obtain ⟨hfz48_0, hfz48_1, hfz48_2⟩ := bf3 BK102.out
         have p103 : 0 ≤ (x3_2 : Int) := of_decide_eq_true asz
         have q103 : x3_2 < (l0_1.length : Int) := of_decide_eq_true asz
         obtain ⟨ad103, e103, hx103_0, hx103_1⟩ := at_T47 HR0_1.out x3_2 p103 q103
         cases e103
         replace hx103_0 := (HB.out.cell (World.block_lt_of_cell? w _ hx103_0)).trans hx103_0
         replace hx103_1 := (HB.out.cell (World.block_lt_of_cell? w _ hx103_1)).trans hx103_1
         replace p103 := eq_true p103
         replace q103 := eq_true q103
         go_wp2_with (first | ((with_reducible refine gate_dst (N := 4) rfl ?_); (try (refine gate_guard (by rfl) ?_; dsimp only)); refine box_event ?hg (N := 4) ?hd (cs := #[.int .i64 0, .int .i64 0]) (t := 47) ?hr ?_; (case hd => rfl); (case hg => rfl); (case hr => first | (go_simp; done) | (go_simp; rfl)); intro gb104 hg w49 hbox hb; have BK104 := Aside0.mk (hbox); have GW104 := bsz (w := w) hg; have GE104 := GW104; have NB102_104 := neL (g := gb102) hg; have NB104_102 := neR (g := gb102) hg; replace BK102 := Aside0.mk (blk_below (g := gb102) blkz hb); replace HB := Aside0.mk (below_step bel hb); clear hb hbox hg; have hnb50 := NB104_102.out; have hnc50 := NB102_104.out; obtain ⟨hcz51_0, hcz51_1⟩ := bc2 BK104.out; obtain ⟨hfz51_0, hfz51_1⟩ := bf2 BK104.out; obtain ⟨hcz52_0, hcz52_1, hcz52_2⟩ := bc3 BK102.out) | ((with_reducible refine gate_callee (f := 17) rfl ?_); refine goesL_ (some 42) rfl rfl Tryd.func17 (by kernel_rfl) rfl #[.agg #[.int .i64 a0_0, .slice (some ad103) l0_1.length c0_1, .slice A0_2 l0_2.length c0_2], .int .i64 ((rd_T47 l0_1 x3_2).f0)] rfl mapz ?_; (with_reducible refine (dropperref05_section.calls a0_0 _ _ l0_1 _ _ l0_2 ((rd_T47 l0_1 x3_2).f0) false _ (cbz HR0_1) HC0_1.out (cbz HR0_2) HC0_2.out A14.out).mono ?_); rintro e w53 ⟨rfl, hb⟩; refine ⟨_, rfl, ?_⟩; replace BK102 := Aside0.mk (blk_below (g := gb102) (o := .cells #[.int .i64 a0_0, .slice (some ad103) l0_1.length c0_1, .slice A0_2 l0_2.length c0_2] 25 (0, 0)) (by (with_reducible repeat (first | refine blk_drewN ?_ _ | refine blk_drew ?_ | refine blk_alloc ?_ _)); refine blk_far ?_ NB102_104.out _; (with_reducible repeat (first | refine blk_drewN ?_ _ | refine blk_drew ?_ | refine blk_alloc ?_ _)); refine blk_far ?_ NB102_104.out _; (with_reducible repeat (first | refine blk_drewN ?_ _ | refine blk_drew ?_ | refine blk_alloc ?_ _)); exact BK102.out) hb); replace BK104 := Aside0.mk (blk_below (g := gb104) (o := .cells #[.int .i64 ((rd_T47 l0_1 x3_2).f0), .int .i64 ((rd_T47 l0_1 x3_2).f1)] 47 (0, 0)) (by (with_reducible repeat (first | refine blk_drewN ?_ _ | refine blk_drew ?_ | refine blk_alloc ?_ _)); refine blk_put (cs := #[.int .i64 ((rd_T47 l0_1 x3_2).f0), .int .i64 0]) ?_ 1 _ rfl; (with_reducible repeat (first | refine blk_drewN ?_ _ | refine blk_drew ?_ | refine blk_alloc ?_ _)); refine blk_put (cs := #[.int .i64 0, .int .i64 0]) ?_ 0 _ rfl; (with_reducible repeat (first | refine blk_drewN ?_ _ | refine blk_drew ?_ | refine blk_alloc ?_ _)); exact BK104.out) hb); replace HB := Aside0.mk (below_step bel hb); clear hb))
         go_ret
         exact ⟨ezz, bel⟩
       ·
        rw [if_neg c13] at H
        exact absurd H (by simp)
      ·
       rw [if_neg c12] at H
       have c12b0 : decide (x3_2 < (l0_1.length : Int)) = false := decide_eq_false c12
       clear c12
       have H' := Aside0.mk H
       clear H
       obtain ⟨hcz54_0, hcz54_1, hcz54_2⟩ := bc3 BK102.out
       obtain ⟨hfz54_0, hfz54_1, hfz54_2⟩ := bf3 BK102.out
       go_wp2
       go_loopg [5] k2 (fun kq v5 w' => ∃ (x5_3 : Int), v5 = .int .i64 x5_3 ∧ Aside0 (dropperref05_Valid.l1 kq x5_3 a0_0 l0_1 l0_2 = some r) ∧ Aside0 (kq ≤ k2) ∧ Aside0 (w'.heap[gb102]? = some (.cells #[.int .i64 a0_0, (.slice A0_1 l0_1.length c0_1), (.slice A0_2 l0_2.length c0_2)] 25 (0, 0))) ∧ Aside0 (Below w.heap.size w w'))
       case atStart => exact ⟨(0), rsz, H', ⟨Nat.le_refl _⟩, ⟨blkz⟩, ⟨bel⟩⟩
       case round =>
        clear H'
        (try clear c1); (try clear p1); (try clear q1); (try clear hx1); (try clear c2); (try clear p2); (try clear c3); (try clear c4); (try clear c4b0); (try clear c5); (try clear c6); (try clear c6b0); (try clear p6); (try clear c8); (try clear c8b0); (try clear c8b1); (try clear p10); (try clear q10); (try clear hx10); (try clear c11); (try clear c12); (try clear c12b0); (try clear c13); (try clear c13b0); (try clear c15); (try clear c17); (try clear c18); (try clear c18b0); (try clear c18b1); (try clear c21); (try clear c31); (try clear c41); (try clear c50); (try clear hcz10_0); (try clear hcz10_1); (try clear hcz10_2); (try clear hcz19_0); (try clear hcz19_1); (try clear hcz19_2); (try clear hcz22_0); (try clear hcz22_1); (try clear hcz23_0); (try clear hcz23_1); (try clear hcz23_2); (try clear hcz25_0); (try clear hcz25_1); (try clear hcz25_2); (try clear hcz26_0); (try clear hcz26_1); (try clear hcz28_0); (try clear hcz28_1); (try clear hcz29_0); (try clear hcz29_1); (try clear hcz29_2); (try clear hcz32_0); (try clear hcz32_1); (try clear hcz33_0); (try clear hcz33_1); (try clear hcz33_2); (try clear hcz35_0); (try clear hcz35_1); (try clear hcz35_2); (try clear hcz36_0); (try clear hcz36_1); (try clear hcz38_0); (try clear hcz38_1); (try clear hcz39_0); (try clear hcz39_1); (try clear hcz39_2); (try clear hcz42_0); (try clear hcz42_1); (try clear hcz43_0); (try clear hcz43_1); (try clear hcz43_2); (try clear hcz45_0); (try clear hcz45_1); (try clear hcz45_2); (try clear hcz46_0); (try clear hcz46_1); (try clear hcz48_0); (try clear hcz48_1); (try clear hcz48_2); (try clear hcz51_0); (try clear hcz51_1); (try clear hcz52_0); (try clear hcz52_1); (try clear hcz52_2); (try clear hcz54_0); (try clear hcz54_1); (try clear hcz54_2); (try clear hcz5_0); (try clear hcz5_1); (try clear hcz5_2); (try clear hcz7_0); (try clear hcz7_1); (try clear hcz7_2); (try clear hcz9_0); (try clear hcz9_1); (try clear hcz9_2); (try clear hfz10_0); (try clear hfz10_1); (try clear hfz10_2); (try clear hfz19_0); (try clear hfz19_1); (try clear hfz19_2); (try clear hfz22_0); (try clear hfz22_1); (try clear hfz23_0); (try clear hfz23_1); (try clear hfz23_2); (try clear hfz25_0); (try clear hfz25_1); (try clear hfz25_2); (try clear hfz26_0); (try clear hfz26_1); (try clear hfz28_0); (try clear hfz28_1); (try clear hfz29_0); (try clear hfz29_1); (try clear hfz29_2); (try clear hfz32_0); (try clear hfz32_1); (try clear hfz33_0); (try clear hfz33_1); (try clear hfz33_2); (try clear hfz35_0); (try clear hfz35_1); (try clear hfz35_2); (try clear hfz36_0); (try clear hfz36_1); (try clear hfz38_0); (try clear hfz38_1); (try clear hfz39_0); (try clear hfz39_1); (try clear hfz39_2); (try clear hfz42_0); (try clear hfz42_1); (try clear hfz43_0); (try clear hfz43_1); (try clear hfz43_2); (try clear hfz45_0); (try clear hfz45_1); (try clear hfz45_2); (try clear hfz46_0); (try clear hfz46_1); (try clear hfz48_0); (try clear hfz48_1); (try clear hfz48_2); (try clear hfz51_0); (try clear hfz51_1); (try clear hfz52_0); (try clear hfz52_1); (try clear hfz52_2); (try clear hfz54_0); (try clear hfz54_1); (try clear hfz54_2); (try clear hfz5_0); (try clear hfz5_1); (try clear hfz5_2); (try clear hfz7_0); (try clear hfz7_1); (try clear hfz7_2); (try clear hfz9_0); (try clear hfz9_1); (try clear hfz9_2); (try clear hx103_0); (try clear hx103_1); (try clear p103); (try clear p2); (try clear q103)
        obtain ⟨x5_3, rfl, HA, HK3, BK102, HB⟩ := hrel
        cases gk with
        | zero => exact absurd HA.out (by simp [dropperref05_Valid.l1])
        | succ k3 =>
         have H := HA.out
         clear HA
         simp only [dropperref05_Valid.l1] at H
         by_cases c55 : x5_3 < (l0_2.length : Int)
         ·
          rw [if_pos c55] at H
          have c55b0 : decide (x5_3 < (l0_2.length : Int)) = true := decide_eq_true c55
          clear c55
          by_cases c56 : 0 ≤ x5_3
          ·
           rw [if_pos c56] at H
           have c56b0 : decide (0 ≤ x5_3) = true := decide_eq_true c56
           clear c56
           replace H := Option.bind_eq_some_iff.mp H
           obtain ⟨t109, A570, H⟩ := H
           try dsimp only at H
           have A57 := Aside0.mk A570
           clear A570
           by_cases c58 : t109 = true
           ·
            subst c58
            rw [if_pos rfl] at H
            by_cases c59 : ((rd_T49 l0_2 x5_3).f1) < 1
            ·
             rw [if_pos c59] at H
             have c59b0 : decide (((rd_T49 l0_2 x5_3).f1) < 1) = true := decide_eq_true c59
             clear c59
             obtain rfl := Option.some.inj H
             obtain ⟨hcz60_0, hcz60_1, hcz60_2⟩ := bc3 BK102.out
             obtain ⟨hfz60_0, hfz60_1, hfz60_2⟩ := bf3 BK102.out
             have p107 : 0 ≤ (x5_3 : Int) := of_decide_eq_true asz
             have q107 : x5_3 < (l0_2.length : Int) := of_decide_eq_true asz
             obtain ⟨ad107, e107, hx107_0, hx107_1⟩ := at_T49 HR0_2.out x5_3 p107 q107
             cases e107
             replace hx107_0 := (HB.out.cell (World.block_lt_of_cell? w _ hx107_0)).trans hx107_0
             replace hx107_1 := (HB.out.cell (World.block_lt_of_cell? w _ hx107_1)).trans hx107_1
             replace p107 := eq_true p107
             replace q107 := eq_true q107
             go_wp2_with (first | ((with_reducible refine gate_dst (N := 6) rfl ?_); (try (refine gate_guard (by rfl) ?_; dsimp only)); refine box_event ?hg (N := 6) ?hd (cs := #[.int .i64 0, .int .i64 0]) (t := 49) ?hr ?_; (case hd => rfl); (case hg => rfl); (case hr => first | (go_simp; done) | (go_simp; rfl)); intro gb108 hg w61 hbox hb; have BK108 := Aside0.mk (hbox); have GW108 := bsz (w := w) hg; have GE108 := GW108; have NB102_108 := neL (g := gb102) hg; have NB108_102 := neR (g := gb102) hg; replace BK102 := Aside0.mk (blk_below (g := gb102) blkz hb); replace HB := Aside0.mk (below_step bel hb); clear hb hbox hg; have hnb62 := NB108_102.out; have hnc62 := NB102_108.out; obtain ⟨hcz63_0, hcz63_1⟩ := bc2 BK108.out; obtain ⟨hfz63_0, hfz63_1⟩ := bf2 BK108.out; obtain ⟨hcz64_0, hcz64_1, hcz64_2⟩ := bc3 BK102.out) | ((with_reducible refine gate_callee (f := 17) rfl ?_); refine goesL_ (some 73) rfl rfl Tryd.func17 (by kernel_rfl) rfl #[.agg #[.int .i64 a0_0, .slice A0_1 l0_1.length c0_1, .slice (some ad107) l0_2.length c0_2], .int .i64 ((rd_T49 l0_2 x5_3).f0)] rfl mapz ?_; (with_reducible refine (dropperref05_section.calls a0_0 _ _ l0_1 _ _ l0_2 ((rd_T49 l0_2 x5_3).f0) true _ (cbz HR0_1) HC0_1.out (cbz HR0_2) HC0_2.out A57.out).mono ?_); rintro e w65 ⟨rfl, hb⟩; refine ⟨_, rfl, ?_⟩; replace BK102 := Aside0.mk (blk_below (g := gb102) (o := .cells #[.int .i64 a0_0, .slice A0_1 l0_1.length c0_1, .slice (some ad107) l0_2.length c0_2] 25 (0, 0)) (by (with_reducible repeat (first | refine blk_drewN ?_ _ | refine blk_drew ?_ | refine blk_alloc ?_ _)); refine blk_far ?_ NB102_108.out _; (with_reducible repeat (first | refine blk_drewN ?_ _ | refine blk_drew ?_ | refine blk_alloc ?_ _)); refine blk_far ?_ NB102_108.out _; (with_reducible repeat (first | refine blk_drewN ?_ _ | refine blk_drew ?_ | refine blk_alloc ?_ _)); exact BK102.out) hb); replace BK108 := Aside0.mk (blk_below (g := gb108) (o := .cells #[.int .i64 ((rd_T49 l0_2 x5_3).f0), .int .i64 ((rd_T49 l0_2 x5_3).f1)] 49 (0, 0)) (by (with_reducible repeat (first | refine blk_drewN ?_ _ | refine blk_drew ?_ | refine blk_alloc ?_ _)); refine blk_put (cs := #[.int .i64 ((rd_T49 l0_2 x5_3).f0), .int .i64 0]) ?_ 1 _ rfl; (with_reducible repeat (first | refine blk_drewN ?_ _ | refine blk_drew ?_ | refine blk_alloc ?_ _)); refine blk_put (cs := #[.int .i64 0, .int .i64 0]) ?_ 0 _ rfl; (with_reducible repeat (first | refine blk_drewN ?_ _ | refine blk_drew ?_ | refine blk_alloc ?_ _)); exact BK108.out) hb); replace HB := Aside0.mk (below_step bel hb); clear hb; obtain ⟨hcz66_0, hcz66_1⟩ := bc2 BK108.out; obtain ⟨hfz66_0, hfz66_1⟩ := bf2 BK108.out))
             go_ret
             exact ⟨ezz, bel⟩
            ·
             rw [if_neg c59] at H
             have c59b0 : decide (((rd_T49 l0_2 x5_3).f1) < 1) = false := decide_eq_false c59
             clear c59
             by_cases c67 : ((rd_T49 l0_2 x5_3).f1) > 3
             ·
              rw [if_pos c67] at H
              have c67b0 : decide (3 < ((rd_T49 l0_2 x5_3).f1)) = true := decide_eq_true c67
              clear c67
              obtain rfl := Option.some.inj H
              obtain ⟨hcz68_0, hcz68_1, hcz68_2⟩ := bc3 BK102.out
              obtain ⟨hfz68_0, hfz68_1, hfz68_2⟩ := bf3 BK102.out
              have p107 : 0 ≤ (x5_3 : Int) := of_decide_eq_true asz
              have q107 : x5_3 < (l0_2.length : Int) := of_decide_eq_true asz
              obtain ⟨ad107, e107, hx107_0, hx107_1⟩ := at_T49 HR0_2.out x5_3 p107 q107
              cases e107
              replace hx107_0 := (HB.out.cell (World.block_lt_of_cell? w _ hx107_0)).trans hx107_0
              replace hx107_1 := (HB.out.cell (World.block_lt_of_cell? w _ hx107_1)).trans hx107_1
              replace p107 := eq_true p107
              replace q107 := eq_true q107
              go_wp2_with (first | ((with_reducible refine gate_dst (N := 6) rfl ?_); (try (refine gate_guard (by rfl) ?_; dsimp only)); refine box_event ?hg (N := 6) ?hd (cs := #[.int .i64 0, .int .i64 0]) (t := 49) ?hr ?_; (case hd => rfl); (case hg => rfl); (case hr => first | (go_simp; done) | (go_simp; rfl)); intro gb108 hg w69 hbox hb; have BK108 := Aside0.mk (hbox); have GW108 := bsz (w := w) hg; have GE108 := GW108; have NB102_108 := neL (g := gb102) hg; have NB108_102 := neR (g := gb102) hg; replace BK102 := Aside0.mk (blk_below (g := gb102) blkz hb); replace HB := Aside0.mk (below_step bel hb); clear hb hbox hg; have hnb70 := NB108_102.out; have hnc70 := NB102_108.out; obtain ⟨hcz71_0, hcz71_1⟩ := bc2 BK108.out; obtain ⟨hfz71_0, hfz71_1⟩ := bf2 BK108.out; obtain ⟨hcz72_0, hcz72_1, hcz72_2⟩ := bc3 BK102.out) | ((with_reducible refine gate_callee (f := 17) rfl ?_); refine goesL_ (some 73) rfl rfl Tryd.func17 (by kernel_rfl) rfl #[.agg #[.int .i64 a0_0, .slice A0_1 l0_1.length c0_1, .slice (some ad107) l0_2.length c0_2], .int .i64 ((rd_T49 l0_2 x5_3).f0)] rfl mapz ?_; (with_reducible refine (dropperref05_section.calls a0_0 _ _ l0_1 _ _ l0_2 ((rd_T49 l0_2 x5_3).f0) true _ (cbz HR0_1) HC0_1.out (cbz HR0_2) HC0_2.out A57.out).mono ?_); rintro e w73 ⟨rfl, hb⟩; refine ⟨_, rfl, ?_⟩; replace BK102 := Aside0.mk (blk_below (g := gb102) (o := .cells #[.int .i64 a0_0, .slice A0_1 l0_1.length c0_1, .slice (some ad107) l0_2.length c0_2] 25 (0, 0)) (by (with_reducible repeat (first | refine blk_drewN ?_ _ | refine blk_drew ?_ | refine blk_alloc ?_ _)); refine blk_far ?_ NB102_108.out _; (with_reducible repeat (first | refine blk_drewN ?_ _ | refine blk_drew ?_ | refine blk_alloc ?_ _)); refine blk_far ?_ NB102_108.out _; (with_reducible repeat (first | refine blk_drewN ?_ _ | refine blk_drew ?_ | refine blk_alloc ?_ _)); exact BK102.out) hb); replace BK108 := Aside0.mk (blk_below (g := gb108) (o := .cells #[.int .i64 ((rd_T49 l0_2 x5_3).f0), .int .i64 ((rd_T49 l0_2 x5_3).f1)] 49 (0, 0)) (by (with_reducible repeat (first | refine blk_drewN ?_ _ | refine blk_drew ?_ | refine blk_alloc ?_ _)); refine blk_put (cs := #[.int .i64 ((rd_T49 l0_2 x5_3).f0), .int .i64 0]) ?_ 1 _ rfl; (with_reducible repeat (first | refine blk_drewN ?_ _ | refine blk_drew ?_ | refine blk_alloc ?_ _)); refine blk_put (cs := #[.int .i64 0, .int .i64 0]) ?_ 0 _ rfl; (with_reducible repeat (first | refine blk_drewN ?_ _ | refine blk_drew ?_ | refine blk_alloc ?_ _)); exact BK108.out) hb); replace HB := Aside0.mk (below_step bel hb); clear hb; obtain ⟨hcz74_0, hcz74_1⟩ := bc2 BK108.out; obtain ⟨hfz74_0, hfz74_1⟩ := bf2 BK108.out))
              go_ret
              exact ⟨ezz, bel⟩
             ·
              rw [if_neg c67] at H
              have c67b0 : decide (3 < ((rd_T49 l0_2 x5_3).f1)) = false := decide_eq_false c67
              clear c67
              have H' := Aside0.mk H
              clear H
              obtain ⟨hcz75_0, hcz75_1, hcz75_2⟩ := bc3 BK102.out
              obtain ⟨hfz75_0, hfz75_1, hfz75_2⟩ := bf3 BK102.out
              have p107 : 0 ≤ (x5_3 : Int) := of_decide_eq_true asz
              have q107 : x5_3 < (l0_2.length : Int) := of_decide_eq_true asz
              obtain ⟨ad107, e107, hx107_0, hx107_1⟩ := at_T49 HR0_2.out x5_3 p107 q107
              cases e107
              replace hx107_0 := (HB.out.cell (World.block_lt_of_cell? w _ hx107_0)).trans hx107_0
              replace hx107_1 := (HB.out.cell (World.block_lt_of_cell? w _ hx107_1)).trans hx107_1
              replace p107 := eq_true p107
              replace q107 := eq_true q107
              go_wp2_with (first | ((with_reducible refine gate_dst (N := 6) rfl ?_); (try (refine gate_guard (by rfl) ?_; dsimp only)); refine box_event ?hg (N := 6) ?hd (cs := #[.int .i64 0, .int .i64 0]) (t := 49) ?hr ?_; (case hd => rfl); (case hg => rfl); (case hr => first | (go_simp; done) | (go_simp; rfl)); intro gb108 hg w76 hbox hb; have BK108 := Aside0.mk (hbox); have GW108 := bsz (w := w) hg; have GE108 := GW108; have NB102_108 := neL (g := gb102) hg; have NB108_102 := neR (g := gb102) hg; replace BK102 := Aside0.mk (blk_below (g := gb102) blkz hb); replace HB := Aside0.mk (below_step bel hb); clear hb hbox hg; have hnb77 := NB108_102.out; have hnc77 := NB102_108.out; obtain ⟨hcz78_0, hcz78_1⟩ := bc2 BK108.out; obtain ⟨hfz78_0, hfz78_1⟩ := bf2 BK108.out; obtain ⟨hcz79_0, hcz79_1, hcz79_2⟩ := bc3 BK102.out) | ((with_reducible refine gate_callee (f := 17) rfl ?_); refine goesL_ (some 73) rfl rfl Tryd.func17 (by kernel_rfl) rfl #[.agg #[.int .i64 a0_0, .slice A0_1 l0_1.length c0_1, .slice (some ad107) l0_2.length c0_2], .int .i64 ((rd_T49 l0_2 x5_3).f0)] rfl mapz ?_; (with_reducible refine (dropperref05_section.calls a0_0 _ _ l0_1 _ _ l0_2 ((rd_T49 l0_2 x5_3).f0) true _ (cbz HR0_1) HC0_1.out (cbz HR0_2) HC0_2.out A57.out).mono ?_); rintro e w80 ⟨rfl, hb⟩; refine ⟨_, rfl, ?_⟩; replace BK102 := Aside0.mk (blk_below (g := gb102) (o := .cells #[.int .i64 a0_0, .slice A0_1 l0_1.length c0_1, .slice (some ad107) l0_2.length c0_2] 25 (0, 0)) (by (with_reducible repeat (first | refine blk_drewN ?_ _ | refine blk_drew ?_ | refine blk_alloc ?_ _)); refine blk_far ?_ NB102_108.out _; (with_reducible repeat (first | refine blk_drewN ?_ _ | refine blk_drew ?_ | refine blk_alloc ?_ _)); refine blk_far ?_ NB102_108.out _; (with_reducible repeat (first | refine blk_drewN ?_ _ | refine blk_drew ?_ | refine blk_alloc ?_ _)); exact BK102.out) hb); replace BK108 := Aside0.mk (blk_below (g := gb108) (o := .cells #[.int .i64 ((rd_T49 l0_2 x5_3).f0), .int .i64 ((rd_T49 l0_2 x5_3).f1)] 49 (0, 0)) (by (with_reducible repeat (first | refine blk_drewN ?_ _ | refine blk_drew ?_ | refine blk_alloc ?_ _)); refine blk_put (cs := #[.int .i64 ((rd_T49 l0_2 x5_3).f0), .int .i64 0]) ?_ 1 _ rfl; (with_reducible repeat (first | refine blk_drewN ?_ _ | refine blk_drew ?_ | refine blk_alloc ?_ _)); refine blk_put (cs := #[.int .i64 0, .int .i64 0]) ?_ 0 _ rfl; (with_reducible repeat (first | refine blk_drewN ?_ _ | refine blk_drew ?_ | refine blk_alloc ?_ _)); exact BK108.out) hb); replace HB := Aside0.mk (below_step bel hb); clear hb; obtain ⟨hcz81_0, hcz81_1⟩ := bc2 BK108.out; obtain ⟨hfz81_0, hfz81_1⟩ := bf2 BK108.out))
              go_roundg k3
              case measure => have := HJ1.out; have := HK2.out; have := HK3.out; omega
              case rel => exact ⟨(wrap64 (x5_3 + 1)), rsz, H', ⟨by have := HJ1.out; have := HK2.out; have := HK3.out; omega⟩, ⟨blkz⟩, ⟨bel⟩⟩
           ·
            replace c58 := Bool.eq_false_iff.mpr c58
            subst c58
            rw [if_neg (show ¬ (false = true) by decide)] at H
            obtain rfl := Option.some.inj H
            obtain ⟨hcz82_0, hcz82_1, hcz82_2⟩ := bc3 BK102.out
            obtain ⟨hfz82_0, hfz82_1, hfz82_2⟩ := bf3 BK102.out
            have p107 : 0 ≤ (x5_3 : Int) := of_decide_eq_true asz
            have q107 : x5_3 < (l0_2.length : Int) := of_decide_eq_true asz
            obtain ⟨ad107, e107, hx107_0, hx107_1⟩ := at_T49 HR0_2.out x5_3 p107 q107
            cases e107
            replace hx107_0 := (HB.out.cell (World.block_lt_of_cell? w _ hx107_0)).trans hx107_0
            replace hx107_1 := (HB.out.cell (World.block_lt_of_cell? w _ hx107_1)).trans hx107_1
            replace p107 := eq_true p107
            replace q107 := eq_true q107
            go_wp2_with (first | ((with_reducible refine gate_dst (N := 6) rfl ?_); (try (refine gate_guard (by rfl) ?_; dsimp only)); refine box_event ?hg (N := 6) ?hd (cs := #[.int .i64 0, .int .i64 0]) (t := 49) ?hr ?_; (case hd => rfl); (case hg => rfl); (case hr => first | (go_simp; done) | (go_simp; rfl)); intro gb108 hg w83 hbox hb; have BK108 := Aside0.mk (hbox); have GW108 := bsz (w := w) hg; have GE108 := GW108; have NB102_108 := neL (g := gb102) hg; have NB108_102 := neR (g := gb102) hg; replace BK102 := Aside0.mk (blk_below (g := gb102) blkz hb); replace HB := Aside0.mk (below_step bel hb); clear hb hbox hg; have hnb84 := NB108_102.out; have hnc84 := NB102_108.out; obtain ⟨hcz85_0, hcz85_1⟩ := bc2 BK108.out; obtain ⟨hfz85_0, hfz85_1⟩ := bf2 BK108.out; obtain ⟨hcz86_0, hcz86_1, hcz86_2⟩ := bc3 BK102.out) | ((with_reducible refine gate_callee (f := 17) rfl ?_); refine goesL_ (some 73) rfl rfl Tryd.func17 (by kernel_rfl) rfl #[.agg #[.int .i64 a0_0, .slice A0_1 l0_1.length c0_1, .slice (some ad107) l0_2.length c0_2], .int .i64 ((rd_T49 l0_2 x5_3).f0)] rfl mapz ?_; (with_reducible refine (dropperref05_section.calls a0_0 _ _ l0_1 _ _ l0_2 ((rd_T49 l0_2 x5_3).f0) false _ (cbz HR0_1) HC0_1.out (cbz HR0_2) HC0_2.out A57.out).mono ?_); rintro e w87 ⟨rfl, hb⟩; refine ⟨_, rfl, ?_⟩; replace BK102 := Aside0.mk (blk_below (g := gb102) (o := .cells #[.int .i64 a0_0, .slice A0_1 l0_1.length c0_1, .slice (some ad107) l0_2.length c0_2] 25 (0, 0)) (by (with_reducible repeat (first | refine blk_drewN ?_ _ | refine blk_drew ?_ | refine blk_alloc ?_ _)); refine blk_far ?_ NB102_108.out _; (with_reducible repeat (first | refine blk_drewN ?_ _ | refine blk_drew ?_ | refine blk_alloc ?_ _)); refine blk_far ?_ NB102_108.out _; (with_reducible repeat (first | refine blk_drewN ?_ _ | refine blk_drew ?_ | refine blk_alloc ?_ _)); exact BK102.out) hb); replace BK108 := Aside0.mk (blk_below (g := gb108) (o := .cells #[.int .i64 ((rd_T49 l0_2 x5_3).f0), .int .i64 ((rd_T49 l0_2 x5_3).f1)] 49 (0, 0)) (by (with_reducible repeat (first | refine blk_drewN ?_ _ | refine blk_drew ?_ | refine blk_alloc ?_ _)); refine blk_put (cs := #[.int .i64 ((rd_T49 l0_2 x5_3).f0), .int .i64 0]) ?_ 1 _ rfl; (with_reducible repeat (first | refine blk_drewN ?_ _ | refine blk_drew ?_ | refine blk_alloc ?_ _)); refine blk_put (cs := #[.int .i64 0, .int .i64 0]) ?_ 0 _ rfl; (with_reducible repeat (first | refine blk_drewN ?_ _ | refine blk_drew ?_ | refine blk_alloc ?_ _)); exact BK108.out) hb); replace HB := Aside0.mk (below_step bel hb); clear hb))
            go_ret
            exact ⟨ezz, bel⟩
          ·
           rw [if_neg c56] at H
           exact absurd H (by simp)
         ·
          rw [if_neg c55] at H
          have c55b0 : decide (x5_3 < (l0_2.length : Int)) = false := decide_eq_false c55
          clear c55
          obtain rfl := Option.some.inj H
          obtain ⟨hcz88_0, hcz88_1, hcz88_2⟩ := bc3 BK102.out
          obtain ⟨hfz88_0, hfz88_1, hfz88_2⟩ := bf3 BK102.out
          go_wp2
          go_ret
          exact ⟨ezz, bel⟩

/-! ### dropperref05_IsKeep: function 5 -/
def dropperref05_IsKeep.l0 : Nat → List Int → Int → Int → List (S47) → List (S49) → Option (Bool)
 | 0, _, _, _, _, _ => none
 | k + 1, x1, x5, x111000, x111001, x111002 => if x5 < (x1.length : Int) then (if 0 ≤ x5 then ((dropperref05_section.f x111000 x111001 x111002 (rd x1 x5)).bind fun t112 => (if t112 = true then (if x5 > 0 then (if 0 ≤ (wrap64 (x5 - 1)) then (if (wrap64 (x5 - 1)) < (x1.length : Int) then (if (rd x1 x5) ≤ (rd x1 (wrap64 (x5 - 1))) then (some false) else (dropperref05_IsKeep.l0 k x1 (wrap64 (x5 + 1)) x111000 x111001 x111002)) else (none)) else (none)) else (dropperref05_IsKeep.l0 k x1 (wrap64 (x5 + 1)) x111000 x111001 x111002)) else (some false))) else (none)) else (some true)
def dropperref05_IsKeep.f (k : Nat) (a0_0 : Int) (l0_1 : List (S47)) (l0_2 : List (S49)) (l1 : List Int) : Option (Bool) := dropperref05_IsKeep.l0 k l1 0 a0_0 l0_1 l0_2
def dropperref05_IsKeep.T4 : Bool × List (List Nat × List Nat) := (true, [([], []), ([], []), ([], []), ([1, 2], [1, 2]), ([3], [3]), ([0, 4], [0, 4]), ([5], [5]), ([6, 5], [6]), ([7], [7]), ([8, 7], [7, 8]), ([9, 7, 7], [7, 9]), ([10], [10]), ([10], [10]), ([11, 12, 10], [10, 11, 12]), ([13, 10], [10, 13]), ([10], [10]), ([10], [10]), ([16, 10], [10, 16]), ([15, 17, 10], [10, 15, 17]), ([18, 10], [10, 18]), ([14, 19, 10], [10, 14, 19]), ([10, 20, 7], [7, 10, 20]), ([7, 21], [7, 21])])
def dropperref05_IsKeep.B4 : List Nat := [0, 0, 0, 6, 14, 31, 63, 127, 255, 511, 1023, 2047, 2047, 8191, 16383, 2047, 2047, 67583, 231423, 493567, 1048575, 2097151, 4194303]
theorem dropperref05_IsKeep.tab4 : rtab .any (opsOf Tryd.f5 4) = dropperref05_IsKeep.T4 := by kernel_rfl
theorem dropperref05_IsKeep.bits4 : waitsOk dropperref05_IsKeep.T4.2 dropperref05_IsKeep.B4 = true := by kernel_rfl
set_option maxHeartbeats 8000000 in
set_option maxRecDepth 100000 in
theorem dropperref05_IsKeep.calls (k : Nat) (a0_0 : Int) (A0_1 : Option Addr) (c0_1 : Nat) (l0_1 : List (S47)) (A0_2 : Option Addr) (c0_2 : Nat) (l0_2 : List (S49)) (A1 : Option Addr) (c1 : Nat) (l1 : List Int) (r : Bool) (w : World) (hr0_1 : Kd.C k47 w A0_1 l0_1.length l0_1) (hc0_1 : l0_1.length ≤ c0_1) (hr0_2 : Kd.C k49 w A0_2 l0_2.length l0_2) (hc0_2 : l0_2.length ≤ c0_2) (hr1 : Kd.C (Kd.int .i64) w A1 l1.length l1) (hc1 : l1.length ≤ c1) (h : dropperref05_IsKeep.f k a0_0 l0_1 l0_2 l1 = some r) :
  Calls Tryd.prog 5 #[.agg #[.int .i64 a0_0, .slice A0_1 l0_1.length c0_1, .slice A0_2 l0_2.length c0_2], .slice A1 l1.length c1] w fun e w' => e = .returned (.bool r) ∧ Below w.heap.size w w' := by
 have hu25 := Tryd.underlying25
 have HR0_1 := Aside0.mk hr0_1
 have HC0_1 := Aside0.mk hc0_1
 clear hr0_1 hc0_1
 have HR0_2 := Aside0.mk hr0_2
 have HC0_2 := Aside0.mk hc0_2
 clear hr0_2 hc0_2
 have HR1 := Aside0.mk hr1
 have HC1 := Aside0.mk hc1
 clear hr1 hc1
 have HB := Aside0.mk (Below.refl w.heap.size w)
 have H : (dropperref05_IsKeep.l0 k l1 0 a0_0 l0_1 l0_2) = some r := h
 clear h
 have H' := Aside0.mk H
 clear H
 go_enter Tryd.func5, Tryd.ntmps5
 go_wp2_with (first | ((with_reducible refine gate_dst (N := 2) rfl ?_); refine box_event ?hg (N := 2) ?hd (cs := #[.int .i64 a0_0, .slice A0_1 l0_1.length c0_1, .slice A0_2 l0_2.length c0_2]) (t := 25) ?hr ?_; (case hd => rfl); (case hg => rfl); (case hr => first | (go_simp; done) | (go_simp; rfl)); intro gb110 hg w3 hbox hb; have BK110 := Aside0.mk (hbox); have GW110 := bsz (w := w) hg; have GE110 := GW110; replace HB := Aside0.mk (below_step bel hb); clear hb hbox hg))
 go_loopg [5] k (fun kq v5 w' => ∃ (x5_1 : Int), v5 = .int .i64 x5_1 ∧ Aside0 (dropperref05_IsKeep.l0 kq l1 x5_1 a0_0 l0_1 l0_2 = some r) ∧ Aside0 (kq ≤ k) ∧ Aside0 (w'.heap[gb110]? = some (.cells #[.int .i64 a0_0, (.slice A0_1 l0_1.length c0_1), (.slice A0_2 l0_2.length c0_2)] 25 (0, 0))) ∧ Aside0 (Below w.heap.size w w'))
 case atStart => exact ⟨(0), rsz, H', ⟨Nat.le_refl _⟩, ⟨blkz⟩, ⟨bel⟩⟩
 case round =>
  clear H'
  (try clear c1); (try clear p2)
  obtain ⟨x5_1, rfl, HA, HK1, BK110, HB⟩ := hrel
  cases gk with
  | zero => exact absurd HA.out (by simp [dropperref05_IsKeep.l0])
  | succ k1 =>
   have H := HA.out
   clear HA
   simp only [dropperref05_IsKeep.l0] at H
   by_cases c4 : x5_1 < (l1.length : Int)
   ·
    rw [if_pos c4] at H
    have c4b0 : decide (x5_1 < (l1.length : Int)) = true := decide_eq_true c4
    clear c4
    by_cases c5 : 0 ≤ x5_1
    ·
     rw [if_pos c5] at H
     have c5b0 : decide (0 ≤ x5_1) = true := decide_eq_true c5
     clear c5
     replace H := Option.bind_eq_some_iff.mp H
     obtain ⟨t112, A60, H⟩ := H
     try dsimp only at H
     have A6 := Aside0.mk A60
     clear A60
     by_cases c7 : t112 = true
     ·
      subst c7
      rw [if_pos rfl] at H
      by_cases c8 : x5_1 > 0
      ·
       rw [if_pos c8] at H
       have c8b0 : decide (0 < x5_1) = true := decide_eq_true c8
       clear c8
       obtain ⟨ji9, hji9⟩ : ∃ j_ : Int, (wrap64 (x5_1 - 1)) = j_ := ⟨_, rfl⟩
       replace H : (if 0 ≤ (ji9) then (if (ji9) < (l1.length : Int) then (if (rd l1 x5_1) ≤ (rd l1 (ji9)) then (some false) else (dropperref05_IsKeep.l0 k1 l1 (wrap64 (x5_1 + 1)) a0_0 l0_1 l0_2)) else (none)) else (none)) = some r := by first | (rw [hji9] at H; exact H) | (simp only [hji9] at H ⊢; exact H)
       (try rw [hji9] at A6)
       have hji9w : (IntKind.i64.wrap (x5_1 - 1)) = ji9 := (i64_w _).trans hji9
       by_cases c10 : 0 ≤ (ji9)
       ·
        rw [if_pos c10] at H
        have c10b0 : decide (0 ≤ (ji9)) = true := decide_eq_true c10
        clear c10
        by_cases c11 : (ji9) < (l1.length : Int)
        ·
         rw [if_pos c11] at H
         have c11b0 : decide ((ji9) < (l1.length : Int)) = true := decide_eq_true c11
         clear c11
         by_cases c12 : (rd l1 x5_1) ≤ (rd l1 (ji9))
         ·
          rw [if_pos c12] at H
          have c12b0 : decide ((rd l1 x5_1) ≤ (rd l1 (ji9))) = true := decide_eq_true c12
          clear c12
          obtain rfl := Option.some.inj H
          try go_wp2
          have n0_ := Aside0.mk (blk_drew BK110.out)
          have n1_ := Aside0.mk (below_drew1 HB.out)
          clear BK110
          clear HB
          have BK110 := n0_
          have HB := n1_
          clear n0_ n1_
          have p111 : 0 ≤ (x5_1 : Int) := of_decide_eq_true asz
          have q111 : x5_1 < (l1.length : Int) := of_decide_eq_true asz
          obtain ⟨ad111, e111, hx111_0⟩ := Kd.at_int HR1.out x5_1 p111 q111
          have hw111_0 := hx111_0
          cases e111
          replace hx111_0 := (HB.out.cell (World.block_lt_of_cell? w _ hx111_0)).trans hx111_0
          replace p111 := eq_true p111
          replace q111 := eq_true q111
          have p113 : 0 ≤ (x5_1 : Int) := of_decide_eq_true asz
          have q113 : x5_1 < (l1.length : Int) := of_decide_eq_true asz
          obtain ⟨ad113, e113, hx113_0⟩ := Kd.at_int HR1.out x5_1 p113 q113
          have hw113_0 := hx113_0
          obtain rfl : ad111 = ad113 := (by injection e113)
          replace hx113_0 := (HB.out.cell (World.block_lt_of_cell? w _ hx113_0)).trans hx113_0
          replace p113 := eq_true p113
          replace q113 := eq_true q113
          have p114 : 0 ≤ ((ji9) : Int) := of_decide_eq_true asz
          have q114 : (ji9) < (l1.length : Int) := of_decide_eq_true asz
          obtain ⟨ad114, e114, hx114_0⟩ := Kd.at_int HR1.out (ji9) p114 q114
          have hw114_0 := hx114_0
          obtain rfl : ad111 = ad114 := (by injection e114)
          replace hx114_0 := (HB.out.cell (World.block_lt_of_cell? w _ hx114_0)).trans hx114_0
          replace p114 := eq_true p114
          replace q114 := eq_true q114
          refine start_ (n := 23) (S := fun w' => w'.cell? ⟨gb110, 0, none⟩ = some (.int .i64 a0_0) ∧ w'.cell? ⟨gb110, 1, none⟩ = some (.slice A0_1 l0_1.length c0_1) ∧ w'.cell? ⟨gb110, 2, none⟩ = some (.slice A0_2 l0_2.length c0_2) ∧ w'.cell? (ad111.add (x5_1).toNat) = some (.int .i64 (rd l1 x5_1)) ∧ w'.cell? (ad111.add (x5_1).toNat) = some (.int .i64 (rd l1 x5_1)) ∧ w'.cell? (ad111.add ((ji9)).toNat) = some (.int .i64 (rd l1 (ji9)))) (ds := []) #[false, false, false, false, false, false, false, false, false, false, false, false, false, false, false, false, false, false, false, false, false, false, false] (by kernel_rfl) rfl rfl ⟨(blk_cell BK110.out 0).trans rfl, (blk_cell BK110.out 1).trans rfl, (blk_cell BK110.out 2).trans rfl, ((HB.out.cell (World.block_lt_of_cell? w _ hw111_0)).trans hw111_0), ((HB.out.cell (World.block_lt_of_cell? w _ hw113_0)).trans hw113_0), ((HB.out.cell (World.block_lt_of_cell? w _ hw114_0)).trans hw114_0)⟩ (fun hHeld => ?_); refine with_tabW dropperref05_IsKeep.tab4 dropperref05_IsKeep.bits4 (fun HT_ HW_ => ?_)
          generalize wr.drew = w13 at BK110 HB hx111_0 hx113_0 hx114_0 hHeld ⊢
          refine pst (i := 1) (N := some 13) (bz 23 2) (any_of HT_.out (by kernel_rfl)) ?_
          refine pst (i := 2) (N := some 14) (bz 23 6) (any_of HT_.out (by kernel_rfl)) ?_
          refine pst (i := 3) (N := some 15) (bz 23 14) (any_of HT_.out (by kernel_rfl)) ?_
          refine tst6 (i := 0) (N := some 12) (bz 23 15) (take_ofW HT_.out HW_.out (by kernel_rfl)) hHeld ?_
          refine tst6 (i := 4) (N := some 16) (bz 23 31) (take_ofW HT_.out HW_.out (by kernel_rfl)) hHeld ?_
          refine one_ (i := 5) (N := some 17) #[true, true, true, true, true, true, false, false, false, false, false, false, false, false, false, false, false, false, false, false, false, false, false] rfl rfl (one_of HT_.out (by kernel_rfl)) (by decide) (fun K hK => ?_)
          refine goes_ Tryd.func17 (by kernel_rfl) rfl #[.agg #[.int .i64 a0_0, .slice A0_1 l0_1.length c0_1, .slice A0_2 l0_2.length c0_2], .int .i64 (rd l1 x5_1)] (by rfl) rfl rfl mapz ?_
          with_reducible refine (dropperref05_section.calls a0_0 _ _ l0_1 _ _ l0_2 (rd l1 x5_1) true _ ?side1 ?side2 ?side3 ?side4 A6.out).mono ?_
          (case side1 => exact cbz HR0_1)
          (case side2 => exact HC0_1.out)
          (case side3 => exact cbz HR0_2)
          (case side4 => exact HC0_2.out)
          rintro e w14 ⟨rfl, hb⟩
          refine ⟨_, rfl, ?_⟩
          have n0_ := Aside0.mk (blk_below (g := gb110) blkz hb)
          have n1_ := Aside0.mk (below_step bel hb)
          clear BK110
          clear HB
          have BK110 := n0_
          have HB := n1_
          clear n0_ n1_
          (try clear hb)
          (try clear hb2)
          (try clear hk)
          (try clear hi)
          refine hK.out _ _ ⟨(blk_cell BK110.out 0).trans rfl, (blk_cell BK110.out 1).trans rfl, (blk_cell BK110.out 2).trans rfl, ((HB.out.cell (World.block_lt_of_cell? w _ hw111_0)).trans hw111_0), ((HB.out.cell (World.block_lt_of_cell? w _ hw113_0)).trans hw113_0), ((HB.out.cell (World.block_lt_of_cell? w _ hw114_0)).trans hw114_0)⟩ (fun hHeld => ?_)
          clear hK K
          refine norm_ (a' := ?_) ?_ ?_
          rotate_left
          ·
           show Act.put _ (some 17) _ = _
           simp only [Act.put, List.setIfInBounds_toArray, List.set_cons_zero, List.set_cons_succ, i64_w, i32_w]
           rfl
          refine pst (i := 6) (N := some 18) (bz 23 127) (any_of HT_.out (by kernel_rfl)) ?_
          refine pst (i := 7) (N := some 19) (bz 23 255) (any_of HT_.out (by kernel_rfl)) ?_
          refine pst (i := 8) (N := some 20) (bz 23 511) (any_of HT_.out (by kernel_rfl)) ?_
          refine pst (i := 9) (N := some 21) (bz 23 1023) (any_of HT_.out (by kernel_rfl)) ?_
          refine pst (i := 10) (N := some 22) (bz 23 2047) (any_of HT_.out (by kernel_rfl)) ?_
          refine pst (i := 11) (N := some 23) (bz 23 4095) (any_of HT_.out (by kernel_rfl)) ?_
          refine pst (i := 12) (N := some 24) (bz 23 8191) (any_of HT_.out (by kernel_rfl)) ?_
          refine pst (i := 13) (N := some 25) (bz 23 16383) (any_of HT_.out (by kernel_rfl)) ?_
          refine pst (i := 15) (N := some 27) (bz 23 49151) (any_of HT_.out (by kernel_rfl)) ?_
          refine pst (i := 16) (N := some 28) (bz 23 114687) (any_of HT_.out (by kernel_rfl)) ?_
          refine pst (i := 17) (N := some 29) (bz 23 245759) (any_of HT_.out (by kernel_rfl)) ?_
          refine pst (i := 18) (N := some 30) (bz 23 507903) (any_of HT_.out (by kernel_rfl)) ?_
          refine tst6 (i := 14) (N := some 26) (bz 23 524287) (take_ofW HT_.out HW_.out (by kernel_rfl)) hHeld ?_
          refine tst6 (i := 19) (N := some 31) (bz 23 1048575) (take_ofW HT_.out HW_.out (by kernel_rfl)) hHeld ?_
          refine pst (i := 20) (N := some 32) (bz 23 2097151) (any_of HT_.out (by kernel_rfl)) ?_
          refine pst (i := 21) (N := some 33) (bz 23 4194303) (any_of HT_.out (by kernel_rfl)) ?_
          refine pst (i := 22) (N := some 34) (bz 23 8388607) (any_of HT_.out (by kernel_rfl)) ?_
          refine done_ (done_of HT_.out (by kernel_rfl)) ?_
          try go_wp2
          go_ret
          exact ⟨by first | rfl | (simp [errW_none, errW_some] <;> rfl) | (simp only [← hji9]; first | rfl | (simp [errW_none, errW_some] <;> rfl)) | (simp [*, errW_none, errW_some] <;> rfl), bel⟩
         ·
          rw [if_neg c12] at H
          have c12b0 : decide ((rd l1 x5_1) ≤ (rd l1 (ji9))) = false := decide_eq_false c12
          clear c12
          have H' := Aside0.mk H
          clear H
          try go_wp2
          have n0_ := Aside0.mk (blk_drew BK110.out)
          have n1_ := Aside0.mk (below_drew1 HB.out)
          clear BK110
          clear HB
          have BK110 := n0_
          have HB := n1_
          clear n0_ n1_
          have p111 : 0 ≤ (x5_1 : Int) := of_decide_eq_true asz
          have q111 : x5_1 < (l1.length : Int) := of_decide_eq_true asz
          obtain ⟨ad111, e111, hx111_0⟩ := Kd.at_int HR1.out x5_1 p111 q111
          have hw111_0 := hx111_0
          cases e111
          replace hx111_0 := (HB.out.cell (World.block_lt_of_cell? w _ hx111_0)).trans hx111_0
          replace p111 := eq_true p111
          replace q111 := eq_true q111
          have p113 : 0 ≤ (x5_1 : Int) := of_decide_eq_true asz
          have q113 : x5_1 < (l1.length : Int) := of_decide_eq_true asz
          obtain ⟨ad113, e113, hx113_0⟩ := Kd.at_int HR1.out x5_1 p113 q113
          have hw113_0 := hx113_0
          obtain rfl : ad111 = ad113 := (by injection e113)
          replace hx113_0 := (HB.out.cell (World.block_lt_of_cell? w _ hx113_0)).trans hx113_0
          replace p113 := eq_true p113
          replace q113 := eq_true q113
          have p114 : 0 ≤ ((ji9) : Int) := of_decide_eq_true asz
          have q114 : (ji9) < (l1.length : Int) := of_decide_eq_true asz
          obtain ⟨ad114, e114, hx114_0⟩ := Kd.at_int HR1.out (ji9) p114 q114
          have hw114_0 := hx114_0
          obtain rfl : ad111 = ad114 := (by injection e114)
          replace hx114_0 := (HB.out.cell (World.block_lt_of_cell? w _ hx114_0)).trans hx114_0
          replace p114 := eq_true p114
          replace q114 := eq_true q114
          refine start_ (n := 23) (S := fun w' => w'.cell? ⟨gb110, 0, none⟩ = some (.int .i64 a0_0) ∧ w'.cell? ⟨gb110, 1, none⟩ = some (.slice A0_1 l0_1.length c0_1) ∧ w'.cell? ⟨gb110, 2, none⟩ = some (.slice A0_2 l0_2.length c0_2) ∧ w'.cell? (ad111.add (x5_1).toNat) = some (.int .i64 (rd l1 x5_1)) ∧ w'.cell? (ad111.add (x5_1).toNat) = some (.int .i64 (rd l1 x5_1)) ∧ w'.cell? (ad111.add ((ji9)).toNat) = some (.int .i64 (rd l1 (ji9)))) (ds := []) #[false, false, false, false, false, false, false, false, false, false, false, false, false, false, false, false, false, false, false, false, false, false, false] (by kernel_rfl) rfl rfl ⟨(blk_cell BK110.out 0).trans rfl, (blk_cell BK110.out 1).trans rfl, (blk_cell BK110.out 2).trans rfl, ((HB.out.cell (World.block_lt_of_cell? w _ hw111_0)).trans hw111_0), ((HB.out.cell (World.block_lt_of_cell? w _ hw113_0)).trans hw113_0), ((HB.out.cell (World.block_lt_of_cell? w _ hw114_0)).trans hw114_0)⟩ (fun hHeld => ?_); refine with_tabW dropperref05_IsKeep.tab4 dropperref05_IsKeep.bits4 (fun HT_ HW_ => ?_)
          generalize wr.drew = w15 at BK110 HB hx111_0 hx113_0 hx114_0 hHeld ⊢
          refine pst (i := 1) (N := some 13) (bz 23 2) (any_of HT_.out (by kernel_rfl)) ?_
          refine pst (i := 2) (N := some 14) (bz 23 6) (any_of HT_.out (by kernel_rfl)) ?_
          refine pst (i := 3) (N := some 15) (bz 23 14) (any_of HT_.out (by kernel_rfl)) ?_
          refine tst6 (i := 0) (N := some 12) (bz 23 15) (take_ofW HT_.out HW_.out (by kernel_rfl)) hHeld ?_
          refine tst6 (i := 4) (N := some 16) (bz 23 31) (take_ofW HT_.out HW_.out (by kernel_rfl)) hHeld ?_
          refine one_ (i := 5) (N := some 17) #[true, true, true, true, true, true, false, false, false, false, false, false, false, false, false, false, false, false, false, false, false, false, false] rfl rfl (one_of HT_.out (by kernel_rfl)) (by decide) (fun K hK => ?_)
          refine goes_ Tryd.func17 (by kernel_rfl) rfl #[.agg #[.int .i64 a0_0, .slice A0_1 l0_1.length c0_1, .slice A0_2 l0_2.length c0_2], .int .i64 (rd l1 x5_1)] (by rfl) rfl rfl mapz ?_
          with_reducible refine (dropperref05_section.calls a0_0 _ _ l0_1 _ _ l0_2 (rd l1 x5_1) true _ ?side1 ?side2 ?side3 ?side4 A6.out).mono ?_
          (case side1 => exact cbz HR0_1)
          (case side2 => exact HC0_1.out)
          (case side3 => exact cbz HR0_2)
          (case side4 => exact HC0_2.out)
          rintro e w16 ⟨rfl, hb⟩
          refine ⟨_, rfl, ?_⟩
          have n0_ := Aside0.mk (blk_below (g := gb110) blkz hb)
          have n1_ := Aside0.mk (below_step bel hb)
          clear BK110
          clear HB
          have BK110 := n0_
          have HB := n1_
          clear n0_ n1_
          (try clear hb)
          (try clear hb2)
          (try clear hk)
          (try clear hi)
          refine hK.out _ _ ⟨(blk_cell BK110.out 0).trans rfl, (blk_cell BK110.out 1).trans rfl, (blk_cell BK110.out 2).trans rfl, ((HB.out.cell (World.block_lt_of_cell? w _ hw111_0)).trans hw111_0), ((HB.out.cell (World.block_lt_of_cell? w _ hw113_0)).trans hw113_0), ((HB.out.cell (World.block_lt_of_cell? w _ hw114_0)).trans hw114_0)⟩ (fun hHeld => ?_)
          clear hK K
          refine norm_ (a' := ?_) ?_ ?_
          rotate_left
          ·
           show Act.put _ (some 17) _ = _
           simp only [Act.put, List.setIfInBounds_toArray, List.set_cons_zero, List.set_cons_succ, i64_w, i32_w]
           rfl
          refine pst (i := 6) (N := some 18) (bz 23 127) (any_of HT_.out (by kernel_rfl)) ?_
          refine pst (i := 7) (N := some 19) (bz 23 255) (any_of HT_.out (by kernel_rfl)) ?_
          refine pst (i := 8) (N := some 20) (bz 23 511) (any_of HT_.out (by kernel_rfl)) ?_
          refine pst (i := 9) (N := some 21) (bz 23 1023) (any_of HT_.out (by kernel_rfl)) ?_
          refine pst (i := 10) (N := some 22) (bz 23 2047) (any_of HT_.out (by kernel_rfl)) ?_
          refine pst (i := 11) (N := some 23) (bz 23 4095) (any_of HT_.out (by kernel_rfl)) ?_
          refine pst (i := 12) (N := some 24) (bz 23 8191) (any_of HT_.out (by kernel_rfl)) ?_
          refine pst (i := 13) (N := some 25) (bz 23 16383) (any_of HT_.out (by kernel_rfl)) ?_
          refine pst (i := 15) (N := some 27) (bz 23 49151) (any_of HT_.out (by kernel_rfl)) ?_
          refine pst (i := 16) (N := some 28) (bz 23 114687) (any_of HT_.out (by kernel_rfl)) ?_
          refine pst (i := 17) (N := some 29) (bz 23 245759) (any_of HT_.out (by kernel_rfl)) ?_
          refine pst (i := 18) (N := some 30) (bz 23 507903) (any_of HT_.out (by kernel_rfl)) ?_
          refine tst6 (i := 14) (N := some 26) (bz 23 524287) (take_ofW HT_.out HW_.out (by kernel_rfl)) hHeld ?_
          refine tst6 (i := 19) (N := some 31) (bz 23 1048575) (take_ofW HT_.out HW_.out (by kernel_rfl)) hHeld ?_
          refine pst (i := 20) (N := some 32) (bz 23 2097151) (any_of HT_.out (by kernel_rfl)) ?_
          refine pst (i := 21) (N := some 33) (bz 23 4194303) (any_of HT_.out (by kernel_rfl)) ?_
          refine pst (i := 22) (N := some 34) (bz 23 8388607) (any_of HT_.out (by kernel_rfl)) ?_
          refine done_ (done_of HT_.out (by kernel_rfl)) ?_
          try go_wp2
          go_roundg k1
          case measure => have := HK1.out; omega
          case rel => exact ⟨(wrap64 (x5_1 + 1)), rsz, H', ⟨by have := HK1.out; omega⟩, ⟨blkz⟩, ⟨bel⟩⟩
        ·
         rw [if_neg c11] at H
         exact absurd H (by simp)
       ·
        rw [if_neg c10] at H
        exact absurd H (by simp)
      ·
       rw [if_neg c8] at H
       have c8b0 : decide (0 < x5_1) = false := decide_eq_false c8
       clear c8
       have H' := Aside0.mk H
       clear H
       try go_wp2
       have n0_ := Aside0.mk (blk_drew BK110.out)
       have n1_ := Aside0.mk (below_drew1 HB.out)
       clear BK110
       clear HB
       have BK110 := n0_
       have HB := n1_
       clear n0_ n1_
       have p111 : 0 ≤ (x5_1 : Int) := of_decide_eq_true asz
       have q111 : x5_1 < (l1.length : Int) := of_decide_eq_true asz
       obtain ⟨ad111, e111, hx111_0⟩ := Kd.at_int HR1.out x5_1 p111 q111
       have hw111_0 := hx111_0
       cases e111
       replace hx111_0 := (HB.out.cell (World.block_lt_of_cell? w _ hx111_0)).trans hx111_0
       replace p111 := eq_true p111
       replace q111 := eq_true q111
       refine start_ (n := 23) (S := fun w' => w'.cell? ⟨gb110, 0, none⟩ = some (.int .i64 a0_0) ∧ w'.cell? ⟨gb110, 1, none⟩ = some (.slice A0_1 l0_1.length c0_1) ∧ w'.cell? ⟨gb110, 2, none⟩ = some (.slice A0_2 l0_2.length c0_2) ∧ w'.cell? (ad111.add (x5_1).toNat) = some (.int .i64 (rd l1 x5_1))) (ds := []) #[false, false, false, false, false, false, false, false, false, false, false, false, false, false, false, false, false, false, false, false, false, false, false] (by kernel_rfl) rfl rfl ⟨(blk_cell BK110.out 0).trans rfl, (blk_cell BK110.out 1).trans rfl, (blk_cell BK110.out 2).trans rfl, ((HB.out.cell (World.block_lt_of_cell? w _ hw111_0)).trans hw111_0)⟩ (fun hHeld => ?_); refine with_tabW dropperref05_IsKeep.tab4 dropperref05_IsKeep.bits4 (fun HT_ HW_ => ?_)
       generalize wr.drew = w17 at BK110 HB hx111_0 hHeld ⊢
       refine pst (i := 1) (N := some 13) (bz 23 2) (any_of HT_.out (by kernel_rfl)) ?_
       refine pst (i := 2) (N := some 14) (bz 23 6) (any_of HT_.out (by kernel_rfl)) ?_
       refine pst (i := 3) (N := some 15) (bz 23 14) (any_of HT_.out (by kernel_rfl)) ?_
       refine tst4 (i := 0) (N := some 12) (bz 23 15) (take_ofW HT_.out HW_.out (by kernel_rfl)) hHeld ?_
       refine tst4 (i := 4) (N := some 16) (bz 23 31) (take_ofW HT_.out HW_.out (by kernel_rfl)) hHeld ?_
       refine one_ (i := 5) (N := some 17) #[true, true, true, true, true, true, false, false, false, false, false, false, false, false, false, false, false, false, false, false, false, false, false] rfl rfl (one_of HT_.out (by kernel_rfl)) (by decide) (fun K hK => ?_)
       refine goes_ Tryd.func17 (by kernel_rfl) rfl #[.agg #[.int .i64 a0_0, .slice A0_1 l0_1.length c0_1, .slice A0_2 l0_2.length c0_2], .int .i64 (rd l1 x5_1)] (by rfl) rfl rfl mapz ?_
       with_reducible refine (dropperref05_section.calls a0_0 _ _ l0_1 _ _ l0_2 (rd l1 x5_1) true _ ?side1 ?side2 ?side3 ?side4 A6.out).mono ?_
       (case side1 => exact cbz HR0_1)
       (case side2 => exact HC0_1.out)
       (case side3 => exact cbz HR0_2)
       (case side4 => exact HC0_2.out)
       rintro e w18 ⟨rfl, hb⟩
       refine ⟨_, rfl, ?_⟩
       have n0_ := Aside0.mk (blk_below (g := gb110) blkz hb)
       have n1_ := Aside0.mk (below_step bel hb)
       clear BK110
       clear HB
       have BK110 := n0_
       have HB := n1_
       clear n0_ n1_
       (try clear hb)
       (try clear hb2)
       (try clear hk)
       (try clear hi)
       refine hK.out _ _ ⟨(blk_cell BK110.out 0).trans rfl, (blk_cell BK110.out 1).trans rfl, (blk_cell BK110.out 2).trans rfl, ((HB.out.cell (World.block_lt_of_cell? w _ hw111_0)).trans hw111_0)⟩ (fun hHeld => ?_)
       clear hK K
       refine norm_ (a' := ?_) ?_ ?_
       rotate_left
       ·
        show Act.put _ (some 17) _ = _
        simp only [Act.put, List.setIfInBounds_toArray, List.set_cons_zero, List.set_cons_succ, i64_w, i32_w]
        rfl
       refine pst (i := 6) (N := some 18) (bz 23 127) (any_of HT_.out (by kernel_rfl)) ?_
       refine pst (i := 7) (N := some 19) (bz 23 255) (any_of HT_.out (by kernel_rfl)) ?_
       refine pst (i := 8) (N := some 20) (bz 23 511) (any_of HT_.out (by kernel_rfl)) ?_
       refine pst (i := 9) (N := some 21) (bz 23 1023) (any_of HT_.out (by kernel_rfl)) ?_
       refine pst (i := 10) (N := some 22) (bz 23 2047) (any_of HT_.out (by kernel_rfl)) ?_
       refine pso (i := 11) (N := some 23) (bz 23 4095) (any_of HT_.out (by kernel_rfl)) ?_
       refine pso (i := 12) (N := some 24) (bz 23 8191) (any_of HT_.out (by kernel_rfl)) ?_
       refine pso (i := 13) (N := some 25) (bz 23 16383) (any_of HT_.out (by kernel_rfl)) ?_
       refine pso (i := 14) (N := some 26) (bz 23 32767) (any_of HT_.out (by kernel_rfl)) ?_
       refine pso (i := 15) (N := some 27) (bz 23 65535) (any_of HT_.out (by kernel_rfl)) ?_
       refine pso (i := 16) (N := some 28) (bz 23 131071) (any_of HT_.out (by kernel_rfl)) ?_
       refine pso (i := 17) (N := some 29) (bz 23 262143) (any_of HT_.out (by kernel_rfl)) ?_
       refine pso (i := 18) (N := some 30) (bz 23 524287) (any_of HT_.out (by kernel_rfl)) ?_
       refine pso (i := 19) (N := some 31) (bz 23 1048575) (any_of HT_.out (by kernel_rfl)) ?_
       refine pso (i := 20) (N := some 32) (bz 23 2097151) (any_of HT_.out (by kernel_rfl)) ?_
       refine pst (i := 21) (N := some 33) (bz 23 4194303) (any_of HT_.out (by kernel_rfl)) ?_
       refine pst (i := 22) (N := some 34) (bz 23 8388607) (any_of HT_.out (by kernel_rfl)) ?_
       refine done_ (done_of HT_.out (by kernel_rfl)) ?_
       try go_wp2
       go_roundg k1
       case measure => have := HK1.out; omega
       case rel => exact ⟨(wrap64 (x5_1 + 1)), rsz, H', ⟨by have := HK1.out; omega⟩, ⟨blkz⟩, ⟨bel⟩⟩
     ·
      replace c7 := Bool.eq_false_iff.mpr c7
      subst c7
      rw [if_neg (show ¬ (false = true) by decide)] at H
      obtain rfl := Option.some.inj H
      try go_wp2
      have n0_ := Aside0.mk (blk_drew BK110.out)
      have n1_ := Aside0.mk (below_drew1 HB.out)
      clear BK110
      clear HB
      have BK110 := n0_
      have HB := n1_
      clear n0_ n1_
      have p111 : 0 ≤ (x5_1 : Int) := of_decide_eq_true asz
      have q111 : x5_1 < (l1.length : Int) := of_decide_eq_true asz
      obtain ⟨ad111, e111, hx111_0⟩ := Kd.at_int HR1.out x5_1 p111 q111
      have hw111_0 := hx111_0
      cases e111
      replace hx111_0 := (HB.out.cell (World.block_lt_of_cell? w _ hx111_0)).trans hx111_0
      replace p111 := eq_true p111
      replace q111 := eq_true q111
      refine start_ (n := 23) (S := fun w' => w'.cell? ⟨gb110, 0, none⟩ = some (.int .i64 a0_0) ∧ w'.cell? ⟨gb110, 1, none⟩ = some (.slice A0_1 l0_1.length c0_1) ∧ w'.cell? ⟨gb110, 2, none⟩ = some (.slice A0_2 l0_2.length c0_2) ∧ w'.cell? (ad111.add (x5_1).toNat) = some (.int .i64 (rd l1 x5_1))) (ds := []) #[false, false, false, false, false, false, false, false, false, false, false, false, false, false, false, false, false, false, false, false, false, false, false] (by kernel_rfl) rfl rfl ⟨(blk_cell BK110.out 0).trans rfl, (blk_cell BK110.out 1).trans rfl, (blk_cell BK110.out 2).trans rfl, ((HB.out.cell (World.block_lt_of_cell? w _ hw111_0)).trans hw111_0)⟩ (fun hHeld => ?_); refine with_tabW dropperref05_IsKeep.tab4 dropperref05_IsKeep.bits4 (fun HT_ HW_ => ?_)
      generalize wr.drew = w19 at BK110 HB hx111_0 hHeld ⊢
      refine pst (i := 1) (N := some 13) (bz 23 2) (any_of HT_.out (by kernel_rfl)) ?_
      refine pst (i := 2) (N := some 14) (bz 23 6) (any_of HT_.out (by kernel_rfl)) ?_
      refine pst (i := 3) (N := some 15) (bz 23 14) (any_of HT_.out (by kernel_rfl)) ?_
      refine tst4 (i := 0) (N := some 12) (bz 23 15) (take_ofW HT_.out HW_.out (by kernel_rfl)) hHeld ?_
      refine tst4 (i := 4) (N := some 16) (bz 23 31) (take_ofW HT_.out HW_.out (by kernel_rfl)) hHeld ?_
      refine one_ (i := 5) (N := some 17) #[true, true, true, true, true, true, false, false, false, false, false, false, false, false, false, false, false, false, false, false, false, false, false] rfl rfl (one_of HT_.out (by kernel_rfl)) (by decide) (fun K hK => ?_)
      refine goes_ Tryd.func17 (by kernel_rfl) rfl #[.agg #[.int .i64 a0_0, .slice A0_1 l0_1.length c0_1, .slice A0_2 l0_2.length c0_2], .int .i64 (rd l1 x5_1)] (by rfl) rfl rfl mapz ?_
      with_reducible refine (dropperref05_section.calls a0_0 _ _ l0_1 _ _ l0_2 (rd l1 x5_1) false _ ?side1 ?side2 ?side3 ?side4 A6.out).mono ?_
      (case side1 => exact cbz HR0_1)
      (case side2 => exact HC0_1.out)
      (case side3 => exact cbz HR0_2)
      (case side4 => exact HC0_2.out)
      rintro e w20 ⟨rfl, hb⟩
      refine ⟨_, rfl, ?_⟩
      have n0_ := Aside0.mk (blk_below (g := gb110) blkz hb)
      have n1_ := Aside0.mk (below_step bel hb)
      clear BK110
      clear HB
      have BK110 := n0_
      have HB := n1_
      clear n0_ n1_
      (try clear hb)
      (try clear hb2)
      (try clear hk)
      (try clear hi)
      refine hK.out _ _ ⟨(blk_cell BK110.out 0).trans rfl, (blk_cell BK110.out 1).trans rfl, (blk_cell BK110.out 2).trans rfl, ((HB.out.cell (World.block_lt_of_cell? w _ hw111_0)).trans hw111_0)⟩ (fun hHeld => ?_)
      clear hK K
      refine norm_ (a' := ?_) ?_ ?_
      rotate_left
      ·
       show Act.put _ (some 17) _ = _
       simp only [Act.put, List.setIfInBounds_toArray, List.set_cons_zero, List.set_cons_succ, i64_w, i32_w]
       rfl
      refine pst (i := 6) (N := some 18) (bz 23 127) (any_of HT_.out (by kernel_rfl)) ?_
      refine pst (i := 7) (N := some 19) (bz 23 255) (any_of HT_.out (by kernel_rfl)) ?_
      refine pso (i := 8) (N := some 20) (bz 23 511) (any_of HT_.out (by kernel_rfl)) ?_
      refine pso (i := 9) (N := some 21) (bz 23 1023) (any_of HT_.out (by kernel_rfl)) ?_
      refine pso (i := 10) (N := some 22) (bz 23 2047) (any_of HT_.out (by kernel_rfl)) ?_
      refine pso (i := 11) (N := some 23) (bz 23 4095) (any_of HT_.out (by kernel_rfl)) ?_
      refine pso (i := 12) (N := some 24) (bz 23 8191) (any_of HT_.out (by kernel_rfl)) ?_
      refine pso (i := 13) (N := some 25) (bz 23 16383) (any_of HT_.out (by kernel_rfl)) ?_
      refine pso (i := 14) (N := some 26) (bz 23 32767) (any_of HT_.out (by kernel_rfl)) ?_
      refine pso (i := 15) (N := some 27) (bz 23 65535) (any_of HT_.out (by kernel_rfl)) ?_
      refine pso (i := 16) (N := some 28) (bz 23 131071) (any_of HT_.out (by kernel_rfl)) ?_
      refine pso (i := 17) (N := some 29) (bz 23 262143) (any_of HT_.out (by kernel_rfl)) ?_
      refine pso (i := 18) (N := some 30) (bz 23 524287) (any_of HT_.out (by kernel_rfl)) ?_
      refine pso (i := 19) (N := some 31) (bz 23 1048575) (any_of HT_.out (by kernel_rfl)) ?_
      refine pso (i := 20) (N := some 32) (bz 23 2097151) (any_of HT_.out (by kernel_rfl)) ?_
      refine pso (i := 21) (N := some 33) (bz 23 4194303) (any_of HT_.out (by kernel_rfl)) ?_
      refine pst (i := 22) (N := some 34) (bz 23 8388607) (any_of HT_.out (by kernel_rfl)) ?_
      refine done_ (done_of HT_.out (by kernel_rfl)) ?_
      try go_wp2
      go_ret
      exact ⟨ezz, bel⟩
    ·
     rw [if_neg c5] at H
     exact absurd H (by simp)
   ·
    rw [if_neg c4] at H
    have c4b0 : decide (x5_1 < (l1.length : Int)) = false := decide_eq_false c4
    clear c4
    obtain rfl := Option.some.inj H
    go_wp2
    go_ret
    exact ⟨ezz, bel⟩

/-! ### dropperref05_IsState: function 7 -/
def dropperref05_IsState.f (a0_0 : Int) (l0_1 : List (S47)) (l0_2 : List (S49)) (a1 : Int) : Option (Bool) := if a1 ≥ 0 then (some (decide (a1 < (shl .i64 1 (l0_1.length : Int))))) else (some false)
set_option maxHeartbeats 8000000 in
set_option maxRecDepth 100000 in
theorem dropperref05_IsState.calls (a0_0 : Int) (A0_1 : Option Addr) (c0_1 : Nat) (l0_1 : List (S47)) (A0_2 : Option Addr) (c0_2 : Nat) (l0_2 : List (S49)) (a1 : Int) (r : Bool) (w : World) (hr0_1 : Kd.C k47 w A0_1 l0_1.length l0_1) (hc0_1 : l0_1.length ≤ c0_1) (hr0_2 : Kd.C k49 w A0_2 l0_2.length l0_2) (hc0_2 : l0_2.length ≤ c0_2) (h : dropperref05_IsState.f a0_0 l0_1 l0_2 a1 = some r) :
  Calls Tryd.prog 7 #[.agg #[.int .i64 a0_0, .slice A0_1 l0_1.length c0_1, .slice A0_2 l0_2.length c0_2], .int .i64 a1] w fun e w' => e = .returned (.bool r) ∧ Below w.heap.size w w' := by
 have hu25 := Tryd.underlying25
 have HR0_1 := Aside0.mk hr0_1
 have HC0_1 := Aside0.mk hc0_1
 clear hr0_1 hc0_1
 have HR0_2 := Aside0.mk hr0_2
 have HC0_2 := Aside0.mk hc0_2
 clear hr0_2 hc0_2
 have HB := Aside0.mk (Below.refl w.heap.size w)
 have H : (if a1 ≥ 0 then (some (decide (a1 < (shl .i64 1 (l0_1.length : Int))))) else (some false)) = some r := h
 clear h
 by_cases c3 : a1 ≥ 0
 ·
  rw [if_pos c3] at H
  have c3b0 : decide (0 ≤ a1) = true := decide_eq_true c3
  clear c3
  obtain ⟨ji4, hji4⟩ : ∃ j_ : Int, (shl .i64 1 (l0_1.length : Int)) = j_ := ⟨_, rfl⟩
  replace H : (some (decide (a1 < (ji4)))) = some r := by first | (rw [hji4] at H; exact H) | (simp only [hji4] at H ⊢; exact H)
  have hji4_ : (IntKind.i64.wrap (1 * 2 ^ min (l0_1.length : Int).toNat 64)) = ji4 := hji4
  have hji4z : (l0_1.length : Int) ≤ 64 → (IntKind.i64.wrap (1 * 2 ^ (l0_1.length : Int).toNat)) = ji4 := shl_small hji4
  have hji4p : (IntKind.i64.wrap (1 * 2 ^ min l0_1.length 64)) = ji4 := hji4_
  have hji4q : (l0_1.length : Int) ≤ 64 → (IntKind.i64.wrap (1 * 2 ^ l0_1.length)) = ji4 := hji4z
  have hji4r : (IntKind.i64.wrap (2 ^ min l0_1.length 64)) = ji4 := by have h_ := hji4p; rw [Int.one_mul] at h_; exact h_
  have hji4s : (l0_1.length : Int) ≤ 64 → (IntKind.i64.wrap (2 ^ l0_1.length)) = ji4 := fun hle_ => by have h_ := hji4q hle_; rw [Int.one_mul] at h_; exact h_
  have hji4u : (IntKind.i64.wrap (2 ^ min (l0_1.length : Int).toNat 64)) = ji4 := by have h_ := hji4_; rw [Int.one_mul] at h_; exact h_
  have hji4v : (l0_1.length : Int) ≤ 64 → (IntKind.i64.wrap (2 ^ (l0_1.length : Int).toNat)) = ji4 := fun hle_ => by have h_ := hji4z hle_; rw [Int.one_mul] at h_; exact h_
  have hji4y : (wrap64 (1 * 2 ^ min (l0_1.length : Int).toNat 64)) = ji4 := (i64_w _).symm.trans hji4_
  have hji4x : (l0_1.length : Int) ≤ 64 → (wrap64 (1 * 2 ^ (l0_1.length : Int).toNat)) = ji4 := fun h_ => (i64_w _).symm.trans (hji4z h_)
  obtain rfl := Option.some.inj H
  go_enter Tryd.func7, Tryd.ntmps7
  go_wp2_with (first | ((with_reducible refine gate_dst (N := 2) rfl ?_); (try (refine gate_guard (by rfl) ?_; dsimp only)); refine box_event ?hg (N := 2) ?hd (cs := #[.int .i64 a0_0, .slice A0_1 l0_1.length c0_1, .slice A0_2 l0_2.length c0_2]) (t := 25) ?hr ?_; (case hd => rfl); (case hg => rfl); (case hr => first | (go_simp; done) | (go_simp; rfl)); intro gb115 hg w5 hbox hb; have BK115 := Aside0.mk (hbox); have GW115 := bsz (w := w) hg; have GE115 := GW115; replace HB := Aside0.mk (below_step bel hb); clear hb hbox hg; obtain ⟨hcz6_0, hcz6_1, hcz6_2⟩ := bc3 BK115.out))
  go_ret
  exact ⟨by first | rfl | (simp [errW_none, errW_some] <;> rfl) | (simp only [← hji4]; first | rfl | (simp [errW_none, errW_some] <;> rfl)) | (simp [*, errW_none, errW_some] <;> rfl), bel⟩
 ·
  rw [if_neg c3] at H
  have c3b0 : decide (0 ≤ a1) = false := decide_eq_false c3
  clear c3
  obtain rfl := Option.some.inj H
  go_enter Tryd.func7, Tryd.ntmps7
  go_wp2_with (first | ((with_reducible refine gate_dst (N := 2) rfl ?_); (try (refine gate_guard (by rfl) ?_; dsimp only)); refine box_event ?hg (N := 2) ?hd (cs := #[.int .i64 a0_0, .slice A0_1 l0_1.length c0_1, .slice A0_2 l0_2.length c0_2]) (t := 25) ?hr ?_; (case hd => rfl); (case hg => rfl); (case hr => first | (go_simp; done) | (go_simp; rfl)); intro gb115 hg w7 hbox hb; have BK115 := Aside0.mk (hbox); have GW115 := bsz (w := w) hg; have GE115 := GW115; replace HB := Aside0.mk (below_step bel hb); clear hb hbox hg))
  go_ret
  exact ⟨ezz, bel⟩

/-! ### dropperref05_closed: function 58 -/
def dropperref05_closed.f (a0 : Int) (a1 : Int) : Option (Bool) := if 0 ≤ a1 then (some ((Go.bits .and .i64 (shr .i64 a0 a1) 1) == 1)) else (none)
set_option maxHeartbeats 8000000 in
set_option maxRecDepth 100000 in
theorem dropperref05_closed.calls (a0 : Int) (a1 : Int) (r : Bool) (w : World) (h : dropperref05_closed.f a0 a1 = some r) :
  Calls Tryd.prog 58 #[.int .i64 a0, .int .i64 a1] w fun e w' => e = .returned (.bool r) ∧ Drawn0 w w' := by
 have H : (if 0 ≤ a1 then (some ((Go.bits .and .i64 (shr .i64 a0 a1) 1) == 1)) else (none)) = some r := h
 clear h
 by_cases c3 : 0 ≤ a1
 ·
  rw [if_pos c3] at H
  have c3b0 := eq_true c3
  have c3b1 : decide (0 ≤ a1) = true := decide_eq_true c3
  clear c3
  obtain ⟨ji4, hji4⟩ : ∃ j_ : Int, (shr .i64 a0 a1) = j_ := ⟨_, rfl⟩
  replace H : (some ((Go.bits .and .i64 (ji4) 1) == 1)) = some r := by first | (rw [hji4] at H; exact H) | (simp only [hji4] at H ⊢; exact H)
  have hji4_ : (a0 / 2 ^ min a1.toNat 64) = ji4 := hji4
  have hji4z : a1 ≤ 64 → (a0 / 2 ^ a1.toNat) = ji4 := shr_small hji4
  obtain rfl := Option.some.inj H
  go_enter Tryd.func58, Tryd.ntmps58
  go_wp2
  go_ret
  exact ⟨by first | rfl | (simp; done) | (simp only [← hji4] <;> (first | rfl | simp)) | (simp [*]; done), drz⟩
 ·
  rw [if_neg c3] at H
  exact absurd H (by simp)

/-! ### dropperref05_from: function 39 -/
mutual
def dropperref05_from.l0 : Nat → Int → List Bool → Bool → Int → List (S47) → List (S49) → Option (List Bool)
 | 0, _, _, _, _, _, _ => none
 | k + 1, x1, x7, x8, x117000, x117001, x117002 => if x8 = true then (dropperref05_from.l1 k x1 x7 false 0 x117000 x117001 x117002) else (some x7)
def dropperref05_from.l1 : Nat → Int → List Bool → Bool → Int → Int → List (S47) → List (S49) → Option (List Bool)
 | 0, _, _, _, _, _, _, _ => none
 | k + 1, x1, x7, x8, x9, x117000, x117001, x117002 => if x9 < (x117001.length : Int) then (if 0 ≤ x9 then ((dropperref05_closed.f x1 x9).bind fun t123 => (if t123 = true then (if 0 ≤ ((rd_T47 x117001 x9).f0) then (if ((rd_T47 x117001 x9).f0) < (x7.length : Int) then (if 0 ≤ ((rd_T47 x117001 x9).f1) then (if ((rd_T47 x117001 x9).f1) < (x7.length : Int) then (if ((rdOf false x7 ((rd_T47 x117001 x9).f0)) != (rdOf false x7 ((rd_T47 x117001 x9).f1))) = true then (dropperref05_from.l1 k x1 ((x7.set (((rd_T47 x117001 x9).f0) : Int).toNat true).set (((rd_T47 x117001 x9).f1) : Int).toNat true) true (wrap64 (x9 + 1)) x117000 x117001 x117002) else (dropperref05_from.l1 k x1 x7 x8 (wrap64 (x9 + 1)) x117000 x117001 x117002)) else (none)) else (none)) else (none)) else (none)) else (dropperref05_from.l1 k x1 x7 x8 (wrap64 (x9 + 1)) x117000 x117001 x117002))) else (none)) else (dropperref05_from.l0 k x1 x7 x8 x117000 x117001 x117002)
end
def dropperref05_from.f (k : Nat) (a0_0 : Int) (l0_1 : List (S47)) (l0_2 : List (S49)) (a1 : Int) (a2 : Int) : Option (List Bool) := if 0 ≤ a0_0 then (if (a0_0 : Int).toNat ≤ 281474976710656 then ((some (List.replicate (a0_0 : Int).toNat false : List Bool)).bind fun y117 => (if 0 ≤ a2 then (if a2 < (y117.length : Int) then (dropperref05_from.l0 k a1 (y117.set (a2 : Int).toNat true) true a0_0 l0_1 l0_2) else (none)) else (none))) else (none)) else (none)
def dropperref05_from.T10 : Bool × List (List Nat × List Nat) := (true, [([], []), ([], []), ([0, 1], [0, 1]), ([2, 2], [2]), ([3], [3]), ([3], [3]), ([5, 3], [3, 5]), ([4, 6, 3], [3, 4, 6]), ([7, 3], [3, 7]), ([3], [3]), ([3], [3]), ([10, 3], [3, 10]), ([9, 11, 3], [3, 9, 11]), ([12, 3], [3, 12]), ([8, 13, 3], [3, 8, 13]), ([3, 14], [3, 14])])
def dropperref05_from.B10 : List Nat := [0, 0, 3, 7, 15, 15, 47, 127, 255, 15, 15, 1039, 3599, 7695, 16383, 32767]
theorem dropperref05_from.tab10 : rtab .any (opsOf Tryd.f39 10) = dropperref05_from.T10 := by kernel_rfl
theorem dropperref05_from.bits10 : waitsOk dropperref05_from.T10.2 dropperref05_from.B10 = true := by kernel_rfl
def dropperref05_from.T11 : Bool × List (List Nat × List Nat) := (true, [([], []), ([], []), ([1], [1]), ([], []), ([], []), ([4], [4]), ([0, 2, 0, 1, 2], [0, 2]), ([6, 0, 1, 2], [6]), ([3, 5, 0, 1, 2, 3, 4, 5, 6, 7], [3, 5]), ([8, 7, 0, 1, 2, 3, 4, 5, 6, 7], [8]), ([9, 0, 1, 2, 3, 4, 5, 6, 7, 8, 9], [])])
def dropperref05_from.B11 : List Nat := [0, 0, 2, 0, 0, 16, 7, 71, 255, 511, 1023]
theorem dropperref05_from.tab11 : rtab .any (opsOf Tryd.f39 11) = dropperref05_from.T11 := by kernel_rfl
theorem dropperref05_from.bits11 : waitsOk dropperref05_from.T11.2 dropperref05_from.B11 = true := by kernel_rfl
set_option maxHeartbeats 8000000 in
set_option maxRecDepth 100000 in
theorem dropperref05_from.calls (k : Nat) (a0_0 : Int) (A0_1 : Option Addr) (c0_1 : Nat) (l0_1 : List (S47)) (A0_2 : Option Addr) (c0_2 : Nat) (l0_2 : List (S49)) (a1 : Int) (a2 : Int) (r : List Bool) (w : World) (hr0_1 : Kd.C k47 w A0_1 l0_1.length l0_1) (hc0_1 : l0_1.length ≤ c0_1) (hr0_2 : Kd.C k49 w A0_2 l0_2.length l0_2) (hc0_2 : l0_2.length ≤ c0_2) (h : dropperref05_from.f k a0_0 l0_1 l0_2 a1 a2 = some r) :
  Calls Tryd.prog 39 #[.agg #[.int .i64 a0_0, .slice A0_1 l0_1.length c0_1, .slice A0_2 l0_2.length c0_2], .int .i64 a1, .int .i64 a2] w fun e w' => ∃ v0_ : Value, e = .returned (v0_) ∧ Kd.R Kd.bool 4 w' w.heap.size (fun _ => True) v0_ r ∧ Below w.heap.size w w' := by
 have hu25 := Tryd.underlying25
 have hu47 := Tryd.underlying47
 have HR0_1 := Aside0.mk hr0_1
 have HC0_1 := Aside0.mk hc0_1
 clear hr0_1 hc0_1
 have HR0_2 := Aside0.mk hr0_2
 have HC0_2 := Aside0.mk hc0_2
 clear hr0_2 hc0_2
 have HB := Aside0.mk (Below.refl w.heap.size w)
 have H : (if 0 ≤ a0_0 then (if (a0_0 : Int).toNat ≤ 281474976710656 then ((some (List.replicate (a0_0 : Int).toNat false : List Bool)).bind fun y117 => (if 0 ≤ a2 then (if a2 < (y117.length : Int) then (dropperref05_from.l0 k a1 (y117.set (a2 : Int).toNat true) true a0_0 l0_1 l0_2) else (none)) else (none))) else (none)) else (none)) = some r := h
 clear h
 by_cases c4 : 0 ≤ a0_0
 ·
  rw [if_pos c4] at H
  have c4b0 := eq_true c4
  have c4b1 : decide (0 ≤ a0_0) = true := decide_eq_true c4
  clear c4
  by_cases c5 : (a0_0 : Int).toNat ≤ 281474976710656
  ·
   rw [if_pos c5] at H
   have c5b0 := eq_true c5
   have c5b1 : decide ((a0_0 : Int).toNat ≤ 281474976710656) = true := decide_eq_true c5
   clear c5
   obtain ⟨y117, hy117⟩ : ∃ y_ : List Bool, y_ = (List.replicate (a0_0 : Int).toNat false) := ⟨_, rfl⟩
   replace H : (if 0 ≤ a2 then (if a2 < (y117.length : Int) then (dropperref05_from.l0 k a1 (y117.set (a2 : Int).toNat true) true a0_0 l0_1 l0_2) else (none)) else (none)) = some r := by first | (rw [hy117]; with_reducible exact H) | (have H2_ := (Option.bind_some _ _).symm.trans H; rw [hy117]; with_reducible exact H2_) | (have H2_ := (Option.bind_some _ _).symm.trans H; with_reducible exact H2_) | with_reducible exact H | (rw [hy117]; exact H) | exact H
   have Ny117 := Aside0.mk hy117
   clear hy117
   by_cases c6 : 0 ≤ a2
   ·
    rw [if_pos c6] at H
    have c6b0 : decide (0 ≤ a2) = true := decide_eq_true c6
    clear c6
    by_cases c7 : a2 < (y117.length : Int)
    ·
     rw [if_pos c7] at H
     have c7b0 : decide (a2 < (y117.length : Int)) = true := decide_eq_true c7
     clear c7
     obtain ⟨y120, hy120⟩ : ∃ y_ : List Bool, y_ = (y117.set (a2 : Int).toNat true) := ⟨_, rfl⟩
     replace H : (dropperref05_from.l0 k a1 y120 true a0_0 l0_1 l0_2) = some r := by first | (rw [hy120]; with_reducible exact H) | (have H2_ := (Option.bind_some _ _).symm.trans H; rw [hy120]; with_reducible exact H2_) | (have H2_ := (Option.bind_some _ _).symm.trans H; with_reducible exact H2_) | with_reducible exact H | (rw [hy120]; exact H) | exact H
     have Ny120 := Aside0.mk hy120
     clear hy120
     have H' := Aside0.mk H
     clear H
     go_enter Tryd.func39, Tryd.ntmps39
     go_wp2_with (first | ((with_reducible refine gate_dst (N := 3) rfl ?_); refine box_event ?hg (N := 3) ?hd (cs := #[.int .i64 a0_0, .slice A0_1 l0_1.length c0_1, .slice A0_2 l0_2.length c0_2]) (t := 25) ?hr ?_; (case hd => rfl); (case hg => rfl); (case hr => first | (go_simp; done) | (go_simp; rfl)); intro gb116 hg w9 hbox hb; have BK116 := Aside0.mk (hbox); have GW116 := bsz (w := w) hg; have GE116 := GW116; replace HB := Aside0.mk (below_step bel hb); clear hb hbox hg; obtain ⟨hcz10_0, hcz10_1, hcz10_2⟩ := bc3 BK116.out) | ((with_reducible refine gate_dst (N := 13) rfl ?_); refine Kd.R_make Kd.bool _ 4 rfl (N := 13) rfl 73 _ _ rfl a0_0 rfl rfl Tryd.underlying73 (.bool false) 1 info4 rfl (by decide) (by omega) false (ok := fun _ => True) (okp := fun _ => True) rfl (fun _ hk => hk) trivial (of_decide_eq_true asz) (Nat.le_trans (Nat.mul_le_mul_right _ (of_decide_eq_true asz : a0_0.toNat ≤ 281474976710656)) (by omega)) (Below.refl _ _) (Nat.le_refl _) ?_; intro v118 w11 ho12 hb hg_ hnew_; clear hg_ hnew_; (first | rw [← Ny117.out] at ho12 | (simp only [Int.reduceToNat] at ho12; rw [← Ny117.out] at ho12)); have HO119 := Aside0.mk (Kd.R_lower ho12 (below_size bel)); replace BK116 := Aside0.mk (blk_below (g := gb116) blkz hb); replace HB := Aside0.mk (below_step bel hb); clear hb ho12; have p8 : 0 ≤ (a2 : Int) := of_decide_eq_true asz; have q8 : (a2 : Int) < ((y117.length : Int) : Int) := of_decide_eq_true asz; obtain ⟨go8, co8, eo8, gb8, gl8, cl8, HG8⟩ := Kd.R_form HO119.out (by omega); (first | cases eo8 | (injection eo8 with ea_ en_ ec_; (first | subst ea_ | (injection ea_ with ea_; subst ea_)); subst ec_; clear en_)); have GB8 := Aside0.mk gb8; have GG8 := Aside0.mk HG8; clear gb8 gl8 HG8; obtain ⟨hx8_0, hf8_0⟩ := Kd.R_celln false HO119.out (a2 : Int) p8 q8; replace p8 := eq_true p8; replace q8 := eq_true q8; obtain ⟨hy13_, hz13_⟩ := Kd.R_celln false HO119.out (a2 : Int) (of_decide_eq_true asz) (of_decide_eq_true asz); have HP13 := Kd.R_putg HO119.out (a2 : Int) true) | ((with_reducible refine gate_store (t := 4) (p := 16) rfl ?_); refine store_event (t := 4) (p := 16) (v := ?vo_w14) (w1 := (w11.setCell ⟨go8, (a2 : Int).toNat, none⟩ (.bool true))) ?hg ?ho ?hn ?hr ?_; (case ho => rfl); (case hg => rfl); (case hn => rfl); (case hr => first | (go_simp; done) | (go_simp; rfl)); intro w14 hw; have hg : w11.grownBy w14 (some go8) := (by rw [hw]; exact HP13.2); have hp_ : Kd.R Kd.bool 4 w14 w.heap.size (fun _ => True) (.slice (some ⟨go8, 0, none⟩) y117.length co8) y120 := (by rw [hw, Ny120.out]; exact HP13.1); clear HP13; replace BK116 := Aside0.mk (blk_grown (g := gb116) (o := .cells #[.int .i64 a0_0, .slice A0_1 l0_1.length c0_1, .slice A0_2 l0_2.length c0_2] 25 (0, 0)) blkz hg (Kd.R_ne HO119.out BK116.out (by decide))); replace HO119 := Aside0.mk (hp_); replace HB := Aside0.mk ((by rw [hw]; exact below_set (HB.out) GB8.out : Below w.heap.size w w14)); clear hg hw hp_))
     go_loopg [8] k (fun kq v8 w' => ∃ (x7_1 : List Bool) (x8_1 : Bool), v8 = .bool x8_1 ∧ Aside0 (dropperref05_from.l0 kq a1 x7_1 x8_1 a0_0 l0_1 l0_2 = some r) ∧ Aside0 (kq ≤ k) ∧ Aside0 (Kd.R Kd.bool 4 w' w.heap.size (fun _ => True) (.slice (some ⟨go8, 0, none⟩) y117.length co8) x7_1) ∧ Aside0 (w'.heap[gb116]? = some (.cells #[.int .i64 a0_0, (.slice A0_1 l0_1.length c0_1), (.slice A0_2 l0_2.length c0_2)] 25 (0, 0))) ∧ Aside0 (Below w.heap.size w w'))
     case atStart => exact ⟨(y120), (true), rsz, H', ⟨Nat.le_refl _⟩, ⟨by (with_reducible repeat (first | apply Kd.R_alloc | apply Kd.R_drewN | apply Kd.R_drew)); exact HO119.out⟩, ⟨blkz⟩, ⟨bel⟩⟩
     case round =>
      clear H'
      (try clear p2); (try clear c3); (try clear c4); (try clear c4b0); (try clear c4b1); (try clear c5); (try clear c5b0); (try clear c5b1); (try clear c6); (try clear c6b0); (try clear c7); (try clear c7b0); (try clear p8); (try clear q8); (try clear hx8); (try clear hf8); (try clear hcz10_0); (try clear hcz10_1); (try clear hcz10_2); (try clear hfz10_0); (try clear hfz10_1); (try clear hfz10_2); (try clear hx8_0); (try clear p8); (try clear q8)
      obtain ⟨x7_1, x8_1, rfl, HA, HK1, HO_7, BK116, HB⟩ := hrel
      have hl7_1 := (Kd.R_reads' HO_7.out).1
      rw [hl7_1] at HO_7
      (try simp only [hl7_1])
      (try simp only [hl7_1] at BK116)
      cases gk with
      | zero => exact absurd HA.out (by simp [dropperref05_from.l0])
      | succ k1 =>
       have H := HA.out
       clear HA
       simp only [dropperref05_from.l0] at H
       by_cases c15 : x8_1 = true
       ·
        subst c15
        rw [if_pos rfl] at H
        have H' := Aside0.mk H
        clear H
        go_wp2
        go_loopg [8, 9] k1 (fun kq v8 v9 w' => ∃ (x7_2 : List Bool) (x8_2 : Bool) (x9_2 : Int), v8 = .bool x8_2 ∧ v9 = .int .i64 x9_2 ∧ Aside0 (dropperref05_from.l1 kq a1 x7_2 x8_2 x9_2 a0_0 l0_1 l0_2 = some r) ∧ Aside0 (kq ≤ k1) ∧ Aside0 (Kd.R Kd.bool 4 w' w.heap.size (fun _ => True) (.slice (some ⟨go8, 0, none⟩) x7_1.length co8) x7_2) ∧ Aside0 (w'.heap[gb116]? = some (.cells #[.int .i64 a0_0, (.slice A0_1 l0_1.length c0_1), (.slice A0_2 l0_2.length c0_2)] 25 (0, 0))) ∧ Aside0 (Below w.heap.size w w'))
        case atStart => exact ⟨(x7_1), (false), (0), rsz, rsz, H', ⟨Nat.le_refl _⟩, ⟨by (try simp only [hl7_1]); (with_reducible repeat (first | apply Kd.R_alloc | apply Kd.R_drewN | apply Kd.R_drew)); exact HO_7.out⟩, ⟨by (try simp only [hl7_1]); (with_reducible repeat (first | refine blk_drewN ?_ _ | refine blk_drew ?_ | refine blk_alloc ?_ _)); exact BK116.out⟩, ⟨bel⟩⟩
        case round =>
         clear H'
         (try clear c1); (try clear p2); (try clear c3); (try clear c4); (try clear c4b0); (try clear c4b1); (try clear c5); (try clear c5b0); (try clear c5b1); (try clear c6); (try clear c6b0); (try clear c7); (try clear c7b0); (try clear p8); (try clear q8); (try clear hx8); (try clear hf8); (try clear c15); (try clear hcz10_0); (try clear hcz10_1); (try clear hcz10_2); (try clear hfz10_0); (try clear hfz10_1); (try clear hfz10_2); (try clear hx8_0); (try clear p2); (try clear p8); (try clear q8)
         obtain ⟨x7_2, x8_2, x9_2, rfl, rfl, HA, HK2, HO_7, BK116, HB⟩ := hrel
         have hl7_2 := (Kd.R_reads' HO_7.out).1
         rw [hl7_2] at HO_7
         (try simp only [hl7_2])
         (try simp only [hl7_2] at BK116)
         cases gk with
         | zero => exact absurd HA.out (by simp [dropperref05_from.l1])
         | succ k2 =>
          have H := HA.out
          clear HA
          simp only [dropperref05_from.l1] at H
          by_cases c16 : x9_2 < (l0_1.length : Int)
          ·
           rw [if_pos c16] at H
           have c16b0 : decide (x9_2 < (l0_1.length : Int)) = true := decide_eq_true c16
           try (have c16b0hl7_1 := c16b0; simp only [hl7_1] at c16b0hl7_1)
           try (have c16b0hl7_2 := c16b0; simp only [hl7_2] at c16b0hl7_2)
           clear c16
           by_cases c17 : 0 ≤ x9_2
           ·
            rw [if_pos c17] at H
            have c17b0 : decide (0 ≤ x9_2) = true := decide_eq_true c17
            clear c17
            replace H := Option.bind_eq_some_iff.mp H
            obtain ⟨t123, A180, H⟩ := H
            try dsimp only at H
            have A18 := Aside0.mk A180
            clear A180
            by_cases c19 : t123 = true
            ·
             subst c19
             rw [if_pos rfl] at H
             by_cases c20 : 0 ≤ ((rd_T47 l0_1 x9_2).f0)
             ·
              rw [if_pos c20] at H
              have c20b0 : decide (0 ≤ ((rd_T47 l0_1 x9_2).f0)) = true := decide_eq_true c20
              clear c20
              by_cases c21 : ((rd_T47 l0_1 x9_2).f0) < (x7_2.length : Int)
              ·
               rw [if_pos c21] at H
               have c21b0 : decide (((rd_T47 l0_1 x9_2).f0) < (x7_2.length : Int)) = true := decide_eq_true c21
               try (have c21b0hl7_1 := c21b0; simp only [hl7_1] at c21b0hl7_1)
               try (have c21b0hl7_2 := c21b0; simp only [hl7_2] at c21b0hl7_2)
               clear c21
               by_cases c22 : 0 ≤ ((rd_T47 l0_1 x9_2).f1)
               ·
                rw [if_pos c22] at H
                have c22b0 : decide (0 ≤ ((rd_T47 l0_1 x9_2).f1)) = true := decide_eq_true c22
                clear c22
                by_cases c23 : ((rd_T47 l0_1 x9_2).f1) < (x7_2.length : Int)
                ·
                 rw [if_pos c23] at H
                 have c23b0 : decide (((rd_T47 l0_1 x9_2).f1) < (x7_2.length : Int)) = true := decide_eq_true c23
                 try (have c23b0hl7_1 := c23b0; simp only [hl7_1] at c23b0hl7_1)
                 try (have c23b0hl7_2 := c23b0; simp only [hl7_2] at c23b0hl7_2)
                 clear c23
                 by_cases c24 : ((rdOf false x7_2 ((rd_T47 l0_1 x9_2).f0)) != (rdOf false x7_2 ((rd_T47 l0_1 x9_2).f1))) = true
                 ·
                  rw [if_pos c24] at H
                  have c24b0 : ((rdOf false x7_2 ((rd_T47 l0_1 x9_2).f0)) != (rdOf false x7_2 ((rd_T47 l0_1 x9_2).f1))) = true := c24
                  (try (have c24b1 : decide ((rdOf false x7_2 ((rd_T47 l0_1 x9_2).f0)) = (rdOf false x7_2 ((rd_T47 l0_1 x9_2).f1))) = false := by simpa using c24))
                  (try (have c24b2 : ((rdOf false x7_2 ((rd_T47 l0_1 x9_2).f0)) == (rdOf false x7_2 ((rd_T47 l0_1 x9_2).f1))) = false := by simpa using c24))
                  (try (have c24b3 : ¬ ((rdOf false x7_2 ((rd_T47 l0_1 x9_2).f0)) = (rdOf false x7_2 ((rd_T47 l0_1 x9_2).f1))) := by simpa using c24))
                  clear c24
                  obtain ⟨y126, hy126⟩ : ∃ y_ : List Bool, y_ = (x7_2.set (((rd_T47 l0_1 x9_2).f0) : Int).toNat true) := ⟨_, rfl⟩
                  replace H : (dropperref05_from.l1 k2 a1 (y126.set (((rd_T47 l0_1 x9_2).f1) : Int).toNat true) true (wrap64 (x9_2 + 1)) a0_0 l0_1 l0_2) = some r := by first | (rw [hy126]; with_reducible exact H) | (have H2_ := (Option.bind_some _ _).symm.trans H; rw [hy126]; with_reducible exact H2_) | (have H2_ := (Option.bind_some _ _).symm.trans H; with_reducible exact H2_) | with_reducible exact H | (rw [hy126]; exact H) | exact H
                  have Ny126 := Aside0.mk hy126
                  clear hy126
                  obtain ⟨y127, hy127⟩ : ∃ y_ : List Bool, y_ = (y126.set (((rd_T47 l0_1 x9_2).f1) : Int).toNat true) := ⟨_, rfl⟩
                  replace H : (dropperref05_from.l1 k2 a1 y127 true (wrap64 (x9_2 + 1)) a0_0 l0_1 l0_2) = some r := by first | (rw [hy127]; with_reducible exact H) | (have H2_ := (Option.bind_some _ _).symm.trans H; rw [hy127]; with_reducible exact H2_) | (have H2_ := (Option.bind_some _ _).symm.trans H; with_reducible exact H2_) | with_reducible exact H | (rw [hy127]; exact H) | exact H
                  have Ny127 := Aside0.mk hy127
                  clear hy127
                  have H' := Aside0.mk H
                  clear H
                  obtain ⟨hcz27_0, hcz27_1, hcz27_2⟩ := bc3 BK116.out
                  obtain ⟨hfz27_0, hfz27_1, hfz27_2⟩ := bf3 BK116.out
                  have p121 : 0 ≤ (x9_2 : Int) := of_decide_eq_true asz
                  have q121 : x9_2 < (l0_1.length : Int) := of_decide_eq_true asz
                  obtain ⟨ad121, e121, hx121_0, hx121_1⟩ := at_T47 HR0_1.out x9_2 p121 q121
                  cases e121
                  replace hx121_0 := (HB.out.cell (World.block_lt_of_cell? w _ hx121_0)).trans hx121_0
                  replace hx121_1 := (HB.out.cell (World.block_lt_of_cell? w _ hx121_1)).trans hx121_1
                  replace p121 := eq_true p121
                  replace q121 := eq_true q121
                  try go_wp2_with (first | ((with_reducible refine gate_dst (N := 10) rfl ?_); refine box_event ?hg (N := 10) ?hd (cs := #[.int .i64 0, .int .i64 0]) (t := 47) ?hr ?_; (case hd => rfl); (case hg => rfl); (case hr => first | (go_simp; done) | (go_simp; rfl)); intro gb122 hg w28 hbox hb; have BK122 := Aside0.mk (hbox); have GW122 := bsz (w := w) hg; have GE122 := GW122; have NB116_122 := neL (g := gb116) hg; have NB122_116 := neR (g := gb116) hg; replace HO_7 := Aside0.mk (Kd.R_below (ownx HO_7) hb); replace BK116 := Aside0.mk (blk_below (g := gb116) blkz hb); replace HB := Aside0.mk (below_step bel hb); clear hb hbox hg; have hnb29 := NB122_116.out; have hnc29 := NB116_122.out; obtain ⟨hcz30_0, hcz30_1⟩ := bc2 BK122.out; obtain ⟨hfz30_0, hfz30_1⟩ := bf2 BK122.out))
                  have n0_ : Aside0 (Kd.R Kd.bool 4 ((w28.setCell ⟨gb122, 0, none⟩ (.int .i64 ((rd_T47 l0_1 x9_2).f0))).setCell ⟨gb122, 1, none⟩ (.int .i64 ((rd_T47 l0_1 x9_2).f1))) w.heap.size (fun _ => True) (.slice (some ⟨go8, 0, none⟩) x7_2.length co8) x7_2) := ⟨by (with_reducible repeat (first | apply Kd.R_alloc | apply Kd.R_drewN | apply Kd.R_drew)); exact Kd.R_mono (Kd.R_far (p := ⟨gb122, 1, none⟩) (Kd.R_far (p := ⟨gb122, 0, none⟩) (Kd.R_types HO_7.out BK122.out (by decide)) (fun _ hk => hk.2) (.int .i64 ((rd_T47 l0_1 x9_2).f0))) (fun _ hk => hk.2) (.int .i64 ((rd_T47 l0_1 x9_2).f1))) (fun _ hk => trivial)⟩
                  have n1_ : Aside0 (((w28.setCell ⟨gb122, 0, none⟩ (.int .i64 ((rd_T47 l0_1 x9_2).f0))).setCell ⟨gb122, 1, none⟩ (.int .i64 ((rd_T47 l0_1 x9_2).f1))).heap[gb116]? = some (.cells #[.int .i64 a0_0, .slice (some ad121) l0_1.length c0_1, .slice A0_2 l0_2.length c0_2] 25 (0, 0))) := ⟨by (with_reducible repeat (first | refine blk_drewN ?_ _ | refine blk_drew ?_ | refine blk_alloc ?_ _)); refine blk_far ?_ NB116_122.out _; (with_reducible repeat (first | refine blk_drewN ?_ _ | refine blk_drew ?_ | refine blk_alloc ?_ _)); refine blk_far ?_ NB116_122.out _; (with_reducible repeat (first | refine blk_drewN ?_ _ | refine blk_drew ?_ | refine blk_alloc ?_ _)); exact BK116.out⟩
                  have n2_ : Aside0 (((w28.setCell ⟨gb122, 0, none⟩ (.int .i64 ((rd_T47 l0_1 x9_2).f0))).setCell ⟨gb122, 1, none⟩ (.int .i64 ((rd_T47 l0_1 x9_2).f1))).heap[gb122]? = some (.cells #[.int .i64 ((rd_T47 l0_1 x9_2).f0), .int .i64 ((rd_T47 l0_1 x9_2).f1)] 47 (0, 0))) := ⟨by (with_reducible repeat (first | refine blk_drewN ?_ _ | refine blk_drew ?_ | refine blk_alloc ?_ _)); refine blk_put (cs := #[.int .i64 ((rd_T47 l0_1 x9_2).f0), .int .i64 0]) ?_ 1 _ rfl; (with_reducible repeat (first | refine blk_drewN ?_ _ | refine blk_drew ?_ | refine blk_alloc ?_ _)); refine blk_put (cs := #[.int .i64 0, .int .i64 0]) ?_ 0 _ rfl; (with_reducible repeat (first | refine blk_drewN ?_ _ | refine blk_drew ?_ | refine blk_alloc ?_ _)); exact BK122.out⟩
                  have n3_ : Aside0 (Below w.heap.size w ((w28.setCell ⟨gb122, 0, none⟩ (.int .i64 ((rd_T47 l0_1 x9_2).f0))).setCell ⟨gb122, 1, none⟩ (.int .i64 ((rd_T47 l0_1 x9_2).f1)))) := ⟨bel⟩
                  (try clear HO_7)
                  (try clear BK116)
                  (try clear BK122)
                  (try clear HB)
                  generalize ((w28.setCell ⟨gb122, 0, none⟩ (.int .i64 ((rd_T47 l0_1 x9_2).f0))).setCell ⟨gb122, 1, none⟩ (.int .i64 ((rd_T47 l0_1 x9_2).f1))) = w31 at n0_ n1_ n2_ n3_ ⊢
                  have HO_7 := n0_
                  have BK116 := n1_
                  have BK122 := n2_
                  have HB := n3_
                  clear n0_ n1_ n2_ n3_
                  have n0_ := Aside0.mk (Kd.R_drew HO_7.out)
                  have n1_ := Aside0.mk (blk_drew BK116.out)
                  have n2_ := Aside0.mk (blk_drew BK122.out)
                  have n3_ := Aside0.mk (below_drew1 HB.out)
                  clear HO_7
                  clear BK116
                  clear BK122
                  clear HB
                  have HO_7 := n0_
                  have BK116 := n1_
                  have BK122 := n2_
                  have HB := n3_
                  clear n0_ n1_ n2_ n3_
                  have p124 : 0 ≤ (((rd_T47 l0_1 x9_2).f0) : Int) := of_decide_eq_true asz
                  have q124 : ((rd_T47 l0_1 x9_2).f0) < (x7_2.length : Int) := of_decide_eq_true asz
                  obtain ⟨ad124, e124, hx124_0⟩ := Kd.at_bool (Kd.R_reads' HO_7.out).2.2 ((rd_T47 l0_1 x9_2).f0) p124 q124
                  obtain rfl : (⟨go8, 0, none⟩ : Addr) = ad124 := (by injection e124)
                  (first | simp only [add_plain] at hx124_0 | simp only [add_at] at hx124_0 | simp only [Addr.add, Nat.zero_add] at hx124_0 | skip)
                  replace p124 := eq_true p124
                  replace q124 := eq_true q124
                  have p125 : 0 ≤ (((rd_T47 l0_1 x9_2).f1) : Int) := of_decide_eq_true asz
                  have q125 : ((rd_T47 l0_1 x9_2).f1) < (x7_2.length : Int) := of_decide_eq_true asz
                  obtain ⟨ad125, e125, hx125_0⟩ := Kd.at_bool (Kd.R_reads' HO_7.out).2.2 ((rd_T47 l0_1 x9_2).f1) p125 q125
                  obtain rfl : (⟨go8, 0, none⟩ : Addr) = ad125 := (by injection e125)
                  (first | simp only [add_plain] at hx125_0 | simp only [add_at] at hx125_0 | simp only [Addr.add, Nat.zero_add] at hx125_0 | skip)
                  replace p125 := eq_true p125
                  replace q125 := eq_true q125
                  refine start_ (n := 16) (S := fun w' => w'.cell? ⟨gb122, 0, none⟩ = some (.int .i64 ((rd_T47 l0_1 x9_2).f0)) ∧ w'.cell? ⟨gb122, 1, none⟩ = some (.int .i64 ((rd_T47 l0_1 x9_2).f1)) ∧ w'.cell? ⟨go8, (((rd_T47 l0_1 x9_2).f0)).toNat, none⟩ = some (.bool (rdOf false x7_2 ((rd_T47 l0_1 x9_2).f0))) ∧ w'.cell? ⟨go8, (((rd_T47 l0_1 x9_2).f1)).toNat, none⟩ = some (.bool (rdOf false x7_2 ((rd_T47 l0_1 x9_2).f1)))) (ds := []) #[false, false, false, false, false, false, false, false, false, false, false, false, false, false, false, false] (by kernel_rfl) rfl rfl ⟨(blk_cell BK122.out 0).trans rfl, (blk_cell BK122.out 1).trans rfl, hx124_0, hx125_0⟩ (fun hHeld => ?_); refine with_tabW dropperref05_from.tab10 dropperref05_from.bits10 (fun HT_ HW_ => ?_)
                  generalize w31.drew = w32 at HO_7 BK116 BK122 HB hx124_0 hx125_0 hHeld ⊢
                  refine pst (i := 0) (N := some 30) (bz 16 1) (any_of HT_.out (by kernel_rfl)) ?_
                  refine pst (i := 1) (N := some 31) (bz 16 3) (any_of HT_.out (by kernel_rfl)) ?_
                  refine one_ (i := 2) (N := some 32) #[true, true, true, false, false, false, false, false, false, false, false, false, false, false, false, false] rfl rfl (one_of HT_.out (by kernel_rfl)) (by decide) (fun K hK => ?_)
                  refine goes_ Tryd.func58 (by kernel_rfl) rfl #[.int .i64 a1, .int .i64 x9_2] (by rfl) rfl rfl mapz ?_
                  with_reducible refine (dropperref05_closed.calls a1 x9_2 true _ A18.out).mono ?_
                  rintro e w' ⟨rfl, ⟨nd, rfl⟩⟩
                  refine ⟨_, rfl, ?_⟩
                  refine hK.out _ _ ⟨(blk_cell BK122.out 0).trans rfl, (blk_cell BK122.out 1).trans rfl, hHeld.2.2.1, hHeld.2.2.2⟩ (fun hHeld => ?_)
                  clear hK K
                  refine norm_ (a' := ?_) ?_ ?_
                  rotate_left
                  ·
                   show Act.put _ (some 32) _ = _
                   simp only [Act.put, List.setIfInBounds_toArray, List.set_cons_zero, List.set_cons_succ, i64_w, i32_w]
                   rfl
                  refine pst (i := 3) (N := some 33) (bz 16 15) (any_of HT_.out (by kernel_rfl)) ?_
                  refine pst (i := 4) (N := some 34) (bz 16 31) (any_of HT_.out (by kernel_rfl)) ?_
                  refine pst (i := 5) (N := some 35) (bz 16 63) (any_of HT_.out (by kernel_rfl)) ?_
                  refine pst (i := 9) (N := some 39) (bz 16 575) (any_of HT_.out (by kernel_rfl)) ?_
                  refine pst (i := 10) (N := some 40) (bz 16 1599) (any_of HT_.out (by kernel_rfl)) ?_
                  refine tst4 (i := 6) (N := some 36) (bz 16 1663) (take_ofW HT_.out HW_.out (by kernel_rfl)) hHeld ?_
                  refine pst (i := 7) (N := some 37) (bz 16 1791) (any_of HT_.out (by kernel_rfl)) ?_
                  refine tst4 (i := 8) (N := some 38) (bz 16 2047) (take_ofW HT_.out HW_.out (by kernel_rfl)) hHeld ?_
                  refine tst4 (i := 11) (N := some 41) (bz 16 4095) (take_ofW HT_.out HW_.out (by kernel_rfl)) hHeld ?_
                  refine pst (i := 12) (N := some 42) (bz 16 8191) (any_of HT_.out (by kernel_rfl)) ?_
                  refine tst4 (i := 13) (N := some 43) (bz 16 16383) (take_ofW HT_.out HW_.out (by kernel_rfl)) hHeld ?_
                  refine pst (i := 14) (N := some 44) (bz 16 32767) (any_of HT_.out (by kernel_rfl)) ?_
                  refine pst (i := 15) (N := some 45) (bz 16 65535) (any_of HT_.out (by kernel_rfl)) ?_
                  refine done_ (done_of HT_.out (by kernel_rfl)) ?_
                  try go_wp2
                  (try (rw [drewN_self w32]; generalize hq_ : World.drewN w32 _ = w32; have n0_ : Aside0 (Kd.R Kd.bool 4 w32 w.heap.size (fun _ => True) (.slice (some ⟨go8, 0, none⟩) x7_2.length co8) x7_2) := ⟨by rw [← hq_]; exact (ownx HO_7)⟩; have n1_ : Aside0 (w32.heap[gb116]? = some (.cells #[.int .i64 a0_0, .slice (some ad121) l0_1.length c0_1, .slice A0_2 l0_2.length c0_2] 25 (0, 0))) := ⟨by rw [← hq_]; exact blkz⟩; have n2_ : Aside0 (w32.heap[gb122]? = some (.cells #[.int .i64 ((rd_T47 l0_1 x9_2).f0), .int .i64 ((rd_T47 l0_1 x9_2).f1)] 47 (0, 0))) := ⟨by rw [← hq_]; exact blkz⟩; have n3_ : Aside0 (Below w.heap.size w w32) := ⟨by rw [← hq_]; exact bel⟩; clear HO_7 BK116 BK122 HB hq_; have HO_7 := n0_; have BK116 := n1_; have BK122 := n2_; have HB := n3_; clear n0_ n1_ n2_ n3_))
                  have n0_ := Aside0.mk (Kd.R_drew HO_7.out)
                  have n1_ := Aside0.mk (blk_drew BK116.out)
                  have n2_ := Aside0.mk (blk_drew BK122.out)
                  have n3_ := Aside0.mk (below_drew1 HB.out)
                  clear HO_7
                  clear BK116
                  clear BK122
                  clear HB
                  have HO_7 := n0_
                  have BK116 := n1_
                  have BK122 := n2_
                  have HB := n3_
                  clear n0_ n1_ n2_ n3_
                  have p25 : 0 ≤ (((rd_T47 l0_1 x9_2).f0) : Int) := of_decide_eq_true asz
                  have q25 : (((rd_T47 l0_1 x9_2).f0) : Int) < ((x7_2.length : Int) : Int) := of_decide_eq_true asz
                  obtain ⟨hx25_0, hf25_0⟩ := Kd.R_celln false HO_7.out (((rd_T47 l0_1 x9_2).f0) : Int) p25 q25
                  replace p25 := eq_true p25
                  replace q25 := eq_true q25
                  have HP34 := Kd.R_putn HO_7.out (((rd_T47 l0_1 x9_2).f0) : Int) true
                  rw [← Ny126.out] at HP34
                  have HQ34 := Aside0.mk HP34
                  clear HP34
                  have p26 : 0 ≤ (((rd_T47 l0_1 x9_2).f1) : Int) := of_decide_eq_true asz
                  have q26 : (((rd_T47 l0_1 x9_2).f1) : Int) < ((x7_2.length : Int) : Int) := of_decide_eq_true asz
                  obtain ⟨hx26_0, hf26_0⟩ := Kd.R_celln false HQ34.out (((rd_T47 l0_1 x9_2).f1) : Int) p26 q26
                  replace p26 := eq_true p26
                  replace q26 := eq_true q26
                  have HP35 := Kd.R_putn HQ34.out (((rd_T47 l0_1 x9_2).f1) : Int) true
                  rw [← Ny127.out] at HP35
                  have HQ35 := Aside0.mk HP35
                  clear HP35
                  refine start_ (n := 11) (S := fun w' => w'.cell? ⟨gb122, 0, none⟩ = some (.int .i64 ((rd_T47 l0_1 x9_2).f0)) ∧ w'.cell? ⟨gb122, 1, none⟩ = some (.int .i64 ((rd_T47 l0_1 x9_2).f1))) (ds := []) #[false, false, false, false, false, false, false, false, false, false, false] (by kernel_rfl) rfl rfl ⟨(blk_cell BK122.out 0).trans rfl, (blk_cell BK122.out 1).trans rfl⟩ (fun hHeld => ?_); refine with_tabW dropperref05_from.tab11 dropperref05_from.bits11 (fun HT_ HW_ => ?_)
                  generalize w32.drew = w33 at HO_7 BK116 BK122 HB HQ34 HQ35 hf25_0 hf26_0 hx25_0 hx26_0 hHeld ⊢
                  refine pst (i := 0) (N := some 46) (bz 11 1) (any_of HT_.out (by kernel_rfl)) ?_
                  refine pst (i := 1) (N := some 47) (bz 11 3) (any_of HT_.out (by kernel_rfl)) ?_
                  refine pst (i := 3) (N := some 49) (bz 11 11) (any_of HT_.out (by kernel_rfl)) ?_
                  refine pst (i := 4) (N := some 50) (bz 11 27) (any_of HT_.out (by kernel_rfl)) ?_
                  refine tst2 (i := 2) (N := some 48) (bz 11 31) (take_ofW HT_.out HW_.out (by kernel_rfl)) hHeld ?_
                  refine pst (i := 6) (N := some 52) (bz 11 95) (any_of HT_.out (by kernel_rfl)) ?_
                  refine tst2 (i := 5) (N := some 51) (bz 11 127) (take_ofW HT_.out HW_.out (by kernel_rfl)) hHeld ?_
                  refine one_ (i := 7) (N := none) #[true, true, true, true, true, true, true, true, false, false, false] rfl rfl (one_of HT_.out (by kernel_rfl)) (by decide) (fun K hK => ?_)
                  refine skip_ (w1 := ?_) (by rfl) rfl ?_ ?_
                  rotate_left
                  ·
                   go_simp
                   rfl
                  refine hK.out _ _ ⟨((cell_far (p := ⟨go8, _, none⟩) (fun e_ => (Kd.R_ne HO_7.out BK122.out (by decide)) (by have h_ : gb122 = go8 := e_; rw [h_]; rfl)) _).trans (hHeld.1)), ((cell_far (p := ⟨go8, _, none⟩) (fun e_ => (Kd.R_ne HO_7.out BK122.out (by decide)) (by have h_ : gb122 = go8 := e_; rw [h_]; rfl)) _).trans (hHeld.2))⟩ (fun hHeld => ?_)
                  clear hK K
                  refine pst (i := 8) (N := some 53) (bz 11 511) (any_of HT_.out (by kernel_rfl)) ?_
                  refine one_ (i := 9) (N := none) #[true, true, true, true, true, true, true, true, true, true, false] rfl rfl (one_of HT_.out (by kernel_rfl)) (by decide) (fun K hK => ?_)
                  refine skip_ (w1 := ?_) (by rfl) rfl ?_ ?_
                  rotate_left
                  ·
                   go_simp
                   rfl
                  refine hK.out _ _ ⟨((cell_far (p := ⟨go8, _, none⟩) (fun e_ => (Kd.R_ne HO_7.out BK122.out (by decide)) (by have h_ : gb122 = go8 := e_; rw [h_]; rfl)) _).trans (hHeld.1)), ((cell_far (p := ⟨go8, _, none⟩) (fun e_ => (Kd.R_ne HO_7.out BK122.out (by decide)) (by have h_ : gb122 = go8 := e_; rw [h_]; rfl)) _).trans (hHeld.2))⟩ (fun hHeld => ?_)
                  clear hK K
                  refine pst (i := 10) (N := some 8) (bz 11 2047) (any_of HT_.out (by kernel_rfl)) ?_
                  refine done_ (done_of HT_.out (by kernel_rfl)) ?_
                  try go_wp2
                  (try simp only [← hl7_2])
                  go_roundg k2
                  case measure => have := HK1.out; have := HK2.out; omega
                  case rel => exact ⟨(y127), (true), (wrap64 (x9_2 + 1)), rsz, rsz, H', ⟨by have := HK1.out; have := HK2.out; omega⟩, ⟨by (try simp only [hl7_1]); (try simp only [hl7_2]); (with_reducible repeat (first | apply Kd.R_alloc | apply Kd.R_drewN | apply Kd.R_drew)); exact HQ35.out⟩, ⟨by (try simp only [hl7_1]); (try simp only [hl7_2]); (with_reducible repeat (first | refine blk_drewN ?_ _ | refine blk_drew ?_ | refine blk_alloc ?_ _)); refine blk_far ?_ (by have h_ := Kd.R_ne HO_7.out BK116.out (by decide); intro e_; exact h_ (by rw [e_]; rfl)) _; (with_reducible repeat (first | refine blk_drewN ?_ _ | refine blk_drew ?_ | refine blk_alloc ?_ _)); refine blk_far ?_ (by have h_ := Kd.R_ne HO_7.out BK116.out (by decide); intro e_; exact h_ (by rw [e_]; rfl)) _; (with_reducible repeat (first | refine blk_drewN ?_ _ | refine blk_drew ?_ | refine blk_alloc ?_ _)); exact BK116.out⟩, ⟨by repeat (first | (with_reducible first | exact HB.out | apply below_alloc | apply pw_below_drewN | apply below_drew1 | refine below_set ?_ GB8.out | refine below_set ?_ GB8.out | refine below_set ?_ GE116.out | refine below_set ?_ GE122.out) | exact HB.out)⟩⟩
                 ·
                  rw [if_neg c24] at H
                  have c24b0 : ((rdOf false x7_2 ((rd_T47 l0_1 x9_2).f0)) != (rdOf false x7_2 ((rd_T47 l0_1 x9_2).f1))) = false := by simpa using c24
                  (try (have c24b1 : decide ((rdOf false x7_2 ((rd_T47 l0_1 x9_2).f0)) = (rdOf false x7_2 ((rd_T47 l0_1 x9_2).f1))) = true := by simpa using c24))
                  (try (have c24b2 : ((rdOf false x7_2 ((rd_T47 l0_1 x9_2).f0)) == (rdOf false x7_2 ((rd_T47 l0_1 x9_2).f1))) = true := by simpa using c24))
                  clear c24
                  have H' := Aside0.mk H
                  clear H
                  obtain ⟨hcz36_0, hcz36_1, hcz36_2⟩ := bc3 BK116.out
                  obtain ⟨hfz36_0, hfz36_1, hfz36_2⟩ := bf3 BK116.out
                  have p121 : 0 ≤ (x9_2 : Int) := of_decide_eq_true asz
                  have q121 : x9_2 < (l0_1.length : Int) := of_decide_eq_true asz
                  obtain ⟨ad121, e121, hx121_0, hx121_1⟩ := at_T47 HR0_1.out x9_2 p121 q121
                  cases e121
                  replace hx121_0 := (HB.out.cell (World.block_lt_of_cell? w _ hx121_0)).trans hx121_0
                  replace hx121_1 := (HB.out.cell (World.block_lt_of_cell? w _ hx121_1)).trans hx121_1
                  replace p121 := eq_true p121
                  replace q121 := eq_true q121
                  try go_wp2_with (first | ((with_reducible refine gate_dst (N := 10) rfl ?_); refine box_event ?hg (N := 10) ?hd (cs := #[.int .i64 0, .int .i64 0]) (t := 47) ?hr ?_; (case hd => rfl); (case hg => rfl); (case hr => first | (go_simp; done) | (go_simp; rfl)); intro gb122 hg w37 hbox hb; have BK122 := Aside0.mk (hbox); have GW122 := bsz (w := w) hg; have GE122 := GW122; have NB116_122 := neL (g := gb116) hg; have NB122_116 := neR (g := gb116) hg; replace HO_7 := Aside0.mk (Kd.R_below (ownx HO_7) hb); replace BK116 := Aside0.mk (blk_below (g := gb116) blkz hb); replace HB := Aside0.mk (below_step bel hb); clear hb hbox hg; have hnb38 := NB122_116.out; have hnc38 := NB116_122.out; obtain ⟨hcz39_0, hcz39_1⟩ := bc2 BK122.out; obtain ⟨hfz39_0, hfz39_1⟩ := bf2 BK122.out))
                  have n0_ : Aside0 (Kd.R Kd.bool 4 ((w37.setCell ⟨gb122, 0, none⟩ (.int .i64 ((rd_T47 l0_1 x9_2).f0))).setCell ⟨gb122, 1, none⟩ (.int .i64 ((rd_T47 l0_1 x9_2).f1))) w.heap.size (fun _ => True) (.slice (some ⟨go8, 0, none⟩) x7_2.length co8) x7_2) := ⟨by (with_reducible repeat (first | apply Kd.R_alloc | apply Kd.R_drewN | apply Kd.R_drew)); exact Kd.R_mono (Kd.R_far (p := ⟨gb122, 1, none⟩) (Kd.R_far (p := ⟨gb122, 0, none⟩) (Kd.R_types HO_7.out BK122.out (by decide)) (fun _ hk => hk.2) (.int .i64 ((rd_T47 l0_1 x9_2).f0))) (fun _ hk => hk.2) (.int .i64 ((rd_T47 l0_1 x9_2).f1))) (fun _ hk => trivial)⟩
                  have n1_ : Aside0 (((w37.setCell ⟨gb122, 0, none⟩ (.int .i64 ((rd_T47 l0_1 x9_2).f0))).setCell ⟨gb122, 1, none⟩ (.int .i64 ((rd_T47 l0_1 x9_2).f1))).heap[gb116]? = some (.cells #[.int .i64 a0_0, .slice (some ad121) l0_1.length c0_1, .slice A0_2 l0_2.length c0_2] 25 (0, 0))) := ⟨by (with_reducible repeat (first | refine blk_drewN ?_ _ | refine blk_drew ?_ | refine blk_alloc ?_ _)); refine blk_far ?_ NB116_122.out _; (with_reducible repeat (first | refine blk_drewN ?_ _ | refine blk_drew ?_ | refine blk_alloc ?_ _)); refine blk_far ?_ NB116_122.out _; (with_reducible repeat (first | refine blk_drewN ?_ _ | refine blk_drew ?_ | refine blk_alloc ?_ _)); exact BK116.out⟩
                  have n2_ : Aside0 (((w37.setCell ⟨gb122, 0, none⟩ (.int .i64 ((rd_T47 l0_1 x9_2).f0))).setCell ⟨gb122, 1, none⟩ (.int .i64 ((rd_T47 l0_1 x9_2).f1))).heap[gb122]? = some (.cells #[.int .i64 ((rd_T47 l0_1 x9_2).f0), .int .i64 ((rd_T47 l0_1 x9_2).f1)] 47 (0, 0))) := ⟨by (with_reducible repeat (first | refine blk_drewN ?_ _ | refine blk_drew ?_ | refine blk_alloc ?_ _)); refine blk_put (cs := #[.int .i64 ((rd_T47 l0_1 x9_2).f0), .int .i64 0]) ?_ 1 _ rfl; (with_reducible repeat (first | refine blk_drewN ?_ _ | refine blk_drew ?_ | refine blk_alloc ?_ _)); refine blk_put (cs := #[.int .i64 0, .int .i64 0]) ?_ 0 _ rfl; (with_reducible repeat (first | refine blk_drewN ?_ _ | refine blk_drew ?_ | refine blk_alloc ?_ _)); exact BK122.out⟩
                  have n3_ : Aside0 (Below w.heap.size w ((w37.setCell ⟨gb122, 0, none⟩ (.int .i64 ((rd_T47 l0_1 x9_2).f0))).setCell ⟨gb122, 1, none⟩ (.int .i64 ((rd_T47 l0_1 x9_2).f1)))) := ⟨bel⟩
                  (try clear HO_7)
                  (try clear BK116)
                  (try clear BK122)
                  (try clear HB)
                  generalize ((w37.setCell ⟨gb122, 0, none⟩ (.int .i64 ((rd_T47 l0_1 x9_2).f0))).setCell ⟨gb122, 1, none⟩ (.int .i64 ((rd_T47 l0_1 x9_2).f1))) = w40 at n0_ n1_ n2_ n3_ ⊢
                  have HO_7 := n0_
                  have BK116 := n1_
                  have BK122 := n2_
                  have HB := n3_
                  clear n0_ n1_ n2_ n3_
                  have n0_ := Aside0.mk (Kd.R_drew HO_7.out)
                  have n1_ := Aside0.mk (blk_drew BK116.out)
                  have n2_ := Aside0.mk (blk_drew BK122.out)
                  have n3_ := Aside0.mk (below_drew1 HB.out)
                  clear HO_7
                  clear BK116
                  clear BK122
                  clear HB
                  have HO_7 := n0_
                  have BK116 := n1_
                  have BK122 := n2_
                  have HB := n3_
                  clear n0_ n1_ n2_ n3_
                  have p124 : 0 ≤ (((rd_T47 l0_1 x9_2).f0) : Int) := of_decide_eq_true asz
                  have q124 : ((rd_T47 l0_1 x9_2).f0) < (x7_2.length : Int) := of_decide_eq_true asz
                  obtain ⟨ad124, e124, hx124_0⟩ := Kd.at_bool (Kd.R_reads' HO_7.out).2.2 ((rd_T47 l0_1 x9_2).f0) p124 q124
                  obtain rfl : (⟨go8, 0, none⟩ : Addr) = ad124 := (by injection e124)
                  (first | simp only [add_plain] at hx124_0 | simp only [add_at] at hx124_0 | simp only [Addr.add, Nat.zero_add] at hx124_0 | skip)
                  replace p124 := eq_true p124
                  replace q124 := eq_true q124
                  have p125 : 0 ≤ (((rd_T47 l0_1 x9_2).f1) : Int) := of_decide_eq_true asz
                  have q125 : ((rd_T47 l0_1 x9_2).f1) < (x7_2.length : Int) := of_decide_eq_true asz
                  obtain ⟨ad125, e125, hx125_0⟩ := Kd.at_bool (Kd.R_reads' HO_7.out).2.2 ((rd_T47 l0_1 x9_2).f1) p125 q125
                  obtain rfl : (⟨go8, 0, none⟩ : Addr) = ad125 := (by injection e125)
                  (first | simp only [add_plain] at hx125_0 | simp only [add_at] at hx125_0 | simp only [Addr.add, Nat.zero_add] at hx125_0 | skip)
                  replace p125 := eq_true p125
                  replace q125 := eq_true q125
                  refine start_ (n := 16) (S := fun w' => w'.cell? ⟨gb122, 0, none⟩ = some (.int .i64 ((rd_T47 l0_1 x9_2).f0)) ∧ w'.cell? ⟨gb122, 1, none⟩ = some (.int .i64 ((rd_T47 l0_1 x9_2).f1)) ∧ w'.cell? ⟨go8, (((rd_T47 l0_1 x9_2).f0)).toNat, none⟩ = some (.bool (rdOf false x7_2 ((rd_T47 l0_1 x9_2).f0))) ∧ w'.cell? ⟨go8, (((rd_T47 l0_1 x9_2).f1)).toNat, none⟩ = some (.bool (rdOf false x7_2 ((rd_T47 l0_1 x9_2).f1)))) (ds := []) #[false, false, false, false, false, false, false, false, false, false, false, false, false, false, false, false] (by kernel_rfl) rfl rfl ⟨(blk_cell BK122.out 0).trans rfl, (blk_cell BK122.out 1).trans rfl, hx124_0, hx125_0⟩ (fun hHeld => ?_); refine with_tabW dropperref05_from.tab10 dropperref05_from.bits10 (fun HT_ HW_ => ?_)
                  generalize w40.drew = w41 at HO_7 BK116 BK122 HB hx124_0 hx125_0 hHeld ⊢
                  refine pst (i := 0) (N := some 30) (bz 16 1) (any_of HT_.out (by kernel_rfl)) ?_
                  refine pst (i := 1) (N := some 31) (bz 16 3) (any_of HT_.out (by kernel_rfl)) ?_
                  refine one_ (i := 2) (N := some 32) #[true, true, true, false, false, false, false, false, false, false, false, false, false, false, false, false] rfl rfl (one_of HT_.out (by kernel_rfl)) (by decide) (fun K hK => ?_)
                  refine goes_ Tryd.func58 (by kernel_rfl) rfl #[.int .i64 a1, .int .i64 x9_2] (by rfl) rfl rfl mapz ?_
                  with_reducible refine (dropperref05_closed.calls a1 x9_2 true _ A18.out).mono ?_
                  rintro e w' ⟨rfl, ⟨nd, rfl⟩⟩
                  refine ⟨_, rfl, ?_⟩
                  refine hK.out _ _ ⟨(blk_cell BK122.out 0).trans rfl, (blk_cell BK122.out 1).trans rfl, hHeld.2.2.1, hHeld.2.2.2⟩ (fun hHeld => ?_)
                  clear hK K
                  refine norm_ (a' := ?_) ?_ ?_
                  rotate_left
                  ·
                   show Act.put _ (some 32) _ = _
                   simp only [Act.put, List.setIfInBounds_toArray, List.set_cons_zero, List.set_cons_succ, i64_w, i32_w]
                   rfl
                  refine pst (i := 3) (N := some 33) (bz 16 15) (any_of HT_.out (by kernel_rfl)) ?_
                  refine pst (i := 4) (N := some 34) (bz 16 31) (any_of HT_.out (by kernel_rfl)) ?_
                  refine pst (i := 5) (N := some 35) (bz 16 63) (any_of HT_.out (by kernel_rfl)) ?_
                  refine pst (i := 9) (N := some 39) (bz 16 575) (any_of HT_.out (by kernel_rfl)) ?_
                  refine pst (i := 10) (N := some 40) (bz 16 1599) (any_of HT_.out (by kernel_rfl)) ?_
                  refine tst4 (i := 6) (N := some 36) (bz 16 1663) (take_ofW HT_.out HW_.out (by kernel_rfl)) hHeld ?_
                  refine pst (i := 7) (N := some 37) (bz 16 1791) (any_of HT_.out (by kernel_rfl)) ?_
                  refine tst4 (i := 8) (N := some 38) (bz 16 2047) (take_ofW HT_.out HW_.out (by kernel_rfl)) hHeld ?_
                  refine tst4 (i := 11) (N := some 41) (bz 16 4095) (take_ofW HT_.out HW_.out (by kernel_rfl)) hHeld ?_
                  refine pst (i := 12) (N := some 42) (bz 16 8191) (any_of HT_.out (by kernel_rfl)) ?_
                  refine tst4 (i := 13) (N := some 43) (bz 16 16383) (take_ofW HT_.out HW_.out (by kernel_rfl)) hHeld ?_
                  refine pst (i := 14) (N := some 44) (bz 16 32767) (any_of HT_.out (by kernel_rfl)) ?_
                  refine pst (i := 15) (N := some 45) (bz 16 65535) (any_of HT_.out (by kernel_rfl)) ?_
                  refine done_ (done_of HT_.out (by kernel_rfl)) ?_
                  try go_wp2
                  (try simp only [← hl7_2])
                  go_roundg k2
                  case measure => have := HK1.out; have := HK2.out; omega
                  case rel => exact ⟨(x7_2), (x8_2), (wrap64 (x9_2 + 1)), rsz, rsz, H', ⟨by have := HK1.out; have := HK2.out; omega⟩, ⟨by (try simp only [hl7_1]); (try simp only [hl7_2]); (with_reducible repeat (first | apply Kd.R_alloc | apply Kd.R_drewN | apply Kd.R_drew)); exact HO_7.out⟩, ⟨by (try simp only [hl7_1]); (try simp only [hl7_2]); (with_reducible repeat (first | refine blk_drewN ?_ _ | refine blk_drew ?_ | refine blk_alloc ?_ _)); exact BK116.out⟩, ⟨bel⟩⟩
                ·
                 rw [if_neg c23] at H
                 exact absurd H (by simp)
               ·
                rw [if_neg c22] at H
                exact absurd H (by simp)
              ·
               rw [if_neg c21] at H
               exact absurd H (by simp)
             ·
              rw [if_neg c20] at H
              exact absurd H (by simp)
            ·
             replace c19 := Bool.eq_false_iff.mpr c19
             subst c19
             rw [if_neg (show ¬ (false = true) by decide)] at H
             have H' := Aside0.mk H
             clear H
             obtain ⟨hcz42_0, hcz42_1, hcz42_2⟩ := bc3 BK116.out
             obtain ⟨hfz42_0, hfz42_1, hfz42_2⟩ := bf3 BK116.out
             have p121 : 0 ≤ (x9_2 : Int) := of_decide_eq_true asz
             have q121 : x9_2 < (l0_1.length : Int) := of_decide_eq_true asz
             obtain ⟨ad121, e121, hx121_0, hx121_1⟩ := at_T47 HR0_1.out x9_2 p121 q121
             cases e121
             replace hx121_0 := (HB.out.cell (World.block_lt_of_cell? w _ hx121_0)).trans hx121_0
             replace hx121_1 := (HB.out.cell (World.block_lt_of_cell? w _ hx121_1)).trans hx121_1
             replace p121 := eq_true p121
             replace q121 := eq_true q121
             try go_wp2_with (first | ((with_reducible refine gate_dst (N := 10) rfl ?_); refine box_event ?hg (N := 10) ?hd (cs := #[.int .i64 0, .int .i64 0]) (t := 47) ?hr ?_; (case hd => rfl); (case hg => rfl); (case hr => first | (go_simp; done) | (go_simp; rfl)); intro gb122 hg w43 hbox hb; have BK122 := Aside0.mk (hbox); have GW122 := bsz (w := w) hg; have GE122 := GW122; have NB116_122 := neL (g := gb116) hg; have NB122_116 := neR (g := gb116) hg; replace HO_7 := Aside0.mk (Kd.R_below (ownx HO_7) hb); replace BK116 := Aside0.mk (blk_below (g := gb116) blkz hb); replace HB := Aside0.mk (below_step bel hb); clear hb hbox hg; have hnb44 := NB122_116.out; have hnc44 := NB116_122.out; obtain ⟨hcz45_0, hcz45_1⟩ := bc2 BK122.out; obtain ⟨hfz45_0, hfz45_1⟩ := bf2 BK122.out))
             have n0_ : Aside0 (Kd.R Kd.bool 4 ((w43.setCell ⟨gb122, 0, none⟩ (.int .i64 ((rd_T47 l0_1 x9_2).f0))).setCell ⟨gb122, 1, none⟩ (.int .i64 ((rd_T47 l0_1 x9_2).f1))) w.heap.size (fun _ => True) (.slice (some ⟨go8, 0, none⟩) x7_2.length co8) x7_2) := ⟨by (with_reducible repeat (first | apply Kd.R_alloc | apply Kd.R_drewN | apply Kd.R_drew)); exact Kd.R_mono (Kd.R_far (p := ⟨gb122, 1, none⟩) (Kd.R_far (p := ⟨gb122, 0, none⟩) (Kd.R_types HO_7.out BK122.out (by decide)) (fun _ hk => hk.2) (.int .i64 ((rd_T47 l0_1 x9_2).f0))) (fun _ hk => hk.2) (.int .i64 ((rd_T47 l0_1 x9_2).f1))) (fun _ hk => trivial)⟩
             have n1_ : Aside0 (((w43.setCell ⟨gb122, 0, none⟩ (.int .i64 ((rd_T47 l0_1 x9_2).f0))).setCell ⟨gb122, 1, none⟩ (.int .i64 ((rd_T47 l0_1 x9_2).f1))).heap[gb116]? = some (.cells #[.int .i64 a0_0, .slice (some ad121) l0_1.length c0_1, .slice A0_2 l0_2.length c0_2] 25 (0, 0))) := ⟨by (with_reducible repeat (first | refine blk_drewN ?_ _ | refine blk_drew ?_ | refine blk_alloc ?_ _)); refine blk_far ?_ NB116_122.out _; (with_reducible repeat (first | refine blk_drewN ?_ _ | refine blk_drew ?_ | refine blk_alloc ?_ _)); refine blk_far ?_ NB116_122.out _; (with_reducible repeat (first | refine blk_drewN ?_ _ | refine blk_drew ?_ | refine blk_alloc ?_ _)); exact BK116.out⟩
             have n2_ : Aside0 (((w43.setCell ⟨gb122, 0, none⟩ (.int .i64 ((rd_T47 l0_1 x9_2).f0))).setCell ⟨gb122, 1, none⟩ (.int .i64 ((rd_T47 l0_1 x9_2).f1))).heap[gb122]? = some (.cells #[.int .i64 ((rd_T47 l0_1 x9_2).f0), .int .i64 ((rd_T47 l0_1 x9_2).f1)] 47 (0, 0))) := ⟨by (with_reducible repeat (first | refine blk_drewN ?_ _ | refine blk_drew ?_ | refine blk_alloc ?_ _)); refine blk_put (cs := #[.int .i64 ((rd_T47 l0_1 x9_2).f0), .int .i64 0]) ?_ 1 _ rfl; (with_reducible repeat (first | refine blk_drewN ?_ _ | refine blk_drew ?_ | refine blk_alloc ?_ _)); refine blk_put (cs := #[.int .i64 0, .int .i64 0]) ?_ 0 _ rfl; (with_reducible repeat (first | refine blk_drewN ?_ _ | refine blk_drew ?_ | refine blk_alloc ?_ _)); exact BK122.out⟩
             have n3_ : Aside0 (Below w.heap.size w ((w43.setCell ⟨gb122, 0, none⟩ (.int .i64 ((rd_T47 l0_1 x9_2).f0))).setCell ⟨gb122, 1, none⟩ (.int .i64 ((rd_T47 l0_1 x9_2).f1)))) := ⟨bel⟩
             (try clear HO_7)
             (try clear BK116)
             (try clear BK122)
             (try clear HB)
             generalize ((w43.setCell ⟨gb122, 0, none⟩ (.int .i64 ((rd_T47 l0_1 x9_2).f0))).setCell ⟨gb122, 1, none⟩ (.int .i64 ((rd_T47 l0_1 x9_2).f1))) = w46 at n0_ n1_ n2_ n3_ ⊢
             have HO_7 := n0_
             have BK116 := n1_
             have BK122 := n2_
             have HB := n3_
             clear n0_ n1_ n2_ n3_
             have n0_ := Aside0.mk (Kd.R_drew HO_7.out)
             have n1_ := Aside0.mk (blk_drew BK116.out)
             have n2_ := Aside0.mk (blk_drew BK122.out)
             have n3_ := Aside0.mk (below_drew1 HB.out)
             clear HO_7
             clear BK116
             clear BK122
             clear HB
             have HO_7 := n0_
             have BK116 := n1_
             have BK122 := n2_
             have HB := n3_
             clear n0_ n1_ n2_ n3_
             refine start_ (n := 16) (S := fun w' => True) (ds := []) #[false, false, false, false, false, false, false, false, false, false, false, false, false, false, false, false] (by kernel_rfl) rfl rfl trivial (fun hHeld => ?_); refine with_tabW dropperref05_from.tab10 dropperref05_from.bits10 (fun HT_ HW_ => ?_)
             generalize w46.drew = w47 at HO_7 BK116 BK122 HB hHeld ⊢
             refine pst (i := 0) (N := some 30) (bz 16 1) (any_of HT_.out (by kernel_rfl)) ?_
             refine pst (i := 1) (N := some 31) (bz 16 3) (any_of HT_.out (by kernel_rfl)) ?_
             refine one_ (i := 2) (N := some 32) #[true, true, true, false, false, false, false, false, false, false, false, false, false, false, false, false] rfl rfl (one_of HT_.out (by kernel_rfl)) (by decide) (fun K hK => ?_)
             refine goes_ Tryd.func58 (by kernel_rfl) rfl #[.int .i64 a1, .int .i64 x9_2] (by rfl) rfl rfl mapz ?_
             with_reducible refine (dropperref05_closed.calls a1 x9_2 false _ A18.out).mono ?_
             rintro e w' ⟨rfl, ⟨nd, rfl⟩⟩
             refine ⟨_, rfl, ?_⟩
             refine hK.out _ _ trivial (fun hHeld => ?_)
             clear hK K
             refine norm_ (a' := ?_) ?_ ?_
             rotate_left
             ·
              show Act.put _ (some 32) _ = _
              simp only [Act.put, List.setIfInBounds_toArray, List.set_cons_zero, List.set_cons_succ, i64_w, i32_w]
              rfl
             refine pst (i := 3) (N := some 33) (bz 16 15) (any_of HT_.out (by kernel_rfl)) ?_
             refine pso (i := 4) (N := some 34) (bz 16 31) (any_of HT_.out (by kernel_rfl)) ?_
             refine pso (i := 5) (N := some 35) (bz 16 63) (any_of HT_.out (by kernel_rfl)) ?_
             refine pso (i := 6) (N := some 36) (bz 16 127) (any_of HT_.out (by kernel_rfl)) ?_
             refine pso (i := 7) (N := some 37) (bz 16 255) (any_of HT_.out (by kernel_rfl)) ?_
             refine pso (i := 8) (N := some 38) (bz 16 511) (any_of HT_.out (by kernel_rfl)) ?_
             refine pso (i := 9) (N := some 39) (bz 16 1023) (any_of HT_.out (by kernel_rfl)) ?_
             refine pso (i := 10) (N := some 40) (bz 16 2047) (any_of HT_.out (by kernel_rfl)) ?_
             refine pso (i := 11) (N := some 41) (bz 16 4095) (any_of HT_.out (by kernel_rfl)) ?_
             refine pso (i := 12) (N := some 42) (bz 16 8191) (any_of HT_.out (by kernel_rfl)) ?_
             refine pso (i := 13) (N := some 43) (bz 16 16383) (any_of HT_.out (by kernel_rfl)) ?_
             refine pso (i := 14) (N := some 44) (bz 16 32767) (any_of HT_.out (by kernel_rfl)) ?_
             refine pst (i := 15) (N := some 45) (bz 16 65535) (any_of HT_.out (by kernel_rfl)) ?_
             refine done_ (done_of HT_.out (by kernel_rfl)) ?_
             try go_wp2
             (try simp only [← hl7_2])
             go_roundg k2
             case measure => have := HK1.out; have := HK2.out; omega
             case rel => exact ⟨(x7_2), (x8_2), (wrap64 (x9_2 + 1)), rsz, rsz, H', ⟨by have := HK1.out; have := HK2.out; omega⟩, ⟨by (try simp only [hl7_1]); (try simp only [hl7_2]); (with_reducible repeat (first | apply Kd.R_alloc | apply Kd.R_drewN | apply Kd.R_drew)); exact HO_7.out⟩, ⟨by (try simp only [hl7_1]); (try simp only [hl7_2]); (with_reducible repeat (first | refine blk_drewN ?_ _ | refine blk_drew ?_ | refine blk_alloc ?_ _)); exact BK116.out⟩, ⟨bel⟩⟩
           ·
            rw [if_neg c17] at H
            exact absurd H (by simp)
          ·
           rw [if_neg c16] at H
           have c16b0 : decide (x9_2 < (l0_1.length : Int)) = false := decide_eq_false c16
           try (have c16b0hl7_1 := c16b0; simp only [hl7_1] at c16b0hl7_1)
           try (have c16b0hl7_2 := c16b0; simp only [hl7_2] at c16b0hl7_2)
           clear c16
           have H' := Aside0.mk H
           clear H
           obtain ⟨hcz48_0, hcz48_1, hcz48_2⟩ := bc3 BK116.out
           obtain ⟨hfz48_0, hfz48_1, hfz48_2⟩ := bf3 BK116.out
           go_wp2
           (try simp only [← hl7_1, ← hl7_2])
           go_roundg k2
           case measure => have := HK1.out; have := HK2.out; omega
           case rel => exact ⟨(x7_2), (x8_2), rsz, H', ⟨by have := HK1.out; have := HK2.out; omega⟩, ⟨by (try simp only [hl7_1]); (try simp only [hl7_2]); (with_reducible repeat (first | apply Kd.R_alloc | apply Kd.R_drewN | apply Kd.R_drew)); exact HO_7.out⟩, ⟨by (try simp only [hl7_1]); (try simp only [hl7_2]); (with_reducible repeat (first | refine blk_drewN ?_ _ | refine blk_drew ?_ | refine blk_alloc ?_ _)); exact BK116.out⟩, ⟨bel⟩⟩
       ·
        replace c15 := Bool.eq_false_iff.mpr c15
        subst c15
        rw [if_neg (show ¬ (false = true) by decide)] at H
        obtain rfl := Option.some.inj H
        go_wp2
        go_ret
        exact ⟨_, ezz, by (with_reducible repeat (first | apply Kd.R_alloc | apply Kd.R_drewN | apply Kd.R_drew)); exact HO_7.out, bel⟩
    ·
     rw [if_neg c7] at H
     exact absurd H (by simp)
   ·
    rw [if_neg c6] at H
    exact absurd H (by simp)
  ·
   rw [if_neg c5] at H
   exact absurd H (by simp)
 ·
  rw [if_neg c4] at H
  exact absurd H (by simp)

/-! ### dropperref05_live: function 19 -/
mutual
def dropperref05_live.l0 : Nat → Int → List Int → Int → Int → List (S47) → List (S49) → Option (List Int)
 | 0, _, _, _, _, _, _ => none
 | k + 1, x1, x5, x6, x129000, x129001, x129002 => if x6 < (x129002.length : Int) then (if 0 ≤ x6 then ((dropperref05_from.f k x129000 x129001 x129002 x1 ((rd_T49 x129002 x6).f0)).bind fun t133 => (dropperref05_live.l1 k x1 x5 x6 t133 0 x129000 x129001 x129002)) else (none)) else (some x5)
def dropperref05_live.l1 : Nat → Int → List Int → Int → List Bool → Int → Int → List (S47) → List (S49) → Option (List Int)
 | 0, _, _, _, _, _, _, _, _ => none
 | k + 1, x1, x5, x6, x7, x8, x129000, x129001, x129002 => if x8 < x129000 then (if 0 ≤ x6 then (if x6 < (x129002.length : Int) then (if 0 ≤ x8 then (if x8 < (x7.length : Int) then (if rdOf false x7 x8 = true then (if x8 < (x5.length : Int) then (if (rd x5 x8) = 0 then (dropperref05_live.l1 k x1 (x5.set (x8 : Int).toNat ((rd_T49 x129002 x6).f1)) x6 x7 (wrap64 (x8 + 1)) x129000 x129001 x129002) else (if (rd x5 x8) = ((rd_T49 x129002 x6).f1) then (dropperref05_live.l1 k x1 x5 x6 x7 (wrap64 (x8 + 1)) x129000 x129001 x129002) else (dropperref05_live.l1 k x1 (x5.set (x8 : Int).toNat (-1)) x6 x7 (wrap64 (x8 + 1)) x129000 x129001 x129002))) else (none)) else (dropperref05_live.l1 k x1 x5 x6 x7 (wrap64 (x8 + 1)) x129000 x129001 x129002)) else (none)) else (none)) else (none)) else (none)) else (dropperref05_live.l0 k x1 x5 (wrap64 (x6 + 1)) x129000 x129001 x129002)
end
def dropperref05_live.f (k : Nat) (a0_0 : Int) (l0_1 : List (S47)) (l0_2 : List (S49)) (a1 : Int) : Option (List Int) := if 0 ≤ a0_0 then (if (a0_0 : Int).toNat ≤ 35184372088832 then (dropperref05_live.l0 k a1 (List.replicate (a0_0 : Int).toNat 0) 0 a0_0 l0_1 l0_2) else (none)) else (none)
def dropperref05_live.T5 : Bool × List (List Nat × List Nat) := (true, [([], []), ([], []), ([], []), ([2], [2]), ([], []), ([3, 4], [3, 4]), ([5], [5]), ([6], [6]), ([0, 1, 7], [0, 1, 7]), ([8, 8, 0, 1, 2, 3, 4, 5, 6, 7, 8], [8])])
def dropperref05_live.B5 : List Nat := [0, 0, 0, 4, 0, 28, 60, 124, 255, 511]
theorem dropperref05_live.tab5 : rtab .any (opsOf Tryd.f19 5) = dropperref05_live.T5 := by kernel_rfl
theorem dropperref05_live.bits5 : waitsOk dropperref05_live.T5.2 dropperref05_live.B5 = true := by kernel_rfl
set_option maxHeartbeats 8000000 in
set_option maxRecDepth 100000 in
theorem dropperref05_live.calls (k : Nat) (a0_0 : Int) (A0_1 : Option Addr) (c0_1 : Nat) (l0_1 : List (S47)) (A0_2 : Option Addr) (c0_2 : Nat) (l0_2 : List (S49)) (a1 : Int) (r : List Int) (w : World) (hr0_1 : Kd.C k47 w A0_1 l0_1.length l0_1) (hc0_1 : l0_1.length ≤ c0_1) (hr0_2 : Kd.C k49 w A0_2 l0_2.length l0_2) (hc0_2 : l0_2.length ≤ c0_2) (h : dropperref05_live.f k a0_0 l0_1 l0_2 a1 = some r) :
  Calls Tryd.prog 19 #[.agg #[.int .i64 a0_0, .slice A0_1 l0_1.length c0_1, .slice A0_2 l0_2.length c0_2], .int .i64 a1] w fun e w' => ∃ v0_ : Value, e = .returned (v0_) ∧ Kd.R (Kd.int .i64) 3 w' w.heap.size (fun _ => True) v0_ r ∧ Below w.heap.size w w' := by
 have hu25 := Tryd.underlying25
 have HR0_1 := Aside0.mk hr0_1
 have HC0_1 := Aside0.mk hc0_1
 clear hr0_1 hc0_1
 have HR0_2 := Aside0.mk hr0_2
 have HC0_2 := Aside0.mk hc0_2
 clear hr0_2 hc0_2
 have HB := Aside0.mk (Below.refl w.heap.size w)
 have H : (if 0 ≤ a0_0 then (if (a0_0 : Int).toNat ≤ 35184372088832 then (dropperref05_live.l0 k a1 (List.replicate (a0_0 : Int).toNat 0) 0 a0_0 l0_1 l0_2) else (none)) else (none)) = some r := h
 clear h
 by_cases c3 : 0 ≤ a0_0
 ·
  rw [if_pos c3] at H
  have c3b0 := eq_true c3
  have c3b1 : decide (0 ≤ a0_0) = true := decide_eq_true c3
  clear c3
  by_cases c4 : (a0_0 : Int).toNat ≤ 35184372088832
  ·
   rw [if_pos c4] at H
   have c4b0 := eq_true c4
   have c4b1 : decide ((a0_0 : Int).toNat ≤ 35184372088832) = true := decide_eq_true c4
   clear c4
   obtain ⟨y129, hy129⟩ : ∃ y_ : List Int, y_ = (List.replicate (a0_0 : Int).toNat 0) := ⟨_, rfl⟩
   replace H : (dropperref05_live.l0 k a1 y129 0 a0_0 l0_1 l0_2) = some r := by first | (rw [hy129]; with_reducible exact H) | (have H2_ := (Option.bind_some _ _).symm.trans H; rw [hy129]; with_reducible exact H2_) | (have H2_ := (Option.bind_some _ _).symm.trans H; with_reducible exact H2_) | with_reducible exact H | (rw [hy129]; exact H) | exact H
   have Ny129 := Aside0.mk hy129
   clear hy129
   have H' := Aside0.mk H
   clear H
   go_enter Tryd.func19, Tryd.ntmps19
   go_wp2_with (first | ((with_reducible refine gate_dst (N := 2) rfl ?_); refine box_event ?hg (N := 2) ?hd (cs := #[.int .i64 a0_0, .slice A0_1 l0_1.length c0_1, .slice A0_2 l0_2.length c0_2]) (t := 25) ?hr ?_; (case hd => rfl); (case hg => rfl); (case hr => first | (go_simp; done) | (go_simp; rfl)); intro gb128 hg w5 hbox hb; have BK128 := Aside0.mk (hbox); have GW128 := bsz (w := w) hg; have GE128 := GW128; replace HB := Aside0.mk (below_step bel hb); clear hb hbox hg; obtain ⟨hcz6_0, hcz6_1, hcz6_2⟩ := bc3 BK128.out) | ((with_reducible refine gate_dst (N := 12) rfl ?_); refine Kd.R_make (Kd.int .i64) _ 3 rfl (N := 12) rfl 26 _ _ rfl a0_0 rfl rfl Tryd.underlying26 (.int .i64 0) 8 info3 rfl (by decide) (by omega) 0 (ok := fun _ => True) (okp := fun _ => True) rfl (fun _ hk => hk) trivial (of_decide_eq_true asz) (Nat.le_trans (Nat.mul_le_mul_right _ (of_decide_eq_true asz : a0_0.toNat ≤ 35184372088832)) (by omega)) (Below.refl _ _) (Nat.le_refl _) ?_; intro v130 w7 ho8 hb hg_ hnew_; clear hg_ hnew_; (first | rw [← Ny129.out] at ho8 | (simp only [Int.reduceToNat] at ho8; rw [← Ny129.out] at ho8)); have HO131 := Aside0.mk (Kd.R_lower ho8 (below_size bel)); replace BK128 := Aside0.mk (blk_below (g := gb128) blkz hb); replace HB := Aside0.mk (below_step bel hb); clear hb ho8))
   go_loopg [6] k (fun kq v6 w' => ∃ (x5_1 : List Int) (x6_1 : Int), v6 = .int .i64 x6_1 ∧ Aside0 (dropperref05_live.l0 kq a1 x5_1 x6_1 a0_0 l0_1 l0_2 = some r) ∧ Aside0 (kq ≤ k) ∧ Aside0 (Kd.R (Kd.int .i64) 3 w' w.heap.size (fun _ => True) v130 x5_1) ∧ Aside0 (w'.heap[gb128]? = some (.cells #[.int .i64 a0_0, (.slice A0_1 l0_1.length c0_1), (.slice A0_2 l0_2.length c0_2)] 25 (0, 0))) ∧ Aside0 (Below w.heap.size w w'))
   case atStart => exact ⟨(y129), (0), rsz, H', ⟨Nat.le_refl _⟩, ⟨by (with_reducible repeat (first | apply Kd.R_alloc | apply Kd.R_drewN | apply Kd.R_drew)); exact HO131.out⟩, ⟨blkz⟩, ⟨bel⟩⟩
   case round =>
    clear H'
    (try clear c1); (try clear p2); (try clear c3); (try clear c3b0); (try clear c3b1); (try clear c4); (try clear c4b0); (try clear c4b1); (try clear hcz6_0); (try clear hcz6_1); (try clear hcz6_2); (try clear hfz6_0); (try clear hfz6_1); (try clear hfz6_2)
    obtain ⟨x5_1, x6_1, rfl, HA, HK1, HO_5, BK128, HB⟩ := hrel
    cases gk with
    | zero => exact absurd HA.out (by simp [dropperref05_live.l0])
    | succ k1 =>
     have H := HA.out
     clear HA
     simp only [dropperref05_live.l0] at H
     by_cases c9 : x6_1 < (l0_2.length : Int)
     ·
      rw [if_pos c9] at H
      have c9b0 : decide (x6_1 < (l0_2.length : Int)) = true := decide_eq_true c9
      clear c9
      by_cases c10 : 0 ≤ x6_1
      ·
       rw [if_pos c10] at H
       have c10b0 : decide (0 ≤ x6_1) = true := decide_eq_true c10
       clear c10
       replace H := Option.bind_eq_some_iff.mp H
       obtain ⟨t133, A110, H⟩ := H
       try dsimp only at H
       have A11 := Aside0.mk A110
       clear A110
       have H' := Aside0.mk H
       clear H
       obtain ⟨hcz12_0, hcz12_1, hcz12_2⟩ := bc3 BK128.out
       obtain ⟨hfz12_0, hfz12_1, hfz12_2⟩ := bf3 BK128.out
       try go_wp2
       have n0_ := Aside0.mk (Kd.R_drew HO_5.out)
       have n1_ := Aside0.mk (blk_drew BK128.out)
       have n2_ := Aside0.mk (below_drew1 HB.out)
       clear HO_5
       clear BK128
       clear HB
       have HO_5 := n0_
       have BK128 := n1_
       have HB := n2_
       clear n0_ n1_ n2_
       have p132 : 0 ≤ (x6_1 : Int) := of_decide_eq_true asz
       have q132 : x6_1 < (l0_2.length : Int) := of_decide_eq_true asz
       obtain ⟨ad132, e132, hx132_0, hx132_1⟩ := at_T49 HR0_2.out x6_1 p132 q132
       have hw132_1 := hx132_1
       have hw132_0 := hx132_0
       cases e132
       replace hx132_0 := (HB.out.cell (World.block_lt_of_cell? w _ hx132_0)).trans hx132_0
       replace hx132_1 := (HB.out.cell (World.block_lt_of_cell? w _ hx132_1)).trans hx132_1
       replace p132 := eq_true p132
       replace q132 := eq_true q132
       refine start_ (n := 10) (S := fun w' => w'.cell? ⟨gb128, 0, none⟩ = some (.int .i64 a0_0) ∧ w'.cell? ⟨gb128, 1, none⟩ = some (.slice A0_1 l0_1.length c0_1) ∧ w'.cell? ⟨gb128, 2, none⟩ = some (.slice (some ad132) l0_2.length c0_2) ∧ w'.cell? (ad132.add ((x6_1).toNat * 2)) = some (.int .i64 ((rd_T49 l0_2 x6_1).f0)) ∧ w'.cell? ⟨(ad132.add ((x6_1).toNat * 2)).block, (ad132.add ((x6_1).toNat * 2)).off + 1, none⟩ = some (.int .i64 ((rd_T49 l0_2 x6_1).f1))) (ds := []) #[false, false, false, false, false, false, false, false, false, false] (by kernel_rfl) rfl rfl ⟨(blk_cell BK128.out 0).trans rfl, (blk_cell BK128.out 1).trans rfl, (blk_cell BK128.out 2).trans rfl, ((HB.out.cell (World.block_lt_of_cell? w _ hw132_0)).trans hw132_0), ((HB.out.cell (World.block_lt_of_cell? w _ hw132_1)).trans hw132_1)⟩ (fun hHeld => ?_); refine with_tabW dropperref05_live.tab5 dropperref05_live.bits5 (fun HT_ HW_ => ?_)
       generalize wr.drew = w13 at HO_5 BK128 HB hx132_0 hx132_1 hHeld ⊢
       refine pst (i := 1) (N := some 21) (bz 10 2) (any_of HT_.out (by kernel_rfl)) ?_
       refine pst (i := 2) (N := some 22) (bz 10 6) (any_of HT_.out (by kernel_rfl)) ?_
       refine pst (i := 4) (N := some 24) (bz 10 22) (any_of HT_.out (by kernel_rfl)) ?_
       refine tst5 (i := 0) (N := some 20) (bz 10 23) (take_ofW HT_.out HW_.out (by kernel_rfl)) hHeld ?_
       refine tst5 (i := 3) (N := some 23) (bz 10 31) (take_ofW HT_.out HW_.out (by kernel_rfl)) hHeld ?_
       refine pst (i := 5) (N := some 25) (bz 10 63) (any_of HT_.out (by kernel_rfl)) ?_
       refine pst (i := 6) (N := some 26) (bz 10 127) (any_of HT_.out (by kernel_rfl)) ?_
       refine tst5 (i := 7) (N := some 27) (bz 10 255) (take_ofW HT_.out HW_.out (by kernel_rfl)) hHeld ?_
       refine one_ (i := 8) (N := some 28) #[true, true, true, true, true, true, true, true, true, false] rfl rfl (one_of HT_.out (by kernel_rfl)) (by decide) (fun K hK => ?_)
       refine goes_ Tryd.func39 (by kernel_rfl) rfl #[.agg #[.int .i64 a0_0, .slice A0_1 l0_1.length c0_1, .slice (some ad132) l0_2.length c0_2], .int .i64 a1, .int .i64 ((rd_T49 l0_2 x6_1).f0)] (by rfl) rfl rfl mapz ?_
       with_reducible refine (dropperref05_from.calls k1 a0_0 _ _ l0_1 _ _ l0_2 a1 ((rd_T49 l0_2 x6_1).f0) t133 _ ?side1 ?side2 ?side3 ?side4 A11.out).mono ?_
       (case side1 => exact cbz HR0_1)
       (case side2 => exact HC0_1.out)
       (case side3 => exact cbz HR0_2)
       (case side4 => exact HC0_2.out)
       rintro e w14 ⟨v134, rfl, ho0, hb⟩
       refine ⟨_, rfl, ?_⟩
       have n0_ := Aside0.mk (Kd.R_below (ownx HO_5) hb)
       have n1_ := Aside0.mk (Kd.R_lower ho0 (below_size bel))
       have n2_ := Aside0.mk (blk_below (g := gb128) blkz hb)
       have n3_ := Aside0.mk (below_step bel hb)
       clear HO_5
       clear BK128
       clear HB
       have HO_5 := n0_
       have HO135 := n1_
       have BK128 := n2_
       have HB := n3_
       clear n0_ n1_ n2_ n3_
       (try clear hb)
       (try clear hb2)
       (try clear hk)
       (try clear hi)
       (try clear ho0)
       refine hK.out _ _ ⟨(blk_cell BK128.out 0).trans rfl, (blk_cell BK128.out 1).trans rfl, (blk_cell BK128.out 2).trans rfl, ((HB.out.cell (World.block_lt_of_cell? w _ hw132_0)).trans hw132_0), ((HB.out.cell (World.block_lt_of_cell? w _ hw132_1)).trans hw132_1)⟩ (fun hHeld => ?_)
       clear hK K
       refine norm_ (a' := ?_) ?_ ?_
       rotate_left
       ·
        show Act.put _ (some 28) _ = _
        simp only [Act.put, List.setIfInBounds_toArray, List.set_cons_zero, List.set_cons_succ, i64_w, i32_w]
        rfl
       refine pst (i := 9) (N := some 7) (bz 10 1023) (any_of HT_.out (by kernel_rfl)) ?_
       refine done_ (done_of HT_.out (by kernel_rfl)) ?_
       try go_wp2
       go_loopg [8] k1 (fun kq v8 w' => ∃ (x5_2 : List Int) (x8_2 : Int), v8 = .int .i64 x8_2 ∧ Aside0 (dropperref05_live.l1 kq a1 x5_2 x6_1 t133 x8_2 a0_0 l0_1 l0_2 = some r) ∧ Aside0 (kq ≤ k1) ∧ Aside0 (Kd.R (Kd.int .i64) 3 w' w.heap.size (fun _ => True) v130 x5_2) ∧ Aside0 (Kd.R Kd.bool 4 w' w.heap.size (fun _ => True) v134 t133) ∧ Aside0 (w'.heap[gb128]? = some (.cells #[.int .i64 a0_0, (.slice A0_1 l0_1.length c0_1), (.slice (some ad132) l0_2.length c0_2)] 25 (0, 0))) ∧ Aside0 (Below w.heap.size w w'))
       case atStart => exact ⟨(x5_1), (0), rsz, H', ⟨Nat.le_refl _⟩, ⟨by (with_reducible repeat (first | apply Kd.R_alloc | apply Kd.R_drewN | apply Kd.R_drew)); exact HO_5.out⟩, ⟨by (with_reducible repeat (first | apply Kd.R_alloc | apply Kd.R_drewN | apply Kd.R_drew)); exact HO135.out⟩, ⟨blkz⟩, ⟨bel⟩⟩
       case round =>
        clear H'
        (try clear c1); (try clear p1); (try clear q1); (try clear hx1); (try clear p2); (try clear c3); (try clear c3b0); (try clear c3b1); (try clear c4); (try clear c4b0); (try clear c4b1); (try clear c9); (try clear c9b0); (try clear c10); (try clear c10b0); (try clear p13); (try clear q13); (try clear hx13); (try clear hcz12_0); (try clear hcz12_1); (try clear hcz12_2); (try clear hcz6_0); (try clear hcz6_1); (try clear hcz6_2); (try clear hfz12_0); (try clear hfz12_1); (try clear hfz12_2); (try clear hfz6_0); (try clear hfz6_1); (try clear hfz6_2); (try clear hx132_0); (try clear hx132_1); (try clear p132); (try clear p2); (try clear q132)
        obtain ⟨x5_2, x8_2, rfl, HA, HK2, HO_5, HO_7, BK128, HB⟩ := hrel
        cases gk with
        | zero => exact absurd HA.out (by simp [dropperref05_live.l1])
        | succ k2 =>
         have H := HA.out
         clear HA
         simp only [dropperref05_live.l1] at H
         by_cases c15 : x8_2 < a0_0
         ·
          rw [if_pos c15] at H
          have c15b0 : decide (x8_2 < a0_0) = true := decide_eq_true c15
          clear c15
          by_cases c16 : 0 ≤ x6_1
          ·
           rw [if_pos c16] at H
           have c16b0 : decide (0 ≤ x6_1) = true := decide_eq_true c16
           clear c16
           by_cases c17 : x6_1 < (l0_2.length : Int)
           ·
            rw [if_pos c17] at H
            have c17b0 : decide (x6_1 < (l0_2.length : Int)) = true := decide_eq_true c17
            clear c17
            by_cases c18 : 0 ≤ x8_2
            ·
             rw [if_pos c18] at H
             have c18b0 : decide (0 ≤ x8_2) = true := decide_eq_true c18
             clear c18
             by_cases c19 : x8_2 < (t133.length : Int)
             ·
              rw [if_pos c19] at H
              have c19b0 : decide (x8_2 < (t133.length : Int)) = true := decide_eq_true c19
              clear c19
              obtain ⟨bq20, hbq20⟩ : ∃ b_ : Bool, b_ = (rdOf false t133 x8_2) := ⟨_, rfl⟩
              replace H : (if bq20 = true then (if x8_2 < (x5_2.length : Int) then (if (rd x5_2 x8_2) = 0 then (dropperref05_live.l1 k2 a1 (x5_2.set (x8_2 : Int).toNat ((rd_T49 l0_2 x6_1).f1)) x6_1 t133 (wrap64 (x8_2 + 1)) a0_0 l0_1 l0_2) else (if (rd x5_2 x8_2) = ((rd_T49 l0_2 x6_1).f1) then (dropperref05_live.l1 k2 a1 x5_2 x6_1 t133 (wrap64 (x8_2 + 1)) a0_0 l0_1 l0_2) else (dropperref05_live.l1 k2 a1 (x5_2.set (x8_2 : Int).toNat (-1)) x6_1 t133 (wrap64 (x8_2 + 1)) a0_0 l0_1 l0_2))) else (none)) else (dropperref05_live.l1 k2 a1 x5_2 x6_1 t133 (wrap64 (x8_2 + 1)) a0_0 l0_1 l0_2)) = some r := by rw [← hbq20] at H; exact H
              have Nbq20 := Aside0.mk hbq20
              clear hbq20
              by_cases c21 : bq20 = true
              ·
               subst c21
               rw [if_pos rfl] at H
               by_cases c22 : x8_2 < (x5_2.length : Int)
               ·
                rw [if_pos c22] at H
                have c22b0 : decide (x8_2 < (x5_2.length : Int)) = true := decide_eq_true c22
                clear c22
                by_cases c23 : (rd x5_2 x8_2) = 0
                ·
                 rw [if_pos c23] at H
                 have c23b0 : ((rd x5_2 x8_2) == 0) = true := beq_iff_eq.mpr c23
                 have c23b1 : ((rd x5_2 x8_2) != 0) = false := bne_eq_false_iff_eq.mpr c23
                 clear c23
                 obtain ⟨y139, hy139⟩ : ∃ y_ : List Int, y_ = (x5_2.set (x8_2 : Int).toNat ((rd_T49 l0_2 x6_1).f1)) := ⟨_, rfl⟩
                 replace H : (dropperref05_live.l1 k2 a1 y139 x6_1 t133 (wrap64 (x8_2 + 1)) a0_0 l0_1 l0_2) = some r := by first | (rw [hy139]; with_reducible exact H) | (have H2_ := (Option.bind_some _ _).symm.trans H; rw [hy139]; with_reducible exact H2_) | (have H2_ := (Option.bind_some _ _).symm.trans H; with_reducible exact H2_) | with_reducible exact H | (rw [hy139]; exact H) | exact H
                 have Ny139 := Aside0.mk hy139
                 clear hy139
                 have H' := Aside0.mk H
                 clear H
                 obtain ⟨hcz25_0, hcz25_1, hcz25_2⟩ := bc3 BK128.out
                 obtain ⟨hfz25_0, hfz25_1, hfz25_2⟩ := bf3 BK128.out
                 have p136 : 0 ≤ (x6_1 : Int) := of_decide_eq_true asz
                 have q136 : x6_1 < (l0_2.length : Int) := of_decide_eq_true asz
                 obtain ⟨ad136, e136, hx136_0, hx136_1⟩ := at_T49 HR0_2.out x6_1 p136 q136
                 obtain rfl : ad132 = ad136 := (by injection e136)
                 replace hx136_0 := (HB.out.cell (World.block_lt_of_cell? w _ hx136_0)).trans hx136_0
                 replace hx136_1 := (HB.out.cell (World.block_lt_of_cell? w _ hx136_1)).trans hx136_1
                 replace p136 := eq_true p136
                 replace q136 := eq_true q136
                 obtain ⟨Ao26, co26, eo26⟩ := Kd.R_slice HO_7.out
                 subst eo26
                 have p137 : 0 ≤ (x8_2 : Int) := of_decide_eq_true asz
                 have q137 : x8_2 < (t133.length : Int) := of_decide_eq_true asz
                 obtain ⟨ad137, e137, hx137_0⟩ := Kd.at_bool (Kd.R_reads' HO_7.out).2.2 x8_2 p137 q137
                 (try rw [← Nbq20.out] at hx137_0)
                 cases e137
                 replace p137 := eq_true p137
                 replace q137 := eq_true q137
                 obtain ⟨Ao27, co27, eo27⟩ := Kd.R_slice HO_5.out
                 subst eo27
                 have p138 : 0 ≤ (x8_2 : Int) := of_decide_eq_true asz
                 have q138 : x8_2 < (x5_2.length : Int) := of_decide_eq_true asz
                 obtain ⟨ad138, e138, hx138_0⟩ := Kd.at_int (Kd.R_reads' HO_5.out).2.2 x8_2 p138 q138
                 cases e138
                 replace p138 := eq_true p138
                 replace q138 := eq_true q138
                 have p24 : 0 ≤ (x8_2 : Int) := of_decide_eq_true asz
                 have q24 : (x8_2 : Int) < ((x5_2.length : Int) : Int) := of_decide_eq_true asz
                 obtain ⟨go24, co24, eo24, gb24, gl24, cl24, HG24⟩ := Kd.R_form HO_5.out (by omega)
                 (first | cases eo24 | (injection eo24 with ea_ en_ ec_; (first | subst ea_ | (injection ea_ with ea_; subst ea_)); subst ec_; clear en_))
                 have GB24 := Aside0.mk gb24
                 have GG24 := Aside0.mk HG24
                 clear gb24 gl24 HG24
                 (first | simp only [add_plain] at hx138_0 | skip)
                 obtain ⟨hx24_0, hf24_0⟩ := Kd.R_celln 0 HO_5.out (x8_2 : Int) p24 q24
                 replace p24 := eq_true p24
                 replace q24 := eq_true q24
                 have HP28 := Kd.R_putg HO_5.out (x8_2 : Int) ((rd_T49 l0_2 x6_1).f1)
                 go_wp2_with (first | ((with_reducible refine gate_store (t := 3) (p := 56) rfl ?_); refine store_event (t := 3) (p := 56) (v := ?vo_w29) (w1 := (wr.setCell ⟨go24, (x8_2 : Int).toNat, none⟩ (.int .i64 ((rd_T49 l0_2 x6_1).f1)))) ?hg ?ho ?hn ?hr ?_; (case ho => rfl); (case hg => rfl); (case hn => rfl); (case hr => first | (go_simp; done) | (go_simp; rfl)); intro w29 hw; have hg : wr.grownBy w29 (some go24) := (by rw [hw]; exact HP28.2); have hp_ : Kd.R (Kd.int .i64) 3 w29 w.heap.size (fun _ => True) (.slice (some ⟨go24, 0, none⟩) x5_2.length co27) y139 := (by rw [hw, Ny139.out]; exact HP28.1); clear HP28; replace HO_7 := Aside0.mk (Kd.R_over' (v := (.slice (some ⟨go24, 0, none⟩) x5_2.length co27)) (ownx HO_7) (Kd.R_typed HO_5.out) (by decide) hg); replace BK128 := Aside0.mk (blk_grown (g := gb128) (o := .cells #[.int .i64 a0_0, .slice A0_1 l0_1.length c0_1, .slice (some ad132) l0_2.length c0_2] 25 (0, 0)) blkz hg (Kd.R_ne HO_5.out BK128.out (by decide))); replace HO_5 := Aside0.mk (hp_); replace HB := Aside0.mk ((by rw [hw]; exact below_set (HB.out) GB24.out : Below w.heap.size w w29)); clear hg hw hp_))
                 go_roundg k2
                 case measure => have := HK1.out; have := HK2.out; omega
                 case rel => exact ⟨(y139), (wrap64 (x8_2 + 1)), rsz, H', ⟨by have := HK1.out; have := HK2.out; omega⟩, ⟨by (with_reducible repeat (first | apply Kd.R_alloc | apply Kd.R_drewN | apply Kd.R_drew)); exact HO_5.out⟩, ⟨by (with_reducible repeat (first | apply Kd.R_alloc | apply Kd.R_drewN | apply Kd.R_drew)); exact HO_7.out⟩, ⟨blkz⟩, ⟨bel⟩⟩
                ·
                 rw [if_neg c23] at H
                 have c23b0 : ((rd x5_2 x8_2) == 0) = false := beq_eq_false_iff_ne.mpr c23
                 have c23b1 : ((rd x5_2 x8_2) != 0) = true := bne_iff_ne.mpr c23
                 by_cases c30 : (rd x5_2 x8_2) = ((rd_T49 l0_2 x6_1).f1)
                 ·
                  rw [if_pos c30] at H
                  have c30b0 : ((rd x5_2 x8_2) == ((rd_T49 l0_2 x6_1).f1)) = true := beq_iff_eq.mpr c30
                  have c30b1 : ((rd x5_2 x8_2) != ((rd_T49 l0_2 x6_1).f1)) = false := bne_eq_false_iff_eq.mpr c30
                  clear c30
                  have H' := Aside0.mk H
                  clear H
                  obtain ⟨hcz31_0, hcz31_1, hcz31_2⟩ := bc3 BK128.out
                  obtain ⟨hfz31_0, hfz31_1, hfz31_2⟩ := bf3 BK128.out
                  have p136 : 0 ≤ (x6_1 : Int) := of_decide_eq_true asz
                  have q136 : x6_1 < (l0_2.length : Int) := of_decide_eq_true asz
                  obtain ⟨ad136, e136, hx136_0, hx136_1⟩ := at_T49 HR0_2.out x6_1 p136 q136
                  obtain rfl : ad132 = ad136 := (by injection e136)
                  replace hx136_0 := (HB.out.cell (World.block_lt_of_cell? w _ hx136_0)).trans hx136_0
                  replace hx136_1 := (HB.out.cell (World.block_lt_of_cell? w _ hx136_1)).trans hx136_1
                  replace p136 := eq_true p136
                  replace q136 := eq_true q136
                  obtain ⟨Ao32, co32, eo32⟩ := Kd.R_slice HO_7.out
                  subst eo32
                  have p137 : 0 ≤ (x8_2 : Int) := of_decide_eq_true asz
                  have q137 : x8_2 < (t133.length : Int) := of_decide_eq_true asz
                  obtain ⟨ad137, e137, hx137_0⟩ := Kd.at_bool (Kd.R_reads' HO_7.out).2.2 x8_2 p137 q137
                  (try rw [← Nbq20.out] at hx137_0)
                  cases e137
                  replace p137 := eq_true p137
                  replace q137 := eq_true q137
                  obtain ⟨Ao33, co33, eo33⟩ := Kd.R_slice HO_5.out
                  subst eo33
                  have p138 : 0 ≤ (x8_2 : Int) := of_decide_eq_true asz
                  have q138 : x8_2 < (x5_2.length : Int) := of_decide_eq_true asz
                  obtain ⟨ad138, e138, hx138_0⟩ := Kd.at_int (Kd.R_reads' HO_5.out).2.2 x8_2 p138 q138
                  cases e138
                  replace p138 := eq_true p138
                  replace q138 := eq_true q138
                  have p140 : 0 ≤ (x8_2 : Int) := of_decide_eq_true asz
                  have q140 : x8_2 < (x5_2.length : Int) := of_decide_eq_true asz
                  obtain ⟨ad140, e140, hx140_0⟩ := Kd.at_int (Kd.R_reads' HO_5.out).2.2 x8_2 p140 q140
                  obtain rfl : ad138 = ad140 := (by injection e140)
                  replace p140 := eq_true p140
                  replace q140 := eq_true q140
                  go_wp2
                  go_roundg k2
                  case measure => have := HK1.out; have := HK2.out; omega
                  case rel => exact ⟨(x5_2), (wrap64 (x8_2 + 1)), rsz, H', ⟨by have := HK1.out; have := HK2.out; omega⟩, ⟨by (with_reducible repeat (first | apply Kd.R_alloc | apply Kd.R_drewN | apply Kd.R_drew)); exact HO_5.out⟩, ⟨by (with_reducible repeat (first | apply Kd.R_alloc | apply Kd.R_drewN | apply Kd.R_drew)); exact HO_7.out⟩, ⟨blkz⟩, ⟨bel⟩⟩
                 ·
                  rw [if_neg c30] at H
                  have c30b0 : ((rd x5_2 x8_2) == ((rd_T49 l0_2 x6_1).f1)) = false := beq_eq_false_iff_ne.mpr c30
                  have c30b1 : ((rd x5_2 x8_2) != ((rd_T49 l0_2 x6_1).f1)) = true := bne_iff_ne.mpr c30
                  obtain ⟨y141, hy141⟩ : ∃ y_ : List Int, y_ = (x5_2.set (x8_2 : Int).toNat (-1)) := ⟨_, rfl⟩
                  replace H : (dropperref05_live.l1 k2 a1 y141 x6_1 t133 (wrap64 (x8_2 + 1)) a0_0 l0_1 l0_2) = some r := by first | (rw [hy141]; with_reducible exact H) | (have H2_ := (Option.bind_some _ _).symm.trans H; rw [hy141]; with_reducible exact H2_) | (have H2_ := (Option.bind_some _ _).symm.trans H; with_reducible exact H2_) | with_reducible exact H | (rw [hy141]; exact H) | exact H
                  have Ny141 := Aside0.mk hy141
                  clear hy141
                  have H' := Aside0.mk H
                  clear H
                  obtain ⟨hcz35_0, hcz35_1, hcz35_2⟩ := bc3 BK128.out
                  obtain ⟨hfz35_0, hfz35_1, hfz35_2⟩ := bf3 BK128.out
                  have p136 : 0 ≤ (x6_1 : Int) := of_decide_eq_true asz
                  have q136 : x6_1 < (l0_2.length : Int) := of_decide_eq_true asz
                  obtain ⟨ad136, e136, hx136_0, hx136_1⟩ := at_T49 HR0_2.out x6_1 p136 q136
                  obtain rfl : ad132 = ad136 := (by injection e136)
                  replace hx136_0 := (HB.out.cell (World.block_lt_of_cell? w _ hx136_0)).trans hx136_0
                  replace hx136_1 := (HB.out.cell (World.block_lt_of_cell? w _ hx136_1)).trans hx136_1
                  replace p136 := eq_true p136
                  replace q136 := eq_true q136
                  obtain ⟨Ao36, co36, eo36⟩ := Kd.R_slice HO_7.out
                  subst eo36
                  have p137 : 0 ≤ (x8_2 : Int) := of_decide_eq_true asz
                  have q137 : x8_2 < (t133.length : Int) := of_decide_eq_true asz
                  obtain ⟨ad137, e137, hx137_0⟩ := Kd.at_bool (Kd.R_reads' HO_7.out).2.2 x8_2 p137 q137
                  (try rw [← Nbq20.out] at hx137_0)
                  cases e137
                  replace p137 := eq_true p137
                  replace q137 := eq_true q137
                  obtain ⟨Ao37, co37, eo37⟩ := Kd.R_slice HO_5.out
                  subst eo37
                  have p138 : 0 ≤ (x8_2 : Int) := of_decide_eq_true asz
                  have q138 : x8_2 < (x5_2.length : Int) := of_decide_eq_true asz
                  obtain ⟨ad138, e138, hx138_0⟩ := Kd.at_int (Kd.R_reads' HO_5.out).2.2 x8_2 p138 q138
                  cases e138
                  replace p138 := eq_true p138
                  replace q138 := eq_true q138
                  have p140 : 0 ≤ (x8_2 : Int) := of_decide_eq_true asz
                  have q140 : x8_2 < (x5_2.length : Int) := of_decide_eq_true asz
                  obtain ⟨ad140, e140, hx140_0⟩ := Kd.at_int (Kd.R_reads' HO_5.out).2.2 x8_2 p140 q140
                  obtain rfl : ad138 = ad140 := (by injection e140)
                  replace p140 := eq_true p140
                  replace q140 := eq_true q140
                  have p34 : 0 ≤ (x8_2 : Int) := of_decide_eq_true asz
                  have q34 : (x8_2 : Int) < ((x5_2.length : Int) : Int) := of_decide_eq_true asz
                  obtain ⟨go34, co34, eo34, gb34, gl34, cl34, HG34⟩ := Kd.R_form HO_5.out (by omega)
                  (first | cases eo34 | (injection eo34 with ea_ en_ ec_; (first | subst ea_ | (injection ea_ with ea_; subst ea_)); subst ec_; clear en_))
                  have GB34 := Aside0.mk gb34
                  have GG34 := Aside0.mk HG34
                  clear gb34 gl34 HG34
                  (first | simp only [add_plain] at hx138_0 | skip)
                  (first | simp only [add_plain] at hx140_0 | skip)
                  obtain ⟨hx34_0, hf34_0⟩ := Kd.R_celln 0 HO_5.out (x8_2 : Int) p34 q34
                  replace p34 := eq_true p34
                  replace q34 := eq_true q34
                  have HP38 := Kd.R_putg HO_5.out (x8_2 : Int) (-1)
                  go_wp2_with (first | ((with_reducible refine gate_store (t := 3) (p := 66) rfl ?_); refine store_event (t := 3) (p := 66) (v := ?vo_w39) (w1 := (wr.setCell ⟨go34, (x8_2 : Int).toNat, none⟩ (.int .i64 (-1)))) ?hg ?ho ?hn ?hr ?_; (case ho => rfl); (case hg => rfl); (case hn => rfl); (case hr => first | (go_simp; done) | (go_simp; rfl)); intro w39 hw; have hg : wr.grownBy w39 (some go34) := (by rw [hw]; exact HP38.2); have hp_ : Kd.R (Kd.int .i64) 3 w39 w.heap.size (fun _ => True) (.slice (some ⟨go34, 0, none⟩) x5_2.length co37) y141 := (by rw [hw, Ny141.out]; exact HP38.1); clear HP38; replace HO_7 := Aside0.mk (Kd.R_over' (v := (.slice (some ⟨go34, 0, none⟩) x5_2.length co37)) (ownx HO_7) (Kd.R_typed HO_5.out) (by decide) hg); replace BK128 := Aside0.mk (blk_grown (g := gb128) (o := .cells #[.int .i64 a0_0, .slice A0_1 l0_1.length c0_1, .slice (some ad132) l0_2.length c0_2] 25 (0, 0)) blkz hg (Kd.R_ne HO_5.out BK128.out (by decide))); replace HO_5 := Aside0.mk (hp_); replace HB := Aside0.mk ((by rw [hw]; exact below_set (HB.out) GB34.out : Below w.heap.size w w39)); clear hg hw hp_))
                  go_roundg k2
                  case measure => have := HK1.out; have := HK2.out; omega
                  case rel => exact ⟨(y141), (wrap64 (x8_2 + 1)), rsz, H', ⟨by have := HK1.out; have := HK2.out; omega⟩, ⟨by (with_reducible repeat (first | apply Kd.R_alloc | apply Kd.R_drewN | apply Kd.R_drew)); exact HO_5.out⟩, ⟨by (with_reducible repeat (first | apply Kd.R_alloc | apply Kd.R_drewN | apply Kd.R_drew)); exact HO_7.out⟩, ⟨blkz⟩, ⟨bel⟩⟩
               ·
                rw [if_neg c22] at H
                exact absurd H (by simp)
              ·
               replace c21 := Bool.eq_false_iff.mpr c21
               subst c21
               rw [if_neg (show ¬ (false = true) by decide)] at H
               have H' := Aside0.mk H
               clear H
               obtain ⟨hcz40_0, hcz40_1, hcz40_2⟩ := bc3 BK128.out
               obtain ⟨hfz40_0, hfz40_1, hfz40_2⟩ := bf3 BK128.out
               have p136 : 0 ≤ (x6_1 : Int) := of_decide_eq_true asz
               have q136 : x6_1 < (l0_2.length : Int) := of_decide_eq_true asz
               obtain ⟨ad136, e136, hx136_0, hx136_1⟩ := at_T49 HR0_2.out x6_1 p136 q136
               obtain rfl : ad132 = ad136 := (by injection e136)
               replace hx136_0 := (HB.out.cell (World.block_lt_of_cell? w _ hx136_0)).trans hx136_0
               replace hx136_1 := (HB.out.cell (World.block_lt_of_cell? w _ hx136_1)).trans hx136_1
               replace p136 := eq_true p136
               replace q136 := eq_true q136
               obtain ⟨Ao41, co41, eo41⟩ := Kd.R_slice HO_7.out
               subst eo41
               have p137 : 0 ≤ (x8_2 : Int) := of_decide_eq_true asz
               have q137 : x8_2 < (t133.length : Int) := of_decide_eq_true asz
               obtain ⟨ad137, e137, hx137_0⟩ := Kd.at_bool (Kd.R_reads' HO_7.out).2.2 x8_2 p137 q137
               (try rw [← Nbq20.out] at hx137_0)
               cases e137
               replace p137 := eq_true p137
               replace q137 := eq_true q137
               go_wp2
               go_roundg k2
               case measure => have := HK1.out; have := HK2.out; omega
               case rel => exact ⟨(x5_2), (wrap64 (x8_2 + 1)), rsz, H', ⟨by have := HK1.out; have := HK2.out; omega⟩, ⟨by (with_reducible repeat (first | apply Kd.R_alloc | apply Kd.R_drewN | apply Kd.R_drew)); exact HO_5.out⟩, ⟨by (with_reducible repeat (first | apply Kd.R_alloc | apply Kd.R_drewN | apply Kd.R_drew)); exact HO_7.out⟩, ⟨blkz⟩, ⟨bel⟩⟩
             ·
              rw [if_neg c19] at H
              exact absurd H (by simp)
            ·
             rw [if_neg c18] at H
             exact absurd H (by simp)
           ·
            rw [if_neg c17] at H
            exact absurd H (by simp)
          ·
           rw [if_neg c16] at H
           exact absurd H (by simp)
         ·
          rw [if_neg c15] at H
          have c15b0 : decide (x8_2 < a0_0) = false := decide_eq_false c15
          clear c15
          have H' := Aside0.mk H
          clear H
          obtain ⟨hcz42_0, hcz42_1, hcz42_2⟩ := bc3 BK128.out
          obtain ⟨hfz42_0, hfz42_1, hfz42_2⟩ := bf3 BK128.out
          go_wp2
          go_roundg k2
          case measure => have := HK1.out; have := HK2.out; omega
          case rel => exact ⟨(x5_2), (wrap64 (x6_1 + 1)), rsz, H', ⟨by have := HK1.out; have := HK2.out; omega⟩, ⟨by (with_reducible repeat (first | apply Kd.R_alloc | apply Kd.R_drewN | apply Kd.R_drew)); exact HO_5.out⟩, ⟨blkz⟩, ⟨bel⟩⟩
      ·
       rw [if_neg c10] at H
       exact absurd H (by simp)
     ·
      rw [if_neg c9] at H
      have c9b0 : decide (x6_1 < (l0_2.length : Int)) = false := decide_eq_false c9
      clear c9
      obtain rfl := Option.some.inj H
      obtain ⟨hcz43_0, hcz43_1, hcz43_2⟩ := bc3 BK128.out
      obtain ⟨hfz43_0, hfz43_1, hfz43_2⟩ := bf3 BK128.out
      go_wp2
      go_ret
      exact ⟨_, ezz, by (with_reducible repeat (first | apply Kd.R_alloc | apply Kd.R_drewN | apply Kd.R_drew)); exact HO_5.out, bel⟩
  ·
   rw [if_neg c4] at H
   exact absurd H (by simp)
 ·
  rw [if_neg c3] at H
  exact absurd H (by simp)

/-! ### dropperref05_right: function 18 -/
def dropperref05_right.l0 : Nat → List Int → Int → Int → List (S47) → List (S49) → Option (Bool)
 | 0, _, _, _, _, _ => none
 | k + 1, x5, x6, x143000, x143001, x143002 => if x6 < x143000 then (if 0 ≤ x6 then (if x6 < (x5.length : Int) then (if (rd x5 x6) < 0 then (some false) else (dropperref05_right.l0 k x5 (wrap64 (x6 + 1)) x143000 x143001 x143002)) else (none)) else (none)) else (some true)
def dropperref05_right.f (k : Nat) (a0_0 : Int) (l0_1 : List (S47)) (l0_2 : List (S49)) (a1 : Int) : Option (Bool) := (dropperref05_live.f k a0_0 l0_1 l0_2 a1).bind fun t143 => (dropperref05_right.l0 k t143 0 a0_0 l0_1 l0_2)
set_option maxHeartbeats 8000000 in
set_option maxRecDepth 100000 in
theorem dropperref05_right.calls (k : Nat) (a0_0 : Int) (A0_1 : Option Addr) (c0_1 : Nat) (l0_1 : List (S47)) (A0_2 : Option Addr) (c0_2 : Nat) (l0_2 : List (S49)) (a1 : Int) (r : Bool) (w : World) (hr0_1 : Kd.C k47 w A0_1 l0_1.length l0_1) (hc0_1 : l0_1.length ≤ c0_1) (hr0_2 : Kd.C k49 w A0_2 l0_2.length l0_2) (hc0_2 : l0_2.length ≤ c0_2) (h : dropperref05_right.f k a0_0 l0_1 l0_2 a1 = some r) :
  Calls Tryd.prog 18 #[.agg #[.int .i64 a0_0, .slice A0_1 l0_1.length c0_1, .slice A0_2 l0_2.length c0_2], .int .i64 a1] w fun e w' => e = .returned (.bool r) ∧ Below w.heap.size w w' := by
 have hu25 := Tryd.underlying25
 have HR0_1 := Aside0.mk hr0_1
 have HC0_1 := Aside0.mk hc0_1
 clear hr0_1 hc0_1
 have HR0_2 := Aside0.mk hr0_2
 have HC0_2 := Aside0.mk hc0_2
 clear hr0_2 hc0_2
 have HB := Aside0.mk (Below.refl w.heap.size w)
 have H : ((dropperref05_live.f k a0_0 l0_1 l0_2 a1).bind fun t143 => (dropperref05_right.l0 k t143 0 a0_0 l0_1 l0_2)) = some r := h
 clear h
 replace H := Option.bind_eq_some_iff.mp H
 obtain ⟨t143, A30, H⟩ := H
 try dsimp only at H
 have A3 := Aside0.mk A30
 clear A30
 have H' := Aside0.mk H
 clear H
 go_enter Tryd.func18, Tryd.ntmps18
 go_wp2_with (first | ((with_reducible refine gate_dst (N := 2) rfl ?_); refine box_event ?hg (N := 2) ?hd (cs := #[.int .i64 a0_0, .slice A0_1 l0_1.length c0_1, .slice A0_2 l0_2.length c0_2]) (t := 25) ?hr ?_; (case hd => rfl); (case hg => rfl); (case hr => first | (go_simp; done) | (go_simp; rfl)); intro gb142 hg w4 hbox hb; have BK142 := Aside0.mk (hbox); have GW142 := bsz (w := w) hg; have GE142 := GW142; replace HB := Aside0.mk (below_step bel hb); clear hb hbox hg; obtain ⟨hcz5_0, hcz5_1, hcz5_2⟩ := bc3 BK142.out) | ((with_reducible refine gate_callee (f := 19) rfl ?_); refine goesL_ (some 9) rfl rfl Tryd.func19 (by kernel_rfl) rfl #[.agg #[.int .i64 a0_0, .slice A0_1 l0_1.length c0_1, .slice A0_2 l0_2.length c0_2], .int .i64 a1] rfl mapz ?_; (with_reducible refine (dropperref05_live.calls k a0_0 _ _ l0_1 _ _ l0_2 a1 t143 _ (cbz HR0_1) HC0_1.out (cbz HR0_2) HC0_2.out A3.out).mono ?_); rintro e w6 ⟨v144, rfl, ho0, hb⟩; refine ⟨_, rfl, ?_⟩; have HO145 := Aside0.mk (Kd.R_lower ho0 (below_size bel)); replace BK142 := Aside0.mk (blk_below (g := gb142) blkz hb); replace HB := Aside0.mk (below_step bel hb); (try clear hb); (try clear hb2); (try clear hk); (try clear hi); (try clear ho0)))
 go_loopg [6] k (fun kq v6 w' => ∃ (x6_1 : Int), v6 = .int .i64 x6_1 ∧ Aside0 (dropperref05_right.l0 kq t143 x6_1 a0_0 l0_1 l0_2 = some r) ∧ Aside0 (kq ≤ k) ∧ Aside0 (Kd.R (Kd.int .i64) 3 w' w.heap.size (fun _ => True) v144 t143) ∧ Aside0 (w'.heap[gb142]? = some (.cells #[.int .i64 a0_0, (.slice A0_1 l0_1.length c0_1), (.slice A0_2 l0_2.length c0_2)] 25 (0, 0))) ∧ Aside0 (Below w.heap.size w w'))
 case atStart => exact ⟨(0), rsz, H', ⟨Nat.le_refl _⟩, ⟨by (with_reducible repeat (first | apply Kd.R_alloc | apply Kd.R_drewN | apply Kd.R_drew)); exact HO145.out⟩, ⟨blkz⟩, ⟨bel⟩⟩
 case round =>
  clear H'
  (try clear c1); (try clear p2); (try clear hcz5_0); (try clear hcz5_1); (try clear hcz5_2); (try clear hfz5_0); (try clear hfz5_1); (try clear hfz5_2)
  obtain ⟨x6_1, rfl, HA, HK1, HO_5, BK142, HB⟩ := hrel
  cases gk with
  | zero => exact absurd HA.out (by simp [dropperref05_right.l0])
  | succ k1 =>
   have H := HA.out
   clear HA
   simp only [dropperref05_right.l0] at H
   by_cases c7 : x6_1 < a0_0
   ·
    rw [if_pos c7] at H
    have c7b0 : decide (x6_1 < a0_0) = true := decide_eq_true c7
    clear c7
    by_cases c8 : 0 ≤ x6_1
    ·
     rw [if_pos c8] at H
     have c8b0 : decide (0 ≤ x6_1) = true := decide_eq_true c8
     clear c8
     by_cases c9 : x6_1 < (t143.length : Int)
     ·
      rw [if_pos c9] at H
      have c9b0 : decide (x6_1 < (t143.length : Int)) = true := decide_eq_true c9
      clear c9
      by_cases c10 : (rd t143 x6_1) < 0
      ·
       rw [if_pos c10] at H
       have c10b0 : decide ((rd t143 x6_1) < 0) = true := decide_eq_true c10
       clear c10
       obtain rfl := Option.some.inj H
       obtain ⟨hcz11_0, hcz11_1, hcz11_2⟩ := bc3 BK142.out
       obtain ⟨hfz11_0, hfz11_1, hfz11_2⟩ := bf3 BK142.out
       obtain ⟨Ao12, co12, eo12⟩ := Kd.R_slice HO_5.out
       subst eo12
       have p146 : 0 ≤ (x6_1 : Int) := of_decide_eq_true asz
       have q146 : x6_1 < (t143.length : Int) := of_decide_eq_true asz
       obtain ⟨ad146, e146, hx146_0⟩ := Kd.at_int (Kd.R_reads' HO_5.out).2.2 x6_1 p146 q146
       cases e146
       replace p146 := eq_true p146
       replace q146 := eq_true q146
       go_wp2
       go_ret
       exact ⟨ezz, bel⟩
      ·
       rw [if_neg c10] at H
       have c10b0 : decide ((rd t143 x6_1) < 0) = false := decide_eq_false c10
       clear c10
       have H' := Aside0.mk H
       clear H
       obtain ⟨hcz13_0, hcz13_1, hcz13_2⟩ := bc3 BK142.out
       obtain ⟨hfz13_0, hfz13_1, hfz13_2⟩ := bf3 BK142.out
       obtain ⟨Ao14, co14, eo14⟩ := Kd.R_slice HO_5.out
       subst eo14
       have p146 : 0 ≤ (x6_1 : Int) := of_decide_eq_true asz
       have q146 : x6_1 < (t143.length : Int) := of_decide_eq_true asz
       obtain ⟨ad146, e146, hx146_0⟩ := Kd.at_int (Kd.R_reads' HO_5.out).2.2 x6_1 p146 q146
       cases e146
       replace p146 := eq_true p146
       replace q146 := eq_true q146
       go_wp2
       go_roundg k1
       case measure => have := HK1.out; omega
       case rel => exact ⟨(wrap64 (x6_1 + 1)), rsz, H', ⟨by have := HK1.out; omega⟩, ⟨by (with_reducible repeat (first | apply Kd.R_alloc | apply Kd.R_drewN | apply Kd.R_drew)); exact HO_5.out⟩, ⟨blkz⟩, ⟨bel⟩⟩
     ·
      rw [if_neg c9] at H
      exact absurd H (by simp)
    ·
     rw [if_neg c8] at H
     exact absurd H (by simp)
   ·
    rw [if_neg c7] at H
    have c7b0 : decide (x6_1 < a0_0) = false := decide_eq_false c7
    clear c7
    obtain rfl := Option.some.inj H
    obtain ⟨hcz15_0, hcz15_1, hcz15_2⟩ := bc3 BK142.out
    obtain ⟨hfz15_0, hfz15_1, hfz15_2⟩ := bf3 BK142.out
    go_wp2
    go_ret
    exact ⟨ezz, bel⟩

end Go.Proofs.YtldifdmfefpglaaDoor.XFeed