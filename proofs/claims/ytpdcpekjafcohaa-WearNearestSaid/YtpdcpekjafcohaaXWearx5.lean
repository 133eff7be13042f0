-- Written by wip/xprint.py of this repo, over the kit's print.py: out of the translation; the oracles in it are by hand. Not trusted: Lean checks it.
import Derived.Test.YtpdcpekjafcohaaXWearx0
import Derived.Test.YtpdcpekjafcohaaXWearx1
import Derived.Test.YtpdcpekjafcohaaXWearx2
import Derived.Test.YtpdcpekjafcohaaXWearx3
import Derived.Test.YtpdcpekjafcohaaXWearx4
namespace Go.Proofs.Ytpdcpekjafcohaa.XWear
open Go.RowKit Go.Proofs.YtpdcpekjafcohaaW.PrintWords Go.Proofs.YtpdcpekjafcohaaW.PrintLast Go.Proofs.YtpdcpekjafcohaaW.PrintMore
attribute [local go_sem] max2_int min2_int max_two min_two max_three min_three max_four min_four   -- for this text's walks alone
set_option linter.unusedVariables false
set_option linter.unusedSimpArgs false

attribute [local go_sem high] eqA35
/-! ### bits_Mul32: function 103 -/
def bits_Mul32.f (a0 : Int) (a1 : Int) : Option (Int × Int) := some (((IntKind.u64.wrap ((IntKind.u64.wrap (a0)) * (IntKind.u64.wrap (a1)))) / 4294967296) % 4294967296, (IntKind.u64.wrap ((IntKind.u64.wrap (a0)) * (IntKind.u64.wrap (a1)))) % 4294967296)
set_option maxHeartbeats 8000000 in
set_option maxRecDepth 100000 in
theorem bits_Mul32.calls (a0 : Int) (a1 : Int) (r1 : Int) (r2 : Int) (w : World) (h : bits_Mul32.f a0 a1 = some (r1, r2)) :
    Calls Try.prog 103 #[.int .u32 a0, .int .u32 a1] w fun e w' => e = .returned (.tuple #[.int .u32 r1, .int .u32 r2]) ∧ Drawn0 w w' := by
  have H : (some (((IntKind.u64.wrap ((IntKind.u64.wrap (a0)) * (IntKind.u64.wrap (a1)))) / 4294967296) % 4294967296, (IntKind.u64.wrap ((IntKind.u64.wrap (a0)) * (IntKind.u64.wrap (a1)))) % 4294967296)) = some (r1, r2) := h
  clear h
  simp only [Option.some.injEq, Prod.mk.injEq] at H
  obtain ⟨rfl, rfl⟩ := H
  go_enter Try.func103, Try.ntmps103
  go_wp2
  go_ret2
  exact ⟨by first | rfl | (simp; done) | (simp [*]; done), by repeat (first | exact Drawn0.refl _ | apply Drawn0.step)⟩

/-! ### bits_Mul64: function 104 -/
def bits_Mul64.f (a0 : Int) (a1 : Int) : Option (Int × Int) := some (IntKind.u64.wrap ((IntKind.u64.wrap ((IntKind.u64.wrap ((a0 / 4294967296) * (a1 / 4294967296))) + ((IntKind.u64.wrap ((IntKind.u64.wrap ((a0 / 4294967296) * (Go.bits .and .u64 a1 4294967295))) + ((IntKind.u64.wrap ((Go.bits .and .u64 a0 4294967295) * (Go.bits .and .u64 a1 4294967295))) / 4294967296))) / 4294967296))) + ((IntKind.u64.wrap ((Go.bits .and .u64 (IntKind.u64.wrap ((IntKind.u64.wrap ((a0 / 4294967296) * (Go.bits .and .u64 a1 4294967295))) + ((IntKind.u64.wrap ((Go.bits .and .u64 a0 4294967295) * (Go.bits .and .u64 a1 4294967295))) / 4294967296))) 4294967295) + (IntKind.u64.wrap ((Go.bits .and .u64 a0 4294967295) * (a1 / 4294967296))))) / 4294967296)), IntKind.u64.wrap (a0 * a1))
set_option maxHeartbeats 8000000 in
set_option maxRecDepth 100000 in
theorem bits_Mul64.calls (a0 : Int) (a1 : Int) (r1 : Int) (r2 : Int) (w : World) (h : bits_Mul64.f a0 a1 = some (r1, r2)) :
    Calls Try.prog 104 #[.int .u64 a0, .int .u64 a1] w fun e w' => e = .returned (.tuple #[.int .u64 r1, .int .u64 r2]) ∧ Drawn0 w w' := by
  have H : (some (IntKind.u64.wrap ((IntKind.u64.wrap ((IntKind.u64.wrap ((a0 / 4294967296) * (a1 / 4294967296))) + ((IntKind.u64.wrap ((IntKind.u64.wrap ((a0 / 4294967296) * (Go.bits .and .u64 a1 4294967295))) + ((IntKind.u64.wrap ((Go.bits .and .u64 a0 4294967295) * (Go.bits .and .u64 a1 4294967295))) / 4294967296))) / 4294967296))) + ((IntKind.u64.wrap ((Go.bits .and .u64 (IntKind.u64.wrap ((IntKind.u64.wrap ((a0 / 4294967296) * (Go.bits .and .u64 a1 4294967295))) + ((IntKind.u64.wrap ((Go.bits .and .u64 a0 4294967295) * (Go.bits .and .u64 a1 4294967295))) / 4294967296))) 4294967295) + (IntKind.u64.wrap ((Go.bits .and .u64 a0 4294967295) * (a1 / 4294967296))))) / 4294967296)), IntKind.u64.wrap (a0 * a1))) = some (r1, r2) := h
  clear h
  simp only [Option.some.injEq, Prod.mk.injEq] at H
  obtain ⟨rfl, rfl⟩ := H
  go_enter Try.func104, Try.ntmps104
  go_wp2
  go_ret2
  exact ⟨by first | rfl | (simp; done) | (simp [*]; done), by repeat (first | exact Drawn0.refl _ | apply Drawn0.step)⟩

/-! ### bits_Mul: function 90 -/
def bits_Mul.f (a0 : Int) (a1 : Int) : Option (Int × Int) := (bits_Mul64.f a0 a1).bind fun bt145 => (some (bt145.1, bt145.2))
set_option maxHeartbeats 8000000 in
set_option maxRecDepth 100000 in
theorem bits_Mul.calls (a0 : Int) (a1 : Int) (r1 : Int) (r2 : Int) (w : World) (h : bits_Mul.f a0 a1 = some (r1, r2)) :
    Calls Try.prog 90 #[.int .u64 a0, .int .u64 a1] w fun e w' => e = .returned (.tuple #[.int .u64 r1, .int .u64 r2]) ∧ Drawn0 w w' := by
  have H : ((bits_Mul64.f a0 a1).bind fun bt145 => (some (bt145.1, bt145.2))) = some (r1, r2) := h
  clear h
  replace H := Option.bind_eq_some_iff.mp H
  obtain ⟨⟨t145, t146⟩, A30, H⟩ := H
  replace H : (some (t145, t146)) = some (r1, r2) := H
  have A3 := Aside0.mk A30
  clear A30
  simp only [Option.some.injEq, Prod.mk.injEq] at H
  obtain ⟨rfl, rfl⟩ := H
  go_enter Try.func90, Try.ntmps90
  go_wp2_with (first | ((with_reducible refine gate_callee (f := 104) rfl ?_); refine goesL_ (some 25) rfl rfl Try.func104 (by kernel_rfl) rfl #[.int .u64 a0, .int .u64 a1] rfl (by (try simp only [List.map_toArray, List.map_cons, List.map_nil]); first | done | rfl | (simp only [List.length_drop, List.length_take]; rfl)) ?_; (with_reducible refine (bits_Mul64.calls a0 a1 t145 t146 _ A3.out).mono ?_); rintro e w' ⟨rfl, ⟨nd, rfl⟩⟩; refine ⟨_, rfl, ?_⟩))
  go_ret2
  exact ⟨by first | rfl | (simp; done) | (simp [*]; done), by repeat (first | exact Drawn0.refl _ | apply Drawn0.step)⟩

/-! ### api_Ratio: function 81 -/
/-- copy between rows of elements of any size: the cells -/
theorem api_Ratio.run_copy_cells (P : Program) (w : World) (dT sT ty elem : TypeId) (g o dLen dCap : Nat) (a : Addr) (sLen sCap : Nat) (cur : Array Value) (t : TypeId) (cs : List Value) (sz : Nat)
    (hu : P.underlying dT = some (.slice elem)) (hs : (P.info? elem).map (·.size) = some sz)
    (hg : w.heap[g]? = some (.cells cur t (0, 0))) (hn : cs.length = Nat.min sLen dLen * sz)
    (hsrc : ∀ j v, cs[j]? = some v → w.cell? (a.add j) = some v) (hfit : o + cs.length ≤ cur.size) (h1 : ∀ v ∈ cs, v.oneCell' = true) :
    (Builtin.copy_ #[dT, sT] ty #[.slice (some ⟨g, o, none⟩) dLen dCap, .slice (some a) sLen sCap]).run P w =
      .ok (goInt (Nat.min sLen dLen)) (w.setRow g (cur.toList.take o ++ cs ++ cur.toList.drop (o + cs.length)).toArray) := by
  have hl := run_firstCells_some (P := P) (w := w) sz (Nat.min sLen dLen) a sLen sCap cs hn hsrc
  have hst := run_storeCells_at P g o t cs 0 cur w hg (by simpa using hfit) h1
  cases hq : P.info? elem with
  | none => simp [hq] at hs
  | some i =>
    have hi : i.size = sz := by simpa [hq] using hs
    simp [Builtin.copy_, run_underlying hu, Builtin.lenOf, sizeOf, typeInfo, hq, hi, hl, hst]


theorem api_Ratio.mul_one_calls (c : Int) (h0 : 0 ≤ c) (h1 : c ≤ 1000000) (w : World) :
    Calls Try.prog 90 #[.int .u64 1, .int .u64 c] w fun e w' => e = .returned (.tuple #[.int .u64 0, .int .u64 c]) ∧ w = w' := by
  obtain ⟨m, rfl⟩ := Int.eq_ofNat_of_zero_le h0
  have h2 : m < 18446744073709551616 := by omega
  refine (Try.bits_Mul 1 m (by decide) h2 w).mono ?_
  rintro e w' ⟨rfl, rfl⟩
  have e1 : 1 * m / 18446744073709551616 = 0 := by omega
  have e2 : 1 * m % 18446744073709551616 = m := by omega
  rw [e1, e2]; exact ⟨rfl, rfl⟩


/-- n cells api_Ratio.pairs of x, then zeros up to m -/
def api_Ratio.pairs (x : S35) (n : Nat) : List Value := (List.replicate n [Value.int .i64 x.f0, Value.int .i64 x.f1]).flatten
def api_Ratio.rowB (x : S35) (n m : Nat) : Array Value := (api_Ratio.pairs x n ++ api_Ratio.pairs ⟨0, 0⟩ (m - n)).toArray
theorem api_Ratio.pairs_len (x : S35) (n : Nat) : (api_Ratio.pairs x n).length = 2 * n := by
  induction n with
  | zero => rfl
  | succ n ih => simp only [api_Ratio.pairs, List.replicate_succ, List.flatten_cons, List.length_append, List.length_cons, List.length_nil]; simp only [api_Ratio.pairs] at ih; omega
theorem api_Ratio.pairs_add (x : S35) (n k : Nat) : api_Ratio.pairs x (n + k) = api_Ratio.pairs x n ++ api_Ratio.pairs x k := by
  simp only [api_Ratio.pairs, ← List.replicate_append_replicate, List.flatten_append]
theorem api_Ratio.pairs_one (x : S35) (n : Nat) : ∀ v ∈ api_Ratio.pairs x n, v.oneCell' = true := by
  intro v hv
  obtain ⟨l, hl, hv⟩ := List.mem_flatten.1 hv
  rw [List.eq_of_mem_replicate hl] at hv
  simp at hv
  rcases hv with rfl | rfl <;> rfl
theorem api_Ratio.made_pairs (x : S35) (m : Nat) : madeCells #[Value.int .i64 0, Value.int .i64 0] (m * 2) = api_Ratio.rowB x 0 m := by
  have h : ∀ k, (List.range (k * 2)).map (fun j => #[Value.int .i64 0, Value.int .i64 0][j % 2]!) = api_Ratio.pairs ⟨0, 0⟩ k := by
    intro k
    induction k with
    | zero => rfl
    | succ k ih =>
      rw [api_Ratio.pairs_add, ← ih, Nat.succ_mul, List.range_succ, List.range_succ]
      simp only [List.map_append, List.map_cons, List.map_nil, List.append_assoc]
      congr 1
      have e1 : k * 2 % 2 = 0 := by omega
      have e2 : (k * 2 + 1) % 2 = 1 := by omega
      rw [e1, e2]; rfl
  apply Array.ext'
  simp only [madeCells, api_Ratio.rowB, Nat.sub_zero, Array.toList_map, Array.toList_range]
  rw [← h m]
  simp [api_Ratio.pairs]
theorem api_Ratio.setRow_alloc (w : World) (c d : Array Value) (t : TypeId) : (w.alloc (.cells c t)).setRow w.heap.size d = w.alloc (.cells d t) := by
  show ({ w with heap := (w.heap.push (.cells c t)).modify w.heap.size _ } : World) = { w with heap := w.heap.push (.cells d t) }
  congr 1
  apply Array.ext
  · simp
  · intro k h1 h2
    rw [Array.getElem_modify]
    by_cases hk : w.heap.size = k
    · subst hk; simp
    · rw [if_neg hk]
      have h3 : k < w.heap.size := by simp at h2; omega
      rw [Array.getElem_push_lt h3, Array.getElem_push_lt h3]
theorem api_Ratio.setRow_drewN (w : World) (g : Nat) (c : Array Value) (q : Nat) : (w.drewN q).setRow g c = (w.setRow g c).drewN q := rfl

theorem api_Ratio.copy_first (x : S35) (m : Nat) (A0 : Option Addr) (c0 : Nat) (w : World) (hr0 : Kd.C k35 w A0 1 [x]) (hm : 1 ≤ m) :
    (Builtin.copy_ #[31, 31] 3 #[.slice (some ⟨w.heap.size, 0, none⟩) m m, .slice A0 1 c0]).run Try.prog (w.alloc (.cells (api_Ratio.rowB x 0 m) 35)) = .ok (.int .i64 1) (w.alloc (.cells (api_Ratio.rowB x 1 m) 35)) := by
  obtain ⟨ad, rfl, hx0, hx1⟩ := at_T35 hr0 0 (by omega) (by omega)
  have hsz : (Try.prog.info? 35).map (·.size) = some 2 := by kernel_rfl
  have e0 : rd_T35 [x] 0 = x := rfl
  rw [e0] at hx0 hx1
  have hmin : Nat.min 1 m = 1 := Nat.min_eq_left hm
  have hlt : ∀ (a : Addr) v, w.cell? a = some v → (w.alloc (.cells (api_Ratio.rowB x 0 m) 35)).cell? a = some v := fun a v h => pw_cell_below (below_alloc (Below.refl _ _) _) h
  have := api_Ratio.run_copy_cells Try.prog (w.alloc (.cells (api_Ratio.rowB x 0 m) 35)) 31 31 3 35 w.heap.size 0 m m ad 1 c0 (api_Ratio.rowB x 0 m) 35 [.int .i64 x.f0, .int .i64 x.f1] 2 Try.underlying31 hsz (heap_alloc_new w _)
    (by rw [hmin]; rfl)
    (by
      intro j v hj
      match j, hj with
      | 0, hj =>
        cases hj
        exact hlt _ _ hx0
      | 1, hj =>
        cases hj
        have : ad.add 1 = ⟨(ad.add ((0 : Int).toNat * 2)).block, (ad.add ((0 : Int).toNat * 2)).off + 1, none⟩ := by simp [Addr.add]
        rw [this]
        exact hlt _ _ hx1)
    (by simp [api_Ratio.rowB, api_Ratio.pairs_len]; omega)
    (by intro v hv; simp at hv; rcases hv with rfl | rfl <;> rfl)
  rw [this, api_Ratio.setRow_alloc, hmin]
  have e : (api_Ratio.rowB x 0 m).toList.take 0 ++ [Value.int .i64 x.f0, Value.int .i64 x.f1] ++ (api_Ratio.rowB x 0 m).toList.drop (0 + [Value.int .i64 x.f0, Value.int .i64 x.f1].length) = (api_Ratio.rowB x 1 m).toList := by
    obtain ⟨k, rfl⟩ : ∃ k, m = 1 + k := ⟨m - 1, by omega⟩
    have e1 : 1 + k - 1 = k := by omega
    simp only [api_Ratio.rowB, Nat.sub_zero, e1, api_Ratio.pairs_add]
    simp [api_Ratio.pairs]
  rw [e]
  rfl

theorem api_Ratio.copy_next (x : S35) (n m q : Nat) (w : World) (h1 : 1 ≤ n) (h2 : n < m) :
    (Builtin.copy_ #[31, 31] 3 #[.slice (some ⟨w.heap.size, n * 2, none⟩) (m - n) (m - n), .slice (some ⟨w.heap.size, 0, none⟩) n m]).run Try.prog ((w.alloc (.cells (api_Ratio.rowB x n m) 35)).drewN q) = .ok (.int .i64 (min n (m - n) : Nat)) ((w.alloc (.cells (api_Ratio.rowB x (n + min n (m - n)) m) 35)).drewN q) := by
  have hsz : (Try.prog.info? 35).map (·.size) = some 2 := by kernel_rfl
  generalize hk : min n (m - n) = k
  have hk' : Nat.min n (m - n) = k := hk
  have hk1 : k ≤ n := by omega
  have hk2 : k ≤ m - n := by omega
  obtain ⟨r, hr⟩ : ∃ r, m - n = k + r := ⟨m - n - k, by omega⟩
  obtain ⟨s, rfl⟩ : ∃ s, n = k + s := ⟨n - k, by omega⟩
  have := api_Ratio.run_copy_cells Try.prog ((w.alloc (.cells (api_Ratio.rowB x (k + s) m) 35)).drewN q) 31 31 3 35 w.heap.size ((k + s) * 2) (m - (k + s)) (m - (k + s)) ⟨w.heap.size, 0, none⟩ (k + s) m (api_Ratio.rowB x (k + s) m) 35 (api_Ratio.pairs x k) 2 Try.underlying31 hsz (heap_alloc_new w _)
    (by rw [hk', api_Ratio.pairs_len]; omega)
    (by
      intro j v hj
      have hjl : j < 2 * k := by
        have := (List.getElem?_eq_some_iff.1 hj).1
        rwa [api_Ratio.pairs_len] at this
      have e1 : (⟨w.heap.size, 0, none⟩ : Addr).add j = ⟨w.heap.size, j, none⟩ := add_plain _ _
      rw [e1]
      have e2 : ((w.alloc (.cells (api_Ratio.rowB x (k + s) m) 35)).drewN q).cell? ⟨w.heap.size, j, none⟩ = (api_Ratio.rowB x (k + s) m)[j]? := cell_of_row _ _ _ _ _ _ (heap_alloc_new w _)
      rw [e2]
      simp only [api_Ratio.rowB, api_Ratio.pairs_add, List.getElem?_toArray, List.append_assoc]
      rw [List.getElem?_append_left (by rw [api_Ratio.pairs_len]; omega)]
      exact hj)
    (by simp only [api_Ratio.rowB, List.size_toArray, List.length_append, api_Ratio.pairs_len]; omega)
    (api_Ratio.pairs_one x k)
  rw [this, hk']
  have e : (api_Ratio.rowB x (k + s) m).toList.take ((k + s) * 2) ++ api_Ratio.pairs x k ++ (api_Ratio.rowB x (k + s) m).toList.drop ((k + s) * 2 + (api_Ratio.pairs x k).length) = (api_Ratio.rowB x (k + s + k) m).toList := by
    have e3 : m - (k + s + k) = r := by omega
    simp only [api_Ratio.rowB, hr, e3, api_Ratio.pairs_len]
    rw [api_Ratio.pairs_add x (k + s) k, api_Ratio.pairs_add _ k r]
    rw [List.take_append_of_le_length (by rw [api_Ratio.pairs_len]; omega), List.take_of_length_le (by rw [api_Ratio.pairs_len]; omega)]
    rw [List.drop_append, List.drop_eq_nil_of_le (by rw [api_Ratio.pairs_len]; omega), api_Ratio.pairs_len, List.nil_append]
    rw [List.drop_append, List.drop_eq_nil_of_le (by rw [api_Ratio.pairs_len]; omega), api_Ratio.pairs_len, List.nil_append]
    have e4 : (k + s) * 2 + 2 * k - 2 * (k + s) - 2 * k = 0 := by omega
    rw [e4]; simp
  rw [e, api_Ratio.setRow_drewN, api_Ratio.setRow_alloc]
  rfl
set_option maxHeartbeats 2000000 in
set_option maxRecDepth 100000 in
theorem api_Ratio.rep_calls (A0 : Option Addr) (c0 : Nat) (x : S35) (m : Nat) (w : World) (hr0 : Kd.C k35 w A0 1 [x]) (h1 : 1 ≤ m) (h2 : m ≤ 1000) :
    Calls Try.prog 81 #[.slice A0 1 c0, .int .i64 (m : Int)] w fun e w' => ∃ q, e = .returned (.slice (some ⟨w.heap.size, 0, none⟩) m m) ∧ w' = (w.alloc (.cells (api_Ratio.rowB x m m) 35)).drewN q := by
  have H1 := Aside0.mk (And.intro h1 h2)
  have hc1 : decide ((m : Int) < 0) = false := decide_eq_false (by omega)
  have hw1 : IntKind.u64.wrap (m : Int) = m := by rw [IntKind.wrap_u64]; omega
  have hw2 : IntKind.u64.wrap 1 = 1 := by decide
  have hu31 := Try.underlying31
  have hmk : ∀ W : World, (Instr.makeSlice 31 (.int .i64 (m : Int)) (.int .i64 (m : Int))).run Try.prog W = .ok (.slice (some ⟨W.heap.size, 0, none⟩) m m) (W.alloc (.cells (api_Ratio.rowB x 0 m) 35)) := by
    intro W
    have hi35 : (Try.prog.info? 35).map (fun i => (i.zero, i.size, i.bytes)) = some (some (.agg #[.int .i64 0, .int .i64 0]), 2, 16) := by kernel_rfl
    obtain ⟨i0, hi, hzz⟩ := Option.map_eq_some_iff.1 hi35
    simp only [Prod.mk.injEq] at hzz
    obtain ⟨hz0, hz1, hz2⟩ := hzz
    have := run_make (P := Try.prog) W 31 35 i0 _ Try.underlying31 hi hz0 .i64 .i64 m m (by omega) (by omega) (by rw [hz2]; omega) (by omega)
    rw [hz1] at this
    simp only [Int.toNat_natCast] at this
    rw [this, ← api_Ratio.made_pairs x m]; rfl
  have hc2 : decide (9223372036854775807 < (m : Int)) = false := decide_eq_false (by omega)
  have hw3 : wrap64 (m : Int) = m := by unfold wrap64; omega
  have hw4 : IntKind.i64.wrap (m : Int) = m := by rw [IntKind.wrap_i64]; omega
  have hcp := api_Ratio.copy_first x m A0 c0 w hr0 h1
  clear h1 h2 hr0
  go_enter Try.func81, Try.ntmps81
  go_wp2_with (first | (go_at_call 90; refine (api_Ratio.mul_one_calls m (by have := H1.out; omega) (by have := H1.out; omega) _).mono ?_; rintro e w' ⟨rfl, rfl⟩))
  go_loopg [8] (m - 1) (fun kq v8 w' => ∃ n q : Nat, v8 = .int .i64 (n : Int) ∧ Aside0 (1 ≤ n ∧ n ≤ m ∧ kq = m - n) ∧ w' = (w.alloc (.cells (api_Ratio.rowB x n m) 35)).drewN q)
  case atStart => exact ⟨1, 0, rfl, ⟨by omega, by have := H1.out; omega, rfl⟩, rfl⟩
  case round =>
    clear hcp
    obtain ⟨n, q, rfl, HI, rfl⟩ := hrel
    by_cases hlt : n < m
    · have h1 : decide ((n : Int) < (m : Int)) = true := decide_eq_true (by omega)
      have hcp := fun q => api_Ratio.copy_next x n m q w HI.out.1 hlt
      have ha : (n : Int) ≤ (m : Int) := by omega
      have ha2 : n ≤ m := by omega
      have ha3 : m ≠ n := by omega
      go_wp2
      go_region
      go_wp2
      clear hcp
      go_roundg (m - (n + min n (m - n)))
      case measure => have := HI.out; omega
      case rel =>
        have hw : wrap64 ((n : Int) + ((min n (m - n) : Nat) : Int)) = ((n + min n (m - n) : Nat) : Int) := by unfold wrap64; have := H1.out; omega
        exact ⟨n + min n (m - n), q + 1, by rw [hw], ⟨by have := HI.out; omega, by omega, rfl⟩, rfl⟩
    · have h1 : decide ((n : Int) < (m : Int)) = false := decide_eq_false (by omega)
      obtain rfl : n = m := by have := HI.out; omega
      go_wp2
      go_ret
      exact ⟨q, rfl, rfl⟩

theorem api_Ratio.rep_R (x : S35) (m q : Nat) (w : World) (h2 : m ≤ 1000) : Kd.R k35 35 ((w.alloc (.cells (api_Ratio.rowB x m m) 35)).drewN q) w.heap.size (fun _ => True) (.slice (some ⟨w.heap.size, 0, none⟩) m m) (List.replicate m x) := by
  have hz : (api_Ratio.rowB x m m).toList = api_Ratio.pairs x m := by simp [api_Ratio.rowB, api_Ratio.pairs]
  refine ⟨fun _ _ => trivial, api_Ratio.pairs x m, ⟨by rw [api_Ratio.pairs_len, List.length_replicate]; show 2 * m = m * 2; omega, .inr ⟨w.heap.size, m, api_Ratio.rowB x m m, by rw [List.length_replicate], Nat.le_refl _, heap_alloc_new w _, by rw [List.length_replicate]; exact Nat.le_refl _, by unfold maxLen; omega, ?_, ?_⟩⟩, ?_, ?_⟩
  · show (api_Ratio.rowB x m m).size = m * 2
    rw [← Array.length_toList, hz, api_Ratio.pairs_len]; omega
  · rw [hz, List.take_of_length_le]
    rw [api_Ratio.pairs_len, List.length_replicate]; show 2 * m ≤ m * 2; omega
  · rw [api_Ratio.pairs_len, List.length_replicate]; show 2 * m = m * 2; omega
  · intro j p hj
    have hj' : j < m := by
      have := (List.getElem?_eq_some_iff.1 hj).1
      rwa [List.length_replicate] at this
    obtain rfl : x = p := by
      obtain ⟨h, e⟩ := List.getElem?_eq_some_iff.1 hj
      rw [List.getElem_replicate] at e; exact e
    obtain ⟨k, rfl⟩ : ∃ k, m = j + (1 + k) := ⟨m - j - 1, by omega⟩
    have e : ((api_Ratio.pairs x (j + (1 + k))).drop (j * 2)).take 2 = [.int .i64 x.f0, .int .i64 x.f1] := by
      rw [api_Ratio.pairs_add, List.drop_append, List.drop_eq_nil_of_le (by rw [api_Ratio.pairs_len]; omega), api_Ratio.pairs_len, List.nil_append, show j * 2 - 2 * j = 0 by omega, List.drop_zero, api_Ratio.pairs_add]
      rfl
    show k35.M _ _ _ x (((api_Ratio.pairs x (j + (1 + k))).drop (j * 2)).take 2)
    rw [e]
    exact k35_mkM _ _ _ x

def api_Ratio.f (l0 : List S35) (a1 : Int) : Option (List S35) :=
  match l0 with
  | [x] => if 1 ≤ a1 ∧ a1 ≤ 1000 then some (List.replicate a1.toNat x) else none
  | _ => none
theorem api_Ratio.calls (A0 : Option Addr) (c0 : Nat) (l0 : List (S35)) (a1 : Int) (r : List (S35)) (w : World) (hr0 : Kd.C k35 w A0 l0.length l0) (hc0 : l0.length ≤ c0) (h : api_Ratio.f l0 a1 = some r) :
    Calls Try.prog 81 #[.slice A0 l0.length c0, .int .i64 a1] w fun e w' => ∃ v0_ : Value, e = .returned (v0_) ∧ Kd.R k35 35 w' w.heap.size (fun _ => True) v0_ r ∧ Below w.heap.size w w' := by
  match l0, hr0, hc0, h with
  | [], _, _, h => cases h
  | _ :: _ :: _, _, _, h => cases h
  | [x], hr0, hc0, h =>
    by_cases hb : 1 ≤ a1 ∧ a1 ≤ 1000
    · have h' : (if 1 ≤ a1 ∧ a1 ≤ 1000 then some (List.replicate a1.toNat x) else none) = some r := h
      rw [if_pos hb] at h'
      obtain rfl := Option.some.inj h'
      obtain ⟨m, rfl⟩ := Int.eq_ofNat_of_zero_le (show 0 ≤ a1 by omega)
      refine (api_Ratio.rep_calls A0 c0 x m w hr0 (by omega) (by omega)).mono ?_
      rintro e w' ⟨q, rfl, rfl⟩
      exact ⟨_, rfl, api_Ratio.rep_R x m q w (by omega), pw_below_drewN (below_alloc (Below.refl _ _) _) q⟩
    · have h' : (if 1 ≤ a1 ∧ a1 ≤ 1000 then some (List.replicate a1.toNat x) else none) = some r := h
      rw [if_neg hb] at h'
      cases h'

/-! ### wear_nearest: function 56 -/
def wear_nearest.l0 : Nat → List (S35) → List (S74) → Int → Int → Option ((List (S35)))
  | 0, _, _, _, _ => none
  | k + 1, x3, x7, x8, x9 => if x9 < x8 then (if 0 ≤ x9 then (if x9 < (x7.length : Int) then ((wear_block_mean.f k ((rd_T74 x7 x9).f0) ((rd_T74 x7 x9).f1) ((rd_T74 x7 x9).f2)).bind fun bt152 => ((api_Ratio.f (([(⟨bt152.1, bt152.2⟩ : S35)] : List (S35))) ((rd_T74 x7 x9).f2)).bind fun t157 => (if x3.length + t157.length < 8796093022208 then (wear_nearest.l0 k (x3 ++ t157) x7 x8 (wrap64 (x9 + 1))) else (none)))) else (none)) else (none)) else (some x3)
def wear_nearest.f (k : Nat) (l0 : List Int) : Option ((List (S35))) := (wear_blocks.f k l0).bind fun t147 => (wear_nearest.l0 k ([] : List (S35)) t147 (t147.length : Int) 0)
theorem wear_nearest.mono_l : ∀ k, (∀ y0 y1 y2 y3, LeO (wear_nearest.l0 k y0 y1 y2 y3) (wear_nearest.l0 (k + 1) y0 y1 y2 y3))
  | 0 => fun _ _ _ _ r h => by simp [wear_nearest.l0] at h
  | k + 1 => by
    have ih0 := wear_nearest.mono_l k
    · intro y0 y1 y2 y3
      unfold wear_nearest.l0
      repeat' first
      | (with_reducible exact ih0 _ _ _ _)
      | (with_reducible exact wear_block_mean.mono _ _ _ _)
      | (with_reducible exact wear_blocks.mono _ _)
      | (with_reducible exact LeO.refl _)
      | (with_reducible exact LeO.none _)
      | (with_reducible refine LeO.ite ?_ ?_)
      | (with_reducible refine LeO.bind ?_ (fun _ => ?_))
      | exact ih0 _ _ _ _
      | exact wear_block_mean.mono _ _ _ _
      | exact wear_blocks.mono _ _
      | exact LeO.none _
      | refine LeO.ite ?_ ?_
      | refine LeO.bind ?_ (fun _ => ?_)
theorem wear_nearest.mono : ∀ a0 k, LeO (wear_nearest.f k a0) (wear_nearest.f (k + 1) a0) := by
  intro a0 k
  have ih0 := wear_nearest.mono_l k
  unfold wear_nearest.f
  repeat' first
      | (with_reducible exact ih0 _ _ _ _)
      | (with_reducible exact wear_block_mean.mono _ _ _ _)
      | (with_reducible exact wear_blocks.mono _ _)
      | (with_reducible exact LeO.refl _)
      | (with_reducible exact LeO.none _)
      | (with_reducible refine LeO.ite ?_ ?_)
      | (with_reducible refine LeO.bind ?_ (fun _ => ?_))
      | exact ih0 _ _ _ _
      | exact wear_block_mean.mono _ _ _ _
      | exact wear_blocks.mono _ _
      | exact LeO.none _
      | refine LeO.ite ?_ ?_
      | refine LeO.bind ?_ (fun _ => ?_)
def wear_nearest.T5 : Bool × List (List Nat × List Nat) := (true, [([], []), ([], []), ([1], [1]), ([2], [2]), ([], []), ([4], [4]), ([3, 5, 2], [3, 5]), ([0, 6, 6], [0, 6]), ([7, 7, 0, 1, 2, 3, 4, 5, 6, 7], [0, 7])])
def wear_nearest.B5 : List Nat := [0, 0, 2, 6, 0, 16, 62, 127, 255]
theorem wear_nearest.tab5 : rtab .any (opsOf Try.f56 5) = wear_nearest.T5 := by kernel_rfl
theorem wear_nearest.bits5 : waitsOk wear_nearest.T5.2 wear_nearest.B5 = true := by kernel_rfl
set_option maxHeartbeats 8000000 in
set_option maxRecDepth 100000 in
theorem wear_nearest.calls (k : Nat) (A0 : Option Addr) (c0 : Nat) (l0 : List Int) (r : List (S35)) (w : World) (hr0 : Kd.C (Kd.int .i64) w A0 l0.length l0) (hc0 : l0.length ≤ c0) (h : wear_nearest.f k l0 = some r) :
    Calls Try.prog 56 #[.slice A0 l0.length c0] w fun e w' => ∃ v0_ : Value, e = .returned (v0_) ∧ Kd.R k35 35 w' w.heap.size (fun _ => True) v0_ r ∧ Below w.heap.size w w' := by
  have hu74 := Try.underlying74
  have HR0 := Aside0.mk hr0
  have HC0 := Aside0.mk hc0
  clear hr0 hc0
  have HB := Aside0.mk (Below.refl w.heap.size w)
  have H : ((wear_blocks.f k l0).bind fun t147 => (wear_nearest.l0 k ([] : List (S35)) t147 (t147.length : Int) 0)) = some r := h
  clear h
  replace H := Option.bind_eq_some_iff.mp H
  obtain ⟨t147, A20, H⟩ := H
  replace H : (wear_nearest.l0 k ([] : List (S35)) t147 (t147.length : Int) 0) = some r := H
  have A2 := Aside0.mk A20
  clear A20
  have H' := Aside0.mk H
  clear H
  go_enter Try.func56, Try.ntmps56
  go_wp2_with (first | ((with_reducible refine gate_callee (f := 58) rfl ?_); refine goesL_ (some 7) rfl rfl Try.func58 (by kernel_rfl) rfl #[.slice A0 l0.length c0] rfl (by (try simp only [List.map_toArray, List.map_cons, List.map_nil]); first | done | rfl | (simp only [List.length_drop, List.length_take]; rfl)) ?_; (with_reducible refine (wear_blocks.calls k _ _ l0 t147 _ ?side1 ?side2 A2.out).mono ?_); (case side1 => repeat (first | exact HR0.out | (with_reducible refine Kd.C_alloc ?_ _) | (with_reducible refine Kd.C_drewN ?_ _) | (with_reducible refine Kd.C_drew ?_))); (case side2 => exact HC0.out); rintro e w3 ⟨v148, rfl, ho0, hb⟩; refine ⟨_, rfl, ?_⟩; have n0_ := Aside0.mk (Kd.R_lower ho0 (below_size (by repeat (first | (with_reducible first | exact HB.out | apply below_alloc | apply pw_below_drewN | apply below_drew1) | exact HB.out)))); have n1_ := Aside0.mk (below_step (by repeat (first | (with_reducible first | exact HB.out | apply below_alloc | apply pw_below_drewN | apply below_drew1) | exact HB.out)) hb); clear HB; have HO149 := n0_; have HB := n1_; clear n0_ n1_; (try clear hb); (try clear hb2); (try clear hk); (try clear hi); (try clear ho0); obtain ⟨Ao4, co4, eo4⟩ := Kd.R_slice HO149.out; subst eo4))
  go_loopg [3, 9] k (fun kq v3 v9 w' => ∃ (x3_1 : List (S35)) (x9_1 : Int), v9 = .int .i64 x9_1 ∧ Aside0 (wear_nearest.l0 kq x3_1 t147 (t147.length : Int) x9_1 = some r) ∧ Aside0 (kq ≤ k) ∧ Aside0 (Kd.R k35 35 w' w.heap.size (fun _ => True) v3 x3_1) ∧ Aside0 (Kd.R k74 74 w' w.heap.size (fun _ => True) (.slice Ao4 t147.length co4) t147) ∧ Aside0 (Below w.heap.size w w'))
  case atStart => exact ⟨(([] : List (S35))), (0), (by first | rfl | (simp; done) | (simp [*]; done)), H', ⟨Nat.le_refl _⟩, ⟨by first | exact Kd.R_nil _ _ _ _ _ | exact Kd.N_nil _ _ _ _ _ | exact Kd.V_nil _ _ _ _ _ | exact Kd.Q_nil _ _ _ _ _ | exact Kd.S_nil _ _ _ _ _⟩, ⟨by (with_reducible repeat (first | apply Kd.R_alloc | apply Kd.R_drewN | apply Kd.R_drew)); exact HO149.out⟩, ⟨by repeat (first | (with_reducible first | exact HB.out | apply below_alloc | apply pw_below_drewN | apply below_drew1) | exact HB.out)⟩⟩
  case round =>
    clear H'
    try clear p2
    obtain ⟨x3_1, x9_1, rfl, HA, HK1, HO_3, HO_7, HB⟩ := hrel
    cases gk with
    | zero => exact absurd HA.out (by simp [wear_nearest.l0])
    | succ k1 =>
      have H := HA.out
      clear HA
      simp only [wear_nearest.l0] at H
      by_cases c5 : x9_1 < (t147.length : Int)
      · rw [if_pos c5] at H
        have c5b0 : decide (x9_1 < (t147.length : Int)) = true := decide_eq_true c5
        clear c5
        by_cases c6 : 0 ≤ x9_1
        · rw [if_pos c6] at H
          have c6b0 : decide (0 ≤ x9_1) = true := decide_eq_true c6
          clear c6
          by_cases c7 : x9_1 < (t147.length : Int)
          · rw [if_pos c7] at H
            have c7b0 : decide (x9_1 < (t147.length : Int)) = true := decide_eq_true c7
            clear c7
            replace H := Option.bind_eq_some_iff.mp H
            obtain ⟨⟨t152, t153⟩, A80, H⟩ := H
            replace H : ((api_Ratio.f (([(⟨t152, t153⟩ : S35)] : List (S35))) ((rd_T74 t147 x9_1).f2)).bind fun t157 => (if x3_1.length + t157.length < 8796093022208 then (wear_nearest.l0 k1 (x3_1 ++ t157) t147 (t147.length : Int) (wrap64 (x9_1 + 1))) else (none))) = some r := H
            have A8 := Aside0.mk A80
            clear A80
            obtain ⟨y154, hy154⟩ : ∃ y_ : List (S35), y_ = (([(⟨t152, t153⟩ : S35)] : List (S35))) := ⟨_, rfl⟩
            replace H : ((api_Ratio.f y154 ((rd_T74 t147 x9_1).f2)).bind fun t157 => (if x3_1.length + t157.length < 8796093022208 then (wear_nearest.l0 k1 (x3_1 ++ t157) t147 (t147.length : Int) (wrap64 (x9_1 + 1))) else (none))) = some r := by first | (rw [hy154]; with_reducible exact H) | (have H2_ := (Option.bind_some _ _).symm.trans H; rw [hy154]; with_reducible exact H2_) | (have H2_ := (Option.bind_some _ _).symm.trans H; with_reducible exact H2_) | with_reducible exact H | (rw [hy154]; exact H) | exact H
            have Ny154 := Aside0.mk hy154
            clear hy154
            replace H := Option.bind_eq_some_iff.mp H
            obtain ⟨t157, A90, H⟩ := H
            replace H : (if x3_1.length + t157.length < 8796093022208 then (wear_nearest.l0 k1 (x3_1 ++ t157) t147 (t147.length : Int) (wrap64 (x9_1 + 1))) else (none)) = some r := H
            have A9 := Aside0.mk A90
            clear A90
            by_cases c10 : x3_1.length + t157.length < 8796093022208
            · rw [if_pos c10] at H
              have LMc10 := Aside0.mk c10
              clear c10
              obtain ⟨y160, hy160⟩ : ∃ y_ : List (S35), y_ = (x3_1 ++ t157) := ⟨_, rfl⟩
              replace H : (wear_nearest.l0 k1 y160 t147 (t147.length : Int) (wrap64 (x9_1 + 1))) = some r := by first | (rw [hy160]; with_reducible exact H) | (have H2_ := (Option.bind_some _ _).symm.trans H; rw [hy160]; with_reducible exact H2_) | (have H2_ := (Option.bind_some _ _).symm.trans H; with_reducible exact H2_) | with_reducible exact H | (rw [hy160]; exact H) | exact H
              have Ny160 := Aside0.mk hy160
              clear hy160
              have H' := Aside0.mk H
              clear H
              have p150 : 0 ≤ (x9_1 : Int) := of_decide_eq_true (by first | (with_reducible assumption) | assumption)
              have q150 : x9_1 < (t147.length : Int) := of_decide_eq_true (by first | (with_reducible assumption) | assumption)
              obtain ⟨ad150, e150, hx150_0, hx150_1, hx150_2⟩ := at_T74 (Kd.R_reads' HO_7.out).2.2 x9_1 p150 q150
              cases e150
              replace p150 := eq_true p150
              replace q150 := eq_true q150
              try go_wp2_with (first | ((with_reducible refine gate_dst (N := 5) rfl ?_); refine box_event ?hg (N := 5) ?hd (cs := #[.int .i64 0, .int .i64 0, .int .i64 0]) (t := 74) ?hr ?_; (case hd => rfl); (case hg => rfl); (case hr => first | (go_simp; done) | (go_simp; rfl)); intro gb151 hg w11 hbox hb; have n0_ := Aside0.mk (Kd.R_below (by (with_reducible repeat (first | apply Kd.R_alloc | apply Kd.R_drewN | apply Kd.R_drew)); exact HO_3.out) hb); have n1_ := Aside0.mk (Kd.R_below (Kd.R_elderB (by (with_reducible repeat (first | apply Kd.R_alloc | apply Kd.R_drewN | apply Kd.R_drew)); exact HO_7.out) gb151 (Nat.le_of_eq hg.symm)) hb); have n2_ := Aside0.mk (below_step (by repeat (first | (with_reducible first | exact HB.out | apply below_alloc | apply pw_below_drewN | apply below_drew1) | exact HB.out)) hb); have n3_ := Aside0.mk (hbox); have n4_ := Aside0.mk ((by rw [hg]; exact (below_size (by repeat (first | (with_reducible first | exact HB.out | apply below_alloc | apply pw_below_drewN | apply below_drew1) | exact HB.out))) : w.heap.size ≤ gb151)); have n5_ := Aside0.mk ((by rw [hg]; exact (below_size (by repeat (first | (with_reducible first | exact HB.out | apply below_alloc | apply pw_below_drewN | apply below_drew1) | exact HB.out))) : w.heap.size ≤ gb151)); clear HO_3; clear HO_7; clear HB; have HO_3 := n0_; have HO_7 := n1_; have HB := n2_; have BK151 := n3_; have GW151 := n4_; have GE151 := n5_; clear n0_ n1_ n2_ n3_ n4_ n5_; clear hb hbox hg; have hcz12_0 : w11.cell? ⟨gb151, 0, none⟩ = some (.int .i64 0) := (blk_cell BK151.out 0).trans rfl; have hcz12_1 : w11.cell? ⟨gb151, 1, none⟩ = some (.int .i64 0) := (blk_cell BK151.out 1).trans rfl; have hcz12_2 : w11.cell? ⟨gb151, 2, none⟩ = some (.int .i64 0) := (blk_cell BK151.out 2).trans rfl; have hfz12_0 := blk_frozen BK151.out 0; have hfz12_1 := blk_frozen BK151.out 1; have hfz12_2 := blk_frozen BK151.out 2))
              have n0_ : Aside0 (Kd.R k35 35 (((w11.setCell ⟨gb151, 0, none⟩ (.int .i64 ((rd_T74 t147 x9_1).f0))).setCell ⟨gb151, 1, none⟩ (.int .i64 ((rd_T74 t147 x9_1).f1))).setCell ⟨gb151, 2, none⟩ (.int .i64 ((rd_T74 t147 x9_1).f2))) w.heap.size (fun _ => True) u3 x3_1) := ⟨by (with_reducible repeat (first | apply Kd.R_alloc | apply Kd.R_drewN | apply Kd.R_drew)); exact Kd.R_mono (Kd.R_far (p := ⟨gb151, 2, none⟩) (Kd.R_far (p := ⟨gb151, 1, none⟩) (Kd.R_far (p := ⟨gb151, 0, none⟩) (Kd.R_types HO_3.out BK151.out (by decide)) (fun _ hk => hk.2) (.int .i64 ((rd_T74 t147 x9_1).f0))) (fun _ hk => hk.2) (.int .i64 ((rd_T74 t147 x9_1).f1))) (fun _ hk => hk.2) (.int .i64 ((rd_T74 t147 x9_1).f2))) (fun _ hk => trivial)⟩
              have n1_ : Aside0 (Kd.R k74 74 (((w11.setCell ⟨gb151, 0, none⟩ (.int .i64 ((rd_T74 t147 x9_1).f0))).setCell ⟨gb151, 1, none⟩ (.int .i64 ((rd_T74 t147 x9_1).f1))).setCell ⟨gb151, 2, none⟩ (.int .i64 ((rd_T74 t147 x9_1).f2))) w.heap.size (fun k_ => k_ ≠ gb151) (.slice (some ad150) t147.length co4) t147) := ⟨by (with_reducible repeat (first | apply Kd.R_alloc | apply Kd.R_drewN | apply Kd.R_drew)); exact Kd.R_mono (Kd.R_far (p := ⟨gb151, 2, none⟩) (Kd.R_far (p := ⟨gb151, 1, none⟩) (Kd.R_far (p := ⟨gb151, 0, none⟩) (Kd.R_mono HO_7.out (fun k_ hk => (⟨hk, hk.2⟩ : _ ∧ k_ ≠ gb151))) (fun _ hk => hk.2) (.int .i64 ((rd_T74 t147 x9_1).f0))) (fun _ hk => hk.2) (.int .i64 ((rd_T74 t147 x9_1).f1))) (fun _ hk => hk.2) (.int .i64 ((rd_T74 t147 x9_1).f2))) (fun _ hk => hk.1.2)⟩
              have n2_ : Aside0 ((((w11.setCell ⟨gb151, 0, none⟩ (.int .i64 ((rd_T74 t147 x9_1).f0))).setCell ⟨gb151, 1, none⟩ (.int .i64 ((rd_T74 t147 x9_1).f1))).setCell ⟨gb151, 2, none⟩ (.int .i64 ((rd_T74 t147 x9_1).f2))).heap[gb151]? = some (.cells #[.int .i64 ((rd_T74 t147 x9_1).f0), .int .i64 ((rd_T74 t147 x9_1).f1), .int .i64 ((rd_T74 t147 x9_1).f2)] 74 (0, 0))) := ⟨by (with_reducible repeat (first | refine blk_drewN ?_ _ | refine blk_drew ?_ | refine blk_alloc ?_ _)); refine blk_put (cs := #[.int .i64 ((rd_T74 t147 x9_1).f0), .int .i64 ((rd_T74 t147 x9_1).f1), .int .i64 0]) ?_ 2 _ rfl; (with_reducible repeat (first | refine blk_drewN ?_ _ | refine blk_drew ?_ | refine blk_alloc ?_ _)); refine blk_put (cs := #[.int .i64 ((rd_T74 t147 x9_1).f0), .int .i64 0, .int .i64 0]) ?_ 1 _ rfl; (with_reducible repeat (first | refine blk_drewN ?_ _ | refine blk_drew ?_ | refine blk_alloc ?_ _)); refine blk_put (cs := #[.int .i64 0, .int .i64 0, .int .i64 0]) ?_ 0 _ rfl; (with_reducible repeat (first | refine blk_drewN ?_ _ | refine blk_drew ?_ | refine blk_alloc ?_ _)); exact BK151.out⟩
              have n3_ : Aside0 (Below w.heap.size w (((w11.setCell ⟨gb151, 0, none⟩ (.int .i64 ((rd_T74 t147 x9_1).f0))).setCell ⟨gb151, 1, none⟩ (.int .i64 ((rd_T74 t147 x9_1).f1))).setCell ⟨gb151, 2, none⟩ (.int .i64 ((rd_T74 t147 x9_1).f2)))) := ⟨by repeat (first | (with_reducible first | exact HB.out | apply below_alloc | apply pw_below_drewN | apply below_drew1 | refine below_set ?_ GE151.out) | exact HB.out)⟩
              (try clear HO_3)
              (try clear HO_7)
              (try clear BK151)
              (try clear HB)
              generalize (((w11.setCell ⟨gb151, 0, none⟩ (.int .i64 ((rd_T74 t147 x9_1).f0))).setCell ⟨gb151, 1, none⟩ (.int .i64 ((rd_T74 t147 x9_1).f1))).setCell ⟨gb151, 2, none⟩ (.int .i64 ((rd_T74 t147 x9_1).f2))) = w13 at n0_ n1_ n2_ n3_ ⊢
              have HO_3 := n0_
              have HO_7 := n1_
              have BK151 := n2_
              have HB := n3_
              clear n0_ n1_ n2_ n3_
              have n0_ := Aside0.mk (Kd.R_drew HO_3.out)
              have n1_ := Aside0.mk (Kd.R_drew HO_7.out)
              have n2_ := Aside0.mk (blk_drew BK151.out)
              have n3_ := Aside0.mk (below_drew1 HB.out)
              clear HO_3
              clear HO_7
              clear BK151
              clear HB
              have HO_3 := n0_
              have HO_7 := n1_
              have BK151 := n2_
              have HB := n3_
              clear n0_ n1_ n2_ n3_
              refine start_ (n := 9) (S := fun w' => w'.cell? ⟨gb151, 0, none⟩ = some (.int .i64 ((rd_T74 t147 x9_1).f0)) ∧ w'.cell? ⟨gb151, 1, none⟩ = some (.int .i64 ((rd_T74 t147 x9_1).f1)) ∧ w'.cell? ⟨gb151, 2, none⟩ = some (.int .i64 ((rd_T74 t147 x9_1).f2))) (ds := []) #[false, false, false, false, false, false, false, false, false] (by kernel_rfl) rfl rfl ⟨(blk_cell BK151.out 0).trans rfl, (blk_cell BK151.out 1).trans rfl, (blk_cell BK151.out 2).trans rfl⟩ (fun hHeld => ?_); refine with_tabW wear_nearest.tab5 wear_nearest.bits5 (fun HT_ HW_ => ?_)
              generalize w13.drew = w14 at HO_3 HO_7 BK151 HB hHeld ⊢
              refine pure_ (i := 0) (N := some 13) (v := ?_) (a' := ?_) #[true, false, false, false, false, false, false, false, false] rfl rfl (any_of HT_.out (by kernel_rfl)) (fun _ _ _ h => h) (Or.inl ⟨by rfl, ?_⟩) ?_ ?_
              rotate_left
              · intro w'
                go_simp
                with_reducible rfl
              rotate_left
              · simp only [Act.put, List.setIfInBounds_toArray, List.set_cons_zero, List.set_cons_succ, i64_w, i32_w]
                rfl
              refine pure_ (i := 4) (N := some 17) (v := ?_) (a' := ?_) #[true, false, false, false, true, false, false, false, false] rfl rfl (any_of HT_.out (by kernel_rfl)) (fun _ _ _ h => h) (Or.inl ⟨by rfl, ?_⟩) ?_ ?_
              rotate_left
              · intro w'
                go_simp
                with_reducible rfl
              rotate_left
              · simp only [Act.put, List.setIfInBounds_toArray, List.set_cons_zero, List.set_cons_succ, i64_w, i32_w]
                rfl
              refine take_ (i := 1) (N := some 14) (v := ?_) (a' := ?_) #[true, true, false, false, true, false, false, false, false] rfl rfl (take_ofW HT_.out HW_.out (by kernel_rfl)) (fun _ _ _ h => h) (Or.inl ⟨by rfl, ?_⟩) hHeld ?_ ?_
              rotate_left
              · rintro w' ⟨s0, s1, s2⟩
                go_simp
                with_reducible rfl
              rotate_left
              · simp only [Act.put, List.setIfInBounds_toArray, List.set_cons_zero, List.set_cons_succ, i64_w, i32_w]
                rfl
              refine take_ (i := 5) (N := some 18) (v := ?_) (a' := ?_) #[true, true, false, false, true, true, false, false, false] rfl rfl (take_ofW HT_.out HW_.out (by kernel_rfl)) (fun _ _ _ h => h) (Or.inl ⟨by rfl, ?_⟩) hHeld ?_ ?_
              rotate_left
              · rintro w' ⟨s0, s1, s2⟩
                go_simp
                with_reducible rfl
              rotate_left
              · simp only [Act.put, List.setIfInBounds_toArray, List.set_cons_zero, List.set_cons_succ, i64_w, i32_w]
                rfl
              refine one_ (i := 2) (N := some 15) #[true, true, true, false, true, true, false, false, false] rfl rfl (one_of HT_.out (by kernel_rfl)) (by decide) (fun K hK => ?_)
              refine goes_ Try.func82 (by kernel_rfl) rfl #[.agg #[.int .i64 ((rd_T74 t147 x9_1).f0), .int .i64 ((rd_T74 t147 x9_1).f1), .int .i64 ((rd_T74 t147 x9_1).f2)]] (by rfl) rfl rfl (by (try simp only [List.map_toArray, List.map_cons, List.map_nil]); first | done | rfl | (simp only [List.length_drop, List.length_take]; rfl)) ?_
              with_reducible refine (wear_block_mean.calls k1 ((rd_T74 t147 x9_1).f0) ((rd_T74 t147 x9_1).f1) ((rd_T74 t147 x9_1).f2) t152 t153 _ A8.out).mono ?_
              rintro e w15 ⟨rfl, hb⟩
              refine ⟨_, rfl, ?_⟩
              have n0_ := Aside0.mk (Kd.R_below (by (with_reducible repeat (first | apply Kd.R_alloc | apply Kd.R_drewN | apply Kd.R_drew)); exact HO_3.out) hb)
              have n1_ := Aside0.mk (Kd.R_below (by (with_reducible repeat (first | apply Kd.R_alloc | apply Kd.R_drewN | apply Kd.R_drew)); exact HO_7.out) hb)
              have n2_ := Aside0.mk (blk_below (g := gb151) (o := .cells #[.int .i64 ((rd_T74 t147 x9_1).f0), .int .i64 ((rd_T74 t147 x9_1).f1), .int .i64 ((rd_T74 t147 x9_1).f2)] 74 (0, 0)) (by (with_reducible repeat (first | refine blk_drewN ?_ _ | refine blk_drew ?_ | refine blk_alloc ?_ _)); exact BK151.out) hb)
              have n3_ := Aside0.mk (below_step (by repeat (first | (with_reducible first | exact HB.out | apply below_alloc | apply pw_below_drewN | apply below_drew1 | refine below_set ?_ GE151.out) | exact HB.out)) hb)
              clear HO_3
              clear HO_7
              clear BK151
              clear HB
              have HO_3 := n0_
              have HO_7 := n1_
              have BK151 := n2_
              have HB := n3_
              clear n0_ n1_ n2_ n3_
              (try clear hb)
              (try clear hb2)
              (try clear hk)
              (try clear hi)
              refine hK.out _ _ ⟨(blk_cell BK151.out 0).trans rfl, (blk_cell BK151.out 1).trans rfl, (blk_cell BK151.out 2).trans rfl⟩ (fun hHeld => ?_)
              clear hK K
              refine norm_ (a' := ?_) ?_ ?_
              rotate_left
              · show Act.put _ (some 15) _ = _
                simp only [Act.put, List.setIfInBounds_toArray, List.set_cons_zero, List.set_cons_succ, i64_w, i32_w]
                rfl
              refine one_ (i := 3) (N := some 16) #[true, true, true, true, true, true, false, false, false] rfl rfl (one_of HT_.out (by kernel_rfl)) (by decide) (fun K hK => ?_)
              refine Kd.R_lit_step k35 _ 35 ?hg (N := 16) ?hd (xs := ([(⟨t152, t153⟩ : S35)] : List (S35))) (inner := [.int .i64 t152, .int .i64 t153]) (ok := fun _ => True) (okp := fun _ => True) ?hr ?hp (fun _ hk => hk) trivial (Below.refl _ _) (Nat.le_refl _) (by simp) ?_; (case hd => rfl); (case hg => rfl); (case hr => first | (go_simp; done) | (go_simp; rfl)); (case hp => exact (Reps.c2 (show Kd.M k35 _ _ _ (⟨t152, t153⟩ : S35) [.int .i64 t152, .int .i64 t153] from (k35_mkM _ _ _ (⟨t152, t153⟩ : S35) )) (Reps.none _ _)))
              intro v155 w16 ho17 hb hg_ hnew_
              clear hg_ hnew_
              (first | rw [← Ny154.out] at ho17 | (simp only [Int.reduceToNat] at ho17; rw [← Ny154.out] at ho17))
              have n0_ := Aside0.mk (Kd.R_elder' (by (with_reducible repeat (first | apply Kd.R_alloc | apply Kd.R_drewN | apply Kd.R_drew)); exact HO_3.out) (Kd.R_base ho17) hb)
              have n1_ := Aside0.mk (Kd.R_below (by (with_reducible repeat (first | apply Kd.R_alloc | apply Kd.R_drewN | apply Kd.R_drew)); exact HO_7.out) hb)
              have n2_ := Aside0.mk (Kd.R_lower (Kd.R_new' ho17 (Kd.R_lt (by (with_reducible repeat (first | apply Kd.R_alloc | apply Kd.R_drewN | apply Kd.R_drew)); exact HO_3.out))) (below_size (by repeat (first | (with_reducible first | exact HB.out | apply below_alloc | apply pw_below_drewN | apply below_drew1 | refine below_set ?_ GE151.out) | exact HB.out))))
              have n3_ := Aside0.mk (blk_below (g := gb151) (o := .cells #[.int .i64 ((rd_T74 t147 x9_1).f0), .int .i64 ((rd_T74 t147 x9_1).f1), .int .i64 ((rd_T74 t147 x9_1).f2)] 74 (0, 0)) (by (with_reducible repeat (first | refine blk_drewN ?_ _ | refine blk_drew ?_ | refine blk_alloc ?_ _)); exact BK151.out) hb)
              have n4_ := Aside0.mk (below_step (by repeat (first | (with_reducible first | exact HB.out | apply below_alloc | apply pw_below_drewN | apply below_drew1 | refine below_set ?_ GE151.out) | exact HB.out)) hb)
              clear HO_3
              clear HO_7
              clear BK151
              clear HB
              have HO_3 := n0_
              have HO_7 := n1_
              have HO156 := n2_
              have BK151 := n3_
              have HB := n4_
              clear n0_ n1_ n2_ n3_ n4_
              clear hb ho17
              obtain ⟨Ao18, co18, eo18⟩ := Kd.R_slice HO156.out
              (first | subst eo18 | (injection eo18 with f1_ f2_ f3_; have f4_ := f1_.symm; have f5_ := f3_.symm; clear f1_ f2_ f3_; subst f4_; subst f5_))
              refine hK.out _ _ ⟨(blk_cell BK151.out 0).trans rfl, (blk_cell BK151.out 1).trans rfl, (blk_cell BK151.out 2).trans rfl⟩ (fun hHeld => ?_)
              clear hK K
              refine norm_ (a' := ?_) ?_ ?_
              rotate_left
              · show Act.put _ (some 16) _ = _
                simp only [Act.put, List.setIfInBounds_toArray, List.set_cons_zero, List.set_cons_succ, i64_w, i32_w]
                rfl
              refine one_ (i := 6) (N := some 19) #[true, true, true, true, true, true, true, false, false] rfl rfl (one_of HT_.out (by kernel_rfl)) (by decide) (fun K hK => ?_)
              refine goes_ Try.func81 (by kernel_rfl) rfl #[.slice Ao18 y154.length co18, .int .i64 ((rd_T74 t147 x9_1).f2)] (by rfl) rfl rfl (by (try simp only [List.map_toArray, List.map_cons, List.map_nil]); first | done | rfl | (simp only [List.length_drop, List.length_take]; rfl)) ?_
              with_reducible refine (api_Ratio.calls _ _ y154 ((rd_T74 t147 x9_1).f2) t157 _ ?side1 ?side2 A9.out).mono ?_
              (case side1 => repeat (first | exact (Kd.R_reads' HO156.out).2.2 | (with_reducible refine Kd.C_alloc ?_ _) | (with_reducible refine Kd.C_drewN ?_ _) | (with_reducible refine Kd.C_drew ?_)))
              (case side2 => exact (Kd.R_reads' HO156.out).2.1)
              rintro e w19 ⟨v158, rfl, ho0, hb⟩
              refine ⟨_, rfl, ?_⟩
              have n0_ := Aside0.mk (Kd.R_elder' (by (with_reducible repeat (first | apply Kd.R_alloc | apply Kd.R_drewN | apply Kd.R_drew)); exact HO_3.out) (Kd.R_base ho0) hb)
              have n1_ := Aside0.mk (Kd.R_below (by (with_reducible repeat (first | apply Kd.R_alloc | apply Kd.R_drewN | apply Kd.R_drew)); exact HO_7.out) hb)
              have n2_ := Aside0.mk (Kd.R_elder' (by (with_reducible repeat (first | apply Kd.R_alloc | apply Kd.R_drewN | apply Kd.R_drew)); exact HO156.out) (Kd.R_base ho0) hb)
              have n3_ := Aside0.mk (Kd.R_lower (Kd.R_new' (Kd.R_new' ho0 (Kd.R_lt (by (with_reducible repeat (first | apply Kd.R_alloc | apply Kd.R_drewN | apply Kd.R_drew)); exact HO_3.out))) (Kd.R_lt (by (with_reducible repeat (first | apply Kd.R_alloc | apply Kd.R_drewN | apply Kd.R_drew)); exact HO156.out))) (below_size (by repeat (first | (with_reducible first | exact HB.out | apply below_alloc | apply pw_below_drewN | apply below_drew1 | refine below_set ?_ GE151.out) | exact HB.out))))
              have n4_ := Aside0.mk (blk_below (g := gb151) (o := .cells #[.int .i64 ((rd_T74 t147 x9_1).f0), .int .i64 ((rd_T74 t147 x9_1).f1), .int .i64 ((rd_T74 t147 x9_1).f2)] 74 (0, 0)) (by (with_reducible repeat (first | refine blk_drewN ?_ _ | refine blk_drew ?_ | refine blk_alloc ?_ _)); exact BK151.out) hb)
              have n5_ := Aside0.mk (below_step (by repeat (first | (with_reducible first | exact HB.out | apply below_alloc | apply pw_below_drewN | apply below_drew1 | refine below_set ?_ GE151.out) | exact HB.out)) hb)
              clear HO_3
              clear HO_7
              clear HO156
              clear BK151
              clear HB
              have HO_3 := n0_
              have HO_7 := n1_
              have HO156 := n2_
              have HO159 := n3_
              have BK151 := n4_
              have HB := n5_
              clear n0_ n1_ n2_ n3_ n4_ n5_
              (try clear hb)
              (try clear hb2)
              (try clear hk)
              (try clear hi)
              (try clear ho0)
              obtain ⟨Ao21, co21, eo21⟩ := Kd.R_slice HO159.out
              (first | subst eo21 | (injection eo21 with f1_ f2_ f3_; have f4_ := f1_.symm; have f5_ := f3_.symm; clear f1_ f2_ f3_; subst f4_; subst f5_))
              refine hK.out _ _ ⟨(blk_cell BK151.out 0).trans rfl, (blk_cell BK151.out 1).trans rfl, (blk_cell BK151.out 2).trans rfl⟩ (fun hHeld => ?_)
              clear hK K
              refine norm_ (a' := ?_) ?_ ?_
              rotate_left
              · show Act.put _ (some 19) _ = _
                simp only [Act.put, List.setIfInBounds_toArray, List.set_cons_zero, List.set_cons_succ, i64_w, i32_w]
                rfl
              refine one_ (i := 7) (N := some 20) #[true, true, true, true, true, true, true, true, false] rfl rfl (one_of HT_.out (by kernel_rfl)) (by decide) (fun K hK => ?_)
              refine Kd.R_append_rows_step k35 (w0 := w) w.heap.size (by rfl) (.tmp 13) (.tmp 19) 31 35 (.agg #[(.int .i64 0), (.int .i64 0)]) 16 rfl Try.underlying31 info35 rfl (by decide) (by omega) u3 x3_1 t157 _ _ _ (fun k_ => some k_ ≠ (.slice Ao18 y154.length co18 : Value).ownBlock ∧ some k_ ≠ (.slice Ao21 t157.length co21 : Value).ownBlock) (fun _ => False) rfl rfl ?aO ?aR (fun _ _ h => h) (fun _ h => h.elim) ?aF ?aB ?aS ?aL ?_
              (case aR => repeat (first | exact (Kd.R_reads' HO159.out).2.2 | (with_reducible refine Kd.C_alloc ?_ _) | (with_reducible refine Kd.C_drewN ?_ _) | (with_reducible refine Kd.C_drew ?_)))
              (case aB => exact (by repeat (first | (with_reducible first | exact HB.out | apply below_alloc | apply pw_below_drewN | apply below_drew1 | refine below_set ?_ GE151.out) | exact HB.out)))
              (case aF => exact (fun k_ hk => ⟨Kd.fresh' (Kd.R_lt (by (with_reducible repeat (first | apply Kd.R_alloc | apply Kd.R_drewN | apply Kd.R_drew)); exact HO156.out)) k_ hk, Kd.fresh' (Kd.R_lt (by (with_reducible repeat (first | apply Kd.R_alloc | apply Kd.R_drewN | apply Kd.R_drew)); exact HO159.out)) k_ hk⟩))
              (case aO => exact (by (with_reducible repeat (first | apply Kd.R_alloc | apply Kd.R_drewN | apply Kd.R_drew)); exact Kd.R_mono HO_3.out (fun _ hk => ⟨hk.1.2, hk.2⟩)))
              (case aS => exact (below_size (by repeat (first | (with_reducible first | exact HB.out | apply below_alloc | apply pw_below_drewN | apply below_drew1 | refine below_set ?_ GE151.out) | exact HB.out))))
              (case aL => have := LMc10.out; omega)
              intro v161 w20 ho hb hg hat
              rw [← Ny160.out] at ho
              have n0_ := Aside0.mk (Kd.R_over' (by (with_reducible repeat (first | apply Kd.R_alloc | apply Kd.R_drewN | apply Kd.R_drew)); exact HO_7.out) (Kd.R_typed (by (with_reducible repeat (first | apply Kd.R_alloc | apply Kd.R_drewN | apply Kd.R_drew)); exact HO_3.out)) (by decide) hg)
              have n1_ := Aside0.mk (blk_grown (g := gb151) (o := .cells #[.int .i64 ((rd_T74 t147 x9_1).f0), .int .i64 ((rd_T74 t147 x9_1).f1), .int .i64 ((rd_T74 t147 x9_1).f2)] 74 (0, 0)) (by (with_reducible repeat (first | refine blk_drewN ?_ _ | refine blk_drew ?_ | refine blk_alloc ?_ _)); exact BK151.out) hg (Kd.R_ne HO_3.out BK151.out (by decide)))
              have n2_ := Aside0.mk (Kd.R_after (ok := (fun k_ => some k_ ≠ (.slice Ao21 t157.length co21 : Value).ownBlock)) (by (with_reducible repeat (first | apply Kd.R_alloc | apply Kd.R_drewN | apply Kd.R_drew)); exact Kd.R_mono HO156.out (fun _ hk => ⟨hk.2, hk.1.2⟩)) hg hat)
              have n3_ := Aside0.mk (Kd.R_after (ok := (fun k_ => some k_ ≠ (.slice Ao18 y154.length co18 : Value).ownBlock)) (by (with_reducible repeat (first | apply Kd.R_alloc | apply Kd.R_drewN | apply Kd.R_drew)); exact Kd.R_mono HO159.out (fun _ hk => ⟨hk.2, hk.1.2⟩)) hg hat)
              have n4_ := Aside0.mk (hb)
              have n5_ := Aside0.mk (ho)
              clear HO_7
              clear BK151
              clear HO156
              clear HO159
              clear HB
              clear HO_3
              have HO_7 := n0_
              have BK151 := n1_
              have HO156 := n2_
              have HO159 := n3_
              have HB := n4_
              have HO162 := n5_
              clear n0_ n1_ n2_ n3_ n4_ n5_
              clear ho hb hg hat
              refine hK.out _ _ ⟨(blk_cell BK151.out 0).trans rfl, (blk_cell BK151.out 1).trans rfl, (blk_cell BK151.out 2).trans rfl⟩ (fun hHeld => ?_)
              clear hK K
              refine norm_ (a' := ?_) ?_ ?_
              rotate_left
              · show Act.put _ (some 20) _ = _
                simp only [Act.put, List.setIfInBounds_toArray, List.set_cons_zero, List.set_cons_succ, i64_w, i32_w]
                rfl
              refine pure_ (i := 8) (N := some 3) (v := ?_) (a' := ?_) #[true, true, true, true, true, true, true, true, true] rfl rfl (any_of HT_.out (by kernel_rfl)) (fun _ _ _ h => h) (Or.inl ⟨by rfl, ?_⟩) ?_ ?_
              rotate_left
              · intro w'
                go_simp
                with_reducible rfl
              rotate_left
              · simp only [Act.put, List.setIfInBounds_toArray, List.set_cons_zero, List.set_cons_succ, i64_w, i32_w]
                rfl
              refine done_ (done_of HT_.out (by kernel_rfl)) ?_
              try go_wp2
              go_roundg k1
              case measure => have := HK1.out; omega
              case rel => exact ⟨(y160), (wrap64 (x9_1 + 1)), (by first | rfl | (simp; done) | (simp [*]; done)), H', ⟨by have := HK1.out; omega⟩, ⟨by (with_reducible repeat (first | apply Kd.R_alloc | apply Kd.R_drewN | apply Kd.R_drew)); exact Kd.R_mono HO162.out (fun _ hk => trivial)⟩, ⟨by (with_reducible repeat (first | apply Kd.R_alloc | apply Kd.R_drewN | apply Kd.R_drew)); exact Kd.R_mono HO_7.out (fun _ hk => trivial)⟩, ⟨by repeat (first | (with_reducible first | exact HB.out | apply below_alloc | apply pw_below_drewN | apply below_drew1 | refine below_set ?_ GE151.out) | exact HB.out)⟩⟩
            · rw [if_neg c10] at H
              exact absurd H (by simp)
          · rw [if_neg c7] at H
            exact absurd H (by simp)
        · rw [if_neg c6] at H
          exact absurd H (by simp)
      · rw [if_neg c5] at H
        have c5b0 : decide (x9_1 < (t147.length : Int)) = false := decide_eq_false c5
        clear c5
        obtain rfl := Option.some.inj H
        go_wp2
        go_ret
        exact ⟨_, by first | rfl | (simp [errW_none, errW_some] <;> rfl) | (simp [*, errW_none, errW_some] <;> rfl), by (with_reducible repeat (first | apply Kd.R_alloc | apply Kd.R_drewN | apply Kd.R_drew)); exact HO_3.out, by repeat (first | (with_reducible first | exact HB.out | apply below_alloc | apply pw_below_drewN | apply below_drew1) | exact HB.out)⟩

/-! ### wear_Nearest: function 20 -/
def wear_Nearest.f (k : Nat) (l0 : List Int) : Option ((List (S35)) × Int) := (wear_Valid.f l0).bind fun t163 => (if t163 = true then ((wear_nearest.f k l0).bind fun t164 => (some (t164, 0))) else (some (([] : List (S35)), 70)))
theorem wear_Nearest.mono : ∀ a0 k, LeO (wear_Nearest.f k a0) (wear_Nearest.f (k + 1) a0) := by
  intro a0 k
  unfold wear_Nearest.f
  repeat' first
      | (with_reducible exact wear_nearest.mono _ _)
      | (with_reducible exact LeO.refl _)
      | (with_reducible exact LeO.none _)
      | (with_reducible refine LeO.ite ?_ ?_)
      | (with_reducible refine LeO.bind ?_ (fun _ => ?_))
      | exact wear_nearest.mono _ _
      | exact LeO.none _
      | refine LeO.ite ?_ ?_
      | refine LeO.bind ?_ (fun _ => ?_)
set_option maxHeartbeats 8000000 in
set_option maxRecDepth 100000 in
theorem wear_Nearest.calls (k : Nat) (A0 : Option Addr) (c0 : Nat) (l0 : List Int) (r1 : List (S35)) (r2 : Int) (w : World) (hr0 : Kd.C (Kd.int .i64) w A0 l0.length l0) (hc0 : l0.length ≤ c0) (h : wear_Nearest.f k l0 = some (r1, r2)) :
    Calls Try.prog 20 #[.slice A0 l0.length c0] w fun e w' => ∃ v0_ : Value, e = .returned (.tuple #[v0_, .int .i64 r2]) ∧ Kd.R k35 35 w' w.heap.size (fun _ => True) v0_ r1 ∧ Below w.heap.size w w' := by
  have HR0 := Aside0.mk hr0
  have HC0 := Aside0.mk hc0
  clear hr0 hc0
  have HB := Aside0.mk (Below.refl w.heap.size w)
  have H : ((wear_Valid.f l0).bind fun t163 => (if t163 = true then ((wear_nearest.f k l0).bind fun t164 => (some (t164, 0))) else (some (([] : List (S35)), 70)))) = some (r1, r2) := h
  clear h
  replace H := Option.bind_eq_some_iff.mp H
  obtain ⟨t163, A20, H⟩ := H
  replace H : (if t163 = true then ((wear_nearest.f k l0).bind fun t164 => (some (t164, 0))) else (some (([] : List (S35)), 70))) = some (r1, r2) := H
  have A2 := Aside0.mk A20
  clear A20
  by_cases c3 : t163 = true
  · subst c3
    have H1 : ((wear_nearest.f k l0).bind fun t164 => (some (t164, 0))) = some (r1, r2) := by rw [if_pos rfl] at H; exact H
    clear H
    have H := H1
    clear H1
    replace H := Option.bind_eq_some_iff.mp H
    obtain ⟨t164, A40, H⟩ := H
    replace H : (some (t164, 0)) = some (r1, r2) := H
    have A4 := Aside0.mk A40
    clear A40
    simp only [Option.some.injEq, Prod.mk.injEq] at H
    obtain ⟨rfl, rfl⟩ := H
    go_enter Try.func20, Try.ntmps20
    go_wp2_with (first | ((with_reducible refine gate_callee (f := 27) rfl ?_); refine goesL_ (some 5) rfl rfl Try.func27 (by kernel_rfl) rfl #[.slice A0 l0.length c0] rfl (by (try simp only [List.map_toArray, List.map_cons, List.map_nil]); first | done | rfl | (simp only [List.length_drop, List.length_take]; rfl)) ?_; (with_reducible refine (wear_Valid.calls _ _ l0 true _ ?side1 ?side2 A2.out).mono ?_); (case side1 => repeat (first | exact HR0.out | (with_reducible refine Kd.C_alloc ?_ _) | (with_reducible refine Kd.C_drewN ?_ _) | (with_reducible refine Kd.C_drew ?_))); (case side2 => exact HC0.out); rintro e w' ⟨rfl, ⟨nd, rfl⟩⟩; refine ⟨_, rfl, ?_⟩) | ((with_reducible refine gate_callee (f := 56) rfl ?_); refine goesL_ (some 8) rfl rfl Try.func56 (by kernel_rfl) rfl #[.slice A0 l0.length c0] rfl (by (try simp only [List.map_toArray, List.map_cons, List.map_nil]); first | done | rfl | (simp only [List.length_drop, List.length_take]; rfl)) ?_; (with_reducible refine (wear_nearest.calls k _ _ l0 t164 _ ?side1 ?side2 A4.out).mono ?_); (case side1 => repeat (first | exact HR0.out | (with_reducible refine Kd.C_alloc ?_ _) | (with_reducible refine Kd.C_drewN ?_ _) | (with_reducible refine Kd.C_drew ?_))); (case side2 => exact HC0.out); rintro e w5 ⟨v165, rfl, ho0, hb⟩; refine ⟨_, rfl, ?_⟩; have n0_ := Aside0.mk (Kd.R_lower ho0 (below_size (by repeat (first | (with_reducible first | exact HB.out | apply below_alloc | apply pw_below_drewN | apply below_drew1) | exact HB.out)))); have n1_ := Aside0.mk (below_step (by repeat (first | (with_reducible first | exact HB.out | apply below_alloc | apply pw_below_drewN | apply below_drew1) | exact HB.out)) hb); clear HB; have HO166 := n0_; have HB := n1_; clear n0_ n1_; (try clear hb); (try clear hb2); (try clear hk); (try clear hi); (try clear ho0)))
    go_ret2
    exact ⟨_, by first | rfl | (simp [errW_none, errW_some] <;> rfl) | (simp [*, errW_none, errW_some] <;> rfl), by (with_reducible repeat (first | apply Kd.R_alloc | apply Kd.R_drewN | apply Kd.R_drew)); exact HO166.out, by repeat (first | (with_reducible first | exact HB.out | apply below_alloc | apply pw_below_drewN | apply below_drew1) | exact HB.out)⟩
  · replace c3 := Bool.eq_false_iff.mpr c3
    subst c3
    have H1 : (some (([] : List (S35)), 70)) = some (r1, r2) := by rw [if_neg (show ¬ (false = true) by decide)] at H; exact H
    clear H
    have H := H1
    clear H1
    simp only [Option.some.injEq, Prod.mk.injEq] at H
    obtain ⟨rfl, rfl⟩ := H
    go_enter Try.func20, Try.ntmps20
    go_wp2_with (first | ((with_reducible refine gate_callee (f := 27) rfl ?_); refine goesL_ (some 5) rfl rfl Try.func27 (by kernel_rfl) rfl #[.slice A0 l0.length c0] rfl (by (try simp only [List.map_toArray, List.map_cons, List.map_nil]); first | done | rfl | (simp only [List.length_drop, List.length_take]; rfl)) ?_; (with_reducible refine (wear_Valid.calls _ _ l0 false _ ?side1 ?side2 A2.out).mono ?_); (case side1 => repeat (first | exact HR0.out | (with_reducible refine Kd.C_alloc ?_ _) | (with_reducible refine Kd.C_drewN ?_ _) | (with_reducible refine Kd.C_drew ?_))); (case side2 => exact HC0.out); rintro e w' ⟨rfl, ⟨nd, rfl⟩⟩; refine ⟨_, rfl, ?_⟩))
    go_ret2
    exact ⟨_, by first | rfl | (simp [errW_none, errW_some] <;> rfl) | (simp [*, errW_none, errW_some] <;> rfl), by first | exact Kd.R_nil _ _ _ _ _ | exact Kd.N_nil _ _ _ _ _ | exact Kd.V_nil _ _ _ _ _ | exact Kd.Q_nil _ _ _ _ _ | exact Kd.S_nil _ _ _ _ _, by repeat (first | (with_reducible first | exact HB.out | apply below_alloc | apply pw_below_drewN | apply below_drew1) | exact HB.out)⟩

/-! ### dropperlaw07_SameRatios: function 28 -/
def dropperlaw07_SameRatios.l0 : Nat → List (S35) → List (S35) → Int → Option (Bool)
  | 0, _, _, _ => none
  | k + 1, x0, x1, x5 => if x5 < (x0.length : Int) then (if 0 ≤ x5 then (if x5 < (x1.length : Int) then (if (!(((rd_T35 x0 x5).f0) == ((rd_T35 x1 x5).f0)) || (!(((rd_T35 x0 x5).f1) == ((rd_T35 x1 x5).f1)))) = true then (some false) else (dropperlaw07_SameRatios.l0 k x0 x1 (wrap64 (x5 + 1)))) else (none)) else (none)) else (some true)
def dropperlaw07_SameRatios.f (k : Nat) (l0 : List (S35)) (l1 : List (S35)) : Option (Bool) := if (l0.length : Int) = (l1.length : Int) then (dropperlaw07_SameRatios.l0 k l0 l1 0) else (some false)
theorem dropperlaw07_SameRatios.mono_l : ∀ k, (∀ y0 y1 y2, LeO (dropperlaw07_SameRatios.l0 k y0 y1 y2) (dropperlaw07_SameRatios.l0 (k + 1) y0 y1 y2))
  | 0 => fun _ _ _ r h => by simp [dropperlaw07_SameRatios.l0] at h
  | k + 1 => by
    have ih0 := dropperlaw07_SameRatios.mono_l k
    · intro y0 y1 y2
      unfold dropperlaw07_SameRatios.l0
      repeat' first
      | (with_reducible exact ih0 _ _ _)
      | (with_reducible exact LeO.refl _)
      | (with_reducible exact LeO.none _)
      | (with_reducible refine LeO.ite ?_ ?_)
      | (with_reducible refine LeO.bind ?_ (fun _ => ?_))
      | exact ih0 _ _ _
      | exact LeO.none _
      | refine LeO.ite ?_ ?_
      | refine LeO.bind ?_ (fun _ => ?_)
theorem dropperlaw07_SameRatios.mono : ∀ a0 a1 k, LeO (dropperlaw07_SameRatios.f k a0 a1) (dropperlaw07_SameRatios.f (k + 1) a0 a1) := by
  intro a0 a1 k
  have ih0 := dropperlaw07_SameRatios.mono_l k
  unfold dropperlaw07_SameRatios.f
  repeat' first
      | (with_reducible exact ih0 _ _ _)
      | (with_reducible exact LeO.refl _)
      | (with_reducible exact LeO.none _)
      | (with_reducible refine LeO.ite ?_ ?_)
      | (with_reducible refine LeO.bind ?_ (fun _ => ?_))
      | exact ih0 _ _ _
      | exact LeO.none _
      | refine LeO.ite ?_ ?_
      | refine LeO.bind ?_ (fun _ => ?_)
set_option maxHeartbeats 8000000 in
set_option maxRecDepth 100000 in
theorem dropperlaw07_SameRatios.calls (k : Nat) (A0 : Option Addr) (c0 : Nat) (l0 : List (S35)) (A1 : Option Addr) (c1 : Nat) (l1 : List (S35)) (r : Bool) (w : World) (hr0 : Kd.C k35 w A0 l0.length l0) (hc0 : l0.length ≤ c0) (hr1 : Kd.C k35 w A1 l1.length l1) (hc1 : l1.length ≤ c1) (h : dropperlaw07_SameRatios.f k l0 l1 = some r) :
    Calls Try.prog 28 #[.slice A0 l0.length c0, .slice A1 l1.length c1] w fun e w' => e = .returned (.bool r) ∧ Drawn0 w w' := by
  have hu35 := Try.underlying35
  have HR0 := Aside0.mk hr0
  have HC0 := Aside0.mk hc0
  clear hr0 hc0
  have HR1 := Aside0.mk hr1
  have HC1 := Aside0.mk hc1
  clear hr1 hc1
  have H : (if (l0.length : Int) = (l1.length : Int) then (dropperlaw07_SameRatios.l0 k l0 l1 0) else (some false)) = some r := h
  clear h
  by_cases c3 : (l0.length : Int) = (l1.length : Int)
  · rw [if_pos c3] at H
    have c3b0 : ((l0.length : Int) == (l1.length : Int)) = true := beq_iff_eq.mpr c3
    have c3b1 : ((l0.length : Int) != (l1.length : Int)) = false := bne_eq_false_iff_eq.mpr c3
    have c3b2 : (l0.length == l1.length) = true := by first | simpa using c3 | (simp at c3 ⊢; omega)
    clear c3
    have H' := Aside0.mk H
    clear H
    go_enter Try.func28, Try.ntmps28
    go_wp2
    repeat (go_quiet (fail); try go_wp2)
    go_loopg [5] k (fun kq v5 w' => ∃ (x5_1 : Int), v5 = .int .i64 x5_1 ∧ Aside0 (dropperlaw07_SameRatios.l0 kq l0 l1 x5_1 = some r) ∧ Aside0 (kq ≤ k) ∧ Drawn0 w w')
    case atStart => exact ⟨(0), (by first | rfl | (simp; done) | (simp [*]; done)), H', ⟨Nat.le_refl _⟩, by repeat (first | exact Drawn0.refl _ | apply Drawn0.step)⟩
    case round =>
      clear H'
      try clear c1
      try clear c2
      try clear p2
      try clear c3
      try clear c3b0
      try clear c3b1
      try clear c3b2
      obtain ⟨x5_1, rfl, HA, HK1, ⟨m1, rfl⟩⟩ := hrel
      cases gk with
      | zero => exact absurd HA.out (by simp [dropperlaw07_SameRatios.l0])
      | succ k1 =>
        have H := HA.out
        clear HA
        simp only [dropperlaw07_SameRatios.l0] at H
        by_cases c4 : x5_1 < (l0.length : Int)
        · rw [if_pos c4] at H
          have c4b0 : decide (x5_1 < (l0.length : Int)) = true := decide_eq_true c4
          clear c4
          by_cases c5 : 0 ≤ x5_1
          · rw [if_pos c5] at H
            have c5b0 : decide (0 ≤ x5_1) = true := decide_eq_true c5
            clear c5
            by_cases c6 : x5_1 < (l1.length : Int)
            · rw [if_pos c6] at H
              have c6b0 : decide (x5_1 < (l1.length : Int)) = true := decide_eq_true c6
              clear c6
              by_cases c7 : (!(((rd_T35 l0 x5_1).f0) == ((rd_T35 l1 x5_1).f0)) || (!(((rd_T35 l0 x5_1).f1) == ((rd_T35 l1 x5_1).f1)))) = true
              · rw [if_pos c7] at H
                have c7b0 : (!(((rd_T35 l0 x5_1).f0) == ((rd_T35 l1 x5_1).f0)) || (!(((rd_T35 l0 x5_1).f1) == ((rd_T35 l1 x5_1).f1)))) = true := c7
                clear c7
                obtain rfl := Option.some.inj H
                have p167 : 0 ≤ (x5_1 : Int) := of_decide_eq_true (by first | (with_reducible assumption) | assumption)
                have q167 : x5_1 < (l0.length : Int) := of_decide_eq_true (by first | (with_reducible assumption) | assumption)
                obtain ⟨ad167, e167, hx167_0, hx167_1⟩ := at_T35 HR0.out x5_1 p167 q167
                cases e167
                replace p167 := eq_true p167
                replace q167 := eq_true q167
                have p168 : 0 ≤ (x5_1 : Int) := of_decide_eq_true (by first | (with_reducible assumption) | assumption)
                have q168 : x5_1 < (l1.length : Int) := of_decide_eq_true (by first | (with_reducible assumption) | assumption)
                obtain ⟨ad168, e168, hx168_0, hx168_1⟩ := at_T35 HR1.out x5_1 p168 q168
                cases e168
                replace p168 := eq_true p168
                replace q168 := eq_true q168
                go_wp2
                repeat (go_quiet (fail); try go_wp2)
                go_ret
                exact ⟨by first | rfl | (simp; done) | (simp [*]; done), by repeat (first | exact Drawn0.refl _ | apply Drawn0.step)⟩
              · rw [if_neg c7] at H
                have c7b0 : (!(((rd_T35 l0 x5_1).f0) == ((rd_T35 l1 x5_1).f0)) || (!(((rd_T35 l0 x5_1).f1) == ((rd_T35 l1 x5_1).f1)))) = false := by simpa using c7
                clear c7
                have H' := Aside0.mk H
                clear H
                have p167 : 0 ≤ (x5_1 : Int) := of_decide_eq_true (by first | (with_reducible assumption) | assumption)
                have q167 : x5_1 < (l0.length : Int) := of_decide_eq_true (by first | (with_reducible assumption) | assumption)
                obtain ⟨ad167, e167, hx167_0, hx167_1⟩ := at_T35 HR0.out x5_1 p167 q167
                cases e167
                replace p167 := eq_true p167
                replace q167 := eq_true q167
                have p168 : 0 ≤ (x5_1 : Int) := of_decide_eq_true (by first | (with_reducible assumption) | assumption)
                have q168 : x5_1 < (l1.length : Int) := of_decide_eq_true (by first | (with_reducible assumption) | assumption)
                obtain ⟨ad168, e168, hx168_0, hx168_1⟩ := at_T35 HR1.out x5_1 p168 q168
                cases e168
                replace p168 := eq_true p168
                replace q168 := eq_true q168
                go_wp2
                repeat (go_quiet (fail); try go_wp2)
                go_roundg k1
                case measure => have := HK1.out; omega
                case rel => exact ⟨(wrap64 (x5_1 + 1)), (by first | rfl | (simp; done) | (simp [*]; done)), H', ⟨by have := HK1.out; omega⟩, by repeat (first | exact Drawn0.refl _ | apply Drawn0.step)⟩
            · rw [if_neg c6] at H
              exact absurd H (by simp)
          · rw [if_neg c5] at H
            exact absurd H (by simp)
        · rw [if_neg c4] at H
          have c4b0 : decide (x5_1 < (l0.length : Int)) = false := decide_eq_false c4
          clear c4
          obtain rfl := Option.some.inj H
          go_wp2
          repeat (go_quiet (fail); try go_wp2)
          go_ret
          exact ⟨by first | rfl | (simp; done) | (simp [*]; done), by repeat (first | exact Drawn0.refl _ | apply Drawn0.step)⟩
  · rw [if_neg c3] at H
    have c3b0 : ((l0.length : Int) == (l1.length : Int)) = false := beq_eq_false_iff_ne.mpr c3
    have c3b1 : ((l0.length : Int) != (l1.length : Int)) = true := bne_iff_ne.mpr c3
    have c3b2 : (l0.length == l1.length) = false := by first | simpa using c3 | (simp at c3 ⊢; omega)
    obtain rfl := Option.some.inj H
    go_enter Try.func28, Try.ntmps28
    go_wp2
    repeat (go_quiet (fail); try go_wp2)
    go_ret
    exact ⟨by first | rfl | (simp; done) | (simp [*]; done), by repeat (first | exact Drawn0.refl _ | apply Drawn0.step)⟩

end Go.Proofs.Ytpdcpekjafcohaa.XWear
