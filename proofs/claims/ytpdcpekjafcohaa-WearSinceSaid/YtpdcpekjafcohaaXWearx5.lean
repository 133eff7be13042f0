-- Written by wip/xprint.py of this repo, over the kit's print.py: out of the translation; the oracles in it are by hand. Not trusted: Lean checks it.
import Derived.Test.YtpdcpekjafcohaaXWearx0
namespace Go.Proofs.Ytpdcpekjafcohaa.XWear
open Go.RowKit Go.Proofs.YtpdcpekjafcohaaW.PrintWords Go.Proofs.YtpdcpekjafcohaaW.PrintLast Go.Proofs.YtpdcpekjafcohaaW.PrintMore
attribute [local go_sem] max2_int min2_int max_two min_two max_three min_three max_four min_four   -- for this text's walks alone
set_option linter.unusedVariables false
set_option linter.unusedSimpArgs false

/-! ### bits_Mul32: function 103 -/
def bits_Mul32.f (a0 : Int) (a1 : Int) : Option (Int × Int) := some (((IntKind.u64.wrap ((IntKind.u64.wrap (a0)) * (IntKind.u64.wrap (a1)))) / 4294967296) % 4294967296, (IntKind.u64.wrap ((IntKind.u64.wrap (a0)) * (IntKind.u64.wrap (a1)))) % 4294967296)
set_option maxHeartbeats 8000000 in
set_option maxRecDepth 100000 in
theorem bits_Mul32.calls (a0 : Int) (a1 : Int) (r1 : Int) (r2 : Int) (w : World) (h : bits_Mul32.f a0 a1 = some (r1, r2)) :
    Calls Try.prog 103 #[.int .u32 a0, .int .u32 a1] w fun e w' => e = .returned (.tuple #[.int .u32 r1, .int .u32 r2]) ∧ Drawn0 w w' := by
  have H : (some (((IntKind.u64.wrap ((IntKind.u64.wrap (a0)) * (IntKind.u64.wrap (a1)))) / 4294967296) % 4294967296, (IntKind.u64.wrap ((IntKind.u64.wrap (a0)) * (IntKind.u64.wrap (a1)))) % 4294967296)) = some (r1, r2) := h
  clear h
  simp only [Option.some.injEq, Prod.mk.injEq] at H
  obtain ⟨rfl, rfl⟩ := H
  go_enter Try.func103, Try.ntmps103
  go_wp2
  go_ret2
  exact ⟨by first | rfl | (simp; done) | (simp [*]; done), by repeat (first | exact Drawn0.refl _ | apply Drawn0.step)⟩

/-! ### bits_Mul64: function 104 -/
def bits_Mul64.f (a0 : Int) (a1 : Int) : Option (Int × Int) := some (IntKind.u64.wrap ((IntKind.u64.wrap ((IntKind.u64.wrap ((a0 / 4294967296) * (a1 / 4294967296))) + ((IntKind.u64.wrap ((IntKind.u64.wrap ((a0 / 4294967296) * (Go.bits .and .u64 a1 4294967295))) + ((IntKind.u64.wrap ((Go.bits .and .u64 a0 4294967295) * (Go.bits .and .u64 a1 4294967295))) / 4294967296))) / 4294967296))) + ((IntKind.u64.wrap ((Go.bits .and .u64 (IntKind.u64.wrap ((IntKind.u64.wrap ((a0 / 4294967296) * (Go.bits .and .u64 a1 4294967295))) + ((IntKind.u64.wrap ((Go.bits .and .u64 a0 4294967295) * (Go.bits .and .u64 a1 4294967295))) / 4294967296))) 4294967295) + (IntKind.u64.wrap ((Go.bits .and .u64 a0 4294967295) * (a1 / 4294967296))))) / 4294967296)), IntKind.u64.wrap (a0 * a1))
set_option maxHeartbeats 8000000 in
set_option maxRecDepth 100000 in
theorem bits_Mul64.calls (a0 : Int) (a1 : Int) (r1 : Int) (r2 : Int) (w : World) (h : bits_Mul64.f a0 a1 = some (r1, r2)) :
    Calls Try.prog 104 #[.int .u64 a0, .int .u64 a1] w fun e w' => e = .returned (.tuple #[.int .u64 r1, .int .u64 r2]) ∧ Drawn0 w w' := by
  have H : (some (IntKind.u64.wrap ((IntKind.u64.wrap ((IntKind.u64.wrap ((a0 / 4294967296) * (a1 / 4294967296))) + ((IntKind.u64.wrap ((IntKind.u64.wrap ((a0 / 4294967296) * (Go.bits .and .u64 a1 4294967295))) + ((IntKind.u64.wrap ((Go.bits .and .u64 a0 4294967295) * (Go.bits .and .u64 a1 4294967295))) / 4294967296))) / 4294967296))) + ((IntKind.u64.wrap ((Go.bits .and .u64 (IntKind.u64.wrap ((IntKind.u64.wrap ((a0 / 4294967296) * (Go.bits .and .u64 a1 4294967295))) + ((IntKind.u64.wrap ((Go.bits .and .u64 a0 4294967295) * (Go.bits .and .u64 a1 4294967295))) / 4294967296))) 4294967295) + (IntKind.u64.wrap ((Go.bits .and .u64 a0 4294967295) * (a1 / 4294967296))))) / 4294967296)), IntKind.u64.wrap (a0 * a1))) = some (r1, r2) := h
  clear h
  simp only [Option.some.injEq, Prod.mk.injEq] at H
  obtain ⟨rfl, rfl⟩ := H
  go_enter Try.func104, Try.ntmps104
  go_wp2
  go_ret2
  exact ⟨by first | rfl | (simp; done) | (simp [*]; done), by repeat (first | exact Drawn0.refl _ | apply Drawn0.step)⟩

/-! ### bits_Mul: function 90 -/
def bits_Mul.f (a0 : Int) (a1 : Int) : Option (Int × Int) := (bits_Mul64.f a0 a1).bind fun bt145 => (some (bt145.1, bt145.2))
set_option maxHeartbeats 8000000 in
set_option maxRecDepth 100000 in
theorem bits_Mul.calls (a0 : Int) (a1 : Int) (r1 : Int) (r2 : Int) (w : World) (h : bits_Mul.f a0 a1 = some (r1, r2)) :
    Calls Try.prog 90 #[.int .u64 a0, .int .u64 a1] w fun e w' => e = .returned (.tuple #[.int .u64 r1, .int .u64 r2]) ∧ Drawn0 w w' := by
  have H : ((bits_Mul64.f a0 a1).bind fun bt145 => (some (bt145.1, bt145.2))) = some (r1, r2) := h
  clear h
  replace H := Option.bind_eq_some_iff.mp H
  obtain ⟨⟨t145, t146⟩, A30, H⟩ := H
  replace H : (some (t145, t146)) = some (r1, r2) := H
  have A3 := Aside0.mk A30
  clear A30
  simp only [Option.some.injEq, Prod.mk.injEq] at H
  obtain ⟨rfl, rfl⟩ := H
  go_enter Try.func90, Try.ntmps90
  go_wp2_with (first | ((with_reducible refine gate_callee (f := 104) rfl ?_); refine goesL_ (some 25) rfl rfl Try.func104 (by kernel_rfl) rfl #[.int .u64 a0, .int .u64 a1] rfl (by (try simp only [List.map_toArray, List.map_cons, List.map_nil]); first | done | rfl | (simp only [List.length_drop, List.length_take]; rfl)) ?_; (with_reducible refine (bits_Mul64.calls a0 a1 t145 t146 _ A3.out).mono ?_); rintro e w' ⟨rfl, ⟨nd, rfl⟩⟩; refine ⟨_, rfl, ?_⟩))
  go_ret2
  exact ⟨by first | rfl | (simp; done) | (simp [*]; done), by repeat (first | exact Drawn0.refl _ | apply Drawn0.step)⟩

/-! ### slices_Repeat_api_Ratio_api_Ratio: function 81 -/
/-- copy between rows of elements of any size: the cells -/
theorem slices_Repeat_api_Ratio_api_Ratio.run_copy_cells (P : Program) (w : World) (dT sT ty elem : TypeId) (g o dLen dCap : Nat) (a : Addr) (sLen sCap : Nat) (cur : Array Value) (t : TypeId) (cs : List Value) (sz : Nat)
    (hu : P.underlying dT = some (.slice elem)) (hs : (P.info? elem).map (·.size) = some sz)
    (hg : w.heap[g]? = some (.cells cur t (0, 0))) (hn : cs.length = Nat.min sLen dLen * sz)
    (hsrc : ∀ j v, cs[j]? = some v → w.cell? (a.add j) = some v) (hfit : o + cs.length ≤ cur.size) (h1 : ∀ v ∈ cs, v.oneCell' = true) :
    (Builtin.copy_ #[dT, sT] ty #[.slice (some ⟨g, o, none⟩) dLen dCap, .slice (some a) sLen sCap]).run P w =
      .ok (goInt (Nat.min sLen dLen)) (w.setRow g (cur.toList.take o ++ cs ++ cur.toList.drop (o + cs.length)).toArray) := by
  have hl := run_firstCells_some (P := P) (w := w) sz (Nat.min sLen dLen) a sLen sCap cs hn hsrc
  have hst := run_storeCells_at P g o t cs 0 cur w hg (by simpa using hfit) h1
  cases hq : P.info? elem with
  | none => simp [hq] at hs
  | some i =>
    have hi : i.size = sz := by simpa [hq] using hs
    simp [Builtin.copy_, run_underlying hu, Builtin.lenOf, sizeOf, typeInfo, hq, hi, hl, hst]


theorem slices_Repeat_api_Ratio_api_Ratio.mul_one_calls (c : Int) (h0 : 0 ≤ c) (h1 : c ≤ 1000000) (w : World) :
    Calls Try.prog 90 #[.int .u64 1, .int .u64 c] w fun e w' => e = .returned (.tuple #[.int .u64 0, .int .u64 c]) ∧ w = w' := by
  obtain ⟨m, rfl⟩ := Int.eq_ofNat_of_zero_le h0
  have h2 : m < 18446744073709551616 := by omega
  refine (Try.bits_Mul 1 m (by decide) h2 w).mono ?_
  rintro e w' ⟨rfl, rfl⟩
  have e1 : 1 * m / 18446744073709551616 = 0 := by omega
  have e2 : 1 * m % 18446744073709551616 = m := by omega
  rw [e1, e2]; exact ⟨rfl, rfl⟩


/-- n cells slices_Repeat_api_Ratio_api_Ratio.pairs of x, then zeros up to m -/
def slices_Repeat_api_Ratio_api_Ratio.pairs (x : S35) (n : Nat) : List Value := (List.replicate n [Value.int .i64 x.f0, Value.int .i64 x.f1]).flatten
def slices_Repeat_api_Ratio_api_Ratio.rowB (x : S35) (n m : Nat) : Array Value := (slices_Repeat_api_Ratio_api_Ratio.pairs x n ++ slices_Repeat_api_Ratio_api_Ratio.pairs ⟨0, 0⟩ (m - n)).toArray
theorem slices_Repeat_api_Ratio_api_Ratio.pairs_len (x : S35) (n : Nat) : (slices_Repeat_api_Ratio_api_Ratio.pairs x n).length = 2 * n := by
  induction n with
  | zero => rfl
  | succ n ih => simp only [slices_Repeat_api_Ratio_api_Ratio.pairs, List.replicate_succ, List.flatten_cons, List.length_append, List.length_cons, List.length_nil]; simp only [slices_Repeat_api_Ratio_api_Ratio.pairs] at ih; omega
theorem slices_Repeat_api_Ratio_api_Ratio.pairs_add (x : S35) (n k : Nat) : slices_Repeat_api_Ratio_api_Ratio.pairs x (n + k) = slices_Repeat_api_Ratio_api_Ratio.pairs x n ++ slices_Repeat_api_Ratio_api_Ratio.pairs x k := by
  simp only [slices_Repeat_api_Ratio_api_Ratio.pairs, ← List.replicate_append_replicate, List.flatten_append]
theorem slices_Repeat_api_Ratio_api_Ratio.pairs_one (x : S35) (n : Nat) : ∀ v ∈ slices_Repeat_api_Ratio_api_Ratio.pairs x n, v.oneCell' = true := by
  intro v hv
  obtain ⟨l, hl, hv⟩ := List.mem_flatten.1 hv
  rw [List.eq_of_mem_replicate hl] at hv
  simp at hv
  rcases hv with rfl | rfl <;> rfl
theorem slices_Repeat_api_Ratio_api_Ratio.made_pairs (x : S35) (m : Nat) : madeCells #[Value.int .i64 0, Value.int .i64 0] (m * 2) = slices_Repeat_api_Ratio_api_Ratio.rowB x 0 m := by
  have h : ∀ k, (List.range (k * 2)).map (fun j => #[Value.int .i64 0, Value.int .i64 0][j % 2]!) = slices_Repeat_api_Ratio_api_Ratio.pairs ⟨0, 0⟩ k := by
    intro k
    induction k with
    | zero => rfl
    | succ k ih =>
      rw [slices_Repeat_api_Ratio_api_Ratio.pairs_add, ← ih, Nat.succ_mul, List.range_succ, List.range_succ]
      simp only [List.map_append, List.map_cons, List.map_nil, List.append_assoc]
      congr 1
      have e1 : k * 2 % 2 = 0 := by omega
      have e2 : (k * 2 + 1) % 2 = 1 := by omega
      rw [e1, e2]; rfl
  apply Array.ext'
  simp only [madeCells, slices_Repeat_api_Ratio_api_Ratio.rowB, Nat.sub_zero, Array.toList_map, Array.toList_range]
  rw [← h m]
  simp [slices_Repeat_api_Ratio_api_Ratio.pairs]
theorem slices_Repeat_api_Ratio_api_Ratio.setRow_alloc (w : World) (c d : Array Value) (t : TypeId) : (w.alloc (.cells c t)).setRow w.heap.size d = w.alloc (.cells d t) := by
  show ({ w with heap := (w.heap.push (.cells c t)).modify w.heap.size _ } : World) = { w with heap := w.heap.push (.cells d t) }
  congr 1
  apply Array.ext
  · simp
  · intro k h1 h2
    rw [Array.getElem_modify]
    by_cases hk : w.heap.size = k
    · subst hk; simp
    · rw [if_neg hk]
      have h3 : k < w.heap.size := by simp at h2; omega
      rw [Array.getElem_push_lt h3, Array.getElem_push_lt h3]
theorem slices_Repeat_api_Ratio_api_Ratio.setRow_drewN (w : World) (g : Nat) (c : Array Value) (q : Nat) : (w.drewN q).setRow g c = (w.setRow g c).drewN q := rfl

theorem slices_Repeat_api_Ratio_api_Ratio.copy_first (x : S35) (m : Nat) (A0 : Option Addr) (c0 : Nat) (w : World) (hr0 : Kd.C k35 w A0 1 [x]) (hm : 1 ≤ m) :
    (Builtin.copy_ #[31, 31] 3 #[.slice (some ⟨w.heap.size, 0, none⟩) m m, .slice A0 1 c0]).run Try.prog (w.alloc (.cells (slices_Repeat_api_Ratio_api_Ratio.rowB x 0 m) 35)) = .ok (.int .i64 1) (w.alloc (.cells (slices_Repeat_api_Ratio_api_Ratio.rowB x 1 m) 35)) := by
  obtain ⟨ad, rfl, hx0, hx1⟩ := at_T35 hr0 0 (by omega) (by omega)
  have hsz : (Try.prog.info? 35).map (·.size) = some 2 := by kernel_rfl
  have e0 : rd_T35 [x] 0 = x := rfl
  rw [e0] at hx0 hx1
  have hmin : Nat.min 1 m = 1 := Nat.min_eq_left hm
  have hlt : ∀ (a : Addr) v, w.cell? a = some v → (w.alloc (.cells (slices_Repeat_api_Ratio_api_Ratio.rowB x 0 m) 35)).cell? a = some v := fun a v h => pw_cell_below (below_alloc (Below.refl _ _) _) h
  have := slices_Repeat_api_Ratio_api_Ratio.run_copy_cells Try.prog (w.alloc (.cells (slices_Repeat_api_Ratio_api_Ratio.rowB x 0 m) 35)) 31 31 3 35 w.heap.size 0 m m ad 1 c0 (slices_Repeat_api_Ratio_api_Ratio.rowB x 0 m) 35 [.int .i64 x.f0, .int .i64 x.f1] 2 Try.underlying31 hsz (heap_alloc_new w _)
    (by rw [hmin]; rfl)
    (by
      intro j v hj
      match j, hj with
      | 0, hj =>
        cases hj
        exact hlt _ _ hx0
      | 1, hj =>
        cases hj
        have : ad.add 1 = ⟨(ad.add ((0 : Int).toNat * 2)).block, (ad.add ((0 : Int).toNat * 2)).off + 1, none⟩ := by simp [Addr.add]
        rw [this]
        exact hlt _ _ hx1)
    (by simp [slices_Repeat_api_Ratio_api_Ratio.rowB, slices_Repeat_api_Ratio_api_Ratio.pairs_len]; omega)
    (by intro v hv; simp at hv; rcases hv with rfl | rfl <;> rfl)
  rw [this, slices_Repeat_api_Ratio_api_Ratio.setRow_alloc, hmin]
  have e : (slices_Repeat_api_Ratio_api_Ratio.rowB x 0 m).toList.take 0 ++ [Value.int .i64 x.f0, Value.int .i64 x.f1] ++ (slices_Repeat_api_Ratio_api_Ratio.rowB x 0 m).toList.drop (0 + [Value.int .i64 x.f0, Value.int .i64 x.f1].length) = (slices_Repeat_api_Ratio_api_Ratio.rowB x 1 m).toList := by
    obtain ⟨k, rfl⟩ : ∃ k, m = 1 + k := ⟨m - 1, by omega⟩
    have e1 : 1 + k - 1 = k := by omega
    simp only [slices_Repeat_api_Ratio_api_Ratio.rowB, Nat.sub_zero, e1, slices_Repeat_api_Ratio_api_Ratio.pairs_add]
    simp [slices_Repeat_api_Ratio_api_Ratio.pairs]
  rw [e]
  rfl

theorem slices_Repeat_api_Ratio_api_Ratio.copy_next (x : S35) (n m q : Nat) (w : World) (h1 : 1 ≤ n) (h2 : n < m) :
    (Builtin.copy_ #[31, 31] 3 #[.slice (some ⟨w.heap.size, n * 2, none⟩) (m - n) (m - n), .slice (some ⟨w.heap.size, 0, none⟩) n m]).run Try.prog ((w.alloc (.cells (slices_Repeat_api_Ratio_api_Ratio.rowB x n m) 35)).drewN q) = .ok (.int .i64 (min n (m - n) : Nat)) ((w.alloc (.cells (slices_Repeat_api_Ratio_api_Ratio.rowB x (n + min n (m - n)) m) 35)).drewN q) := by
  have hsz : (Try.prog.info? 35).map (·.size) = some 2 := by kernel_rfl
  generalize hk : min n (m - n) = k
  have hk' : Nat.min n (m - n) = k := hk
  have hk1 : k ≤ n := by omega
  have hk2 : k ≤ m - n := by omega
  obtain ⟨r, hr⟩ : ∃ r, m - n = k + r := ⟨m - n - k, by omega⟩
  obtain ⟨s, rfl⟩ : ∃ s, n = k + s := ⟨n - k, by omega⟩
  have := slices_Repeat_api_Ratio_api_Ratio.run_copy_cells Try.prog ((w.alloc (.cells (slices_Repeat_api_Ratio_api_Ratio.rowB x (k + s) m) 35)).drewN q) 31 31 3 35 w.heap.size ((k + s) * 2) (m - (k + s)) (m - (k + s)) ⟨w.heap.size, 0, none⟩ (k + s) m (slices_Repeat_api_Ratio_api_Ratio.rowB x (k + s) m) 35 (slices_Repeat_api_Ratio_api_Ratio.pairs x k) 2 Try.underlying31 hsz (heap_alloc_new w _)
    (by rw [hk', slices_Repeat_api_Ratio_api_Ratio.pairs_len]; omega)
    (by
      intro j v hj
      have hjl : j < 2 * k := by
        have := (List.getElem?_eq_some_iff.1 hj).1
        rwa [slices_Repeat_api_Ratio_api_Ratio.pairs_len] at this
      have e1 : (⟨w.heap.size, 0, none⟩ : Addr).add j = ⟨w.heap.size, j, none⟩ := add_plain _ _
      rw [e1]
      have e2 : ((w.alloc (.cells (slices_Repeat_api_Ratio_api_Ratio.rowB x (k + s) m) 35)).drewN q).cell? ⟨w.heap.size, j, none⟩ = (slices_Repeat_api_Ratio_api_Ratio.rowB x (k + s) m)[j]? := cell_of_row _ _ _ _ _ _ (heap_alloc_new w _)
      rw [e2]
      simp only [slices_Repeat_api_Ratio_api_Ratio.rowB, slices_Repeat_api_Ratio_api_Ratio.pairs_add, List.getElem?_toArray, List.append_assoc]
      rw [List.getElem?_append_left (by rw [slices_Repeat_api_Ratio_api_Ratio.pairs_len]; omega)]
      exact hj)
    (by simp only [slices_Repeat_api_Ratio_api_Ratio.rowB, List.size_toArray, List.length_append, slices_Repeat_api_Ratio_api_Ratio.pairs_len]; omega)
    (slices_Repeat_api_Ratio_api_Ratio.pairs_one x k)
  rw [this, hk']
  have e : (slices_Repeat_api_Ratio_api_Ratio.rowB x (k + s) m).toList.take ((k + s) * 2) ++ slices_Repeat_api_Ratio_api_Ratio.pairs x k ++ (slices_Repeat_api_Ratio_api_Ratio.rowB x (k + s) m).toList.drop ((k + s) * 2 + (slices_Repeat_api_Ratio_api_Ratio.pairs x k).length) = (slices_Repeat_api_Ratio_api_Ratio.rowB x (k + s + k) m).toList := by
    have e3 : m - (k + s + k) = r := by omega
    simp only [slices_Repeat_api_Ratio_api_Ratio.rowB, hr, e3, slices_Repeat_api_Ratio_api_Ratio.pairs_len]
    rw [slices_Repeat_api_Ratio_api_Ratio.pairs_add x (k + s) k, slices_Repeat_api_Ratio_api_Ratio.pairs_add _ k r]
    rw [List.take_append_of_le_length (by rw [slices_Repeat_api_Ratio_api_Ratio.pairs_len]; omega), List.take_of_length_le (by rw [slices_Repeat_api_Ratio_api_Ratio.pairs_len]; omega)]
    rw [List.drop_append, List.drop_eq_nil_of_le (by rw [slices_Repeat_api_Ratio_api_Ratio.pairs_len]; omega), slices_Repeat_api_Ratio_api_Ratio.pairs_len, List.nil_append]
    rw [List.drop_append, List.drop_eq_nil_of_le (by rw [slices_Repeat_api_Ratio_api_Ratio.pairs_len]; omega), slices_Repeat_api_Ratio_api_Ratio.pairs_len, List.nil_append]
    have e4 : (k + s) * 2 + 2 * k - 2 * (k + s) - 2 * k = 0 := by omega
    rw [e4]; simp
  rw [e, slices_Repeat_api_Ratio_api_Ratio.setRow_drewN, slices_Repeat_api_Ratio_api_Ratio.setRow_alloc]
  rfl
set_option maxHeartbeats 2000000 in
set_option maxRecDepth 100000 in
theorem slices_Repeat_api_Ratio_api_Ratio.rep_calls (A0 : Option Addr) (c0 : Nat) (x : S35) (m : Nat) (w : World) (hr0 : Kd.C k35 w A0 1 [x]) (h1 : 1 ≤ m) (h2 : m ≤ 1000) :
    Calls Try.prog 81 #[.slice A0 1 c0, .int .i64 (m : Int)] w fun e w' => ∃ q, e = .returned (.slice (some ⟨w.heap.size, 0, none⟩) m m) ∧ w' = (w.alloc (.cells (slices_Repeat_api_Ratio_api_Ratio.rowB x m m) 35)).drewN q := by
  have H1 := Aside0.mk (And.intro h1 h2)
  have hc1 : decide ((m : Int) < 0) = false := decide_eq_false (by omega)
  have hw1 : IntKind.u64.wrap (m : Int) = m := by rw [IntKind.wrap_u64]; omega
  have hw2 : IntKind.u64.wrap 1 = 1 := by decide
  have hu31 := Try.underlying31
  have hmk : ∀ W : World, (Instr.makeSlice 31 (.int .i64 (m : Int)) (.int .i64 (m : Int))).run Try.prog W = .ok (.slice (some ⟨W.heap.size, 0, none⟩) m m) (W.alloc (.cells (slices_Repeat_api_Ratio_api_Ratio.rowB x 0 m) 35)) := by
    intro W
    have hi35 : (Try.prog.info? 35).map (fun i => (i.zero, i.size, i.bytes)) = some (some (.agg #[.int .i64 0, .int .i64 0]), 2, 16) := by kernel_rfl
    obtain ⟨i0, hi, hzz⟩ := Option.map_eq_some_iff.1 hi35
    simp only [Prod.mk.injEq] at hzz
    obtain ⟨hz0, hz1, hz2⟩ := hzz
    have := run_make (P := Try.prog) W 31 35 i0 _ Try.underlying31 hi hz0 .i64 .i64 m m (by omega) (by omega) (by rw [hz2]; omega) (by omega)
    rw [hz1] at this
    simp only [Int.toNat_natCast] at this
    rw [this, ← slices_Repeat_api_Ratio_api_Ratio.made_pairs x m]; rfl
  have hc2 : decide (9223372036854775807 < (m : Int)) = false := decide_eq_false (by omega)
  have hw3 : wrap64 (m : Int) = m := by unfold wrap64; omega
  have hw4 : IntKind.i64.wrap (m : Int) = m := by rw [IntKind.wrap_i64]; omega
  have hcp := slices_Repeat_api_Ratio_api_Ratio.copy_first x m A0 c0 w hr0 h1
  clear h1 h2 hr0
  go_enter Try.func81, Try.ntmps81
  go_wp2_with (first | (go_at_call 90; refine (slices_Repeat_api_Ratio_api_Ratio.mul_one_calls m (by have := H1.out; omega) (by have := H1.out; omega) _).mono ?_; rintro e w' ⟨rfl, rfl⟩))
  go_loopg [8] (m - 1) (fun kq v8 w' => ∃ n q : Nat, v8 = .int .i64 (n : Int) ∧ Aside0 (1 ≤ n ∧ n ≤ m ∧ kq = m - n) ∧ w' = (w.alloc (.cells (slices_Repeat_api_Ratio_api_Ratio.rowB x n m) 35)).drewN q)
  case atStart => exact ⟨1, 0, rfl, ⟨by omega, by have := H1.out; omega, rfl⟩, rfl⟩
  case round =>
    clear hcp
    obtain ⟨n, q, rfl, HI, rfl⟩ := hrel
    by_cases hlt : n < m
    · have h1 : decide ((n : Int) < (m : Int)) = true := decide_eq_true (by omega)
      have hcp := fun q => slices_Repeat_api_Ratio_api_Ratio.copy_next x n m q w HI.out.1 hlt
      have ha : (n : Int) ≤ (m : Int) := by omega
      have ha2 : n ≤ m := by omega
      have ha3 : m ≠ n := by omega
      go_wp2
      go_region
      go_wp2
      clear hcp
      go_roundg (m - (n + min n (m - n)))
      case measure => have := HI.out; omega
      case rel =>
        have hw : wrap64 ((n : Int) + ((min n (m - n) : Nat) : Int)) = ((n + min n (m - n) : Nat) : Int) := by unfold wrap64; have := H1.out; omega
        exact ⟨n + min n (m - n), q + 1, by rw [hw], ⟨by have := HI.out; omega, by omega, rfl⟩, rfl⟩
    · have h1 : decide ((n : Int) < (m : Int)) = false := decide_eq_false (by omega)
      obtain rfl : n = m := by have := HI.out; omega
      go_wp2
      go_ret
      exact ⟨q, rfl, rfl⟩

theorem slices_Repeat_api_Ratio_api_Ratio.rep_R (x : S35) (m q : Nat) (w : World) (h2 : m ≤ 1000) : Kd.R k35 35 ((w.alloc (.cells (slices_Repeat_api_Ratio_api_Ratio.rowB x m m) 35)).drewN q) w.heap.size (fun _ => True) (.slice (some ⟨w.heap.size, 0, none⟩) m m) (List.replicate m x) := by
  have hz : (slices_Repeat_api_Ratio_api_Ratio.rowB x m m).toList = slices_Repeat_api_Ratio_api_Ratio.pairs x m := by simp [slices_Repeat_api_Ratio_api_Ratio.rowB, slices_Repeat_api_Ratio_api_Ratio.pairs]
  refine ⟨fun _ _ => trivial, slices_Repeat_api_Ratio_api_Ratio.pairs x m, ⟨by rw [slices_Repeat_api_Ratio_api_Ratio.pairs_len, List.length_replicate]; show 2 * m = m * 2; omega, .inr ⟨w.heap.size, m, slices_Repeat_api_Ratio_api_Ratio.rowB x m m, by rw [List.length_replicate], Nat.le_refl _, heap_alloc_new w _, by rw [List.length_replicate]; exact Nat.le_refl _, by unfold maxLen; omega, ?_, ?_⟩⟩, ?_, ?_⟩
  · show (slices_Repeat_api_Ratio_api_Ratio.rowB x m m).size = m * 2
    rw [← Array.length_toList, hz, slices_Repeat_api_Ratio_api_Ratio.pairs_len]; omega
  · rw [hz, List.take_of_length_le]
    rw [slices_Repeat_api_Ratio_api_Ratio.pairs_len, List.length_replicate]; show 2 * m ≤ m * 2; omega
  · rw [slices_Repeat_api_Ratio_api_Ratio.pairs_len, List.length_replicate]; show 2 * m = m * 2; omega
  · intro j p hj
    have hj' : j < m := by
      have := (List.getElem?_eq_some_iff.1 hj).1
      rwa [List.length_replicate] at this
    obtain rfl : x = p := by
      obtain ⟨h, e⟩ := List.getElem?_eq_some_iff.1 hj
      rw [List.getElem_replicate] at e; exact e
    obtain ⟨k, rfl⟩ : ∃ k, m = j + (1 + k) := ⟨m - j - 1, by omega⟩
    have e : ((slices_Repeat_api_Ratio_api_Ratio.pairs x (j + (1 + k))).drop (j * 2)).take 2 = [.int .i64 x.f0, .int .i64 x.f1] := by
      rw [slices_Repeat_api_Ratio_api_Ratio.pairs_add, List.drop_append, List.drop_eq_nil_of_le (by rw [slices_Repeat_api_Ratio_api_Ratio.pairs_len]; omega), slices_Repeat_api_Ratio_api_Ratio.pairs_len, List.nil_append, show j * 2 - 2 * j = 0 by omega, List.drop_zero, slices_Repeat_api_Ratio_api_Ratio.pairs_add]
      rfl
    show k35.M _ _ _ x (((slices_Repeat_api_Ratio_api_Ratio.pairs x (j + (1 + k))).drop (j * 2)).take 2)
    rw [e]
    exact k35_mkM _ _ _ x

def slices_Repeat_api_Ratio_api_Ratio.f (l0 : List S35) (a1 : Int) : Option (List S35) :=
  match l0 with
  | [x] => if 1 ≤ a1 ∧ a1 ≤ 1000 then some (List.replicate a1.toNat x) else none
  | _ => none
theorem slices_Repeat_api_Ratio_api_Ratio.calls (A0 : Option Addr) (c0 : Nat) (l0 : List (S35)) (a1 : Int) (r : List (S35)) (w : World) (hr0 : Kd.C k35 w A0 l0.length l0) (hc0 : l0.length ≤ c0) (h : slices_Repeat_api_Ratio_api_Ratio.f l0 a1 = some r) :
    Calls Try.prog 81 #[.slice A0 l0.length c0, .int .i64 a1] w fun e w' => ∃ v0_ : Value, e = .returned (v0_) ∧ Kd.R k35 35 w' w.heap.size (fun _ => True) v0_ r ∧ Below w.heap.size w w' := by
  match l0, hr0, hc0, h with
  | [], _, _, h => cases h
  | _ :: _ :: _, _, _, h => cases h
  | [x], hr0, hc0, h =>
    by_cases hb : 1 ≤ a1 ∧ a1 ≤ 1000
    · have h' : (if 1 ≤ a1 ∧ a1 ≤ 1000 then some (List.replicate a1.toNat x) else none) = some r := h
      rw [if_pos hb] at h'
      obtain rfl := Option.some.inj h'
      obtain ⟨m, rfl⟩ := Int.eq_ofNat_of_zero_le (show 0 ≤ a1 by omega)
      refine (slices_Repeat_api_Ratio_api_Ratio.rep_calls A0 c0 x m w hr0 (by omega) (by omega)).mono ?_
      rintro e w' ⟨q, rfl, rfl⟩
      exact ⟨_, rfl, slices_Repeat_api_Ratio_api_Ratio.rep_R x m q w (by omega), pw_below_drewN (below_alloc (Below.refl _ _) _) q⟩
    · have h' : (if 1 ≤ a1 ∧ a1 ≤ 1000 then some (List.replicate a1.toNat x) else none) = some r := h
      rw [if_neg hb] at h'
      cases h'

end Go.Proofs.Ytpdcpekjafcohaa.XWear
