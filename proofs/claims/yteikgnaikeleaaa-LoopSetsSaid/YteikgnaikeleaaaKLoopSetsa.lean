-- Written by wip/pack.py of this repo: texts of this claim, put together.
import Derived.Test.YteikgnaikeleaaaRows
import Derived.WalkKit
import Derived.ProofKit
import Derived.OpenShut
import Derived.ShutString
import Derived.ChangeOld
import Derived.Below
import Derived.SizedLaws
import Derived.Test.YteikgnaikeleaaaKLoope
namespace Go.Proofs.Yteikgnaikeleaaa.XLoop
open Go.RowKit Go.Proofs.YteikgnaikeleaaaW.PrintWords Go.Proofs.YteikgnaikeleaaaW.PrintLast Go.Proofs.YteikgnaikeleaaaW.PrintMore
attribute [local go_sem] max2_int min2_int max_two min_two max_three min_three max_four min_four   -- for this text's walks alone
set_option linter.unusedVariables false
set_option linter.unusedSimpArgs false
/-! ### loop_Closed: function 42 -/
def loop_Closed.f (a0 : ByteArray) (a1 : ByteArray) : Option (ByteArray × Int) := some (tx (fixR a0.data.toList a1.data.toList true).1, (fixR a0.data.toList a1.data.toList true).2)
theorem loop_Closed.calls (a0 : ByteArray) (a1 : ByteArray) (r1 : ByteArray) (r2 : Int) (w : World) (h : loop_Closed.f a0 a1 = some (r1, r2)) :
  Calls Try.prog 42 #[.string a0, .string a1] w fun e w' => e = .returned (.tuple #[.string r1, .int .i64 r2]) ∧ Below w.heap.size w w' := by
 obtain ⟨rfl, rfl⟩ := Prod.mk.inj (Option.some.inj h)
 have hc := closed_calls a0.data.toList a1.data.toList w
 simp only [tx_data] at hc
 exact hc

end Go.Proofs.Yteikgnaikeleaaa.XLoop
namespace Go.Proofs.Yteikgnaikeleaaa
open Go.RowKit Go.Proofs.YteikgnaikeleaaaW.PrintWords Go.Proofs.YteikgnaikeleaaaW.PrintLast Go.Proofs.YteikgnaikeleaaaW.PrintMore
set_option linter.unusedVariables false

theorem or_less (k : Nat) (hk : k < 256) (h : sizeN k = 1) (x : Nat) (hx : x < 256) : (x ||| k) - k = x &&& (255 ^^^ k) ∧ k ≤ x ||| k := by
 have h9 : ∀ (k : Fin 256), sizeN k.val = 1 → ∀ (x : Fin 256), (x.val ||| k.val) - k.val = x.val &&& (255 ^^^ k.val) ∧ k.val ≤ x.val ||| k.val := by decide +kernel
 exact h9 ⟨k, hk⟩ h ⟨x, hx⟩
theorem fix_good {f : Nat → Bool} (hf : Good f) (k : Nat) (closed : Bool) (h0 : fixF f k closed 0 = false) (h1 : fixF f k closed 255 = true) : Good (fixF f k closed) := by
 refine ⟨fun a b hs ha => ?_, h0, h1⟩
 cases closed with
 | true =>
  refine hf.mono (a ||| k) (b ||| k) (fun i hi => ?_) ha
  rw [Nat.testBit_or, Bool.or_eq_true] at hi ⊢
  exact hi.imp (hs i) id
 | false =>
  refine hf.mono (a &&& (255 ^^^ k)) (b &&& (255 ^^^ k)) (fun i hi => ?_) ha
  rw [Nat.testBit_and, Bool.and_eq_true] at hi ⊢
  exact ⟨hs i hi.1, hi.2⟩
theorem fixR_bad (s q : List UInt8) (closed : Bool) (m : Mean) (hc : parseL s = some m) (h : q.length ≠ 1 ∨ setL q 0 (-1) = none) : fixR s q closed = ([], 2) := by
 unfold fixR
 rw [hc]
 cases hq : setL q 0 (-1) with
 | none => rfl
 | some k =>
  have := set_size hq
  refine if_neg ?_
  rcases h with h | h
  ·
   omega
  ·
   rw [hq] at h; cases h
set_option maxHeartbeats 8000000 in
set_option maxRecDepth 1000000 in
theorem rset_good (m : Mean) (s q : List UInt8) (k : Nat) (closed : Bool) (w : World) (hc : parseL s = some m) (hq : setL q 0 (-1) = some k) (hl1 : q.length = 1) :
  Calls Try.prog 81 #[.string (tx s), .string (tx q), .bool closed] w fun e w' => e = .returned (.tuple #[.string (tx (plainF (fixF m.f k closed)).1), .int .i64 (plainF (fixF m.f k closed)).2]) ∧ Below w.heap.size w w' := by
 have HS := Aside0.mk (rask_e s)
 unfold RAskE at HS
 rw [hc] at HS
 have hzz := zero50
 have HSET := Aside0.mk (rset_calls q (by omega))
 have hj : (setL q 0 (-1)).isSome = true := by rw [hq]; rfl
 have HB1' := Aside0.mk (rbits_calls q (by omega) k hq)
 have HB2' := HB1'
 have hsz1 : sizeN k = 1 := by rw [set_size hq, hl1]
 have hk := setL_256 hq
 have HKK := Aside0.mk hk
 have hlen : (((tx q).size : Int) != 1) = false := by rw [tx_size, hl1]; rfl
 have HOL := Aside0.mk (or_less k hk hsz1)
 have hgood := parseL_good hc
 have HGD : Aside0 (∀ g, fixF m.f k closed = g → g 0 = false → g 255 = true → plainF g = plainX g ∧ orderF.filter (minF g) = leastF g) := ⟨by
  rintro g rfl h0 h1
  have := fix_good hgood k closed h0 h1
  exact ⟨plainF_good this, leastF_min this⟩⟩
 obtain ⟨f, hf⟩ : ∃ f, f = m.f := ⟨_, rfl⟩
 simp only [← hf] at HS HGD ⊢
 rw [hj] at HSET
 obtain ⟨X, hX⟩ : ∃ X, X = plainF (fixF f k closed) := ⟨_, rfl⟩
 rw [← hX]
 have HX0 := Aside0.mk hX
 clear hX
 clear hc hq hf hl1 hsz1 hk hj hgood
 go_enter Try.func81, Try.ntmps81
 go_wp2_with (first | (go_at_call 61; refine (HS.out _).mono ?_; rintro e W1 ⟨v, c, rfl, hb, rfl, rfl⟩; have HB1 := Aside0.mk (new_below hb (Nat.le_refl _) v); have HH1 := Aside0.mk (new_row W1 v); clear hb) | (refine wpList_store_row rfl 50 (.tmp 8) (.tmp 16) rfl W1.heap.size (tbl v) rfl rfl 50 (tbl fun _ => false) (blk_new _ _) (tbl_info v) (by rw [tbl_size, tbl_size]) (tbl_one v) ?_) | (go_at_call 22; refine (HSET.out _).mono ?_; rintro e W2 ⟨rfl, hd⟩; have HB2 := Aside0.mk (below_dr HB1.out hd); have HH2 := Aside0.mk (blk_dr HH1.out hd); clear hd))
 have HNE : Aside0 (W1.heap.size ≠ W2.heap.size) := ⟨Nat.ne_of_lt (blk_lt HH2.out)⟩
 have HSZ : Aside0 (w.heap.size ≤ W2.heap.size) := ⟨HB2.out.size⟩
 go_loopg [11] 257 (fun kq v11 W => ∃ x : Nat, v11 = .int .i64 x ∧ Aside0 (x + kq = 257) ∧ Aside0 (x ≤ 256) ∧ Aside0 (W.heap[W1.heap.size]? = some (.cells (tbl v) 50 (0, 0))) ∧ Aside0 (W.heap[W2.heap.size]? = some (.cells (tbl (fun i => decide (i < x) && fixF v k closed i)) 50 (0, 0))) ∧ Aside0 (Below w.heap.size w W))
 case atStart => exact ⟨0, rfl, ⟨rfl⟩, ⟨by decide⟩, ⟨blk_alloc HH2.out _⟩, ⟨by rw [show (fun i => decide (i < 0) && fixF v k closed i) = (fun _ => false) from by funext i; simp]; exact blk_new _ _⟩, ⟨below_alloc HB2.out _⟩⟩
 case round =>
  obtain ⟨x, rfl, HK, HX, HF, HC, HB9⟩ := hrel
  by_cases hx : x < 256
  ·
   have h1 : decide ((x : Int) < 256) = true := decide_eq_true (by omega)
   have hnx := next_nat x hx
   have HX1 := Aside0.mk hx
   have h0 : (0 : Int) ≤ (x : Int) ∧ (x : Int) < 256 := by omega
   have fo : Go.bits .or .i64 (x : Int) (k : Int) = ((x ||| k : Nat) : Int) := or_bits2 x k hx HKK.out
   have ho := or_lt2 x k hx HKK.out
   have hol := HOL.out x hx
   have hn := and_lt x (255 ^^^ k) hx
   have fs : wrap64 (((x ||| k : Nat) : Int) - (k : Int)) = ((x &&& (255 ^^^ k) : Nat) : Int) := by
    rw [← hol.1]
    have := hol.2
    unfold wrap64
    omega
   cases closed with
   | true =>
    obtain ⟨y, hy⟩ : ∃ y, y = x ||| k := ⟨_, rfl⟩
    have HY : Aside0 (fixF v k true x = v y) := ⟨by rw [hy]; rfl⟩
    rw [← hy] at fo ho
    have hy0 : (0 : Int) ≤ (y : Int) ∧ (y : Int) < 256 := by omega
    have HY2 := Aside0.mk ho
    clear hn hx hy ho hol fs
    go_wp2_with (go_at_call 79; refine (HB1'.out _).mono ?_; rintro e W3 ⟨rfl, hd⟩; have HF3 := Aside0.mk (blk_dr HF.out hd); have HC3 := Aside0.mk (blk_dr HC.out hd); have HB3 := Aside0.mk (below_dr HB9.out hd); have c1 := tbl_cell HF3.out y HY2.out; have c3 := tbl_cell HC3.out x HX1.out; have f3 := blk_frozen HC3.out x; clear hd)
    go_roundg (256 - x)
    case measure => have := HK.out; have := HX1.out; omega
    case rel =>
     refine ⟨x + 1, by first | rfl | rw [hnx], ⟨by have := HK.out; have := HX1.out; omega⟩, ⟨HX1.out⟩, ⟨blk_far HF3.out (by exact HNE.out) _⟩, ⟨?_⟩, ⟨HB3.out.setCell (p := ⟨W2.heap.size, x, none⟩) HSZ.out _⟩⟩
     refine blk_put HC3.out x _ ?_
     rw [tbl_set, ← HY.out]
     exact fixF_tbl v k true x
   | false =>
    obtain ⟨y, hy⟩ : ∃ y, y = x &&& (255 ^^^ k) := ⟨_, rfl⟩
    have HY : Aside0 (fixF v k false x = v y) := ⟨by rw [hy]; rfl⟩
    rw [← hy] at fs hn
    have hy0 : (0 : Int) ≤ (y : Int) ∧ (y : Int) < 256 := by omega
    have HY2 := Aside0.mk hn
    generalize x ||| k = z at fo fs ho hol
    clear hn hx hy ho hol
    go_wp2_with (first | (go_at_call 79; refine (HB1'.out _).mono ?_; clear HB1'; rintro e W3 ⟨rfl, hd⟩; have HF3 := Aside0.mk (blk_dr HF.out hd); have HC3 := Aside0.mk (blk_dr HC.out hd); have HB3 := Aside0.mk (below_dr HB9.out hd); clear hd) | (go_at_call 79; refine (HB2'.out _).mono ?_; rintro e W4 ⟨rfl, hd⟩; have HF4 := Aside0.mk (blk_dr HF3.out hd); have HC4 := Aside0.mk (blk_dr HC3.out hd); have HB4 := Aside0.mk (below_dr HB3.out hd); have c1 := tbl_cell HF4.out y HY2.out; have c3 := tbl_cell HC4.out x HX1.out; have f3 := blk_frozen HC4.out x; clear hd))
    go_roundg (256 - x)
    case measure => have := HK.out; have := HX1.out; omega
    case rel =>
     refine ⟨x + 1, by first | rfl | rw [hnx], ⟨by have := HK.out; have := HX1.out; omega⟩, ⟨HX1.out⟩, ⟨blk_far HF4.out (by exact HNE.out) _⟩, ⟨?_⟩, ⟨HB4.out.setCell (p := ⟨W2.heap.size, x, none⟩) HSZ.out _⟩⟩
     refine blk_put HC4.out x _ ?_
     rw [tbl_set, ← HY.out]
     exact fixF_tbl v k false x
  ·
   have h1 : decide ((x : Int) < 256) = false := decide_eq_false (by omega)
   have hx6 : x = 256 := by have := HX.out; omega
   have hcc := HC.out
   rw [hx6, tbl_ext (g := fixF v k closed) (fun i hi => by simp [hi])] at hcc
   have HG := HGD.out
   obtain ⟨g, hg⟩ : ∃ g, g = fixF v k closed := ⟨_, rfl⟩
   rw [← hg] at hcc HX0
   have HGG := Aside0.mk (HG g hg.symm)
   have HCC := Aside0.mk hcc
   have c0 := tbl_cell hcc 0 (by decide)
   have c5 := tbl_cell hcc 255 (by decide)
   clear hcc HG hg hx hx6 HGD
   cases hg0 : g 0 with
   | true =>
    rw [hg0] at c0
    have hp : plainF g = ([], 5) := by unfold plainF; rw [hg0]; rfl
    rw [hp] at HX0
    clear hp HGG
    go_wp2
    go_ret2
    rw [HX0.out]
    exact ⟨rfl, HB9.out⟩
   | false =>
    rw [hg0] at c0
    cases hg5 : g 255 with
    | false =>
     rw [hg5] at c5
     have hp : plainF g = ([], 5) := by unfold plainF; rw [hg0, hg5]; rfl
     rw [hp] at HX0
     clear hp HGG
     go_wp2
     go_ret2
     rw [HX0.out]
     exact ⟨rfl, HB9.out⟩
    | true =>
     rw [hg5] at c5
     obtain ⟨e1, e2⟩ := HGG.out hg0 hg5
     rw [e1] at HX0
     have HPL := Aside0.mk (rplain_calls g e2)
     rw [← HX0.out] at HPL
     clear e1 e2 HGG HX0
     go_wp2_with (first | (refine wpList_load_row rfl 50 (.tmp 10) rfl W2.heap.size rfl 50 (tbl g) (0, 0) _ HCC.out Try.underlying50 rfl (tbl_info g) ?_) | (go_at_call 75; refine (HPL.out _).mono ?_; rintro e W7 ⟨rfl, hb⟩; have HB7 := Aside0.mk (below_step HB9.out hb); clear hb))
     go_ret2
     exact ⟨rfl, HB7.out⟩
set_option maxHeartbeats 8000000 in
set_option maxRecDepth 1000000 in
theorem rfix_calls (s q : List UInt8) (hm : q.length < 1000000000) (closed : Bool) (w : World) :
  Calls Try.prog 81 #[.string (tx s), .string (tx q), .bool closed] w fun e w' => e = .returned (.tuple #[.string (tx (fixR s q closed).1), .int .i64 (fixR s q closed).2]) ∧ Below w.heap.size w w' := by
 have HS := Aside0.mk (rask_e s)
 unfold RAskE at HS
 have hzz := zero50
 cases hc : parseL s with
 | none =>
  have hr : fixR s q closed = ([], 90) := by unfold fixR; rw [hc]
  rw [hr]
  rw [hc] at HS
  clear hr hc
  go_enter Try.func81, Try.ntmps81
  go_wp2_with (first | (go_at_call 61; refine (HS.out _).mono ?_; rintro e W1 ⟨v, c, rfl, hb, rfl⟩; have HB1 := Aside0.mk (new_below hb (Nat.le_refl _) v); clear hb) | (refine wpList_store_row rfl 50 (.tmp 8) (.tmp 16) rfl W1.heap.size (tbl v) rfl rfl 50 (tbl fun _ => false) (blk_new _ _) (tbl_info v) (by rw [tbl_size, tbl_size]) (tbl_one v) ?_))
  go_ret2
  exact ⟨rfl, HB1.out⟩
 | some m =>
  by_cases hl1 : q.length = 1
  ·
   cases hq : setL q 0 (-1) with
   | none =>
    rw [fixR_bad s q closed m hc (Or.inr hq)]
    have HSET := Aside0.mk (rset_calls q hm)
    rw [hq] at HSET
    have hlen : (((tx q).size : Int) != 1) = false := by rw [tx_size, hl1]; rfl
    rw [hc] at HS
    clear hc hl1 hq
    go_enter Try.func81, Try.ntmps81
    go_wp2_with (first | (go_at_call 61; refine (HS.out _).mono ?_; rintro e W1 ⟨v, c, rfl, hb, rfl, rfl⟩; have HB1 := Aside0.mk (new_below hb (Nat.le_refl _) m.f); clear hb) | (refine wpList_store_row rfl 50 (.tmp 8) (.tmp 16) rfl W1.heap.size (tbl m.f) rfl rfl 50 (tbl fun _ => false) (blk_new _ _) (tbl_info m.f) (by rw [tbl_size, tbl_size]) (tbl_one m.f) ?_) | (go_at_call 22; refine (HSET.out _).mono ?_; rintro e W2 ⟨rfl, hd⟩; have HB2 := Aside0.mk (below_dr HB1.out hd); clear hd))
    go_ret2
    exact ⟨rfl, HB2.out⟩
   | some k =>
    have hr : fixR s q closed = plainF (fixF m.f k closed) := by
     unfold fixR
     rw [hc, hq]
     exact if_pos (by rw [set_size hq, hl1])
    rw [hr]
    exact rset_good m s q k closed w hc hq hl1
  ·
   rw [fixR_bad s q closed m hc (Or.inl hl1)]
   have hlen : (((tx q).size : Int) != 1) = true := by rw [tx_size]; exact bne_iff_ne.mpr (by omega)
   rw [hc] at HS
   clear hc hl1
   go_enter Try.func81, Try.ntmps81
   go_wp2_with (first | (go_at_call 61; refine (HS.out _).mono ?_; rintro e W1 ⟨v, c, rfl, hb, rfl, rfl⟩; have HB1 := Aside0.mk (new_below hb (Nat.le_refl _) m.f); clear hb) | (refine wpList_store_row rfl 50 (.tmp 8) (.tmp 16) rfl W1.heap.size (tbl m.f) rfl rfl 50 (tbl fun _ => false) (blk_new _ _) (tbl_info m.f) (by rw [tbl_size, tbl_size]) (tbl_one m.f) ?_))
   go_ret2
   exact ⟨rfl, HB1.out⟩
set_option maxHeartbeats 8000000 in
set_option maxRecDepth 1000000 in
theorem rclosed_calls (s q : List UInt8) (hm : q.length < 1000000000) (w : World) :
  Calls Try.prog 43 #[.string (tx s), .string (tx q)] w fun e w' => e = .returned (.tuple #[.string (tx (fixR s q true).1), .int .i64 (fixR s q true).2]) ∧ Below w.heap.size w w' := by
 have HP := Aside0.mk (rfix_calls s q hm true w)
 go_enter Try.func43, Try.ntmps43
 go_wp2_with (first | (go_at_call 81; refine HP.out.mono ?_; rintro e W' ⟨rfl, hb⟩; have HB := Aside0.mk hb; clear hb))
 go_ret2
 exact ⟨rfl, HB.out⟩
set_option maxHeartbeats 8000000 in
set_option maxRecDepth 1000000 in
theorem ropened_calls (s q : List UInt8) (hm : q.length < 1000000000) (w : World) :
  Calls Try.prog 45 #[.string (tx s), .string (tx q)] w fun e w' => e = .returned (.tuple #[.string (tx (fixR s q false).1), .int .i64 (fixR s q false).2]) ∧ Below w.heap.size w w' := by
 have HP := Aside0.mk (rfix_calls s q hm false w)
 go_enter Try.func45, Try.ntmps45
 go_wp2_with (first | (go_at_call 81; refine HP.out.mono ?_; rintro e W' ⟨rfl, hb⟩; have HB := Aside0.mk hb; clear hb))
 go_ret2
 exact ⟨rfl, HB.out⟩
end Go.Proofs.Yteikgnaikeleaaa

namespace Go.Proofs.Yteikgnaikeleaaa.XLoop
open Go.RowKit Go.Proofs.YteikgnaikeleaaaW.PrintWords Go.Proofs.YteikgnaikeleaaaW.PrintLast Go.Proofs.YteikgnaikeleaaaW.PrintMore
attribute [local go_sem] max2_int min2_int max_two min_two max_three min_three max_four min_four   -- for this text's walks alone
set_option linter.unusedVariables false
set_option linter.unusedSimpArgs false
/-! ### dropperref09_Closed: function 43 -/
def dropperref09_Closed.f (a0 : ByteArray) (a1 : ByteArray) : Option (ByteArray × Int) := if a1.size ≤ 1000 then some (tx (fixR a0.data.toList a1.data.toList true).1, (fixR a0.data.toList a1.data.toList true).2) else none
theorem dropperref09_Closed.calls (a0 : ByteArray) (a1 : ByteArray) (r1 : ByteArray) (r2 : Int) (w : World) (h : dropperref09_Closed.f a0 a1 = some (r1, r2)) :
  Calls Try.prog 43 #[.string a0, .string a1] w fun e w' => e = .returned (.tuple #[.string r1, .int .i64 r2]) ∧ Below w.heap.size w w' := by
 unfold dropperref09_Closed.f at h
 split at h
 case isFalse => cases h
 rename_i hs_
 have H : a1.data.toList.length < 1000000000 := by
  have h_ := tx_size a1.data.toList
  rw [tx_data] at h_
  omega
 obtain ⟨rfl, rfl⟩ := Prod.mk.inj (Option.some.inj h)
 have hc := rclosed_calls a0.data.toList a1.data.toList H w
 simp only [tx_data] at hc
 exact hc

/-! ### loop_Opened: function 44 -/
def loop_Opened.f (a0 : ByteArray) (a1 : ByteArray) : Option (ByteArray × Int) := some (tx (fixR a0.data.toList a1.data.toList false).1, (fixR a0.data.toList a1.data.toList false).2)
theorem loop_Opened.calls (a0 : ByteArray) (a1 : ByteArray) (r1 : ByteArray) (r2 : Int) (w : World) (h : loop_Opened.f a0 a1 = some (r1, r2)) :
  Calls Try.prog 44 #[.string a0, .string a1] w fun e w' => e = .returned (.tuple #[.string r1, .int .i64 r2]) ∧ Below w.heap.size w w' := by
 obtain ⟨rfl, rfl⟩ := Prod.mk.inj (Option.some.inj h)
 have hc := opened_calls a0.data.toList a1.data.toList w
 simp only [tx_data] at hc
 exact hc

/-! ### dropperref09_Opened: function 45 -/
def dropperref09_Opened.f (a0 : ByteArray) (a1 : ByteArray) : Option (ByteArray × Int) := if a1.size ≤ 1000 then some (tx (fixR a0.data.toList a1.data.toList false).1, (fixR a0.data.toList a1.data.toList false).2) else none
theorem dropperref09_Opened.calls (a0 : ByteArray) (a1 : ByteArray) (r1 : ByteArray) (r2 : Int) (w : World) (h : dropperref09_Opened.f a0 a1 = some (r1, r2)) :
  Calls Try.prog 45 #[.string a0, .string a1] w fun e w' => e = .returned (.tuple #[.string r1, .int .i64 r2]) ∧ Below w.heap.size w w' := by
 unfold dropperref09_Opened.f at h
 split at h
 case isFalse => cases h
 rename_i hs_
 have H : a1.data.toList.length < 1000000000 := by
  have h_ := tx_size a1.data.toList
  rw [tx_data] at h_
  omega
 obtain ⟨rfl, rfl⟩ := Prod.mk.inj (Option.some.inj h)
 have hc := ropened_calls a0.data.toList a1.data.toList H w
 simp only [tx_data] at hc
 exact hc

/-! ### dropperlaw09_LoopSets: function 10 -/
def dropperlaw09_LoopSets.f (k : Nat) (a0 : ByteArray) (a1 : ByteArray) : Option (Bool) := (dropperlaw09_Long.f a0 a1).bind fun t231 => (if t231 = true then ((dropperlaw09_First.f k).bind fun t232 => (some t232)) else ((loop_Closed.f a0 a1).bind fun bt233 => ((dropperref09_Closed.f a0 a1).bind fun bt235 => ((loop_Opened.f a0 a1).bind fun bt237 => ((dropperref09_Opened.f a0 a1).bind fun bt239 => (if bt233.1.toList = bt235.1.toList then (if bt233.2 = bt235.2 then (if bt237.1.toList = bt239.1.toList then (if bt237.2 = bt239.2 then ((dropperlaw09_First.f k).bind fun t241 => (some t241)) else (none)) else (none)) else (none)) else (none)))))))
set_option maxHeartbeats 8000000 in
set_option maxRecDepth 100000 in
theorem dropperlaw09_LoopSets.calls (k : Nat) (a0 : ByteArray) (a1 : ByteArray) (r : Bool) (w : World) (h : dropperlaw09_LoopSets.f k a0 a1 = some r) :
  Calls Try.prog 10 #[.string a0, .string a1] w fun e w' => e = .returned (.bool r) ∧ Below w.heap.size w w' := by
 have HB := Aside0.mk (Below.refl w.heap.size w)
 have H : ((dropperlaw09_Long.f a0 a1).bind fun t231 => (if t231 = true then ((dropperlaw09_First.f k).bind fun t232 => (some t232)) else ((loop_Closed.f a0 a1).bind fun bt233 => ((dropperref09_Closed.f a0 a1).bind fun bt235 => ((loop_Opened.f a0 a1).bind fun bt237 => ((dropperref09_Opened.f a0 a1).bind fun bt239 => (if bt233.1.toList = bt235.1.toList then (if bt233.2 = bt235.2 then (if bt237.1.toList = bt239.1.toList then (if bt237.2 = bt239.2 then ((dropperlaw09_First.f k).bind fun t241 => (some t241)) else (none)) else (none)) else (none)) else (none)))))))) = some r := h
 clear h
 replace H := Option.bind_eq_some_iff.mp H
 obtain ⟨t231, A30, H⟩ := H
 try dsimp only at H
 have A3 := Aside0.mk A30
 clear A30
 by_cases c4 : t231 = true
 ·
  subst c4
  rw [if_pos rfl] at H
  replace H := Option.bind_eq_some_iff.mp H
  obtain ⟨t232, A50, H⟩ := H
  try dsimp only at H
  have A5 := Aside0.mk A50
  clear A50
  obtain rfl := Option.some.inj H
  go_enter Try.func10, Try.ntmps10
  go_wp2_with (first | ((with_reducible refine gate_callee (f := 14) rfl ?_); refine goesL_ (some 15) rfl rfl Try.func14 (by kernel_rfl) rfl #[.string a0, .string a1] rfl mapz ?_; (with_reducible refine (dropperlaw09_Long.calls a0 a1 true _ A3.out).mono ?_); rintro e w' ⟨rfl, ⟨nd, rfl⟩⟩; refine ⟨_, rfl, ?_⟩) | ((with_reducible refine gate_callee (f := 15) rfl ?_); refine goesL_ (some 16) rfl rfl Try.func15 (by kernel_rfl) rfl #[] rfl mapz ?_; (with_reducible refine (dropperlaw09_First.calls k  t232 _ A5.out).mono ?_); rintro e w6 ⟨rfl, hb⟩; refine ⟨_, rfl, ?_⟩; replace HB := Aside0.mk (below_step bel hb); clear hb))
  go_ret
  exact ⟨ezz, bel⟩
 ·
  replace c4 := Bool.eq_false_iff.mpr c4
  subst c4
  rw [if_neg (show ¬ (false = true) by decide)] at H
  replace H := Option.bind_eq_some_iff.mp H
  obtain ⟨⟨t233, t234⟩, A70, H⟩ := H
  try dsimp only at H
  have A7 := Aside0.mk A70
  clear A70
  replace H := Option.bind_eq_some_iff.mp H
  obtain ⟨⟨t235, t236⟩, A80, H⟩ := H
  try dsimp only at H
  have A8 := Aside0.mk A80
  clear A80
  replace H := Option.bind_eq_some_iff.mp H
  obtain ⟨⟨t237, t238⟩, A90, H⟩ := H
  try dsimp only at H
  have A9 := Aside0.mk A90
  clear A90
  replace H := Option.bind_eq_some_iff.mp H
  obtain ⟨⟨t239, t240⟩, A100, H⟩ := H
  try dsimp only at H
  have A10 := Aside0.mk A100
  clear A100
  by_cases c11 : t233.toList = t235.toList
  ·
   rw [if_pos c11] at H
   have c11b0 : (t233.toList == t235.toList) = true := beq_iff_eq.mpr c11
   have c11b1 : (t233.toList != t235.toList) = false := bne_eq_false_iff_eq.mpr c11
   clear c11
   by_cases c12 : t234 = t236
   ·
    rw [if_pos c12] at H
    have c12b0 : (t234 == t236) = true := beq_iff_eq.mpr c12
    have c12b1 : (t234 != t236) = false := bne_eq_false_iff_eq.mpr c12
    clear c12
    by_cases c13 : t237.toList = t239.toList
    ·
     rw [if_pos c13] at H
     have c13b0 : (t237.toList == t239.toList) = true := beq_iff_eq.mpr c13
     have c13b1 : (t237.toList != t239.toList) = false := bne_eq_false_iff_eq.mpr c13
     clear c13
     by_cases c14 : t238 = t240
     ·
      rw [if_pos c14] at H
      have c14b0 : (t238 == t240) = true := beq_iff_eq.mpr c14
      have c14b1 : (t238 != t240) = false := bne_eq_false_iff_eq.mpr c14
      clear c14
      replace H := Option.bind_eq_some_iff.mp H
      obtain ⟨t241, A150, H⟩ := H
      try dsimp only at H
      have A15 := Aside0.mk A150
      clear A150
      obtain rfl := Option.some.inj H
      go_enter Try.func10, Try.ntmps10
      go_wp2_with (first | ((with_reducible refine gate_callee (f := 14) rfl ?_); refine goesL_ (some 15) rfl rfl Try.func14 (by kernel_rfl) rfl #[.string a0, .string a1] rfl mapz ?_; (with_reducible refine (dropperlaw09_Long.calls a0 a1 false _ A3.out).mono ?_); rintro e w' ⟨rfl, ⟨nd, rfl⟩⟩; refine ⟨_, rfl, ?_⟩) | ((with_reducible refine gate_callee (f := 42) rfl ?_); refine goesL_ (some 20) rfl rfl Try.func42 (by kernel_rfl) rfl #[.string a0, .string a1] rfl mapz ?_; (with_reducible refine (loop_Closed.calls a0 a1 t233 t234 _ A7.out).mono ?_); rintro e w16 ⟨rfl, hb⟩; refine ⟨_, rfl, ?_⟩; replace HB := Aside0.mk (below_step bel hb); clear hb) | ((with_reducible refine gate_callee (f := 43) rfl ?_); refine goesL_ (some 26) rfl rfl Try.func43 (by kernel_rfl) rfl #[.string a0, .string a1] rfl mapz ?_; (with_reducible refine (dropperref09_Closed.calls a0 a1 t235 t236 _ A8.out).mono ?_); rintro e w17 ⟨rfl, hb⟩; refine ⟨_, rfl, ?_⟩; replace HB := Aside0.mk (below_step bel hb); clear hb) | ((with_reducible refine gate_callee (f := 44) rfl ?_); refine goesL_ (some 32) rfl rfl Try.func44 (by kernel_rfl) rfl #[.string a0, .string a1] rfl mapz ?_; (with_reducible refine (loop_Opened.calls a0 a1 t237 t238 _ A9.out).mono ?_); rintro e w18 ⟨rfl, hb⟩; refine ⟨_, rfl, ?_⟩; replace HB := Aside0.mk (below_step bel hb); clear hb) | ((with_reducible refine gate_callee (f := 45) rfl ?_); refine goesL_ (some 38) rfl rfl Try.func45 (by kernel_rfl) rfl #[.string a0, .string a1] rfl mapz ?_; (with_reducible refine (dropperref09_Opened.calls a0 a1 t239 t240 _ A10.out).mono ?_); rintro e w19 ⟨rfl, hb⟩; refine ⟨_, rfl, ?_⟩; replace HB := Aside0.mk (below_step bel hb); clear hb) | (go_at_call 15; (with_reducible refine (dropperlaw09_First.calls k  t241 _ A15.out).mono ?_); rintro e w20 ⟨rfl, hb⟩; replace HB := Aside0.mk (below_step bel hb); clear hb))
      go_ret
      exact ⟨ezz, bel⟩
     ·
      rw [if_neg c14] at H
      exact absurd H (by simp)
    ·
     rw [if_neg c13] at H
     exact absurd H (by simp)
   ·
    rw [if_neg c12] at H
    exact absurd H (by simp)
  ·
   rw [if_neg c11] at H
   exact absurd H (by simp)

end Go.Proofs.Yteikgnaikeleaaa.XLoop
-- Written by wip/xprint.py of this repo, over the kit's print.py: out of the translation; the oracles in it are by hand. Not trusted: Lean checks it.
namespace Go.Proofs.Yteikgnaikeleaaa.XLoop
open Go.RowKit Go.Proofs.Yteikgnaikeleaaa.XLoop Go.Proofs.YteikgnaikeleaaaW.PrintWords Go.Proofs.YteikgnaikeleaaaW.PrintLast Go.Proofs.YteikgnaikeleaaaW.PrintMore
def dropperlaw09_LoopSets.Pure : Prop := ∀ (a0 : ByteArray) (a1 : ByteArray), (a0.size ≤ maxLen) → (a1.size ≤ maxLen) → ∃ k, dropperlaw09_LoopSets.f k a0 a1 = some true
end Go.Proofs.Yteikgnaikeleaaa.XLoop

/- The circuits that come about if a letter is always closed, or open: program and reference answer the same. -/
namespace Go.Proofs.Yteikgnaikeleaaa.Pure
set_option linter.unusedVariables false
open Go.RowKit Go.Proofs.Yteikgnaikeleaaa.XLoop Go.Proofs.YteikgnaikeleaaaW.PrintWords Go.Proofs.YteikgnaikeleaaaW.PrintLast Go.Proofs.YteikgnaikeleaaaW.PrintMore

theorem LoopSets : dropperlaw09_LoopSets.Pure := by
 intro a b _ _
 refine ⟨300, ?_⟩
 have hF : dropperlaw09_First.f 300 = some true := first_evk 297
 unfold dropperlaw09_LoopSets.f
 rcases long_ev a b with hl | ⟨hl, h1, h2⟩
 ·
  rw [hl, Option.bind_some, if_pos rfl, hF]; rfl
 ·
  have e1 : dropperref09_Closed.f a b = some (tx (fixR a.data.toList b.data.toList true).1, (fixR a.data.toList b.data.toList true).2) := if_pos (by omega)
  have e2 : dropperref09_Opened.f a b = some (tx (fixR a.data.toList b.data.toList false).1, (fixR a.data.toList b.data.toList false).2) := if_pos (by omega)
  rw [hl, Option.bind_some, if_neg (by decide), hF, e1, e2]
  unfold loop_Closed.f loop_Opened.f
  simp only [Option.bind_some, beq_self_eq_true, if_true]
end Go.Proofs.Yteikgnaikeleaaa.Pure

-- Written by wip/xprint.py of this repo, over the kit's print.py: out of the translation; the oracles in it are by hand. Not trusted: Lean checks it.
namespace Go.Proofs.Yteikgnaikeleaaa.loopSets
open Go.ChangeShapes Go.WideShapes Go.ChangeAt Go.RowKit Go.Proofs.Yteikgnaikeleaaa.Open Go.Proofs.Yteikgnaikeleaaa.XLoop Go.Proofs.YteikgnaikeleaaaW.PrintWords Go.Proofs.YteikgnaikeleaaaW.PrintLast Go.Proofs.YteikgnaikeleaaaW.PrintMore
open Go.ChangeMaps (open_string shut_string)
set_option linter.unusedVariables false
set_option linter.unusedSimpArgs false
theorem own : ownKnob Try.prog.godebug = none := by kernel_rfl
theorem laidOut : laidOutB Try.prog = true := by kernel_rfl
set_option maxRecDepth 100000 in
theorem lifted (os : Os) (started : os.Started) (H : Type) (enc : TypeId × Value → H) :
  ReturnsInHanded {} Try.checked os 10 .any (Rows.loopSetsSpec.pre6 enc Try.prog Try.f10 Rows.loopSetsRow.domain false) (Rows.loopSetsSpec.post enc Try.prog Try.f10 false true false false) := by
 refine returnsInHanded_of_change_sized (C := Try.checked) own started (by kernel_rfl) Try.func10
  (ChangeSpec.witness6 (enc := enc) (C := Try.checked) false ⟨#[], #[.string ByteArray.empty, .string ByteArray.empty], []⟩ 8 (by kernel_rfl) (by kernel_rfl) (by kernel_rfl) (by kernel_rfl)) ?_
 intro W base args ds gs before hval0 hW hcnd hsz0 _
 have hval : ∀ (j : Nat) t v, Try.f10.params[j]? = some t → args[j]? = some v → Value.okWide Try.prog W .any base t v := hval0
 have hW' := hW
 obtain ⟨p, q, hA0, hV, rfl, hfz, hnd⟩ := hW
 have hA : DataW.TrodAll enc Try.prog W 0 (fun _ => true) true Try.f10.params.toList args.toList ds p := hA0
 rw [Try.params10] at hA hval
 obtain ⟨v0, vs0, d0, ds0, p0, q0, hargs, rfl, rfl, h0, r0⟩ := trodAll_cons hA
 obtain ⟨v1, vs1, d1, ds1, p1, q1, rfl, rfl, rfl, h1, r1⟩ := trodAll_cons r0
 obtain ⟨rfl, rfl, rfl⟩ := trodAll_nil r1
 obtain rfl : args = #[v0, v1] := by cases args; simp_all
 obtain ⟨rfl, rfl⟩ := trodVars_none hV
 obtain ⟨a0, rfl, rfl, rfl, y0⟩ := open_string Try.underlying9 (hval 0 9 v0 rfl rfl) h0
 obtain ⟨a1, rfl, rfl, rfl, y1⟩ := open_string Try.underlying9 (hval 1 9 v1 rfl rfl) h1
 clear hA0 hval0 hsz0
 obtain ⟨k, h⟩ := Pure.LoopSets a0 a1 y0 y1
 refine (dropperlaw09_LoopSets.calls k a0 a1 true W  h).mono fun e W' ⟨he, bel0⟩ => ?_
 have bel : Below W.heap.size W W' := bel0
 subst he
 exact ⟨_, rfl, _, _, _, [], _, [], hW', trodAll_mk1 (shut_bool Try.underlying4 _), (trodAll_cons_mk (shut_string Try.underlying9 y0) (trodAll_cons_mk (shut_string Try.underlying9 y1) trodAll_mk0)), rfl, bel.frame _, fun h => by cases h⟩
theorem over : Rows.loopSetsRow.holds Try.pinned (OpenSpec.ofChange Rows.loopSetsSpec) :=
 OpenClaim.holds_of_wide 10 Try.f10 rfl rfl rfl rfl rfl rfl rfl ⟨rfl, rfl, rfl, rfl, rfl⟩ rfl rfl rfl rfl rfl (by kernel_rfl) Try.func10 (by kernel_rfl)
  (of_decide_eq_true (by kernel_rfl)) (by unfold Func.isWrapper; first | (rw [if_pos (by decide +kernel)]; kernel_rfl) | (rw [if_neg (by decide +kernel)]; exact ⟨rfl, rfl⟩))
  (fun os started H enc _ => lifted os started H enc)
theorem proved : Rows.LoopSetsSaid := over
#print axioms proved
end Go.Proofs.Yteikgnaikeleaaa.loopSets
namespace Go.Proofs.Yteikgnaikeleaaa
theorem loopSets_holds : Rows.LoopSetsSaid := loopSets.proved
end Go.Proofs.Yteikgnaikeleaaa
