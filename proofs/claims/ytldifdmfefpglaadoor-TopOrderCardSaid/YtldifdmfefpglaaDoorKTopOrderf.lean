-- Written by wip/pack.py of this repo: texts of this claim, put together.
import Derived.Test.YtldifdmfefpglaaDoorKTopOrdere
namespace Go.Proofs.YtldifdmfefpglaaDoor.XFeed
open Go.RowKit Go.Proofs.YtldifdmfefpglaaDoorW.PrintWords Go.Proofs.YtldifdmfefpglaaDoorW.PrintLast Go.Proofs.YtldifdmfefpglaaDoorW.PrintMore
attribute [local go_sem] max2_int min2_int max_two min_two max_three min_three max_four min_four   -- for this text's walks alone
set_option linter.unusedVariables false
set_option linter.unusedSimpArgs false
/-! ### dropperref05_IsShut: function 16 -/
mutual
def dropperref05_IsShut.l0 : Nat → List Int → List Int → List Bool → Int → Int → List (S47) → List (S49) → Option (Bool × Int)
 | 0, _, _, _, _, _, _, _ => none
 | k + 1, x1, x2, x8, x9, x350000, x350001, x350002 => if x9 < (x2.length : Int) then (if 0 ≤ x9 then ((dropperref05_Good.f k x350000 x350001 x350002 (rd x2 x9) x1).bind fun t356 => (if t356 = true then (if x9 > 0 then (if 0 ≤ (wrap64 (x9 - 1)) then (if (wrap64 (x9 - 1)) < (x2.length : Int) then (if (rd x2 x9) ≤ (rd x2 (wrap64 (x9 - 1))) then (some (false, 0)) else (if 0 ≤ (rd x2 x9) then (if (rd x2 x9) < (x8.length : Int) then (dropperref05_IsShut.l0 k x1 x2 (x8.set ((rd x2 x9) : Int).toNat true) (wrap64 (x9 + 1)) x350000 x350001 x350002) else (none)) else (none))) else (none)) else (none)) else (if 0 ≤ (rd x2 x9) then (if (rd x2 x9) < (x8.length : Int) then (dropperref05_IsShut.l0 k x1 x2 (x8.set ((rd x2 x9) : Int).toNat true) (wrap64 (x9 + 1)) x350000 x350001 x350002) else (none)) else (none))) else (some (false, 0)))) else (none)) else (dropperref05_IsShut.l1 k x1 x2 x8 0 x350000 x350001 x350002)
def dropperref05_IsShut.l1 : Nat → List Int → List Int → List Bool → Int → Int → List (S47) → List (S49) → Option (Bool × Int)
 | 0, _, _, _, _, _, _, _ => none
 | k + 1, x1, x2, x8, x10, x350000, x350001, x350002 => if x10 < (x2.length : Int) then (dropperref05_IsShut.l2 k x1 x2 x8 x10 0 x350000 x350001 x350002) else (some (true, 0))
def dropperref05_IsShut.l2 : Nat → List Int → List Int → List Bool → Int → Int → Int → List (S47) → List (S49) → Option (Bool × Int)
 | 0, _, _, _, _, _, _, _, _ => none
 | k + 1, x1, x2, x8, x10, x11, x350000, x350001, x350002 => if x11 < (x350001.length : Int) then (if 0 ≤ x10 then (if x10 < (x2.length : Int) then (if 0 ≤ x11 then (if 0 ≤ (Go.bits .xor .i64 (rd x2 x10) (shl .i64 1 x11)) then (if (Go.bits .xor .i64 (rd x2 x10) (shl .i64 1 x11)) < (x8.length : Int) then (if (rdOf false x8 (Go.bits .xor .i64 (rd x2 x10) (shl .i64 1 x11)) = true) then (dropperref05_IsShut.l2 k x1 x2 x8 x10 (wrap64 (x11 + 1)) x350000 x350001 x350002) else ((dropperref05_Good.f k x350000 x350001 x350002 (Go.bits .xor .i64 (rd x2 x10) (shl .i64 1 x11)) x1).bind fun t365 => (if t365 = true then (some (false, 0)) else (dropperref05_IsShut.l2 k x1 x2 x8 x10 (wrap64 (x11 + 1)) x350000 x350001 x350002)))) else (none)) else (none)) else (none)) else (none)) else (none)) else (dropperref05_IsShut.l1 k x1 x2 x8 (wrap64 (x10 + 1)) x350000 x350001 x350002)
end
def dropperref05_IsShut.f (k : Nat) (a0_0 : Int) (l0_1 : List (S47)) (l0_2 : List (S49)) (l1 : List Int) (l2 : List Int) : Option (Bool × Int) := (dropperref05_Valid.f k a0_0 l0_1 l0_2).bind fun t350 => (if t350 = true then ((dropperref05_IsKeep.f k a0_0 l0_1 l0_2 l1).bind fun t351 => (if t351 = true then (if 0 ≤ (shl .i64 1 (l0_1.length : Int)) then (if (shl .i64 1 (l0_1.length : Int) : Int).toNat ≤ 281474976710656 then (dropperref05_IsShut.l0 k l1 l2 (List.replicate (shl .i64 1 (l0_1.length : Int) : Int).toNat false) 0 a0_0 l0_1 l0_2) else (none)) else (none)) else (some (false, 2)))) else (some (false, 50)))
def dropperref05_IsShut.T9 : Bool × List (List Nat × List Nat) := (true, [([], []), ([], []), ([], []), ([1, 2], [1, 2]), ([3], [3]), ([], []), ([0, 4, 5], [0, 4, 5]), ([6], [6]), ([7, 6], [7]), ([8], [8]), ([9, 8], [8, 9]), ([10, 8, 8], [8, 10]), ([11], [11]), ([11], [11]), ([12, 13, 11], [11, 12, 13]), ([14, 11], [11, 14]), ([11], [11]), ([11], [11]), ([17, 11], [11, 17]), ([16, 18, 11], [11, 16, 18]), ([19, 11], [11, 19]), ([15, 20, 11], [11, 15, 20]), ([11, 21, 8], [8, 11, 21]), ([8, 22], [8, 22])])
def dropperref05_IsShut.B9 : List Nat := [0, 0, 0, 6, 14, 0, 63, 127, 255, 511, 1023, 2047, 4095, 4095, 16383, 32767, 4095, 4095, 135167, 462847, 987135, 2097151, 4194303, 8388607]
theorem dropperref05_IsShut.tab9 : rtab .any (opsOf Tryd.f16 9) = dropperref05_IsShut.T9 := by kernel_rfl
theorem dropperref05_IsShut.bits9 : waitsOk dropperref05_IsShut.T9.2 dropperref05_IsShut.B9 = true := by kernel_rfl
def dropperref05_IsShut.T18 : Bool × List (List Nat × List Nat) := (true, [([], []), ([], []), ([0, 1], [0, 1]), ([2], [2]), ([], []), ([4], [4]), ([3, 5], [3, 5]), ([6, 0, 1, 2, 3, 4, 5, 6], [6])])
def dropperref05_IsShut.B18 : List Nat := [0, 0, 3, 7, 0, 16, 63, 127]
theorem dropperref05_IsShut.tab18 : rtab .any (opsOf Tryd.f16 18) = dropperref05_IsShut.T18 := by kernel_rfl
theorem dropperref05_IsShut.bits18 : waitsOk dropperref05_IsShut.T18.2 dropperref05_IsShut.B18 = true := by kernel_rfl
set_option maxHeartbeats 8000000 in
set_option maxRecDepth 100000 in
theorem dropperref05_IsShut.calls (k : Nat) (a0_0 : Int) (A0_1 : Option Addr) (c0_1 : Nat) (l0_1 : List (S47)) (A0_2 : Option Addr) (c0_2 : Nat) (l0_2 : List (S49)) (A1 : Option Addr) (c1 : Nat) (l1 : List Int) (A2 : Option Addr) (c2 : Nat) (l2 : List Int) (r1 : Bool) (r2 : Int) (w : World) (hr0_1 : Kd.C k47 w A0_1 l0_1.length l0_1) (hc0_1 : l0_1.length ≤ c0_1) (hr0_2 : Kd.C k49 w A0_2 l0_2.length l0_2) (hc0_2 : l0_2.length ≤ c0_2) (hr1 : Kd.C (Kd.int .i64) w A1 l1.length l1) (hc1 : l1.length ≤ c1) (hr2 : Kd.C (Kd.int .i64) w A2 l2.length l2) (hc2 : l2.length ≤ c2) (h : dropperref05_IsShut.f k a0_0 l0_1 l0_2 l1 l2 = some (r1, r2)) :
  Calls Tryd.prog 16 #[.agg #[.int .i64 a0_0, .slice A0_1 l0_1.length c0_1, .slice A0_2 l0_2.length c0_2], .slice A1 l1.length c1, .slice A2 l2.length c2] w fun e w' => e = .returned (.tuple #[.bool r1, .int .i64 r2]) ∧ Below w.heap.size w w' := by
 have hu25 := Tryd.underlying25
 have HR0_1 := Aside0.mk hr0_1
 have HC0_1 := Aside0.mk hc0_1
 clear hr0_1 hc0_1
 have HR0_2 := Aside0.mk hr0_2
 have HC0_2 := Aside0.mk hc0_2
 clear hr0_2 hc0_2
 have HR1 := Aside0.mk hr1
 have HC1 := Aside0.mk hc1
 clear hr1 hc1
 have HR2 := Aside0.mk hr2
 have HC2 := Aside0.mk hc2
 clear hr2 hc2
 have HB := Aside0.mk (Below.refl w.heap.size w)
 have H : ((dropperref05_Valid.f k a0_0 l0_1 l0_2).bind fun t350 => (if t350 = true then ((dropperref05_IsKeep.f k a0_0 l0_1 l0_2 l1).bind fun t351 => (if t351 = true then (if 0 ≤ (shl .i64 1 (l0_1.length : Int)) then (if (shl .i64 1 (l0_1.length : Int) : Int).toNat ≤ 281474976710656 then (dropperref05_IsShut.l0 k l1 l2 (List.replicate (shl .i64 1 (l0_1.length : Int) : Int).toNat false) 0 a0_0 l0_1 l0_2) else (none)) else (none)) else (some (false, 2)))) else (some (false, 50)))) = some (r1, r2) := h
 clear h
 replace H := Option.bind_eq_some_iff.mp H
 obtain ⟨t350, A40, H⟩ := H
 try dsimp only at H
 have A4 := Aside0.mk A40
 clear A40
 by_cases c5 : t350 = true
 ·
  subst c5
  rw [if_pos rfl] at H
  replace H := Option.bind_eq_some_iff.mp H
  obtain ⟨t351, A60, H⟩ := H
  try dsimp only at H
  have A6 := Aside0.mk A60
  clear A60
  by_cases c7 : t351 = true
  ·
   subst c7
   rw [if_pos rfl] at H
   obtain ⟨ji8, hji8⟩ : ∃ j_ : Int, (shl .i64 1 (l0_1.length : Int)) = j_ := ⟨_, rfl⟩
   replace H : (if 0 ≤ (ji8) then (if (ji8 : Int).toNat ≤ 281474976710656 then (dropperref05_IsShut.l0 k l1 l2 (List.replicate (ji8 : Int).toNat false) 0 a0_0 l0_1 l0_2) else (none)) else (none)) = some (r1, r2) := by first | (rw [hji8] at H; exact H) | (simp only [hji8] at H ⊢; exact H)
   (try rw [hji8] at A4)
   (try rw [hji8] at A6)
   have hji8_ : (IntKind.i64.wrap (1 * 2 ^ min (l0_1.length : Int).toNat 64)) = ji8 := hji8
   have hji8z : (l0_1.length : Int) ≤ 64 → (IntKind.i64.wrap (1 * 2 ^ (l0_1.length : Int).toNat)) = ji8 := shl_small hji8
   have hji8p : (IntKind.i64.wrap (1 * 2 ^ min l0_1.length 64)) = ji8 := hji8_
   have hji8q : (l0_1.length : Int) ≤ 64 → (IntKind.i64.wrap (1 * 2 ^ l0_1.length)) = ji8 := hji8z
   have hji8r : (IntKind.i64.wrap (2 ^ min l0_1.length 64)) = ji8 := by have h_ := hji8p; rw [Int.one_mul] at h_; exact h_
   have hji8s : (l0_1.length : Int) ≤ 64 → (IntKind.i64.wrap (2 ^ l0_1.length)) = ji8 := fun hle_ => by have h_ := hji8q hle_; rw [Int.one_mul] at h_; exact h_
   have hji8u : (IntKind.i64.wrap (2 ^ min (l0_1.length : Int).toNat 64)) = ji8 := by have h_ := hji8_; rw [Int.one_mul] at h_; exact h_
   have hji8v : (l0_1.length : Int) ≤ 64 → (IntKind.i64.wrap (2 ^ (l0_1.length : Int).toNat)) = ji8 := fun hle_ => by have h_ := hji8z hle_; rw [Int.one_mul] at h_; exact h_
   have hji8y : (wrap64 (1 * 2 ^ min (l0_1.length : Int).toNat 64)) = ji8 := (i64_w _).symm.trans hji8_
   have hji8x : (l0_1.length : Int) ≤ 64 → (wrap64 (1 * 2 ^ (l0_1.length : Int).toNat)) = ji8 := fun h_ => (i64_w _).symm.trans (hji8z h_)
   by_cases c9 : 0 ≤ (ji8)
   ·
    rw [if_pos c9] at H
    have c9b0 := eq_true c9
    have c9b1 : decide (0 ≤ (ji8)) = true := decide_eq_true c9
    clear c9
    by_cases c10 : (ji8 : Int).toNat ≤ 281474976710656
    ·
     rw [if_pos c10] at H
     have c10b0 := eq_true c10
     have c10b1 : decide ((ji8 : Int).toNat ≤ 281474976710656) = true := decide_eq_true c10
     clear c10
     obtain ⟨y352, hy352⟩ : ∃ y_ : List Bool, y_ = (List.replicate (ji8 : Int).toNat false) := ⟨_, rfl⟩
     replace H : (dropperref05_IsShut.l0 k l1 l2 y352 0 a0_0 l0_1 l0_2) = some (r1, r2) := by first | (rw [hy352]; with_reducible exact H) | (have H2_ := (Option.bind_some _ _).symm.trans H; rw [hy352]; with_reducible exact H2_) | (have H2_ := (Option.bind_some _ _).symm.trans H; with_reducible exact H2_) | with_reducible exact H | (rw [hy352]; exact H) | exact H
     have Ny352 := Aside0.mk hy352
     clear hy352
     have H' := Aside0.mk H
     clear H
     go_enter Tryd.func16, Tryd.ntmps16
     go_wp2_with (first | ((with_reducible refine gate_dst (N := 3) rfl ?_); refine box_event ?hg (N := 3) ?hd (cs := #[.int .i64 a0_0, .slice A0_1 l0_1.length c0_1, .slice A0_2 l0_2.length c0_2]) (t := 25) ?hr ?_; (case hd => rfl); (case hg => rfl); (case hr => first | (go_simp; done) | (go_simp; rfl)); intro gb349 hg w11 hbox hb; have BK349 := Aside0.mk (hbox); have GW349 := bsz (w := w) hg; have GE349 := GW349; replace HB := Aside0.mk (below_step bel hb); clear hb hbox hg; obtain ⟨hcz12_0, hcz12_1, hcz12_2⟩ := bc3 BK349.out) | ((with_reducible refine gate_callee (f := 4) rfl ?_); refine goesL_ (some 15) rfl rfl Tryd.func4 (by kernel_rfl) rfl #[.agg #[.int .i64 a0_0, .slice A0_1 l0_1.length c0_1, .slice A0_2 l0_2.length c0_2]] rfl mapz ?_; (with_reducible refine (dropperref05_Valid.calls k a0_0 _ _ l0_1 _ _ l0_2 true _ (cbz HR0_1) HC0_1.out (cbz HR0_2) HC0_2.out A4.out).mono ?_); rintro e w13 ⟨rfl, hb⟩; refine ⟨_, rfl, ?_⟩; replace BK349 := Aside0.mk (blk_below (g := gb349) blkz hb); replace HB := Aside0.mk (below_step bel hb); clear hb; obtain ⟨hcz14_0, hcz14_1, hcz14_2⟩ := bc3 BK349.out) | ((with_reducible refine gate_callee (f := 5) rfl ?_); refine goesL_ (some 20) rfl rfl Tryd.func5 (by kernel_rfl) rfl #[.agg #[.int .i64 a0_0, .slice A0_1 l0_1.length c0_1, .slice A0_2 l0_2.length c0_2], .slice A1 l1.length c1] rfl mapz ?_; (with_reducible refine (dropperref05_IsKeep.calls k a0_0 _ _ l0_1 _ _ l0_2 _ _ l1 true _ (cbz HR0_1) HC0_1.out (cbz HR0_2) HC0_2.out (cbz HR1) HC1.out A6.out).mono ?_); rintro e w15 ⟨rfl, hb⟩; refine ⟨_, rfl, ?_⟩; replace BK349 := Aside0.mk (blk_below (g := gb349) blkz hb); replace HB := Aside0.mk (below_step bel hb); clear hb; obtain ⟨hcz16_0, hcz16_1, hcz16_2⟩ := bc3 BK349.out) | ((with_reducible refine gate_dst (N := 26) rfl ?_); refine Kd.R_make Kd.bool _ 4 rfl (N := 26) rfl 73 _ _ rfl ji8 rfl rfl Tryd.underlying73 (.bool false) 1 info4 rfl (by decide) (by omega) false (ok := fun _ => True) (okp := fun _ => True) rfl (fun _ hk => hk) trivial (of_decide_eq_true asz) (Nat.le_trans (Nat.mul_le_mul_right _ (of_decide_eq_true asz : ji8.toNat ≤ 281474976710656)) (by omega)) (Below.refl _ _) (Nat.le_refl _) ?_; intro v353 w17 ho18 hb hg_ hnew_; clear hg_ hnew_; (first | rw [← Ny352.out] at ho18 | (simp only [Int.reduceToNat] at ho18; rw [← Ny352.out] at ho18)); have HO354 := Aside0.mk (Kd.R_lower ho18 (below_size bel)); replace BK349 := Aside0.mk (blk_below (g := gb349) blkz hb); replace HB := Aside0.mk (below_step bel hb); clear hb ho18))
     go_loopg [9] k (fun kq v9 w' => ∃ (x8_1 : List Bool) (x9_1 : Int), v9 = .int .i64 x9_1 ∧ Aside0 (dropperref05_IsShut.l0 kq l1 l2 x8_1 x9_1 a0_0 l0_1 l0_2 = some (r1, r2)) ∧ Aside0 (kq ≤ k) ∧ Aside0 (Kd.R Kd.bool 4 w' w.heap.size (fun _ => True) v353 x8_1) ∧ Aside0 (w'.heap[gb349]? = some (.cells #[.int .i64 a0_0, (.slice A0_1 l0_1.length c0_1), (.slice A0_2 l0_2.length c0_2)] 25 (0, 0))) ∧ Aside0 (Below w.heap.size w w'))
     case atStart => exact ⟨(y352), (0), rsz, H', ⟨Nat.le_refl _⟩, ⟨by (with_reducible repeat (first | apply Kd.R_alloc | apply Kd.R_drewN | apply Kd.R_drew)); exact HO354.out⟩, ⟨blkz⟩, ⟨bel⟩⟩
     case round =>
      clear H'
      (try clear c1); (try clear c2); (try clear p2); (try clear c4); (try clear c5); (try clear p6); (try clear c7); (try clear c9); (try clear c9b0); (try clear c9b1); (try clear c10); (try clear c10b0); (try clear c10b1); (try clear c16); (try clear hcz12_0); (try clear hcz12_1); (try clear hcz12_2); (try clear hcz14_0); (try clear hcz14_1); (try clear hcz14_2); (try clear hcz16_0); (try clear hcz16_1); (try clear hcz16_2); (try clear hfz12_0); (try clear hfz12_1); (try clear hfz12_2); (try clear hfz14_0); (try clear hfz14_1); (try clear hfz14_2); (try clear hfz16_0); (try clear hfz16_1); (try clear hfz16_2)
      obtain ⟨x8_1, x9_1, rfl, HA, HK1, HO_8, BK349, HB⟩ := hrel
      cases gk with
      | zero => exact absurd HA.out (by simp [dropperref05_IsShut.l0])
      | succ k1 =>
       have H := HA.out
       clear HA
       simp only [dropperref05_IsShut.l0] at H
       by_cases c19 : x9_1 < (l2.length : Int)
       ·
        rw [if_pos c19] at H
        have c19b0 : decide (x9_1 < (l2.length : Int)) = true := decide_eq_true c19
        clear c19
        by_cases c20 : 0 ≤ x9_1
        ·
         rw [if_pos c20] at H
         have c20b0 : decide (0 ≤ x9_1) = true := decide_eq_true c20
         clear c20
         replace H := Option.bind_eq_some_iff.mp H
         obtain ⟨t356, A210, H⟩ := H
         try dsimp only at H
         have A21 := Aside0.mk A210
         clear A210
         by_cases c22 : t356 = true
         ·
          subst c22
          rw [if_pos rfl] at H
          by_cases c23 : x9_1 > 0
          ·
           rw [if_pos c23] at H
           have c23b0 : decide (0 < x9_1) = true := decide_eq_true c23
           clear c23
           obtain ⟨ji24, hji24⟩ : ∃ j_ : Int, (wrap64 (x9_1 - 1)) = j_ := ⟨_, rfl⟩
           replace H : (if 0 ≤ (ji24) then (if (ji24) < (l2.length : Int) then (if (rd l2 x9_1) ≤ (rd l2 (ji24)) then (some (false, 0)) else (if 0 ≤ (rd l2 x9_1) then (if (rd l2 x9_1) < (x8_1.length : Int) then (dropperref05_IsShut.l0 k1 l1 l2 (x8_1.set ((rd l2 x9_1) : Int).toNat true) (wrap64 (x9_1 + 1)) a0_0 l0_1 l0_2) else (none)) else (none))) else (none)) else (none)) = some (r1, r2) := by first | (rw [hji24] at H; exact H) | (simp only [hji24] at H ⊢; exact H)
           (try rw [hji24] at A21)
           have hji24w : (IntKind.i64.wrap (x9_1 - 1)) = ji24 := (i64_w _).trans hji24
           by_cases c25 : 0 ≤ (ji24)
           ·
            rw [if_pos c25] at H
            have c25b0 : decide (0 ≤ (ji24)) = true := decide_eq_true c25
            clear c25
            by_cases c26 : (ji24) < (l2.length : Int)
            ·
             rw [if_pos c26] at H
             have c26b0 : decide ((ji24) < (l2.length : Int)) = true := decide_eq_true c26
             clear c26
             by_cases c27 : (rd l2 x9_1) ≤ (rd l2 (ji24))
             ·
              rw [if_pos c27] at H
              have c27b0 : decide ((rd l2 x9_1) ≤ (rd l2 (ji24))) = true := decide_eq_true c27
              clear c27
              simp only [Option.some.injEq, Prod.mk.injEq] at H
              obtain ⟨rfl, rfl⟩ := H
              try go_wp2
              have n0_ := Aside0.mk (Kd.R_drew HO_8.out)
              have n1_ := Aside0.mk (blk_drew BK349.out)
              have n2_ := Aside0.mk (below_drew1 HB.out)
              clear HO_8
              clear BK349
              clear HB
              have HO_8 := n0_
              have BK349 := n1_
              have HB := n2_
              clear n0_ n1_ n2_
              have p355 : 0 ≤ (x9_1 : Int) := of_decide_eq_true asz
              have q355 : x9_1 < (l2.length : Int) := of_decide_eq_true asz
              obtain ⟨ad355, e355, hx355_0⟩ := Kd.at_int HR2.out x9_1 p355 q355
              have hw355_0 := hx355_0
              cases e355
              replace hx355_0 := (HB.out.cell (World.block_lt_of_cell? w _ hx355_0)).trans hx355_0
              replace p355 := eq_true p355
              replace q355 := eq_true q355
              have p357 : 0 ≤ (x9_1 : Int) := of_decide_eq_true asz
              have q357 : x9_1 < (l2.length : Int) := of_decide_eq_true asz
              obtain ⟨ad357, e357, hx357_0⟩ := Kd.at_int HR2.out x9_1 p357 q357
              have hw357_0 := hx357_0
              obtain rfl : ad355 = ad357 := (by injection e357)
              replace hx357_0 := (HB.out.cell (World.block_lt_of_cell? w _ hx357_0)).trans hx357_0
              replace p357 := eq_true p357
              replace q357 := eq_true q357
              have p358 : 0 ≤ ((ji24) : Int) := of_decide_eq_true asz
              have q358 : (ji24) < (l2.length : Int) := of_decide_eq_true asz
              obtain ⟨ad358, e358, hx358_0⟩ := Kd.at_int HR2.out (ji24) p358 q358
              have hw358_0 := hx358_0
              obtain rfl : ad355 = ad358 := (by injection e358)
              replace hx358_0 := (HB.out.cell (World.block_lt_of_cell? w _ hx358_0)).trans hx358_0
              replace p358 := eq_true p358
              replace q358 := eq_true q358
              refine start_ (n := 24) (S := fun w' => w'.cell? ⟨gb349, 0, none⟩ = some (.int .i64 a0_0) ∧ w'.cell? ⟨gb349, 1, none⟩ = some (.slice A0_1 l0_1.length c0_1) ∧ w'.cell? ⟨gb349, 2, none⟩ = some (.slice A0_2 l0_2.length c0_2) ∧ w'.cell? (ad355.add (x9_1).toNat) = some (.int .i64 (rd l2 x9_1)) ∧ w'.cell? (ad355.add (x9_1).toNat) = some (.int .i64 (rd l2 x9_1)) ∧ w'.cell? (ad355.add ((ji24)).toNat) = some (.int .i64 (rd l2 (ji24)))) (ds := []) #[false, false, false, false, false, false, false, false, false, false, false, false, false, false, false, false, false, false, false, false, false, false, false, false] (by kernel_rfl) rfl rfl ⟨(blk_cell BK349.out 0).trans rfl, (blk_cell BK349.out 1).trans rfl, (blk_cell BK349.out 2).trans rfl, ((HB.out.cell (World.block_lt_of_cell? w _ hw355_0)).trans hw355_0), ((HB.out.cell (World.block_lt_of_cell? w _ hw357_0)).trans hw357_0), ((HB.out.cell (World.block_lt_of_cell? w _ hw358_0)).trans hw358_0)⟩ (fun hHeld => ?_); refine with_tabW dropperref05_IsShut.tab9 dropperref05_IsShut.bits9 (fun HT_ HW_ => ?_)
              generalize wr.drew = w28 at HO_8 BK349 HB hx355_0 hx357_0 hx358_0 hHeld ⊢
              refine pst (i := 1) (N := some 34) (bz 24 2) (any_of HT_.out (by kernel_rfl)) ?_
              refine pst (i := 2) (N := some 35) (bz 24 6) (any_of HT_.out (by kernel_rfl)) ?_
              refine pst (i := 3) (N := some 36) (bz 24 14) (any_of HT_.out (by kernel_rfl)) ?_
              refine pst (i := 5) (N := some 38) (bz 24 46) (any_of HT_.out (by kernel_rfl)) ?_
              refine tst6 (i := 0) (N := some 33) (bz 24 47) (take_ofW HT_.out HW_.out (by kernel_rfl)) hHeld ?_
              refine tst6 (i := 4) (N := some 37) (bz 24 63) (take_ofW HT_.out HW_.out (by kernel_rfl)) hHeld ?_
              refine one_ (i := 6) (N := some 39) #[true, true, true, true, true, true, true, false, false, false, false, false, false, false, false, false, false, false, false, false, false, false, false, false] rfl rfl (one_of HT_.out (by kernel_rfl)) (by decide) (fun K hK => ?_)
              refine goes_ Tryd.func6 (by kernel_rfl) rfl #[.agg #[.int .i64 a0_0, .slice A0_1 l0_1.length c0_1, .slice A0_2 l0_2.length c0_2], .int .i64 (rd l2 x9_1), .slice A1 l1.length c1] (by rfl) rfl rfl mapz ?_
              with_reducible refine (dropperref05_Good.calls k1 a0_0 _ _ l0_1 _ _ l0_2 (rd l2 x9_1) _ _ l1 true _ ?side1 ?side2 ?side3 ?side4 ?side5 ?side6 A21.out).mono ?_
              (case side1 => exact cbz HR0_1)
              (case side2 => exact HC0_1.out)
              (case side3 => exact cbz HR0_2)
              (case side4 => exact HC0_2.out)
              (case side5 => exact cbz HR1)
              (case side6 => exact HC1.out)
              rintro e w29 ⟨rfl, hb⟩
              refine ⟨_, rfl, ?_⟩
              have n0_ := Aside0.mk (Kd.R_below (ownx HO_8) hb)
              have n1_ := Aside0.mk (blk_below (g := gb349) blkz hb)
              have n2_ := Aside0.mk (below_step bel hb)
              clear HO_8
              clear BK349
              clear HB
              have HO_8 := n0_
              have BK349 := n1_
              have HB := n2_
              clear n0_ n1_ n2_
              (try clear hb)
              (try clear hb2)
              (try clear hk)
              (try clear hi)
              refine hK.out _ _ ⟨(blk_cell BK349.out 0).trans rfl, (blk_cell BK349.out 1).trans rfl, (blk_cell BK349.out 2).trans rfl, ((HB.out.cell (World.block_lt_of_cell? w _ hw355_0)).trans hw355_0), ((HB.out.cell (World.block_lt_of_cell? w _ hw357_0)).trans hw357_0), ((HB.out.cell (World.block_lt_of_cell? w _ hw358_0)).trans hw358_0)⟩ (fun hHeld => ?_)
              clear hK K
              refine norm_ (a' := ?_) ?_ ?_
              rotate_left
              ·
               show Act.put _ (some 39) _ = _
               simp only [Act.put, List.setIfInBounds_toArray, List.set_cons_zero, List.set_cons_succ, i64_w, i32_w]
               rfl
              refine pst (i := 7) (N := some 40) (bz 24 255) (any_of HT_.out (by kernel_rfl)) ?_
              refine pst (i := 8) (N := some 41) (bz 24 511) (any_of HT_.out (by kernel_rfl)) ?_
              refine pst (i := 9) (N := some 42) (bz 24 1023) (any_of HT_.out (by kernel_rfl)) ?_
              refine pst (i := 10) (N := some 43) (bz 24 2047) (any_of HT_.out (by kernel_rfl)) ?_
              refine pst (i := 11) (N := some 44) (bz 24 4095) (any_of HT_.out (by kernel_rfl)) ?_
              refine pst (i := 12) (N := some 45) (bz 24 8191) (any_of HT_.out (by kernel_rfl)) ?_
              refine pst (i := 13) (N := some 46) (bz 24 16383) (any_of HT_.out (by kernel_rfl)) ?_
              refine pst (i := 14) (N := some 47) (bz 24 32767) (any_of HT_.out (by kernel_rfl)) ?_
              refine pst (i := 16) (N := some 49) (bz 24 98303) (any_of HT_.out (by kernel_rfl)) ?_
              refine pst (i := 17) (N := some 50) (bz 24 229375) (any_of HT_.out (by kernel_rfl)) ?_
              refine pst (i := 18) (N := some 51) (bz 24 491519) (any_of HT_.out (by kernel_rfl)) ?_
              refine pst (i := 19) (N := some 52) (bz 24 1015807) (any_of HT_.out (by kernel_rfl)) ?_
              refine tst6 (i := 15) (N := some 48) (bz 24 1048575) (take_ofW HT_.out HW_.out (by kernel_rfl)) hHeld ?_
              refine tst6 (i := 20) (N := some 53) (bz 24 2097151) (take_ofW HT_.out HW_.out (by kernel_rfl)) hHeld ?_
              refine pst (i := 21) (N := some 54) (bz 24 4194303) (any_of HT_.out (by kernel_rfl)) ?_
              refine pst (i := 22) (N := some 55) (bz 24 8388607) (any_of HT_.out (by kernel_rfl)) ?_
              refine pst (i := 23) (N := some 56) (bz 24 16777215) (any_of HT_.out (by kernel_rfl)) ?_
              refine done_ (done_of HT_.out (by kernel_rfl)) ?_
              try go_wp2
              go_ret2
              exact ⟨by first | rfl | (simp [errW_none, errW_some] <;> rfl) | (simp only [← hji8, ← hji24]; first | rfl | (simp [errW_none, errW_some] <;> rfl)) | (simp [*, errW_none, errW_some] <;> rfl), bel⟩
             ·
              rw [if_neg c27] at H
              have c27b0 : decide ((rd l2 x9_1) ≤ (rd l2 (ji24))) = false := decide_eq_false c27
              clear c27
              by_cases c30 : 0 ≤ (rd l2 x9_1)
              ·
               rw [if_pos c30] at H
               have c30b0 : decide (0 ≤ (rd l2 x9_1)) = true := decide_eq_true c30
               clear c30
               by_cases c31 : (rd l2 x9_1) < (x8_1.length : Int)
               ·
                rw [if_pos c31] at H
                have c31b0 : decide ((rd l2 x9_1) < (x8_1.length : Int)) = true := decide_eq_true c31
                clear c31
                obtain ⟨y360, hy360⟩ : ∃ y_ : List Bool, y_ = (x8_1.set ((rd l2 x9_1) : Int).toNat true) := ⟨_, rfl⟩
                replace H : (dropperref05_IsShut.l0 k1 l1 l2 y360 (wrap64 (x9_1 + 1)) a0_0 l0_1 l0_2) = some (r1, r2) := by first | (rw [hy360]; with_reducible exact H) | (have H2_ := (Option.bind_some _ _).symm.trans H; rw [hy360]; with_reducible exact H2_) | (have H2_ := (Option.bind_some _ _).symm.trans H; with_reducible exact H2_) | with_reducible exact H | (rw [hy360]; exact H) | exact H
                have Ny360 := Aside0.mk hy360
                clear hy360
                have H' := Aside0.mk H
                clear H
                try go_wp2
                have n0_ := Aside0.mk (Kd.R_drew HO_8.out)
                have n1_ := Aside0.mk (blk_drew BK349.out)
                have n2_ := Aside0.mk (below_drew1 HB.out)
                clear HO_8
                clear BK349
                clear HB
                have HO_8 := n0_
                have BK349 := n1_
                have HB := n2_
                clear n0_ n1_ n2_
                have p355 : 0 ≤ (x9_1 : Int) := of_decide_eq_true asz
                have q355 : x9_1 < (l2.length : Int) := of_decide_eq_true asz
                obtain ⟨ad355, e355, hx355_0⟩ := Kd.at_int HR2.out x9_1 p355 q355
                have hw355_0 := hx355_0
                cases e355
                replace hx355_0 := (HB.out.cell (World.block_lt_of_cell? w _ hx355_0)).trans hx355_0
                replace p355 := eq_true p355
                replace q355 := eq_true q355
                have p357 : 0 ≤ (x9_1 : Int) := of_decide_eq_true asz
                have q357 : x9_1 < (l2.length : Int) := of_decide_eq_true asz
                obtain ⟨ad357, e357, hx357_0⟩ := Kd.at_int HR2.out x9_1 p357 q357
                have hw357_0 := hx357_0
                obtain rfl : ad355 = ad357 := (by injection e357)
                replace hx357_0 := (HB.out.cell (World.block_lt_of_cell? w _ hx357_0)).trans hx357_0
                replace p357 := eq_true p357
                replace q357 := eq_true q357
                have p358 : 0 ≤ ((ji24) : Int) := of_decide_eq_true asz
                have q358 : (ji24) < (l2.length : Int) := of_decide_eq_true asz
                obtain ⟨ad358, e358, hx358_0⟩ := Kd.at_int HR2.out (ji24) p358 q358
                have hw358_0 := hx358_0
                obtain rfl : ad355 = ad358 := (by injection e358)
                replace hx358_0 := (HB.out.cell (World.block_lt_of_cell? w _ hx358_0)).trans hx358_0
                replace p358 := eq_true p358
                replace q358 := eq_true q358
                refine start_ (n := 24) (S := fun w' => w'.cell? ⟨gb349, 0, none⟩ = some (.int .i64 a0_0) ∧ w'.cell? ⟨gb349, 1, none⟩ = some (.slice A0_1 l0_1.length c0_1) ∧ w'.cell? ⟨gb349, 2, none⟩ = some (.slice A0_2 l0_2.length c0_2) ∧ w'.cell? (ad355.add (x9_1).toNat) = some (.int .i64 (rd l2 x9_1)) ∧ w'.cell? (ad355.add (x9_1).toNat) = some (.int .i64 (rd l2 x9_1)) ∧ w'.cell? (ad355.add ((ji24)).toNat) = some (.int .i64 (rd l2 (ji24)))) (ds := []) #[false, false, false, false, false, false, false, false, false, false, false, false, false, false, false, false, false, false, false, false, false, false, false, false] (by kernel_rfl) rfl rfl ⟨(blk_cell BK349.out 0).trans rfl, (blk_cell BK349.out 1).trans rfl, (blk_cell BK349.out 2).trans rfl, ((HB.out.cell (World.block_lt_of_cell? w _ hw355_0)).trans hw355_0), ((HB.out.cell (World.block_lt_of_cell? w _ hw357_0)).trans hw357_0), ((HB.out.cell (World.block_lt_of_cell? w _ hw358_0)).trans hw358_0)⟩ (fun hHeld => ?_); refine with_tabW dropperref05_IsShut.tab9 dropperref05_IsShut.bits9 (fun HT_ HW_ => ?_)
                generalize wr.drew = w33 at HO_8 BK349 HB hx355_0 hx357_0 hx358_0 hHeld ⊢
                refine pst (i := 1) (N := some 34) (bz 24 2) (any_of HT_.out (by kernel_rfl)) ?_
                refine pst (i := 2) (N := some 35) (bz 24 6) (any_of HT_.out (by kernel_rfl)) ?_
                refine pst (i := 3) (N := some 36) (bz 24 14) (any_of HT_.out (by kernel_rfl)) ?_
                refine pst (i := 5) (N := some 38) (bz 24 46) (any_of HT_.out (by kernel_rfl)) ?_
                refine tst6 (i := 0) (N := some 33) (bz 24 47) (take_ofW HT_.out HW_.out (by kernel_rfl)) hHeld ?_
                refine tst6 (i := 4) (N := some 37) (bz 24 63) (take_ofW HT_.out HW_.out (by kernel_rfl)) hHeld ?_
                refine one_ (i := 6) (N := some 39) #[true, true, true, true, true, true, true, false, false, false, false, false, false, false, false, false, false, false, false, false, false, false, false, false] rfl rfl (one_of HT_.out (by kernel_rfl)) (by decide) (fun K hK => ?_)
                refine goes_ Tryd.func6 (by kernel_rfl) rfl #[.agg #[.int .i64 a0_0, .slice A0_1 l0_1.length c0_1, .slice A0_2 l0_2.length c0_2], .int .i64 (rd l2 x9_1), .slice A1 l1.length c1] (by rfl) rfl rfl mapz ?_
                with_reducible refine (dropperref05_Good.calls k1 a0_0 _ _ l0_1 _ _ l0_2 (rd l2 x9_1) _ _ l1 true _ ?side1 ?side2 ?side3 ?side4 ?side5 ?side6 A21.out).mono ?_
                (case side1 => exact cbz HR0_1)
                (case side2 => exact HC0_1.out)
                (case side3 => exact cbz HR0_2)
                (case side4 => exact HC0_2.out)
                (case side5 => exact cbz HR1)
                (case side6 => exact HC1.out)
                rintro e w34 ⟨rfl, hb⟩
                refine ⟨_, rfl, ?_⟩
                have n0_ := Aside0.mk (Kd.R_below (ownx HO_8) hb)
                have n1_ := Aside0.mk (blk_below (g := gb349) blkz hb)
                have n2_ := Aside0.mk (below_step bel hb)
                clear HO_8
                clear BK349
                clear HB
                have HO_8 := n0_
                have BK349 := n1_
                have HB := n2_
                clear n0_ n1_ n2_
                (try clear hb)
                (try clear hb2)
                (try clear hk)
                (try clear hi)
                refine hK.out _ _ ⟨(blk_cell BK349.out 0).trans rfl, (blk_cell BK349.out 1).trans rfl, (blk_cell BK349.out 2).trans rfl, ((HB.out.cell (World.block_lt_of_cell? w _ hw355_0)).trans hw355_0), ((HB.out.cell (World.block_lt_of_cell? w _ hw357_0)).trans hw357_0), ((HB.out.cell (World.block_lt_of_cell? w _ hw358_0)).trans hw358_0)⟩ (fun hHeld => ?_)
                clear hK K
                refine norm_ (a' := ?_) ?_ ?_
                rotate_left
                ·
                 show Act.put _ (some 39) _ = _
                 simp only [Act.put, List.setIfInBounds_toArray, List.set_cons_zero, List.set_cons_succ, i64_w, i32_w]
                 rfl
                refine pst (i := 7) (N := some 40) (bz 24 255) (any_of HT_.out (by kernel_rfl)) ?_
                refine pst (i := 8) (N := some 41) (bz 24 511) (any_of HT_.out (by kernel_rfl)) ?_
                refine pst (i := 9) (N := some 42) (bz 24 1023) (any_of HT_.out (by kernel_rfl)) ?_
                refine pst (i := 10) (N := some 43) (bz 24 2047) (any_of HT_.out (by kernel_rfl)) ?_
                refine pst (i := 11) (N := some 44) (bz 24 4095) (any_of HT_.out (by kernel_rfl)) ?_
                refine pst (i := 12) (N := some 45) (bz 24 8191) (any_of HT_.out (by kernel_rfl)) ?_
                refine pst (i := 13) (N := some 46) (bz 24 16383) (any_of HT_.out (by kernel_rfl)) ?_
                refine pst (i := 14) (N := some 47) (bz 24 32767) (any_of HT_.out (by kernel_rfl)) ?_
                refine pst (i := 16) (N := some 49) (bz 24 98303) (any_of HT_.out (by kernel_rfl)) ?_
                refine pst (i := 17) (N := some 50) (bz 24 229375) (any_of HT_.out (by kernel_rfl)) ?_
                refine pst (i := 18) (N := some 51) (bz 24 491519) (any_of HT_.out (by kernel_rfl)) ?_
                refine pst (i := 19) (N := some 52) (bz 24 1015807) (any_of HT_.out (by kernel_rfl)) ?_
                refine tst6 (i := 15) (N := some 48) (bz 24 1048575) (take_ofW HT_.out HW_.out (by kernel_rfl)) hHeld ?_
                refine tst6 (i := 20) (N := some 53) (bz 24 2097151) (take_ofW HT_.out HW_.out (by kernel_rfl)) hHeld ?_
                refine pst (i := 21) (N := some 54) (bz 24 4194303) (any_of HT_.out (by kernel_rfl)) ?_
                refine pst (i := 22) (N := some 55) (bz 24 8388607) (any_of HT_.out (by kernel_rfl)) ?_
                refine pst (i := 23) (N := some 56) (bz 24 16777215) (any_of HT_.out (by kernel_rfl)) ?_
                refine done_ (done_of HT_.out (by kernel_rfl)) ?_
                have p359 : 0 ≤ (x9_1 : Int) := of_decide_eq_true asz
                have q359 : x9_1 < (l2.length : Int) := of_decide_eq_true asz
                obtain ⟨ad359, e359, hx359_0⟩ := Kd.at_int HR2.out x9_1 p359 q359
                obtain rfl : ad355 = ad359 := (by injection e359)
                replace hx359_0 := (HB.out.cell (World.block_lt_of_cell? w _ hx359_0)).trans hx359_0
                replace p359 := eq_true p359
                replace q359 := eq_true q359
                have p32 : 0 ≤ ((rd l2 x9_1) : Int) := of_decide_eq_true asz
                have q32 : ((rd l2 x9_1) : Int) < ((x8_1.length : Int) : Int) := of_decide_eq_true asz
                obtain ⟨go32, co32, eo32, gb32, gl32, cl32, HG32⟩ := Kd.R_form HO_8.out (by omega)
                (first | cases eo32 | (injection eo32 with ea_ en_ ec_; (first | subst ea_ | (injection ea_ with ea_; subst ea_)); subst ec_; clear en_))
                have GB32 := Aside0.mk gb32
                have GG32 := Aside0.mk HG32
                clear gb32 gl32 HG32
                obtain ⟨hx32_0, hf32_0⟩ := Kd.R_celln false HO_8.out ((rd l2 x9_1) : Int) p32 q32
                replace p32 := eq_true p32
                replace q32 := eq_true q32
                obtain ⟨hy35_, hz35_⟩ := Kd.R_celln false HO_8.out ((rd l2 x9_1) : Int) (of_decide_eq_true asz) (of_decide_eq_true asz)
                have HP35 := Kd.R_putg HO_8.out ((rd l2 x9_1) : Int) true
                try go_wp2_with (first | ((with_reducible refine gate_store (t := 4) (p := 62) rfl ?_); refine store_event (t := 4) (p := 62) (v := ?vo_w36) (w1 := (w34.setCell ⟨go32, ((rd l2 x9_1) : Int).toNat, none⟩ (.bool true))) ?hg ?ho ?hn ?hr ?_; (case ho => rfl); (case hg => rfl); (case hn => rfl); (case hr => first | (go_simp; done) | (go_simp; rfl)); intro w36 hw; have hg : w34.grownBy w36 (some go32) := (by rw [hw]; exact HP35.2); have hp_ : Kd.R Kd.bool 4 w36 w.heap.size (fun _ => True) (.slice (some ⟨go32, 0, none⟩) x8_1.length co32) y360 := (by rw [hw, Ny360.out]; exact HP35.1); clear HP35; replace BK349 := Aside0.mk (blk_grown (g := gb349) (o := .cells #[.int .i64 a0_0, .slice A0_1 l0_1.length c0_1, .slice A0_2 l0_2.length c0_2] 25 (0, 0)) blkz hg (Kd.R_ne HO_8.out BK349.out (by decide))); replace HO_8 := Aside0.mk (hp_); replace HB := Aside0.mk ((by rw [hw]; exact below_set (HB.out) GB32.out : Below w.heap.size w w36)); clear hg hw hp_))
                go_roundg k1
                case measure => have := HK1.out; omega
                case rel => exact ⟨(y360), (wrap64 (x9_1 + 1)), rsz, H', ⟨by have := HK1.out; omega⟩, ⟨by (with_reducible repeat (first | apply Kd.R_alloc | apply Kd.R_drewN | apply Kd.R_drew)); exact HO_8.out⟩, ⟨blkz⟩, ⟨bel⟩⟩
               ·
                rw [if_neg c31] at H
                exact absurd H (by simp)
              ·
               rw [if_neg c30] at H
               exact absurd H (by simp)
            ·
             rw [if_neg c26] at H
             exact absurd H (by simp)
           ·
            rw [if_neg c25] at H
            exact absurd H (by simp)
          ·
           rw [if_neg c23] at H
           have c23b0 : decide (0 < x9_1) = false := decide_eq_false c23
           clear c23
           by_cases c37 : 0 ≤ (rd l2 x9_1)
           ·
            rw [if_pos c37] at H
            have c37b0 : decide (0 ≤ (rd l2 x9_1)) = true := decide_eq_true c37
            clear c37
            by_cases c38 : (rd l2 x9_1) < (x8_1.length : Int)
            ·
             rw [if_pos c38] at H
             have c38b0 : decide ((rd l2 x9_1) < (x8_1.length : Int)) = true := decide_eq_true c38
             clear c38
             obtain ⟨y362, hy362⟩ : ∃ y_ : List Bool, y_ = (x8_1.set ((rd l2 x9_1) : Int).toNat true) := ⟨_, rfl⟩
             replace H : (dropperref05_IsShut.l0 k1 l1 l2 y362 (wrap64 (x9_1 + 1)) a0_0 l0_1 l0_2) = some (r1, r2) := by first | (rw [hy362]; with_reducible exact H) | (have H2_ := (Option.bind_some _ _).symm.trans H; rw [hy362]; with_reducible exact H2_) | (have H2_ := (Option.bind_some _ _).symm.trans H; with_reducible exact H2_) | with_reducible exact H | (rw [hy362]; exact H) | exact H
             have Ny362 := Aside0.mk hy362
             clear hy362
             have H' := Aside0.mk H
             clear H
             try go_wp2
             have n0_ := Aside0.mk (Kd.R_drew HO_8.out)
             have n1_ := Aside0.mk (blk_drew BK349.out)
             have n2_ := Aside0.mk (below_drew1 HB.out)
             clear HO_8
             clear BK349
             clear HB
             have HO_8 := n0_
             have BK349 := n1_
             have HB := n2_
             clear n0_ n1_ n2_
             have p355 : 0 ≤ (x9_1 : Int) := of_decide_eq_true asz
             have q355 : x9_1 < (l2.length : Int) := of_decide_eq_true asz
             obtain ⟨ad355, e355, hx355_0⟩ := Kd.at_int HR2.out x9_1 p355 q355
             have hw355_0 := hx355_0
             cases e355
             replace hx355_0 := (HB.out.cell (World.block_lt_of_cell? w _ hx355_0)).trans hx355_0
             replace p355 := eq_true p355
             replace q355 := eq_true q355
             refine start_ (n := 24) (S := fun w' => w'.cell? ⟨gb349, 0, none⟩ = some (.int .i64 a0_0) ∧ w'.cell? ⟨gb349, 1, none⟩ = some (.slice A0_1 l0_1.length c0_1) ∧ w'.cell? ⟨gb349, 2, none⟩ = some (.slice A0_2 l0_2.length c0_2) ∧ w'.cell? (ad355.add (x9_1).toNat) = some (.int .i64 (rd l2 x9_1))) (ds := []) #[false, false, false, false, false, false, false, false, false, false, false, false, false, false, false, false, false, false, false, false, false, false, false, false] (by kernel_rfl) rfl rfl ⟨(blk_cell BK349.out 0).trans rfl, (blk_cell BK349.out 1).trans rfl, (blk_cell BK349.out 2).trans rfl, ((HB.out.cell (World.block_lt_of_cell? w _ hw355_0)).trans hw355_0)⟩ (fun hHeld => ?_); refine with_tabW dropperref05_IsShut.tab9 dropperref05_IsShut.bits9 (fun HT_ HW_ => ?_)
             generalize wr.drew = w40 at HO_8 BK349 HB hx355_0 hHeld ⊢
             refine pst (i := 1) (N := some 34) (bz 24 2) (any_of HT_.out (by kernel_rfl)) ?_
             refine pst (i := 2) (N := some 35) (bz 24 6) (any_of HT_.out (by kernel_rfl)) ?_
             refine pst (i := 3) (N := some 36) (bz 24 14) (any_of HT_.out (by kernel_rfl)) ?_
             refine pst (i := 5) (N := some 38) (bz 24 46) (any_of HT_.out (by kernel_rfl)) ?_
             refine tst4 (i := 0) (N := some 33) (bz 24 47) (take_ofW HT_.out HW_.out (by kernel_rfl)) hHeld ?_
             refine tst4 (i := 4) (N := some 37) (bz 24 63) (take_ofW HT_.out HW_.out (by kernel_rfl)) hHeld ?_
             refine one_ (i := 6) (N := some 39) #[true, true, true, true, true, true, true, false, false, false, false, false, false, false, false, false, false, false, false, false, false, false, false, false] rfl rfl (one_of HT_.out (by kernel_rfl)) (by decide) (fun K hK => ?_)
             refine goes_ Tryd.func6 (by kernel_rfl) rfl #[.agg #[.int .i64 a0_0, .slice A0_1 l0_1.length c0_1, .slice A0_2 l0_2.length c0_2], .int .i64 (rd l2 x9_1), .slice A1 l1.length c1] (by rfl) rfl rfl mapz ?_
             with_reducible refine (dropperref05_Good.calls k1 a0_0 _ _ l0_1 _ _ l0_2 (rd l2 x9_1) _ _ l1 true _ ?side1 ?side2 ?side3 ?side4 ?side5 ?side6 A21.out).mono ?_
             (case side1 => exact cbz HR0_1)
             (case side2 => exact HC0_1.out)
             (case side3 => exact cbz HR0_2)
             (case side4 => exact HC0_2.out)
             (case side5 => exact cbz HR1)
             (case side6 => exact HC1.out)
             rintro e w41 ⟨rfl, hb⟩
             refine ⟨_, rfl, ?_⟩
             have n0_ := Aside0.mk (Kd.R_below (ownx HO_8) hb)
             have n1_ := Aside0.mk (blk_below (g := gb349) blkz hb)
             have n2_ := Aside0.mk (below_step bel hb)
             clear HO_8
             clear BK349
             clear HB
             have HO_8 := n0_
             have BK349 := n1_
             have HB := n2_
             clear n0_ n1_ n2_
             (try clear hb)
             (try clear hb2)
             (try clear hk)
             (try clear hi)
             refine hK.out _ _ ⟨(blk_cell BK349.out 0).trans rfl, (blk_cell BK349.out 1).trans rfl, (blk_cell BK349.out 2).trans rfl, ((HB.out.cell (World.block_lt_of_cell? w _ hw355_0)).trans hw355_0)⟩ (fun hHeld => ?_)
             clear hK K
             refine norm_ (a' := ?_) ?_ ?_
             rotate_left
             ·
              show Act.put _ (some 39) _ = _
              simp only [Act.put, List.setIfInBounds_toArray, List.set_cons_zero, List.set_cons_succ, i64_w, i32_w]
              rfl
             refine pst (i := 7) (N := some 40) (bz 24 255) (any_of HT_.out (by kernel_rfl)) ?_
             refine pst (i := 8) (N := some 41) (bz 24 511) (any_of HT_.out (by kernel_rfl)) ?_
             refine pst (i := 9) (N := some 42) (bz 24 1023) (any_of HT_.out (by kernel_rfl)) ?_
             refine pst (i := 10) (N := some 43) (bz 24 2047) (any_of HT_.out (by kernel_rfl)) ?_
             refine pst (i := 11) (N := some 44) (bz 24 4095) (any_of HT_.out (by kernel_rfl)) ?_
             refine pso (i := 12) (N := some 45) (bz 24 8191) (any_of HT_.out (by kernel_rfl)) ?_
             refine pso (i := 13) (N := some 46) (bz 24 16383) (any_of HT_.out (by kernel_rfl)) ?_
             refine pso (i := 14) (N := some 47) (bz 24 32767) (any_of HT_.out (by kernel_rfl)) ?_
             refine pso (i := 15) (N := some 48) (bz 24 65535) (any_of HT_.out (by kernel_rfl)) ?_
             refine pso (i := 16) (N := some 49) (bz 24 131071) (any_of HT_.out (by kernel_rfl)) ?_
             refine pso (i := 17) (N := some 50) (bz 24 262143) (any_of HT_.out (by kernel_rfl)) ?_
             refine pso (i := 18) (N := some 51) (bz 24 524287) (any_of HT_.out (by kernel_rfl)) ?_
             refine pso (i := 19) (N := some 52) (bz 24 1048575) (any_of HT_.out (by kernel_rfl)) ?_
             refine pso (i := 20) (N := some 53) (bz 24 2097151) (any_of HT_.out (by kernel_rfl)) ?_
             refine pso (i := 21) (N := some 54) (bz 24 4194303) (any_of HT_.out (by kernel_rfl)) ?_
             refine pst (i := 22) (N := some 55) (bz 24 8388607) (any_of HT_.out (by kernel_rfl)) ?_
             refine pst (i := 23) (N := some 56) (bz 24 16777215) (any_of HT_.out (by kernel_rfl)) ?_
             refine done_ (done_of HT_.out (by kernel_rfl)) ?_
             have p361 : 0 ≤ (x9_1 : Int) := of_decide_eq_true asz
             have q361 : x9_1 < (l2.length : Int) := of_decide_eq_true asz
             obtain ⟨ad361, e361, hx361_0⟩ := Kd.at_int HR2.out x9_1 p361 q361
             obtain rfl : ad355 = ad361 := (by injection e361)
             replace hx361_0 := (HB.out.cell (World.block_lt_of_cell? w _ hx361_0)).trans hx361_0
             replace p361 := eq_true p361
             replace q361 := eq_true q361
             have p39 : 0 ≤ ((rd l2 x9_1) : Int) := of_decide_eq_true asz
             have q39 : ((rd l2 x9_1) : Int) < ((x8_1.length : Int) : Int) := of_decide_eq_true asz
             obtain ⟨go39, co39, eo39, gb39, gl39, cl39, HG39⟩ := Kd.R_form HO_8.out (by omega)
             (first | cases eo39 | (injection eo39 with ea_ en_ ec_; (first | subst ea_ | (injection ea_ with ea_; subst ea_)); subst ec_; clear en_))
             have GB39 := Aside0.mk gb39
             have GG39 := Aside0.mk HG39
             clear gb39 gl39 HG39
             obtain ⟨hx39_0, hf39_0⟩ := Kd.R_celln false HO_8.out ((rd l2 x9_1) : Int) p39 q39
             replace p39 := eq_true p39
             replace q39 := eq_true q39
             obtain ⟨hy42_, hz42_⟩ := Kd.R_celln false HO_8.out ((rd l2 x9_1) : Int) (of_decide_eq_true asz) (of_decide_eq_true asz)
             have HP42 := Kd.R_putg HO_8.out ((rd l2 x9_1) : Int) true
             try go_wp2_with (first | ((with_reducible refine gate_store (t := 4) (p := 62) rfl ?_); refine store_event (t := 4) (p := 62) (v := ?vo_w43) (w1 := (w41.setCell ⟨go39, ((rd l2 x9_1) : Int).toNat, none⟩ (.bool true))) ?hg ?ho ?hn ?hr ?_; (case ho => rfl); (case hg => rfl); (case hn => rfl); (case hr => first | (go_simp; done) | (go_simp; rfl)); intro w43 hw; have hg : w41.grownBy w43 (some go39) := (by rw [hw]; exact HP42.2); have hp_ : Kd.R Kd.bool 4 w43 w.heap.size (fun _ => True) (.slice (some ⟨go39, 0, none⟩) x8_1.length co39) y362 := (by rw [hw, Ny362.out]; exact HP42.1); clear HP42; replace BK349 := Aside0.mk (blk_grown (g := gb349) (o := .cells #[.int .i64 a0_0, .slice A0_1 l0_1.length c0_1, .slice A0_2 l0_2.length c0_2] 25 (0, 0)) blkz hg (Kd.R_ne HO_8.out BK349.out (by decide))); replace HO_8 := Aside0.mk (hp_); replace HB := Aside0.mk ((by rw [hw]; exact below_set (HB.out) GB39.out : Below w.heap.size w w43)); clear hg hw hp_))
             go_roundg k1
             case measure => have := HK1.out; omega
             case rel => exact ⟨(y362), (wrap64 (x9_1 + 1)), rsz, H', ⟨by have := HK1.out; omega⟩, ⟨by (with_reducible repeat (first | apply Kd.R_alloc | apply Kd.R_drewN | apply Kd.R_drew)); exact HO_8.out⟩, ⟨blkz⟩, ⟨bel⟩⟩
            ·
             rw [if_neg c38] at H
             exact absurd H (by simp)
           ·
            rw [if_neg c37] at H
            exact absurd H (by simp)
         ·
          replace c22 := Bool.eq_false_iff.mpr c22
          subst c22
          rw [if_neg (show ¬ (false = true) by decide)] at H
          simp only [Option.some.injEq, Prod.mk.injEq] at H
          obtain ⟨rfl, rfl⟩ := H
          try go_wp2
          have n0_ := Aside0.mk (Kd.R_drew HO_8.out)
          have n1_ := Aside0.mk (blk_drew BK349.out)
          have n2_ := Aside0.mk (below_drew1 HB.out)
          clear HO_8
          clear BK349
          clear HB
          have HO_8 := n0_
          have BK349 := n1_
          have HB := n2_
          clear n0_ n1_ n2_
          have p355 : 0 ≤ (x9_1 : Int) := of_decide_eq_true asz
          have q355 : x9_1 < (l2.length : Int) := of_decide_eq_true asz
          obtain ⟨ad355, e355, hx355_0⟩ := Kd.at_int HR2.out x9_1 p355 q355
          have hw355_0 := hx355_0
          cases e355
          replace hx355_0 := (HB.out.cell (World.block_lt_of_cell? w _ hx355_0)).trans hx355_0
          replace p355 := eq_true p355
          replace q355 := eq_true q355
          refine start_ (n := 24) (S := fun w' => w'.cell? ⟨gb349, 0, none⟩ = some (.int .i64 a0_0) ∧ w'.cell? ⟨gb349, 1, none⟩ = some (.slice A0_1 l0_1.length c0_1) ∧ w'.cell? ⟨gb349, 2, none⟩ = some (.slice A0_2 l0_2.length c0_2) ∧ w'.cell? (ad355.add (x9_1).toNat) = some (.int .i64 (rd l2 x9_1))) (ds := []) #[false, false, false, false, false, false, false, false, false, false, false, false, false, false, false, false, false, false, false, false, false, false, false, false] (by kernel_rfl) rfl rfl ⟨(blk_cell BK349.out 0).trans rfl, (blk_cell BK349.out 1).trans rfl, (blk_cell BK349.out 2).trans rfl, ((HB.out.cell (World.block_lt_of_cell? w _ hw355_0)).trans hw355_0)⟩ (fun hHeld => ?_); refine with_tabW dropperref05_IsShut.tab9 dropperref05_IsShut.bits9 (fun HT_ HW_ => ?_)
          generalize wr.drew = w44 at HO_8 BK349 HB hx355_0 hHeld ⊢
          refine pst (i := 1) (N := some 34) (bz 24 2) (any_of HT_.out (by kernel_rfl)) ?_
          refine pst (i := 2) (N := some 35) (bz 24 6) (any_of HT_.out (by kernel_rfl)) ?_
          refine pst (i := 3) (N := some 36) (bz 24 14) (any_of HT_.out (by kernel_rfl)) ?_
          refine pst (i := 5) (N := some 38) (bz 24 46) (any_of HT_.out (by kernel_rfl)) ?_
          refine tst4 (i := 0) (N := some 33) (bz 24 47) (take_ofW HT_.out HW_.out (by kernel_rfl)) hHeld ?_
          refine tst4 (i := 4) (N := some 37) (bz 24 63) (take_ofW HT_.out HW_.out (by kernel_rfl)) hHeld ?_
          refine one_ (i := 6) (N := some 39) #[true, true, true, true, true, true, true, false, false, false, false, false, false, false, false, false, false, false, false, false, false, false, false, false] rfl rfl (one_of HT_.out (by kernel_rfl)) (by decide) (fun K hK => ?_)
          refine goes_ Tryd.func6 (by kernel_rfl) rfl #[.agg #[.int .i64 a0_0, .slice A0_1 l0_1.length c0_1, .slice A0_2 l0_2.length c0_2], .int .i64 (rd l2 x9_1), .slice A1 l1.length c1] (by rfl) rfl rfl mapz ?_
          with_reducible refine (dropperref05_Good.calls k1 a0_0 _ _ l0_1 _ _ l0_2 (rd l2 x9_1) _ _ l1 false _ ?side1 ?side2 ?side3 ?side4 ?side5 ?side6 A21.out).mono ?_
          (case side1 => exact cbz HR0_1)
          (case side2 => exact HC0_1.out)
          (case side3 => exact cbz HR0_2)
          (case side4 => exact HC0_2.out)
          (case side5 => exact cbz HR1)
          (case side6 => exact HC1.out)
          rintro e w45 ⟨rfl, hb⟩
          refine ⟨_, rfl, ?_⟩
          have n0_ := Aside0.mk (Kd.R_below (ownx HO_8) hb)
          have n1_ := Aside0.mk (blk_below (g := gb349) blkz hb)
          have n2_ := Aside0.mk (below_step bel hb)
          clear HO_8
          clear BK349
          clear HB
          have HO_8 := n0_
          have BK349 := n1_
          have HB := n2_
          clear n0_ n1_ n2_
          (try clear hb)
          (try clear hb2)
          (try clear hk)
          (try clear hi)
          refine hK.out _ _ ⟨(blk_cell BK349.out 0).trans rfl, (blk_cell BK349.out 1).trans rfl, (blk_cell BK349.out 2).trans rfl, ((HB.out.cell (World.block_lt_of_cell? w _ hw355_0)).trans hw355_0)⟩ (fun hHeld => ?_)
          clear hK K
          refine norm_ (a' := ?_) ?_ ?_
          rotate_left
          ·
           show Act.put _ (some 39) _ = _
           simp only [Act.put, List.setIfInBounds_toArray, List.set_cons_zero, List.set_cons_succ, i64_w, i32_w]
           rfl
          refine pst (i := 7) (N := some 40) (bz 24 255) (any_of HT_.out (by kernel_rfl)) ?_
          refine pst (i := 8) (N := some 41) (bz 24 511) (any_of HT_.out (by kernel_rfl)) ?_
          refine pso (i := 9) (N := some 42) (bz 24 1023) (any_of HT_.out (by kernel_rfl)) ?_
          refine pso (i := 10) (N := some 43) (bz 24 2047) (any_of HT_.out (by kernel_rfl)) ?_
          refine pso (i := 11) (N := some 44) (bz 24 4095) (any_of HT_.out (by kernel_rfl)) ?_
          refine pso (i := 12) (N := some 45) (bz 24 8191) (any_of HT_.out (by kernel_rfl)) ?_
          refine pso (i := 13) (N := some 46) (bz 24 16383) (any_of HT_.out (by kernel_rfl)) ?_
          refine pso (i := 14) (N := some 47) (bz 24 32767) (any_of HT_.out (by kernel_rfl)) ?_
          refine pso (i := 15) (N := some 48) (bz 24 65535) (any_of HT_.out (by kernel_rfl)) ?_
          refine pso (i := 16) (N := some 49) (bz 24 131071) (any_of HT_.out (by kernel_rfl)) ?_
          refine pso (i := 17) (N := some 50) (bz 24 262143) (any_of HT_.out (by kernel_rfl)) ?_
          refine pso (i := 18) (N := some 51) (bz 24 524287) (any_of HT_.out (by kernel_rfl)) ?_
          refine pso (i := 19) (N := some 52) (bz 24 1048575) (any_of HT_.out (by kernel_rfl)) ?_
          refine pso (i := 20) (N := some 53) (bz 24 2097151) (any_of HT_.out (by kernel_rfl)) ?_
          refine pso (i := 21) (N := some 54) (bz 24 4194303) (any_of HT_.out (by kernel_rfl)) ?_
          refine pso (i := 22) (N := some 55) (bz 24 8388607) (any_of HT_.out (by kernel_rfl)) ?_
          refine pst (i := 23) (N := some 56) (bz 24 16777215) (any_of HT_.out (by kernel_rfl)) ?_
          refine done_ (done_of HT_.out (by kernel_rfl)) ?_
          try go_wp2
          go_ret2
          exact ⟨by first | rfl | (simp [errW_none, errW_some] <;> rfl) | (simp only [← hji8]; first | rfl | (simp [errW_none, errW_some] <;> rfl)) | (simp [*, errW_none, errW_some] <;> rfl), bel⟩
        ·
         rw [if_neg c20] at H
         exact absurd H (by simp)
       ·
        rw [if_neg c19] at H
        have c19b0 : decide (x9_1 < (l2.length : Int)) = false := decide_eq_false c19
        clear c19
        have H' := Aside0.mk H
        clear H
        go_wp2
        go_loopg [10] k1 (fun kq v10 w' => ∃ (x10_2 : Int), v10 = .int .i64 x10_2 ∧ Aside0 (dropperref05_IsShut.l1 kq l1 l2 x8_1 x10_2 a0_0 l0_1 l0_2 = some (r1, r2)) ∧ Aside0 (kq ≤ k1) ∧ Aside0 (Kd.R Kd.bool 4 w' w.heap.size (fun _ => True) v353 x8_1) ∧ Aside0 (w'.heap[gb349]? = some (.cells #[.int .i64 a0_0, (.slice A0_1 l0_1.length c0_1), (.slice A0_2 l0_2.length c0_2)] 25 (0, 0))) ∧ Aside0 (Below w.heap.size w w'))
        case atStart => exact ⟨(0), rsz, H', ⟨Nat.le_refl _⟩, ⟨by (with_reducible repeat (first | apply Kd.R_alloc | apply Kd.R_drewN | apply Kd.R_drew)); exact HO_8.out⟩, ⟨blkz⟩, ⟨bel⟩⟩
        case round =>
         clear H'
         (try clear c1); (try clear c2); (try clear p2); (try clear c3); (try clear p3); (try clear q3); (try clear hx3); (try clear hf3); (try clear c6); (try clear p6); (try clear c19); (try clear c19b0); (try clear c20); (try clear c22); (try clear c23); (try clear c23b0); (try clear c25); (try clear c26); (try clear c30); (try clear c31); (try clear p32); (try clear q32); (try clear hx32); (try clear hf32); (try clear p35); (try clear q35); (try clear hx35); (try clear p36); (try clear q36); (try clear hx36); (try clear c37); (try clear c37b0); (try clear c38); (try clear c38b0); (try clear p39); (try clear q39); (try clear hx39); (try clear hf39); (try clear hx32_0); (try clear hx355_0); (try clear hx359_0); (try clear hx361_0); (try clear hx39_0); (try clear p32); (try clear p355); (try clear p359); (try clear p361); (try clear p39); (try clear q32); (try clear q355); (try clear q359); (try clear q361); (try clear q39)
         obtain ⟨x10_2, rfl, HA, HK2, HO_8, BK349, HB⟩ := hrel
         cases gk with
         | zero => exact absurd HA.out (by simp [dropperref05_IsShut.l1])
         | succ k2 =>
          have H := HA.out
          clear HA
          simp only [dropperref05_IsShut.l1] at H
          by_cases c46 : x10_2 < (l2.length : Int)
          ·
           rw [if_pos c46] at H
           have c46b0 : decide (x10_2 < (l2.length : Int)) = true := decide_eq_true c46
           clear c46
           have H' := Aside0.mk H
           clear H
           go_wp2
           go_loopg [11] k2 (fun kq v11 w' => ∃ (x11_3 : Int), v11 = .int .i64 x11_3 ∧ Aside0 (dropperref05_IsShut.l2 kq l1 l2 x8_1 x10_2 x11_3 a0_0 l0_1 l0_2 = some (r1, r2)) ∧ Aside0 (kq ≤ k2) ∧ Aside0 (Kd.R Kd.bool 4 w' w.heap.size (fun _ => True) v353 x8_1) ∧ Aside0 (w'.heap[gb349]? = some (.cells #[.int .i64 a0_0, (.slice A0_1 l0_1.length c0_1), (.slice A0_2 l0_2.length c0_2)] 25 (0, 0))) ∧ Aside0 (Below w.heap.size w w'))
           case atStart => exact ⟨(0), rsz, H', ⟨Nat.le_refl _⟩, ⟨by (with_reducible repeat (first | apply Kd.R_alloc | apply Kd.R_drewN | apply Kd.R_drew)); exact HO_8.out⟩, ⟨blkz⟩, ⟨bel⟩⟩
           case round =>
            clear H'
            (try clear c1); (try clear c2); (try clear p2); (try clear c3); (try clear p3); (try clear q3); (try clear hx3); (try clear hf3); (try clear c4); (try clear c6); (try clear p6); (try clear c19); (try clear c19b0); (try clear c20); (try clear c22); (try clear c23); (try clear c23b0); (try clear c25); (try clear c26); (try clear c30); (try clear c31); (try clear p32); (try clear q32); (try clear hx32); (try clear hf32); (try clear p35); (try clear q35); (try clear hx35); (try clear p36); (try clear q36); (try clear hx36); (try clear c37); (try clear c37b0); (try clear c38); (try clear c38b0); (try clear p39); (try clear q39); (try clear hx39); (try clear hf39); (try clear c46); (try clear c46b0); (try clear hx32_0); (try clear hx355_0); (try clear hx359_0); (try clear hx361_0); (try clear hx39_0); (try clear p2); (try clear p3); (try clear p32); (try clear p35); (try clear p355); (try clear p359); (try clear p36); (try clear p361); (try clear p39); (try clear p6); (try clear q3); (try clear q32); (try clear q35); (try clear q355); (try clear q359); (try clear q36); (try clear q361); (try clear q39)
            obtain ⟨x11_3, rfl, HA, HK3, HO_8, BK349, HB⟩ := hrel
            cases gk with
            | zero => exact absurd HA.out (by simp [dropperref05_IsShut.l2])
            | succ k3 =>
             have H := HA.out
             clear HA
             simp only [dropperref05_IsShut.l2] at H
             by_cases c47 : x11_3 < (l0_1.length : Int)
             ·
              rw [if_pos c47] at H
              have c47b0 : decide (x11_3 < (l0_1.length : Int)) = true := decide_eq_true c47
              clear c47
              by_cases c48 : 0 ≤ x10_2
              ·
               rw [if_pos c48] at H
               have c48b0 : decide (0 ≤ x10_2) = true := decide_eq_true c48
               clear c48
               by_cases c49 : x10_2 < (l2.length : Int)
               ·
                rw [if_pos c49] at H
                have c49b0 : decide (x10_2 < (l2.length : Int)) = true := decide_eq_true c49
                clear c49
                by_cases c50 : 0 ≤ x11_3
                ·
                 rw [if_pos c50] at H
                 have c50b0 := eq_true c50
                 have c50b1 : decide (0 ≤ x11_3) = true := decide_eq_true c50
                 clear c50
                 obtain ⟨ji51, hji51⟩ : ∃ j_ : Int, (shl .i64 1 x11_3) = j_ := ⟨_, rfl⟩
                 replace H : (if 0 ≤ (Go.bits .xor .i64 (rd l2 x10_2) (ji51)) then (if (Go.bits .xor .i64 (rd l2 x10_2) (ji51)) < (x8_1.length : Int) then (if (rdOf false x8_1 (Go.bits .xor .i64 (rd l2 x10_2) (ji51)) = true) then (dropperref05_IsShut.l2 k3 l1 l2 x8_1 x10_2 (wrap64 (x11_3 + 1)) a0_0 l0_1 l0_2) else ((dropperref05_Good.f k3 a0_0 l0_1 l0_2 (Go.bits .xor .i64 (rd l2 x10_2) (ji51)) l1).bind fun t365 => (if t365 = true then (some (false, 0)) else (dropperref05_IsShut.l2 k3 l1 l2 x8_1 x10_2 (wrap64 (x11_3 + 1)) a0_0 l0_1 l0_2)))) else (none)) else (none)) = some (r1, r2) := by first | (rw [hji51] at H; exact H) | (simp only [hji51] at H ⊢; exact H)
                 have hji51_ : (IntKind.i64.wrap (1 * 2 ^ min x11_3.toNat 64)) = ji51 := hji51
                 have hji51z : x11_3 ≤ 64 → (IntKind.i64.wrap (1 * 2 ^ x11_3.toNat)) = ji51 := shl_small hji51
                 have hji51u : (IntKind.i64.wrap (2 ^ min x11_3.toNat 64)) = ji51 := by have h_ := hji51_; rw [Int.one_mul] at h_; exact h_
                 have hji51v : x11_3 ≤ 64 → (IntKind.i64.wrap (2 ^ x11_3.toNat)) = ji51 := fun hle_ => by have h_ := hji51z hle_; rw [Int.one_mul] at h_; exact h_
                 have hji51y : (wrap64 (1 * 2 ^ min x11_3.toNat 64)) = ji51 := (i64_w _).symm.trans hji51_
                 have hji51x : x11_3 ≤ 64 → (wrap64 (1 * 2 ^ x11_3.toNat)) = ji51 := fun h_ => (i64_w _).symm.trans (hji51z h_)
                 by_cases c52 : 0 ≤ (Go.bits .xor .i64 (rd l2 x10_2) (ji51))
                 ·
                  rw [if_pos c52] at H
                  have c52b0 : decide (0 ≤ (Go.bits .xor .i64 (rd l2 x10_2) (ji51))) = true := decide_eq_true c52
                  clear c52
                  by_cases c53 : (Go.bits .xor .i64 (rd l2 x10_2) (ji51)) < (x8_1.length : Int)
                  ·
                   rw [if_pos c53] at H
                   have c53b0 : decide ((Go.bits .xor .i64 (rd l2 x10_2) (ji51)) < (x8_1.length : Int)) = true := decide_eq_true c53
                   clear c53
                   obtain ⟨bq54, hbq54⟩ : ∃ b_ : Bool, b_ = (rdOf false x8_1 (Go.bits .xor .i64 (rd l2 x10_2) (ji51))) := ⟨_, rfl⟩
                   replace H : (if (bq54 = true) then (dropperref05_IsShut.l2 k3 l1 l2 x8_1 x10_2 (wrap64 (x11_3 + 1)) a0_0 l0_1 l0_2) else ((dropperref05_Good.f k3 a0_0 l0_1 l0_2 (Go.bits .xor .i64 (rd l2 x10_2) (ji51)) l1).bind fun t365 => (if t365 = true then (some (false, 0)) else (dropperref05_IsShut.l2 k3 l1 l2 x8_1 x10_2 (wrap64 (x11_3 + 1)) a0_0 l0_1 l0_2)))) = some (r1, r2) := by rw [← hbq54] at H; exact H
                   have Nbq54 := Aside0.mk hbq54
                   clear hbq54
                   by_cases c55 : (bq54 = true)
                   ·
                    subst c55
                    rw [if_pos rfl] at H
                    have H' := Aside0.mk H
                    clear H
                    obtain ⟨hcz56_0, hcz56_1, hcz56_2⟩ := bc3 BK349.out
                    obtain ⟨hfz56_0, hfz56_1, hfz56_2⟩ := bf3 BK349.out
                    try go_wp2
                    have n0_ := Aside0.mk (Kd.R_drew HO_8.out)
                    have n1_ := Aside0.mk (blk_drew BK349.out)
                    have n2_ := Aside0.mk (below_drew1 HB.out)
                    clear HO_8
                    clear BK349
                    clear HB
                    have HO_8 := n0_
                    have BK349 := n1_
                    have HB := n2_
                    clear n0_ n1_ n2_
                    have p363 : 0 ≤ (x10_2 : Int) := of_decide_eq_true asz
                    have q363 : x10_2 < (l2.length : Int) := of_decide_eq_true asz
                    obtain ⟨ad363, e363, hx363_0⟩ := Kd.at_int HR2.out x10_2 p363 q363
                    have hw363_0 := hx363_0
                    cases e363
                    replace hx363_0 := (HB.out.cell (World.block_lt_of_cell? w _ hx363_0)).trans hx363_0
                    replace p363 := eq_true p363
                    replace q363 := eq_true q363
                    refine start_ (n := 8) (S := fun w' => w'.cell? (ad363.add (x10_2).toNat) = some (.int .i64 (rd l2 x10_2))) (ds := []) #[false, false, false, false, false, false, false, false] (by kernel_rfl) rfl rfl (((HB.out.cell (World.block_lt_of_cell? w _ hw363_0)).trans hw363_0)) (fun hHeld => ?_); refine with_tabW dropperref05_IsShut.tab18 dropperref05_IsShut.bits18 (fun HT_ HW_ => ?_)
                    generalize wr.drew = w57 at HO_8 BK349 HB hx363_0 hHeld ⊢
                    refine pst (i := 0) (N := some 76) (bz 8 1) (any_of HT_.out (by kernel_rfl)) ?_
                    refine pst (i := 1) (N := some 77) (bz 8 3) (any_of HT_.out (by kernel_rfl)) ?_
                    refine pst (i := 2) (N := some 78) (bz 8 7) (any_of HT_.out (by kernel_rfl)) ?_
                    refine pst (i := 4) (N := some 80) (bz 8 23) (any_of HT_.out (by kernel_rfl)) ?_
                    refine pst (i := 5) (N := some 81) (bz 8 55) (any_of HT_.out (by kernel_rfl)) ?_
                    refine tst1 (i := 3) (N := some 79) (bz 8 63) (take_ofW HT_.out HW_.out (by kernel_rfl)) hHeld ?_
                    refine pst (i := 6) (N := some 82) (bz 8 127) (any_of HT_.out (by kernel_rfl)) ?_
                    refine pst (i := 7) (N := some 12) (bz 8 255) (any_of HT_.out (by kernel_rfl)) ?_
                    refine done_ (done_of HT_.out (by kernel_rfl)) ?_
                    obtain ⟨Ao58, co58, eo58⟩ := Kd.R_slice HO_8.out
                    subst eo58
                    have p364 : 0 ≤ ((Go.bits .xor .i64 (rd l2 x10_2) (ji51)) : Int) := of_decide_eq_true asz
                    have q364 : (Go.bits .xor .i64 (rd l2 x10_2) (ji51)) < (x8_1.length : Int) := of_decide_eq_true asz
                    obtain ⟨ad364, e364, hx364_0⟩ := Kd.at_bool (Kd.R_reads' HO_8.out).2.2 (Go.bits .xor .i64 (rd l2 x10_2) (ji51)) p364 q364
                    (try rw [← Nbq54.out] at hx364_0)
                    cases e364
                    replace p364 := eq_true p364
                    replace q364 := eq_true q364
                    try go_wp2
                    go_roundg k3
                    case measure => have := HK1.out; have := HK2.out; have := HK3.out; omega
                    case rel => exact ⟨(wrap64 (x11_3 + 1)), rsz, H', ⟨by have := HK1.out; have := HK2.out; have := HK3.out; omega⟩, ⟨by (with_reducible repeat (first | apply Kd.R_alloc | apply Kd.R_drewN | apply Kd.R_drew)); exact HO_8.out⟩, ⟨blkz⟩, ⟨bel⟩⟩
                   ·
                    replace c55 := Bool.eq_false_iff.mpr c55
                    subst c55
                    rw [if_neg (show ¬ (false = true) by decide)] at H
                    replace H := Option.bind_eq_some_iff.mp H
                    obtain ⟨t365, A590, H⟩ := H
                    try dsimp only at H
                    have A59 := Aside0.mk A590
                    clear A590
                    by_cases c60 : t365 = true
                    ·
                     subst c60
                     rw [if_pos rfl] at H
                     simp only [Option.some.injEq, Prod.mk.injEq] at H
                     obtain ⟨rfl, rfl⟩ := H
                     obtain ⟨hcz61_0, hcz61_1, hcz61_2⟩ := bc3 BK349.out
                     obtain ⟨hfz61_0, hfz61_1, hfz61_2⟩ := bf3 BK349.out
                     try go_wp2
                     have n0_ := Aside0.mk (Kd.R_drew HO_8.out)
                     have n1_ := Aside0.mk (blk_drew BK349.out)
                     have n2_ := Aside0.mk (below_drew1 HB.out)
                     clear HO_8
                     clear BK349
                     clear HB
                     have HO_8 := n0_
                     have BK349 := n1_
                     have HB := n2_
                     clear n0_ n1_ n2_
                     have p363 : 0 ≤ (x10_2 : Int) := of_decide_eq_true asz
                     have q363 : x10_2 < (l2.length : Int) := of_decide_eq_true asz
                     obtain ⟨ad363, e363, hx363_0⟩ := Kd.at_int HR2.out x10_2 p363 q363
                     have hw363_0 := hx363_0
                     cases e363
                     replace hx363_0 := (HB.out.cell (World.block_lt_of_cell? w _ hx363_0)).trans hx363_0
                     replace p363 := eq_true p363
                     replace q363 := eq_true q363
                     refine start_ (n := 8) (S := fun w' => w'.cell? (ad363.add (x10_2).toNat) = some (.int .i64 (rd l2 x10_2))) (ds := []) #[false, false, false, false, false, false, false, false] (by kernel_rfl) rfl rfl (((HB.out.cell (World.block_lt_of_cell? w _ hw363_0)).trans hw363_0)) (fun hHeld => ?_); refine with_tabW dropperref05_IsShut.tab18 dropperref05_IsShut.bits18 (fun HT_ HW_ => ?_)
                     generalize wr.drew = w62 at HO_8 BK349 HB hx363_0 hHeld ⊢
                     refine pst (i := 0) (N := some 76) (bz 8 1) (any_of HT_.out (by kernel_rfl)) ?_
                     refine pst (i := 1) (N := some 77) (bz 8 3) (any_of HT_.out (by kernel_rfl)) ?_
                     refine pst (i := 2) (N := some 78) (bz 8 7) (any_of HT_.out (by kernel_rfl)) ?_
                     refine pst (i := 4) (N := some 80) (bz 8 23) (any_of HT_.out (by kernel_rfl)) ?_
                     refine pst (i := 5) (N := some 81) (bz 8 55) (any_of HT_.out (by kernel_rfl)) ?_
                     refine tst1 (i := 3) (N := some 79) (bz 8 63) (take_ofW HT_.out HW_.out (by kernel_rfl)) hHeld ?_
                     refine pst (i := 6) (N := some 82) (bz 8 127) (any_of HT_.out (by kernel_rfl)) ?_
                     refine pst (i := 7) (N := some 12) (bz 8 255) (any_of HT_.out (by kernel_rfl)) ?_
                     refine done_ (done_of HT_.out (by kernel_rfl)) ?_
                     obtain ⟨Ao63, co63, eo63⟩ := Kd.R_slice HO_8.out
                     subst eo63
                     have p364 : 0 ≤ ((Go.bits .xor .i64 (rd l2 x10_2) (ji51)) : Int) := of_decide_eq_true asz
                     have q364 : (Go.bits .xor .i64 (rd l2 x10_2) (ji51)) < (x8_1.length : Int) := of_decide_eq_true asz
                     obtain ⟨ad364, e364, hx364_0⟩ := Kd.at_bool (Kd.R_reads' HO_8.out).2.2 (Go.bits .xor .i64 (rd l2 x10_2) (ji51)) p364 q364
                     (try rw [← Nbq54.out] at hx364_0)
                     cases e364
                     replace p364 := eq_true p364
                     replace q364 := eq_true q364
                     obtain ⟨hcz64_0, hcz64_1, hcz64_2⟩ := bc3 BK349.out
                     obtain ⟨hfz64_0, hfz64_1, hfz64_2⟩ := bf3 BK349.out
                     try go_wp2_with (first | (go_at_call 6; (with_reducible refine (dropperref05_Good.calls k3 a0_0 _ _ l0_1 _ _ l0_2 (Go.bits .xor .i64 (rd l2 x10_2) (ji51)) _ _ l1 true _ (cbz HR0_1) HC0_1.out (cbz HR0_2) HC0_2.out (cbz HR1) HC1.out A59.out).mono ?_); rintro e w65 ⟨rfl, hb⟩; replace HO_8 := Aside0.mk (Kd.R_below (ownx HO_8) hb); replace BK349 := Aside0.mk (blk_below (g := gb349) blkz hb); replace HB := Aside0.mk (below_step bel hb); clear hb))
                     go_ret2
                     exact ⟨by first | rfl | (simp [errW_none, errW_some] <;> rfl) | (simp only [← hji8, ← hji51]; first | rfl | (simp [errW_none, errW_some] <;> rfl)) | (simp [*, errW_none, errW_some] <;> rfl), bel⟩
                    ·
                     replace c60 := Bool.eq_false_iff.mpr c60
                     subst c60
                     rw [if_neg (show ¬ (false = true) by decide)] at H
                     have H' := Aside0.mk H
                     clear H
                     obtain ⟨hcz66_0, hcz66_1, hcz66_2⟩ := bc3 BK349.out
                     obtain ⟨hfz66_0, hfz66_1, hfz66_2⟩ := bf3 BK349.out
                     try go_wp2
                     have n0_ := Aside0.mk (Kd.R_drew HO_8.out)
                     have n1_ := Aside0.mk (blk_drew BK349.out)
                     have n2_ := Aside0.mk (below_drew1 HB.out)
                     clear HO_8
                     clear BK349
                     clear HB
                     have HO_8 := n0_
                     have BK349 := n1_
                     have HB := n2_
                     clear n0_ n1_ n2_
                     have p363 : 0 ≤ (x10_2 : Int) := of_decide_eq_true asz
                     have q363 : x10_2 < (l2.length : Int) := of_decide_eq_true asz
                     obtain ⟨ad363, e363, hx363_0⟩ := Kd.at_int HR2.out x10_2 p363 q363
                     have hw363_0 := hx363_0
                     cases e363
                     replace hx363_0 := (HB.out.cell (World.block_lt_of_cell? w _ hx363_0)).trans hx363_0
                     replace p363 := eq_true p363
                     replace q363 := eq_true q363
                     refine start_ (n := 8) (S := fun w' => w'.cell? (ad363.add (x10_2).toNat) = some (.int .i64 (rd l2 x10_2))) (ds := []) #[false, false, false, false, false, false, false, false] (by kernel_rfl) rfl rfl (((HB.out.cell (World.block_lt_of_cell? w _ hw363_0)).trans hw363_0)) (fun hHeld => ?_); refine with_tabW dropperref05_IsShut.tab18 dropperref05_IsShut.bits18 (fun HT_ HW_ => ?_)
                     generalize wr.drew = w67 at HO_8 BK349 HB hx363_0 hHeld ⊢
                     refine pst (i := 0) (N := some 76) (bz 8 1) (any_of HT_.out (by kernel_rfl)) ?_
                     refine pst (i := 1) (N := some 77) (bz 8 3) (any_of HT_.out (by kernel_rfl)) ?_
                     refine pst (i := 2) (N := some 78) (bz 8 7) (any_of HT_.out (by kernel_rfl)) ?_
                     refine pst (i := 4) (N := some 80) (bz 8 23) (any_of HT_.out (by kernel_rfl)) ?_
                     refine pst (i := 5) (N := some 81) (bz 8 55) (any_of HT_.out (by kernel_rfl)) ?_
                     refine tst1 (i := 3) (N := some 79) (bz 8 63) (take_ofW HT_.out HW_.out (by kernel_rfl)) hHeld ?_
                     refine pst (i := 6) (N := some 82) (bz 8 127) (any_of HT_.out (by kernel_rfl)) ?_
                     refine pst (i := 7) (N := some 12) (bz 8 255) (any_of HT_.out (by kernel_rfl)) ?_
                     refine done_ (done_of HT_.out (by kernel_rfl)) ?_
                     obtain ⟨Ao68, co68, eo68⟩ := Kd.R_slice HO_8.out
                     subst eo68
                     have p364 : 0 ≤ ((Go.bits .xor .i64 (rd l2 x10_2) (ji51)) : Int) := of_decide_eq_true asz
                     have q364 : (Go.bits .xor .i64 (rd l2 x10_2) (ji51)) < (x8_1.length : Int) := of_decide_eq_true asz
                     obtain ⟨ad364, e364, hx364_0⟩ := Kd.at_bool (Kd.R_reads' HO_8.out).2.2 (Go.bits .xor .i64 (rd l2 x10_2) (ji51)) p364 q364
                     (try rw [← Nbq54.out] at hx364_0)
                     cases e364
                     replace p364 := eq_true p364
                     replace q364 := eq_true q364
                     obtain ⟨hcz69_0, hcz69_1, hcz69_2⟩ := bc3 BK349.out
                     obtain ⟨hfz69_0, hfz69_1, hfz69_2⟩ := bf3 BK349.out
                     try go_wp2_with (first | (go_at_call 6; (with_reducible refine (dropperref05_Good.calls k3 a0_0 _ _ l0_1 _ _ l0_2 (Go.bits .xor .i64 (rd l2 x10_2) (ji51)) _ _ l1 false _ (cbz HR0_1) HC0_1.out (cbz HR0_2) HC0_2.out (cbz HR1) HC1.out A59.out).mono ?_); rintro e w70 ⟨rfl, hb⟩; replace HO_8 := Aside0.mk (Kd.R_below (ownx HO_8) hb); replace BK349 := Aside0.mk (blk_below (g := gb349) blkz hb); replace HB := Aside0.mk (below_step bel hb); clear hb))
                     go_roundg k3
                     case measure => have := HK1.out; have := HK2.out; have := HK3.out; omega
                     case rel => exact ⟨(wrap64 (x11_3 + 1)), rsz, H', ⟨by have := HK1.out; have := HK2.out; have := HK3.out; omega⟩, ⟨by (with_reducible repeat (first | apply Kd.R_alloc | apply Kd.R_drewN | apply Kd.R_drew)); exact HO_8.out⟩, ⟨blkz⟩, ⟨bel⟩⟩
                  ·
                   rw [if_neg c53] at H
                   exact absurd H (by simp)
                 ·
                  rw [if_neg c52] at H
                  exact absurd H (by simp)
                ·
                 rw [if_neg c50] at H
                 exact absurd H (by simp)
               ·
                rw [if_neg c49] at H
                exact absurd H (by simp)
              ·
               rw [if_neg c48] at H
               exact absurd H (by simp)
             ·
              rw [if_neg c47] at H
              have c47b0 : decide (x11_3 < (l0_1.length : Int)) = false := decide_eq_false c47
              clear c47
              have H' := Aside0.mk H
              clear H
              obtain ⟨hcz71_0, hcz71_1, hcz71_2⟩ := bc3 BK349.out
              obtain ⟨hfz71_0, hfz71_1, hfz71_2⟩ := bf3 BK349.out
              go_wp2
              go_roundg k3
              case measure => have := HK1.out; have := HK2.out; have := HK3.out; omega
              case rel => exact ⟨(wrap64 (x10_2 + 1)), rsz, H', ⟨by have := HK1.out; have := HK2.out; have := HK3.out; omega⟩, ⟨by (with_reducible repeat (first | apply Kd.R_alloc | apply Kd.R_drewN | apply Kd.R_drew)); exact HO_8.out⟩, ⟨blkz⟩, ⟨bel⟩⟩
          ·
           rw [if_neg c46] at H
           have c46b0 : decide (x10_2 < (l2.length : Int)) = false := decide_eq_false c46
           clear c46
           simp only [Option.some.injEq, Prod.mk.injEq] at H
           obtain ⟨rfl, rfl⟩ := H
           go_wp2
           go_ret2
           exact ⟨by first | rfl | (simp [errW_none, errW_some] <;> rfl) | (simp only [← hji8]; first | rfl | (simp [errW_none, errW_some] <;> rfl)) | (simp [*, errW_none, errW_some] <;> rfl), bel⟩
    ·
     rw [if_neg c10] at H
     exact absurd H (by simp)
   ·
    rw [if_neg c9] at H
    exact absurd H (by simp)
  ·
   replace c7 := Bool.eq_false_iff.mpr c7
   subst c7
   rw [if_neg (show ¬ (false = true) by decide)] at H
   simp only [Option.some.injEq, Prod.mk.injEq] at H
   obtain ⟨rfl, rfl⟩ := H
   go_enter Tryd.func16, Tryd.ntmps16
   go_wp2_with (first | ((with_reducible refine gate_dst (N := 3) rfl ?_); refine box_event ?hg (N := 3) ?hd (cs := #[.int .i64 a0_0, .slice A0_1 l0_1.length c0_1, .slice A0_2 l0_2.length c0_2]) (t := 25) ?hr ?_; (case hd => rfl); (case hg => rfl); (case hr => first | (go_simp; done) | (go_simp; rfl)); intro gb349 hg w72 hbox hb; have BK349 := Aside0.mk (hbox); have GW349 := bsz (w := w) hg; have GE349 := GW349; replace HB := Aside0.mk (below_step bel hb); clear hb hbox hg; obtain ⟨hcz73_0, hcz73_1, hcz73_2⟩ := bc3 BK349.out) | ((with_reducible refine gate_callee (f := 4) rfl ?_); refine goesL_ (some 15) rfl rfl Tryd.func4 (by kernel_rfl) rfl #[.agg #[.int .i64 a0_0, .slice A0_1 l0_1.length c0_1, .slice A0_2 l0_2.length c0_2]] rfl mapz ?_; (with_reducible refine (dropperref05_Valid.calls k a0_0 _ _ l0_1 _ _ l0_2 true _ (cbz HR0_1) HC0_1.out (cbz HR0_2) HC0_2.out A4.out).mono ?_); rintro e w74 ⟨rfl, hb⟩; refine ⟨_, rfl, ?_⟩; replace BK349 := Aside0.mk (blk_below (g := gb349) blkz hb); replace HB := Aside0.mk (below_step bel hb); clear hb; obtain ⟨hcz75_0, hcz75_1, hcz75_2⟩ := bc3 BK349.out) | ((with_reducible refine gate_callee (f := 5) rfl ?_); refine goesL_ (some 20) rfl rfl Tryd.func5 (by kernel_rfl) rfl #[.agg #[.int .i64 a0_0, .slice A0_1 l0_1.length c0_1, .slice A0_2 l0_2.length c0_2], .slice A1 l1.length c1] rfl mapz ?_; (with_reducible refine (dropperref05_IsKeep.calls k a0_0 _ _ l0_1 _ _ l0_2 _ _ l1 false _ (cbz HR0_1) HC0_1.out (cbz HR0_2) HC0_2.out (cbz HR1) HC1.out A6.out).mono ?_); rintro e w76 ⟨rfl, hb⟩; refine ⟨_, rfl, ?_⟩; replace BK349 := Aside0.mk (blk_below (g := gb349) blkz hb); replace HB := Aside0.mk (below_step bel hb); clear hb))
   go_ret2
   exact ⟨ezz, bel⟩
 ·
  replace c5 := Bool.eq_false_iff.mpr c5
  subst c5
  rw [if_neg (show ¬ (false = true) by decide)] at H
  simp only [Option.some.injEq, Prod.mk.injEq] at H
  obtain ⟨rfl, rfl⟩ := H
  go_enter Tryd.func16, Tryd.ntmps16
  go_wp2_with (first | ((with_reducible refine gate_dst (N := 3) rfl ?_); refine box_event ?hg (N := 3) ?hd (cs := #[.int .i64 a0_0, .slice A0_1 l0_1.length c0_1, .slice A0_2 l0_2.length c0_2]) (t := 25) ?hr ?_; (case hd => rfl); (case hg => rfl); (case hr => first | (go_simp; done) | (go_simp; rfl)); intro gb349 hg w77 hbox hb; have BK349 := Aside0.mk (hbox); have GW349 := bsz (w := w) hg; have GE349 := GW349; replace HB := Aside0.mk (below_step bel hb); clear hb hbox hg; obtain ⟨hcz78_0, hcz78_1, hcz78_2⟩ := bc3 BK349.out) | ((with_reducible refine gate_callee (f := 4) rfl ?_); refine goesL_ (some 15) rfl rfl Tryd.func4 (by kernel_rfl) rfl #[.agg #[.int .i64 a0_0, .slice A0_1 l0_1.length c0_1, .slice A0_2 l0_2.length c0_2]] rfl mapz ?_; (with_reducible refine (dropperref05_Valid.calls k a0_0 _ _ l0_1 _ _ l0_2 false _ (cbz HR0_1) HC0_1.out (cbz HR0_2) HC0_2.out A4.out).mono ?_); rintro e w79 ⟨rfl, hb⟩; refine ⟨_, rfl, ?_⟩; replace BK349 := Aside0.mk (blk_below (g := gb349) blkz hb); replace HB := Aside0.mk (below_step bel hb); clear hb))
  go_ret2
  exact ⟨ezz, bel⟩

end Go.Proofs.YtldifdmfefpglaaDoor.XFeed