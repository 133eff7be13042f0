-- Written by wip/pack.py of this repo: texts of this claim, put together.
import Derived.DataReads
import Derived.OpenShut
import Derived.ChangeArms
import Derived.Test.YteikgnaikeleaaaKLoopc
namespace Go.Proofs.Yteikgnaikeleaaa
open Go.RowKit Go.Proofs.YteikgnaikeleaaaW.PrintWords Go.Proofs.YteikgnaikeleaaaW.PrintLast Go.Proofs.YteikgnaikeleaaaW.PrintMore
set_option linter.unusedVariables false

def contR (P : RF) (k : Nat) (v : Nat → Bool) (l2 : List UInt8) : Option ((Nat → Bool) × List UInt8) :=
 match l2 with
 | [] => some (v, [])
 | c :: l3 => if c = 43 then rCirc P k v l3 else some (v, c :: l3)
def FinC (s : List UInt8) (v : Nat → Bool) (at2 : Nat) (bad2 : Bool) : Option ((Nat → Bool) × List UInt8) → Prop
 | some (f, t) => bad2 = false ∧ at2 ≤ s.length ∧ s.drop at2 = t ∧ v = f
 | none => bad2 = true
def StC (n : Nat) (s : List UInt8) (X : Option ((Nat → Bool) × List UInt8)) (v : Nat → Bool) (at2 : Nat) : Bool → Prop
 | true => X = none
 | false => ∃ f, contR (rPart n) f v (s.drop at2) = X ∧ (s.drop at2).length ≤ f ∧ (s.drop at2).length < n ∧ at2 ≤ s.length
theorem rCirc_step (P : RF) (k : Nat) (v : Nat → Bool) (l : List UInt8) : rCirc P (k + 1) v l = match rBranch P l with | none => none | some (b, l2) => contR P k (fun n => v n || b n) l2 := by
 rw [rCirc]
 cases rBranch P l with
 | none => rfl
 | some y =>
  obtain ⟨b, l2⟩ := y
  cases l2 <;> rfl
theorem rBranch_len (n : Nat) {l : List UInt8} (hN : l.length ≤ n) {v : Nat → Bool} {t : List UInt8} (h : rBranch (rPart n) l = some (v, t)) : t.length < l.length := by
 have hp : ∀ k v0 l0 v1 t1, l0.length ≤ n → rParts (rPart n) k v0 l0 = some (v1, t1) → t1.length ≤ l0.length := by
  intro k
  induction k with
  | zero => intro v0 l0 v1 t1 _ h; simp [rParts] at h
  | succ k ih =>
   intro v0 l0 v1 t1 hl h
   cases l0 with
   | nil => simp [rParts] at h; obtain ⟨_, rfl⟩ := h; simp
   | cons c l0 =>
    rw [rParts] at h
    cases ho : opens c with
    | false =>
     rw [ho] at h
     simp at h
     obtain ⟨_, rfl⟩ := h
     simp
    | true =>
     rw [ho] at h
     simp only [if_true] at h
     cases hq : rPart n (c :: l0) with
     | none => rw [hq] at h; simp at h
     | some y =>
      obtain ⟨f, t'⟩ := y
      rw [hq] at h
      simp only at h
      have h1 := rPart_less n c l0 ho hl hq
      have h2 := ih _ _ _ _ (by omega) h
      omega
 cases l with
 | nil => simp [rBranch] at h
 | cons c l =>
  rw [rBranch] at h
  cases ho : opens c with
  | false => rw [ho] at h; simp at h
  | true =>
   rw [ho] at h
   simp only [if_true] at h
   rw [rParts, ho] at h
   simp only [if_true] at h
   cases hq : rPart n (c :: l) with
   | none => rw [hq] at h; simp at h
   | some y =>
    obtain ⟨f, t'⟩ := y
    rw [hq] at h
    simp only at h
    have h1 := rPart_less n c l ho hN hq
    have h2 := hp _ _ _ _ _ (by omega) h
    omega
set_option maxHeartbeats 8000000 in
set_option maxRecDepth 1000000 in
theorem circ_of_branch (n : Nat) (hn0 : n ≤ 100000) (HBR : BranchR n) : CircR n := by
 intro s at_ w b0 hb hs hat hn
 have hbl := blk_lt hb
 obtain ⟨r, hr⟩ : ∃ r, r = w.heap.size := ⟨_, rfl⟩
 have HS := Aside0.mk hs
 have HAT := Aside0.mk hat
 have HN := Aside0.mk hn
 have HN0 := Aside0.mk hn0
 have HSZ : Aside0 (b0 < w.heap.size ∧ r = w.heap.size) := ⟨⟨hbl, hr⟩⟩
 have HNN : Aside0 (∀ at2 bad2 W, W.heap[b0]? = some (rdr2 s at2 bad2) → Calls Try.prog 110 #[.pointer (some ⟨b0, 0, none⟩)] W fun e w' => e = .returned (.int .u8 (nextB (s.drop at2))) ∧ ∃ m, w' = W.drewN m) := ⟨fun at2 bad2 W hW => rnext_calls s at2 bad2 b0 W hW⟩
 have HBB : Aside0 (∀ at2 bad2 W, W.heap[b0]? = some (rdr2 s at2 bad2) → at2 ≤ s.length + n → (bad2 = false → (s.drop at2).length < n) → Calls Try.prog 109 #[.pointer (some ⟨b0, 0, none⟩)] W (RPost n W b0 s at2 (if bad2 then none else rBranch (rPart n) (s.drop at2)))) := ⟨fun at2 bad2 W hW h1 h2 => HBR s at2 bad2 W b0 hW hs h1 h2⟩
 obtain ⟨X, hX⟩ : ∃ X, X = rCirc (rPart n) ((s.drop at_).length + 1) (fun _ => false) (s.drop at_) := ⟨_, rfl⟩
 rw [← hX]
 have HX0 := Aside0.mk hX
 have HA := Aside0.mk (blk_alloc (o' := .cells (tbl fun _ => false) 50) hb)
 have HG := Aside0.mk (blk_new w (.cells (tbl fun _ => false) 50))
 have HFST := Aside0.mk (HBB.out at_ false _ HA.out hat (fun _ => hn))
 have hz := zero50
 clear hb hbl hn hs hat hX hn0 HBR
 go_enter Try.func88, Try.ntmps88
 go_wp2_with (first | (go_at_call 109; refine HFST.out.mono ?_; rintro e W1 ⟨v0, at1, bad1, rfl, hr1, hk1, ha1, hres⟩; have HR1 := Aside0.mk hr1; have HK1 := Aside0.mk hk1; have HA1 := Aside0.mk ha1; have HRS1 := Aside0.mk hres; clear hr1 hk1 ha1 hres) | (refine wpList_store_row rfl 50 (.tmp 3) (.tmp 7) rfl W1.heap.size (tbl v0) rfl rfl 50 (tbl fun _ => false) (blk_new _ _) (tbl_info v0) (by rw [tbl_size, tbl_size]) (tbl_one v0) ?_))
 obtain ⟨o, ho⟩ : ∃ o, o = W1.heap.size := ⟨_, rfl⟩
 obtain ⟨W3, hW3⟩ : ∃ W3, W3 = (W1.alloc (.cells (tbl fun _ => false) 50)).setRow W1.heap.size (tbl v0) := ⟨_, rfl⟩
 rw [← hW3, ← ho, ← HSZ.out.2]
 have sW : (w.alloc (.cells (tbl fun _ => false) 50)).heap.size = w.heap.size + 1 := Array.size_push ..
 have hle := HK1.out.size
 rw [sW] at hle
 have NOR : Aside0 (r < o ∧ b0 < o ∧ w.heap.size ≤ o ∧ o ≠ r ∧ r ≠ o ∧ b0 ≠ o ∧ r ≠ b0 ∧ b0 ≠ r ∧ o ≠ b0) := ⟨by have := HSZ.out; omega⟩
 have GO : Aside0 (W3.heap[o]? = some (.cells (tbl v0) 50 (0, 0))) := ⟨by rw [hW3, ho]; exact setRow_heap _ _ (tbl fun _ => false) _ _ _ (blk_new _ _)⟩
 have old : ∀ (g : Nat) (ob : Obj), g < o → W1.heap[g]? = some ob → W3.heap[g]? = some ob := fun g ob hg h => by
  rw [hW3, setRow_other _ _ _ _ (by omega)]
  exact blk_alloc h _
 have GR : Aside0 (W3.heap[r]? = some (.cells (tbl fun _ => false) 50 (0, 0))) := ⟨old r _ NOR.out.1 (by
  rw [HSZ.out.2, HK1.out.block w.heap.size (by rw [sW]; omega) (by have := HSZ.out; omega)]
  exact HG.out)⟩
 have R3 : Aside0 (W3.heap[b0]? = some (rdr2 s at1 bad1)) := ⟨old b0 _ NOR.out.2.1 HR1.out⟩
 have K3 : Aside0 (Kb b0 w W3) := ⟨by
  rw [hW3]
  exact ((((Kb.refl b0 w).alloc _).trans HK1.out).alloc _).setRow (by have := NOR.out; omega) _⟩
 have HM0 : Aside0 (StC n s X v0 at1 bad1) := ⟨by
  have hx := HX0.out
  rw [rCirc_step] at hx
  have h := HRS1.out
  simp only [Bool.false_eq_true, if_false] at h
  cases hq : rBranch (rPart n) (s.drop at_) with
  | none =>
   rw [hq] at h hx
   simp only at h hx
   subst h
   exact hx
  | some y =>
   obtain ⟨f, l⟩ := y
   rw [hq] at h hx
   simp only at h hx
   obtain ⟨rfl, h1, h2, rfl⟩ := h
   have hlen := rBranch_len n (Nat.le_of_lt HN.out) hq
   have hn1 := HN.out
   refine ⟨(s.drop at_).length, ?_, by rw [h2]; omega, by rw [h2]; omega, h1⟩
   rw [h2, hx]
   congr 1⟩
 have HA3 : Aside0 (at_ ≤ at1 ∧ at1 ≤ s.length + n) := HA1
 clear hW3 ho sW hle old HR1 HK1 HRS1 HFST HA HG HA1 hr
 simp only [Act.put]
 go_loopg [5] (s.length + n + 1) (fun kq v5 W => ∃ (at2 : Nat) (bad2 : Bool) (v : Nat → Bool), Aside0 (kq + at2 ≤ s.length + n + 1 + at2) ∧ Aside0 (s.length + n + 1 ≤ kq + at2) ∧ Aside0 (at_ ≤ at2 ∧ at2 ≤ s.length + n) ∧ Aside0 (W.heap[r]? = some (.cells (tbl fun _ => false) 50 (0, 0))) ∧ Aside0 (W.heap[o]? = some (.cells (tbl v) 50 (0, 0))) ∧ Aside0 (W.heap[b0]? = some (rdr2 s at2 bad2)) ∧ Aside0 (Kb b0 w W) ∧
  Aside0 (StC n s X v at2 bad2))
 case atStart => exact ⟨at1, bad1, v0, ⟨by omega⟩, ⟨by omega⟩, HA3, GR, GO, R3, K3, HM0⟩
 case round =>
  clear GR GO R3 K3 HM0 HA3
  obtain ⟨at2, bad2, v, HKA, HKB, HA2, G1, G2, R2, K2, HM⟩ := hrel
  have HNX := Aside0.mk (HNN.out at2 bad2 wr R2.out)
  by_cases h43 : ∃ l3, s.drop at2 = 43 :: l3
  ·
   obtain ⟨l3, h43⟩ := h43
   have hl2 : at2 < s.length := by
    rcases Nat.lt_or_ge at2 s.length with h | h
    ·
     exact h
    ·
     rw [List.drop_eq_nil_of_le h] at h43; cases h43
   have ht2 : s.drop (at2 + 1) = l3 := by
    rw [List.drop_eq_getElem_cons hl2] at h43
    exact (List.cons.inj h43).2
   have hnb : nextB (s.drop at2) = 43 := by rw [h43]; rfl
   rw [hnb] at HNX
   have hwat : wrap64 ((at2 : Int) + 1) = ((at2 + 1 : Nat) : Int) := by have := HS.out; unfold wrap64; omega
   have hR4 : ∀ m, ((wr.drewN m).setCell ⟨b0, 1, none⟩ (.int .i64 ((at2 : Int) + 1))).heap[b0]? = some (rdr2 s (at2 + 1) bad2) := fun m => rdr2_next (w := wr.drewN m) R2.out _ (by simp)
   have hlb : bad2 = false → (s.drop (at2 + 1)).length < n := fun h => by
    have hm := HM.out
    rw [h] at hm
    obtain ⟨f, _, _, h3, _⟩ := hm
    rw [h43] at h3
    rw [ht2]
    simp only [List.length_cons] at h3
    omega
   have HC2 := Aside0.mk (fun m => HBB.out (at2 + 1) bad2 _ (hR4 m) (by omega) hlb)
   have HREL : Aside0 (∀ (p1 : Nat → Bool) (at3 : Nat) (bad3 : Bool), (match (if bad2 then none else rBranch (rPart n) (s.drop (at2 + 1))) with | some (f, t) => bad3 = false ∧ at3 ≤ s.length ∧ s.drop at3 = t ∧ p1 = f | none => bad3 = true) →
     (StC n s X (fun i => v i || p1 i) at3 bad3)) := ⟨by
    intro p1 at3 bad3 hres
    have hm := HM.out
    cases bad2 with
    | true =>
     simp only [if_true] at hres
     subst hres
     exact hm
    | false =>
     simp only [Bool.false_eq_true, if_false] at hres
     obtain ⟨f, hx, hf, hln, _⟩ := hm
     rw [h43] at hx hf hln
     simp only [List.length_cons] at hf hln
     cases f with
     | zero => exact absurd hf (by omega)
     | succ f =>
     have hx' : rCirc (rPart n) (f + 1) v l3 = X := hx
     rw [rCirc_step, ← ht2] at hx'
     cases hq : rBranch (rPart n) (s.drop (at2 + 1)) with
     | none =>
      rw [hq] at hres hx'
      simp only at hres hx'
      subst hres
      exact hx'.symm
     | some y =>
      obtain ⟨g, l⟩ := y
      rw [hq] at hres hx'
      simp only at hres hx'
      obtain ⟨rfl, h1, h2, rfl⟩ := hres
      have hlen := rBranch_len n (by rw [ht2]; omega) hq
      rw [ht2] at hlen
      exact ⟨f, by rw [h2]; exact hx', by rw [h2]; omega, by rw [h2]; omega, h1⟩⟩
   have HL2 := Aside0.mk hl2
   have HH : Aside0 (∀ m, ((wr.drewN m).setCell ⟨b0, 1, none⟩ (.int .i64 ((at2 : Int) + 1))).heap[r]? = some (.cells (tbl fun _ => false) 50 (0, 0)) ∧ ((wr.drewN m).setCell ⟨b0, 1, none⟩ (.int .i64 ((at2 : Int) + 1))).heap[o]? = some (.cells (tbl v) 50 (0, 0)) ∧ Kb b0 w ((wr.drewN m).setCell ⟨b0, 1, none⟩ (.int .i64 ((at2 : Int) + 1)))) := ⟨fun m => ⟨blk_far (p := ⟨b0, 1, none⟩) (tbl_drewN G1.out m) NOR.out.2.2.2.2.2.2.1 _, blk_far (p := ⟨b0, 1, none⟩) (tbl_drewN G2.out m) NOR.out.2.2.2.2.2.2.2.2 _, (K2.out.drewN m).set 1 _⟩⟩
   obtain ⟨⟨c0, c1, c2⟩, f1, f2⟩ := rdr2_cells R2.out
   clear hl2 ht2 hnb hR4 hlb HM h43
   go_wp2_with (first | (go_at_call 110; refine HNX.out.mono ?_; rintro e' W' ⟨rfl, m, rfl⟩) | (go_at_call 109; refine (HC2.out m).mono ?_; rintro e W2 ⟨p1, at3, bad3, rfl, hr3, hk3, ha3, hres⟩; have HR3 := Aside0.mk hr3; have HK3 := Aside0.mk hk3; have HA3 := Aside0.mk ha3; have HRS := Aside0.mk hres; clear hr3 hk3 ha3 hres) | (refine wpList_store_row rfl 50 (.tmp 4) (.tmp 19) rfl W2.heap.size (tbl p1) rfl rfl 50 (tbl fun _ => false) (blk_new _ _) (tbl_info p1) (by rw [tbl_size, tbl_size]) (tbl_one p1) ?_))
   obtain ⟨q, hq⟩ : ∃ q, q = W2.heap.size := ⟨_, rfl⟩
   obtain ⟨W3, hW3⟩ : ∃ W3, W3 = (W2.alloc (.cells (tbl fun _ => false) 50)).setRow W2.heap.size (tbl p1) := ⟨_, rfl⟩
   rw [← hW3]
   obtain ⟨hg1, hg2, hkw⟩ := HH.out m
   have NQ : Aside0 (r < q ∧ o < q ∧ b0 < q ∧ w.heap.size ≤ q ∧ o ≠ q ∧ q ≠ o) := ⟨by
    have h1 := hkw.size
    have h2 := HK3.out.size
    have h3 := blk_lt hg2
    have h4 := NOR.out
    omega⟩
   have GQ : Aside0 (W3.heap[q]? = some (.cells (tbl p1) 50 (0, 0))) := ⟨by rw [hW3, hq]; exact setRow_heap _ _ (tbl fun _ => false) _ _ _ (blk_new _ _)⟩
   have old : ∀ (g : Nat) (ob : Obj), g < q → W2.heap[g]? = some ob → W3.heap[g]? = some ob := fun g ob hg h => by
    rw [hW3, setRow_other _ _ _ _ (by omega)]
    exact blk_alloc h _
   have G13 : Aside0 (W3.heap[r]? = some (.cells (tbl fun _ => false) 50 (0, 0))) := ⟨old r _ NQ.out.1 (by rw [HK3.out.block r (blk_lt hg1) (by have := NOR.out; omega)]; exact hg1)⟩
   have G23 : Aside0 (W3.heap[o]? = some (.cells (tbl v) 50 (0, 0))) := ⟨old o _ NQ.out.2.1 (by rw [HK3.out.block o (blk_lt hg2) (by have := NOR.out; omega)]; exact hg2)⟩
   have R3 : Aside0 (W3.heap[b0]? = some (rdr2 s at3 bad3)) := ⟨old b0 _ NQ.out.2.2.1 HR3.out⟩
   have K3 : Aside0 (Kb b0 w W3) := ⟨by
    rw [hW3]
    exact ((hkw.trans HK3.out).alloc _).setRow (by have := NQ.out; omega) _⟩
   rw [← hq]
   clear hW3 hq old G1 G2 R2 K2 HR3 HK3 HC2 HH hg1 hg2 hkw c0 c1 c2 f1 f2 HNX
   go_loopg [5] 257 (fun kq v5 W => ∃ x : Nat, v5 = .int .i64 x ∧ Aside0 (x + kq = 257) ∧ Aside0 (x ≤ 256) ∧ Aside0 (W.heap[r]? = some (.cells (tbl fun _ => false) 50 (0, 0))) ∧ Aside0 (W.heap[o]? = some (.cells (tbl (fun i => if i < x then v i || p1 i else v i)) 50 (0, 0))) ∧ Aside0 (W.heap[q]? = some (.cells (tbl p1) 50 (0, 0))) ∧ Aside0 (W.heap[b0]? = some (rdr2 s at3 bad3)) ∧ Aside0 (Kb b0 w W))
   case atStart => exact ⟨0, rfl, ⟨rfl⟩, ⟨by decide⟩, G13, ⟨by rw [tbl_ext (g := v) (fun i _ => by simp)]; exact G23.out⟩, GQ, R3, K3⟩
   case round =>
    clear G13 G23 GQ R3 K3
    obtain ⟨x, rfl, HK, HX, G1, G2, GQ, R2, K2⟩ := hrel
    by_cases hx : x < 256
    ·
     have h1 : decide ((x : Int) < 256) = true := decide_eq_true (by omega)
     have hnx := next_nat x hx
     have HX1 := Aside0.mk hx
     have h0 : (0 : Int) ≤ (x : Int) ∧ (x : Int) < 256 := by omega
     have c8 := blkc G2.out x _ (tbl_get _ x hx)
     rw [if_neg (Nat.lt_irrefl x)] at c8
     have f8 := blk_frozen G2.out x
     have c9 := tbl_cell GQ.out x hx
     have HNEW : Aside0 (∀ u, u = (v x || p1 x) → tbl (fun n => if n = x then u else (if n < x then v n || p1 n else v n)) = tbl (fun i => if i < x + 1 then v i || p1 i else v i)) := ⟨by
      intro u hu
      apply tbl_ext
      intro i hi
      by_cases e : i = x
      ·
       subst e
       rw [if_pos rfl, if_pos (Nat.lt_succ_self _), hu]
      ·
       rw [if_neg e]
       have : (i < x) = (i < x + 1) := propext ⟨fun h => by omega, fun h => by omega⟩
       simp only [this]⟩
     clear hx
     cases hv : v x with
     | true =>
      rw [hv] at c8 HNEW
      go_wp2
      go_roundg (256 - x)
      case measure => have := HK.out; have := HX1.out; omega
      case rel =>
       refine ⟨x + 1, by first | rfl | rw [hnx], ⟨by have := HX1.out; omega⟩, ⟨HX1.out⟩, ⟨blk_far (p := ⟨o, x, none⟩) G1.out NOR.out.2.2.2.2.1 _⟩, ⟨?_⟩, ⟨blk_far (p := ⟨o, x, none⟩) GQ.out NQ.out.2.2.2.2.2 _⟩, ⟨blk_far (p := ⟨o, x, none⟩) R2.out NOR.out.2.2.2.2.2.1 _⟩, ⟨K2.out.setFar NOR.out.2.2.1 _ _⟩⟩
       refine blk_put G2.out x _ ?_
       rw [tbl_set]
       exact HNEW.out _ (by simp)
     | false =>
      rw [hv] at c8 HNEW
      go_wp2
      go_roundg (256 - x)
      case measure => have := HK.out; have := HX1.out; omega
      case rel =>
       refine ⟨x + 1, by first | rfl | rw [hnx], ⟨by have := HX1.out; omega⟩, ⟨HX1.out⟩, ⟨blk_far (p := ⟨o, x, none⟩) G1.out NOR.out.2.2.2.2.1 _⟩, ⟨?_⟩, ⟨blk_far (p := ⟨o, x, none⟩) GQ.out NQ.out.2.2.2.2.2 _⟩, ⟨blk_far (p := ⟨o, x, none⟩) R2.out NOR.out.2.2.2.2.2.1 _⟩, ⟨K2.out.setFar NOR.out.2.2.1 _ _⟩⟩
       refine blk_put G2.out x _ ?_
       rw [tbl_set]
       exact HNEW.out _ (by simp)
    ·
     have h1 : decide ((x : Int) < 256) = false := decide_eq_false (by omega)
     have hx6 : x = 256 := by have := HX.out; omega
     have G3 : Aside0 (wr.heap[o]? = some (.cells (tbl (fun i => v i || p1 i)) 50 (0, 0))) := ⟨by rw [tbl_ext (g := fun i => if i < x then v i || p1 i else v i) (fun i hi => by rw [hx6, if_pos hi])]; exact G2.out⟩
     clear hx hx6
     go_wp2
     go_roundg (s.length + n + 1 - at3)
     case measure => have := HKB.out; have := HA3.out; have := HL2.out; omega
     case rel => exact ⟨at3, bad3, fun i => v i || p1 i, ⟨by omega⟩, ⟨by omega⟩, ⟨by have := HA2.out; have := HA3.out; omega⟩, G1, G3, R2, K2, ⟨HREL.out p1 at3 bad3 HRS.out⟩⟩
  ·
   have hnb : (nextB (s.drop at2) == 43) = false := by
    cases hd : s.drop at2 with
    | nil => rfl
    | cons d t' =>
     have := bne_of (d := d) (e := 43) (l := t') (fun e => h43 ⟨t', by rw [hd, e]⟩)
     simpa using this
   have HFIN : Aside0 (FinC s v at2 bad2 X) := ⟨by
    have hm := HM.out
    cases bad2 with
    | true => rw [(hm : X = none)]; rfl
    | false =>
     obtain ⟨f, hx, _, _, hle⟩ := hm
     rw [← hx]
     cases hd : s.drop at2 with
     | nil => exact ⟨rfl, hle, hd, rfl⟩
     | cons d t' =>
      have hne : ¬ d = 43 := fun e => h43 ⟨t', by rw [hd, e]⟩
      have : contR (rPart n) f v (d :: t') = some (v, d :: t') := if_neg hne
      rw [this]
      exact ⟨rfl, hle, hd, rfl⟩⟩
   clear h43 HM
   go_wp2_with (first | (go_at_call 110; refine HNX.out.mono ?_; rintro e' W' ⟨rfl, m, rfl⟩) | (refine wpList_load_row rfl 50 (.tmp 3) rfl o rfl 50 (tbl v) (0, 0) _ (tbl_drewN G2.out m) Try.underlying50 rfl (tbl_info v) ?_) | (refine wpList_store_row rfl 50 (.tmp 2) (.tmp 34) rfl r (tbl v) rfl rfl 50 (tbl fun _ => false) (tbl_drewN G1.out m) (tbl_info v) (by rw [tbl_size, tbl_size]) (tbl_one v) ?_))
   refine bodyPost_ret (results_cell_row rfl _ _ r 50 (tbl v) (0, 0) _ rfl (setRow_heap _ _ (tbl fun _ => false) _ _ _ (tbl_drewN G1.out m)) Try.underlying50 rfl (tbl_info v)) rfl ?_
   refine RPost.mk v at2 bad2 rfl ?_ ((K2.out.drewN m).setRow (by have := HSZ.out; omega) _) HA2.out (by have h := HFIN.out; cases X with | none => exact h | some y => exact h)
   rw [setRow_other _ _ _ _ NOR.out.2.2.2.2.2.2.2.1]
   exact tbl_drewN R2.out m
end Go.Proofs.Yteikgnaikeleaaa

namespace Go.Proofs.Yteikgnaikeleaaa
open Go.RowKit Go.Proofs.YteikgnaikeleaaaW.PrintWords Go.Proofs.YteikgnaikeleaaaW.PrintLast Go.Proofs.YteikgnaikeleaaaW.PrintMore
set_option linter.unusedVariables false

theorem want_ {P : Program} {ops : Array Oper} {oi : Oper} {N : Option Tmp} {a : Act} {w : World} {K : Act → World → Prop} {Q : Exit → Act → World → Prop} (hw : Region.wanted oi (yielded ops a.tmps) = true) (h : Oper.wp P oi a w K Q) : if Region.wanted oi (yielded ops a.tmps) = true then Oper.wp P oi a w K Q else K (a.put N undef) w := by
 rw [if_pos hw]; exact h
theorem read_bad (s : List UInt8) (at1 : Nat) (v : Nat → Bool) (h : match rCirc (rPart (s.length + 1)) ((s.drop 0).length + 1) (fun _ => false) (s.drop 0) with | some (f, t) => true = false ∧ at1 ≤ s.length ∧ s.drop at1 = t ∧ v = f | none => True) (hr : readL s = match rCirc (rPart (s.length + 1)) (s.length + 1) (fun _ => false) s with | some (v, []) => some v | _ => none) : readL s = none := by
 rw [List.drop_zero] at h
 rw [hr]
 generalize rCirc (rPart (s.length + 1)) (s.length + 1) (fun _ => false) s = y at h ⊢
 match y, h with
 | none, _ => rfl
 | some (f, l), h => exact absurd h.1 (by decide)
theorem read_fine (s : List UInt8) (at1 : Nat) (v : Nat → Bool) (h : match rCirc (rPart (s.length + 1)) ((s.drop 0).length + 1) (fun _ => false) (s.drop 0) with | some (f, t) => True ∧ at1 ≤ s.length ∧ s.drop at1 = t ∧ v = f | none => false = true) (hr : readL s = match rCirc (rPart (s.length + 1)) (s.length + 1) (fun _ => false) s with | some (v, []) => some v | _ => none) : if at1 = s.length then readL s = some v else readL s = none := by
 rw [List.drop_zero] at h
 rw [hr]
 generalize rCirc (rPart (s.length + 1)) (s.length + 1) (fun _ => false) s = y at h ⊢
 match y, h with
 | none, h => cases h
 | some (f, l), h =>
  obtain ⟨_, h1, h2, rfl⟩ := h
  by_cases h3 : at1 = s.length
  ·
   rw [if_pos h3]
   rw [h3, List.drop_length] at h2
   subst h2; rfl
  ·
   rw [if_neg h3]
   cases l with
   | nil => exact absurd (List.drop_eq_nil_iff.1 h2) (by omega)
   | cons a l => rfl
theorem partR_all : ∀ n, n ≤ 100000 → PartR n
 | 0, _ => fun s at_ w b _ _ _ _ h => absurd h (Nat.not_lt_zero _)
 | n + 1, h => part_of_circR n (by omega) (circ_of_branch n (by omega) (branch_of_part n (by omega) (partR_all n (by omega))))
theorem circR_all (n : Nat) (h : n ≤ 100000) : CircR n := circ_of_branch n h (branch_of_part n h (partR_all n h))
theorem results_row_tmp {P : Program} {fn : Func} {p q : Tmp} {ty : TypeId} (h : fn.results = #[.cell p ty, .tmp q]) (tmps : Array Value) (w : World) (g : Nat) (t : TypeId) (cs : Array Value) (fr : Nat × Nat) (d : TypeDesc)
  (hp : tmps.getD p undef = .pointer (some ⟨g, 0, none⟩)) (hg : w.heap[g]? = some (.cells cs t fr))
  (hu : P.underlying ty = some d) (hd : (match d with | .struct _ | .array _ _ => true | _ => false) = true) (hi : (P.info? ty).map (·.size) = some cs.size) :
  (results fn tmps).run P w = .ok (.tuple #[.agg cs, tmps.getD q undef]) w := by
 have hp' : tmps[p]?.getD undef = .pointer (some ⟨g, 0, none⟩) := by simpa using hp
 simp [results, h, hp', asAddr, run_loadVar_row w g t ty cs fr d hg hu hd hi]
theorem exec_load_tbl50 {w : World} {g : Nat} {f : Nat → Bool} {o : Oper} {a : Act} {x : Operand} (ho : o.op = .load 50 x) (hx : a.eval x = .pointer (some ⟨g, 0, none⟩)) (h : w.heap[g]? = some (.cells (tbl f) 50 (0, 0))) : (execOp a.eval o).run Try.prog w = .ok (.value (.agg (tbl f))) w := by
 have hl := run_loadVar_row (P := Try.prog) w g 50 50 (tbl f) (0, 0) (.array 256 4) h Try.underlying50 rfl (tbl_info f)
 unfold execOp
 simp only [ho, hx, Instr.loadAt, Instr.sureAddr, Sem.run_bind, Sem.run_pure, Result.andThen_ok, hl]
def ReadPost (w : World) (s : List UInt8) (e : Ending) (w' : World) : Prop :=
 Below w.heap.size w w' ∧ match readL s with
  | some f => e = .returned (.tuple #[.agg (tbl f), .bool true])
  | none => ∃ v, e = .returned (.tuple #[.agg (tbl v), .bool false])
theorem ReadPost.good {w : World} {s : List UInt8} {e : Ending} {w' : World} (h : Below w.heap.size w w') {f : Nat → Bool} (hr : readL s = some f) (he : e = .returned (.tuple #[.agg (tbl f), .bool true])) : ReadPost w s e w' := by
 refine ⟨h, ?_⟩
 rw [hr]; exact he
theorem ReadPost.bad {w : World} {s : List UInt8} {e : Ending} {w' : World} (h : Below w.heap.size w w') {v : Nat → Bool} (hr : readL s = none) (he : e = .returned (.tuple #[.agg (tbl v), .bool false])) : ReadPost w s e w' := by
 refine ⟨h, ?_⟩
 rw [hr]; exact ⟨v, he⟩
set_option maxHeartbeats 8000000 in
set_option maxRecDepth 1000000 in
theorem read_long (s : List UInt8) (w : World) (h : ¬ s.length ≤ 40) : Calls Try.prog 65 #[.string (tx s)] w (ReadPost w s) := by
 have hz := tx_size s
 have h40 : decide ((40 : Int) < (tx s).size) = true := decide_eq_true (by rw [hz]; omega)
 have hr : readL s = none := if_neg h
 have hzz := zero50
 have G := Aside0.mk (blk_new w (.cells (tbl fun _ => false) 50))
 clear hz h
 go_enter Try.func65, Try.ntmps65
 go_wp2_with (first | (refine wpList_store_row rfl 50 (.tmp 2) (.tmp 9) rfl w.heap.size (tbl fun _ => false) rfl rfl 50 (tbl fun _ => false) G.out (tbl_info _) (by rw [tbl_size]) (tbl_one _) ?_))
 refine bodyPost_ret (results_row_tmp rfl _ _ w.heap.size 50 (tbl fun _ => false) (0, 0) _ rfl (setRow_heap _ _ (tbl fun _ => false) _ _ _ G.out) Try.underlying50 rfl (tbl_info _)) rfl ?_
 exact ReadPost.bad (below_setRow ((Below.refl _ w).alloc (Nat.le_refl _) _) (Nat.le_refl _) _) hr rfl
set_option maxHeartbeats 8000000 in
set_option maxRecDepth 1000000 in
theorem read_calls (s : List UInt8) (w : World) : Calls Try.prog 65 #[.string (tx s)] w (ReadPost w s) := by
 by_cases h40 : s.length ≤ 40
 ·
  have hz := tx_size s
  have hd : decide ((40 : Int) < (tx s).size) = false := decide_eq_false (by rw [hz]; omega)
  have hzz := zero50
  have s1 : (w.alloc (.cells (tbl fun _ => false) 50)).heap.size = w.heap.size + 1 := Array.size_push ..
  obtain ⟨w2, hw2⟩ : ∃ w2, w2 = (w.alloc (.cells (tbl fun _ => false) 50)).alloc (.cells #[.string (tx s), .int .i64 0, .bool false] 84) := ⟨_, rfl⟩
  have R2 : w2.heap[w.heap.size + 1]? = some (rdr2 s 0 false) := by rw [hw2, ← s1]; exact blk_new _ _
  have G2 : Aside0 (w2.heap[w.heap.size]? = some (.cells (tbl fun _ => false) 50 (0, 0))) := ⟨by rw [hw2]; exact blk_alloc (blk_new w _) _⟩
  have B2 : Aside0 (Below w.heap.size w w2) := ⟨by rw [hw2]; exact below_alloc (below_alloc (Below.refl _ w) _) _⟩
  have S2 : Aside0 (w2.heap.size = w.heap.size + 2) := ⟨by rw [hw2]; exact (Array.size_push ..).trans (by rw [s1])⟩
  have HW2 := Aside0.mk hw2
  have HC := Aside0.mk (circR_all (s.length + 1) (by omega) s 0 w2 (w.heap.size + 1) R2 (by omega) (by omega) (by simp))
  have hreq : readL s = match rCirc (rPart (s.length + 1)) (s.length + 1) (fun _ => false) s with | some (v, []) => some v | _ => none := if_pos h40
  have HREQ := Aside0.mk hreq
  have HL := Aside0.mk h40
  clear hw2 R2 h40 s1 hreq hz
  go_enter Try.func65, Try.ntmps65
  go_wp2_with (first | (go_at_call 88; rw [← HW2.out]; refine HC.out.mono ?_; rintro e W1 ⟨v, at1, bad1, rfl, hr1, hk1, ha1, hres⟩; have HR1 := Aside0.mk hr1; have HK1 := Aside0.mk hk1; have HA1 := Aside0.mk ha1; have HRS1 := Aside0.mk hres; clear hr1 hk1 ha1 hres) | (refine wpList_store_row rfl 50 (.tmp 5) (.tmp 14) rfl W1.heap.size (tbl v) rfl rfl 50 (tbl fun _ => false) (blk_new _ _) (tbl_info v) (by rw [tbl_size, tbl_size]) (tbl_one v) ?_))
  simp only [Act.put]
  obtain ⟨q, hq⟩ : ∃ q, q = W1.heap.size := ⟨_, rfl⟩
  obtain ⟨W3, hW3⟩ : ∃ W3, W3 = (W1.alloc (.cells (tbl fun _ => false) 50)).setRow W1.heap.size (tbl v) := ⟨_, rfl⟩
  rw [← hW3, ← hq]
  have hle := HK1.out.size
  have NQ : Aside0 (w.heap.size + 2 ≤ q) := ⟨by have := S2.out; omega⟩
  have GQ : Aside0 (W3.heap[q]? = some (.cells (tbl v) 50 (0, 0))) := ⟨by rw [hW3, hq]; exact setRow_heap _ _ (tbl fun _ => false) _ _ _ (blk_new _ _)⟩
  have old : ∀ (g : Nat) (ob : Obj), g < q → W1.heap[g]? = some ob → W3.heap[g]? = some ob := fun g ob hg h => by
   rw [hW3, setRow_other _ _ _ _ (by omega)]
   exact blk_alloc h _
  have GR : Aside0 (W3.heap[w.heap.size]? = some (.cells (tbl fun _ => false) 50 (0, 0))) := ⟨old _ _ (by have := NQ.out; omega) (by rw [HK1.out.block w.heap.size (by have := S2.out; omega) (by omega)]; exact G2.out)⟩
  have R3 : Aside0 (W3.heap[w.heap.size + 1]? = some (rdr2 s at1 bad1)) := ⟨old _ _ (by have := NQ.out; omega) HR1.out⟩
  have B3 : Aside0 (Below w.heap.size w W3) := ⟨by
   have h1 : Below w.heap.size w2 W1 := (HK1.out.below (by have := S2.out; omega)).mono (by omega)
   have h2 := B2.out.trans h1
   rw [hW3]
   exact below_setRow (h2.trans ((Below.refl _ _).alloc (by have := h2.size; omega) _)) (by have := NQ.out; omega) _⟩
  clear hW3 hq old hle HR1 HK1 HC HW2
  obtain ⟨⟨c0, c1, c2⟩, f1, f2⟩ := rdr2_cells R3.out
  cases bad1 with
  | true =>
   refine start_ (n := 17) (S := fun w' => w'.heap[q]? = some (.cells (tbl v) 50 (0, 0)) ∧ w'.cell? ⟨w.heap.size + 1, 1, none⟩ = some (.int .i64 (at1 : Nat)) ∧ w'.cell? ⟨w.heap.size + 1, 2, none⟩ = some (.bool true)) (ds := []) #[false, false, false, false, false, false, false, false, false, false, false, false, false, false, false, false, false] (by kernel_rfl) rfl rfl ⟨blk_drew GQ.out, c1, c2⟩ (fun hHeld => ?_)
   refine tst3 (i := 0) (N := some 15) (v := .agg (tbl v)) (bz 17 1) (by kernel_rfl) hHeld ?_ (hy := Or.inl ⟨by rfl, fun w' hw => exec_load_tbl50 rfl rfl hw.1⟩)
   refine pst (i := 1) (N := some 16) (bz 17 3) (by kernel_rfl) ?_
   refine pst (i := 2) (N := some 17) (bz 17 7) (by kernel_rfl) ?_
   refine pst (i := 3) (N := some 18) (bz 17 15) (by kernel_rfl) ?_
   refine tst3 (i := 4) (N := some 19) (bz 17 31) (by kernel_rfl) hHeld ?_
   refine pst (i := 5) (N := some 20) (bz 17 63) (by kernel_rfl) ?_
   refine pst (i := 6) (N := some 21) (bz 17 127) (by kernel_rfl) ?_
   refine pso (i := 7) (N := some 22) (bz 17 255) (by kernel_rfl) ?_
   refine pso (i := 8) (N := some 23) (bz 17 511) (by kernel_rfl) ?_
   refine pso (i := 9) (N := some 24) (bz 17 1023) (by kernel_rfl) ?_
   refine pso (i := 10) (N := some 25) (bz 17 2047) (by kernel_rfl) ?_
   refine pso (i := 11) (N := some 26) (bz 17 4095) (by kernel_rfl) ?_
   refine pso (i := 12) (N := some 27) (bz 17 8191) (by kernel_rfl) ?_
   refine pso (i := 13) (N := some 28) (bz 17 16383) (by kernel_rfl) ?_
   refine pst (i := 14) (N := some 29) (bz 17 32767) (by kernel_rfl) ?_
   refine one_ (i := 15) (N := none) (bz 17 65535) rfl rfl (by kernel_rfl) (by decide) (fun K hK => ?_)
   refine want_ rfl ?_
   refine wp_store_row 50 (.tmp 2) (.tmp 15) rfl w.heap.size (tbl v) rfl rfl 50 (tbl fun _ => false) (blk_drew GR.out) (tbl_info v) (by rw [tbl_size, tbl_size]) (tbl_one v) ?_
   refine hK.out _ _ ⟨by rw [setRow_other _ _ _ _ (by have := NQ.out; omega)]; exact blk_drew GQ.out, ?_, ?_⟩ (fun hHeld => ?_)
   ·
    exact (blk_cell (show (W3.drew.setRow w.heap.size (tbl v)).heap[w.heap.size + 1]? = some (rdr2 s at1 true) from by rw [setRow_other _ _ _ _ (by omega)]; exact blk_drew R3.out) 1).trans rfl
   ·
    exact (blk_cell (show (W3.drew.setRow w.heap.size (tbl v)).heap[w.heap.size + 1]? = some (rdr2 s at1 true) from by rw [setRow_other _ _ _ _ (by omega)]; exact blk_drew R3.out) 2).trans rfl
   clear hK K
   refine norm_ (a' := ?_) ?_ ?_
   rotate_left
   ·
    simp only [Act.put]
    rfl
   refine pst (i := 16) (N := some 3) (bz 17 131071) (by kernel_rfl) ?_
   refine done_ (by kernel_rfl) ?_
   go_wp2
   refine bodyPost_ret (results_row_tmp rfl _ _ w.heap.size 50 (tbl v) (0, 0) _ rfl (setRow_heap _ _ (tbl fun _ => false) _ _ _ (blk_drew GR.out)) Try.underlying50 rfl (tbl_info _)) rfl ?_
   have hrn : readL s = none := read_bad s at1 v HRS1.out HREQ.out
   exact ReadPost.bad (below_setRow (below_drew1 B3.out) (Nat.le_refl _) _) hrn rfl
  | false =>
   refine start_ (n := 17) (S := fun w' => w'.heap[q]? = some (.cells (tbl v) 50 (0, 0)) ∧ w'.cell? ⟨w.heap.size + 1, 1, none⟩ = some (.int .i64 (at1 : Nat)) ∧ w'.cell? ⟨w.heap.size + 1, 2, none⟩ = some (.bool false)) (ds := []) #[false, false, false, false, false, false, false, false, false, false, false, false, false, false, false, false, false] (by kernel_rfl) rfl rfl ⟨blk_drew GQ.out, c1, c2⟩ (fun hHeld => ?_)
   refine tst3 (i := 0) (N := some 15) (v := .agg (tbl v)) (bz 17 1) (by kernel_rfl) hHeld ?_ (hy := Or.inl ⟨by rfl, fun w' hw => exec_load_tbl50 rfl rfl hw.1⟩)
   refine pst (i := 1) (N := some 16) (bz 17 3) (by kernel_rfl) ?_
   refine pst (i := 2) (N := some 17) (bz 17 7) (by kernel_rfl) ?_
   refine pst (i := 3) (N := some 18) (bz 17 15) (by kernel_rfl) ?_
   refine tst3 (i := 4) (N := some 19) (bz 17 31) (by kernel_rfl) hHeld ?_
   refine pst (i := 5) (N := some 20) (bz 17 63) (by kernel_rfl) ?_
   refine pst (i := 6) (N := some 21) (bz 17 127) (by kernel_rfl) ?_
   refine pst (i := 7) (N := some 22) (bz 17 255) (by kernel_rfl) ?_
   refine pst (i := 8) (N := some 23) (bz 17 511) (by kernel_rfl) ?_
   refine pst (i := 9) (N := some 24) (bz 17 1023) (by kernel_rfl) ?_
   refine tst3 (i := 10) (N := some 25) (bz 17 2047) (by kernel_rfl) hHeld ?_
   refine pst (i := 11) (N := some 26) (bz 17 4095) (by kernel_rfl) ?_
   refine pst (i := 12) (N := some 27) (bz 17 8191) (by kernel_rfl) ?_
   refine pst (i := 13) (N := some 28) (bz 17 16383) (by kernel_rfl) ?_
   refine pst (i := 14) (N := some 29) (bz 17 32767) (by kernel_rfl) ?_
   refine one_ (i := 15) (N := none) (bz 17 65535) rfl rfl (by kernel_rfl) (by decide) (fun K hK => ?_)
   refine want_ rfl ?_
   refine wp_store_row 50 (.tmp 2) (.tmp 15) rfl w.heap.size (tbl v) rfl rfl 50 (tbl fun _ => false) (blk_drew GR.out) (tbl_info v) (by rw [tbl_size, tbl_size]) (tbl_one v) ?_
   refine hK.out _ _ ⟨by rw [setRow_other _ _ _ _ (by have := NQ.out; omega)]; exact blk_drew GQ.out, ?_, ?_⟩ (fun hHeld => ?_)
   ·
    exact (blk_cell (show (W3.drew.setRow w.heap.size (tbl v)).heap[w.heap.size + 1]? = some (rdr2 s at1 false) from by rw [setRow_other _ _ _ _ (by omega)]; exact blk_drew R3.out) 1).trans rfl
   ·
    exact (blk_cell (show (W3.drew.setRow w.heap.size (tbl v)).heap[w.heap.size + 1]? = some (rdr2 s at1 false) from by rw [setRow_other _ _ _ _ (by omega)]; exact blk_drew R3.out) 2).trans rfl
   clear hK K
   refine norm_ (a' := ?_) ?_ ?_
   rotate_left
   ·
    simp only [Act.put]
    rfl
   refine pst (i := 16) (N := some 3) (bz 17 131071) (by kernel_rfl) ?_
   refine done_ (by kernel_rfl) ?_
   go_wp2
   refine bodyPost_ret (results_row_tmp rfl _ _ w.heap.size 50 (tbl v) (0, 0) _ rfl (setRow_heap _ _ (tbl fun _ => false) _ _ _ (blk_drew GR.out)) Try.underlying50 rfl (tbl_info _)) rfl ?_
   have hrn := read_fine s at1 v HRS1.out HREQ.out
   by_cases h3 : at1 = s.length
   ·
    rw [if_pos h3] at hrn
    refine ReadPost.good (below_setRow (below_drew1 B3.out) (Nat.le_refl _) _) hrn ?_
    refine (congrArg (fun x => Ending.returned (.tuple #[.agg (tbl v), .bool x])) (a₁ := ((at1 : Int) == ((tx s).size : Int))) ?_)
    rw [tx_size, h3, beq_self_eq_true]
   ·
    rw [if_neg h3] at hrn
    refine ReadPost.bad (v := v) (below_setRow (below_drew1 B3.out) (Nat.le_refl _) _) hrn ?_
    refine (congrArg (fun x => Ending.returned (.tuple #[.agg (tbl v), .bool x])) (a₁ := ((at1 : Int) == ((tx s).size : Int))) ?_)
    rw [tx_size]
    exact beq_eq_false_iff_ne.2 (by omega)
 ·
  exact read_long s w h40
end Go.Proofs.Yteikgnaikeleaaa

namespace Go.Proofs.Yteikgnaikeleaaa.XLoop
open Go.RowKit Go.Proofs.YteikgnaikeleaaaW.PrintWords Go.Proofs.YteikgnaikeleaaaW.PrintLast Go.Proofs.YteikgnaikeleaaaW.PrintMore
attribute [local go_sem] max2_int min2_int max_two min_two max_three min_three max_four min_four   -- for this text's walks alone
set_option linter.unusedVariables false
set_option linter.unusedSimpArgs false
/-! ### dropperref09_ValidSet: function 22 -/
def dropperref09_ValidSet.l0 : Nat → ByteArray → Int → Option (Bool)
 | 0, _, _ => none
 | k + 1, x0, x3 => if x3 < (x0.size : Int) then (if 0 ≤ x3 then (if (bt x0 x3) < 97 then (some false) else (if (bt x0 x3) > 104 then (some false) else (if x3 > 0 then (if 0 ≤ (wrap64 (x3 - 1)) then (if (wrap64 (x3 - 1)) < (x0.size : Int) then (if (bt x0 x3) ≤ (bt x0 (wrap64 (x3 - 1))) then (some false) else (dropperref09_ValidSet.l0 k x0 (wrap64 (x3 + 1)))) else (none)) else (none)) else (dropperref09_ValidSet.l0 k x0 (wrap64 (x3 + 1)))))) else (none)) else (some true)
def dropperref09_ValidSet.f (k : Nat) (a0 : ByteArray) : Option (Bool) := dropperref09_ValidSet.l0 k a0 0
set_option maxHeartbeats 8000000 in
set_option maxRecDepth 100000 in
theorem dropperref09_ValidSet.calls (k : Nat) (a0 : ByteArray) (r : Bool) (w : World) (h : dropperref09_ValidSet.f k a0 = some r) :
  Calls Try.prog 22 #[.string a0] w fun e w' => e = .returned (.bool r) ∧ Drawn0 w w' := by
 have H : (dropperref09_ValidSet.l0 k a0 0) = some r := h
 clear h
 have H' := Aside0.mk H
 clear H
 go_enter Try.func22, Try.ntmps22
 go_wp2
 repeat (go_quiet (fail); try go_wp2)
 go_loopg [3] k (fun kq v3 w' => ∃ (x3_1 : Int), v3 = .int .i64 x3_1 ∧ Aside0 (dropperref09_ValidSet.l0 kq a0 x3_1 = some r) ∧ Aside0 (kq ≤ k) ∧ Drawn0 w w')
 case atStart => exact ⟨(0), rsz, H', ⟨Nat.le_refl _⟩, drz⟩
 case round =>
  clear H'
  obtain ⟨x3_1, rfl, HA, HK1, ⟨m1, rfl⟩⟩ := hrel
  cases gk with
  | zero => exact absurd HA.out (by simp [dropperref09_ValidSet.l0])
  | succ k1 =>
   have H := HA.out
   clear HA
   simp only [dropperref09_ValidSet.l0] at H
   by_cases c2 : x3_1 < (a0.size : Int)
   ·
    rw [if_pos c2] at H
    have c2b0 : decide (x3_1 < (a0.size : Int)) = true := decide_eq_true c2
    clear c2
    by_cases c3 : 0 ≤ x3_1
    ·
     rw [if_pos c3] at H
     have c3b0 : decide (0 ≤ x3_1) = true := decide_eq_true c3
     clear c3
     by_cases c5 : (bt a0 x3_1) < 97
     ·
      rw [if_pos c5] at H
      have c5b0 : decide ((bt a0 x3_1) < 97) = true := decide_eq_true c5
      clear c5
      obtain rfl := Option.some.inj H
      have p4 : 0 ≤ (x3_1 : Int) := of_decide_eq_true asz
      have q4 : x3_1 < (a0.size : Int) := of_decide_eq_true asz
      have hx4 := bt_at a0 x3_1
      replace p4 := eq_true p4
      replace q4 := eq_true q4
      go_wp2
      repeat (go_quiet (fail); try go_wp2)
      go_ret
      exact ⟨by first | rfl | (simp; done) | (simp [*]; done), drz⟩
     ·
      rw [if_neg c5] at H
      have c5b0 : decide ((bt a0 x3_1) < 97) = false := decide_eq_false c5
      clear c5
      by_cases c7 : (bt a0 x3_1) > 104
      ·
       rw [if_pos c7] at H
       have c7b0 : decide (104 < (bt a0 x3_1)) = true := decide_eq_true c7
       clear c7
       obtain rfl := Option.some.inj H
       have p4 : 0 ≤ (x3_1 : Int) := of_decide_eq_true asz
       have q4 : x3_1 < (a0.size : Int) := of_decide_eq_true asz
       have hx4 := bt_at a0 x3_1
       replace p4 := eq_true p4
       replace q4 := eq_true q4
       have p6 : 0 ≤ (x3_1 : Int) := of_decide_eq_true asz
       have q6 : x3_1 < (a0.size : Int) := of_decide_eq_true asz
       have hx6 := bt_at a0 x3_1
       replace p6 := eq_true p6
       replace q6 := eq_true q6
       go_wp2
       repeat (go_quiet (fail); try go_wp2)
       go_ret
       exact ⟨by first | rfl | (simp; done) | (simp [*]; done), drz⟩
      ·
       rw [if_neg c7] at H
       have c7b0 : decide (104 < (bt a0 x3_1)) = false := decide_eq_false c7
       clear c7
       by_cases c8 : x3_1 > 0
       ·
        rw [if_pos c8] at H
        have c8b0 : decide (0 < x3_1) = true := decide_eq_true c8
        clear c8
        obtain ⟨ji10, hji10⟩ : ∃ j_ : Int, (wrap64 (x3_1 - 1)) = j_ := ⟨_, rfl⟩
        replace H : (if 0 ≤ (ji10) then (if (ji10) < (a0.size : Int) then (if (bt a0 x3_1) ≤ (bt a0 (ji10)) then (some false) else (dropperref09_ValidSet.l0 k1 a0 (wrap64 (x3_1 + 1)))) else (none)) else (none)) = some r := by first | (rw [hji10] at H; exact H) | (simp only [hji10] at H ⊢; exact H)
        have hji10w : (IntKind.i64.wrap (x3_1 - 1)) = ji10 := (i64_w _).trans hji10
        by_cases c11 : 0 ≤ (ji10)
        ·
         rw [if_pos c11] at H
         have c11b0 : decide (0 ≤ (ji10)) = true := decide_eq_true c11
         clear c11
         by_cases c12 : (ji10) < (a0.size : Int)
         ·
          rw [if_pos c12] at H
          have c12b0 : decide ((ji10) < (a0.size : Int)) = true := decide_eq_true c12
          clear c12
          by_cases c14 : (bt a0 x3_1) ≤ (bt a0 (ji10))
          ·
           rw [if_pos c14] at H
           have c14b0 : decide ((bt a0 x3_1) ≤ (bt a0 (ji10))) = true := decide_eq_true c14
           clear c14
           obtain rfl := Option.some.inj H
           have p4 : 0 ≤ (x3_1 : Int) := of_decide_eq_true asz
           have q4 : x3_1 < (a0.size : Int) := of_decide_eq_true asz
           have hx4 := bt_at a0 x3_1
           replace p4 := eq_true p4
           replace q4 := eq_true q4
           have p6 : 0 ≤ (x3_1 : Int) := of_decide_eq_true asz
           have q6 : x3_1 < (a0.size : Int) := of_decide_eq_true asz
           have hx6 := bt_at a0 x3_1
           replace p6 := eq_true p6
           replace q6 := eq_true q6
           have p9 : 0 ≤ (x3_1 : Int) := of_decide_eq_true asz
           have q9 : x3_1 < (a0.size : Int) := of_decide_eq_true asz
           have hx9 := bt_at a0 x3_1
           replace p9 := eq_true p9
           replace q9 := eq_true q9
           have p13 : 0 ≤ ((ji10) : Int) := of_decide_eq_true asz
           have q13 : (ji10) < (a0.size : Int) := of_decide_eq_true asz
           have hx13 := bt_at a0 (ji10)
           replace p13 := eq_true p13
           replace q13 := eq_true q13
           go_wp2
           repeat (go_quiet (fail); try go_wp2)
           go_ret
           exact ⟨by first | rfl | (simp; done) | (simp only [← hji10] <;> (first | rfl | simp)) | (simp [*]; done), drz⟩
          ·
           rw [if_neg c14] at H
           have c14b0 : decide ((bt a0 x3_1) ≤ (bt a0 (ji10))) = false := decide_eq_false c14
           clear c14
           have H' := Aside0.mk H
           clear H
           have p4 : 0 ≤ (x3_1 : Int) := of_decide_eq_true asz
           have q4 : x3_1 < (a0.size : Int) := of_decide_eq_true asz
           have hx4 := bt_at a0 x3_1
           replace p4 := eq_true p4
           replace q4 := eq_true q4
           have p6 : 0 ≤ (x3_1 : Int) := of_decide_eq_true asz
           have q6 : x3_1 < (a0.size : Int) := of_decide_eq_true asz
           have hx6 := bt_at a0 x3_1
           replace p6 := eq_true p6
           replace q6 := eq_true q6
           have p9 : 0 ≤ (x3_1 : Int) := of_decide_eq_true asz
           have q9 : x3_1 < (a0.size : Int) := of_decide_eq_true asz
           have hx9 := bt_at a0 x3_1
           replace p9 := eq_true p9
           replace q9 := eq_true q9
           have p13 : 0 ≤ ((ji10) : Int) := of_decide_eq_true asz
           have q13 : (ji10) < (a0.size : Int) := of_decide_eq_true asz
           have hx13 := bt_at a0 (ji10)
           replace p13 := eq_true p13
           replace q13 := eq_true q13
           go_wp2
           repeat (go_quiet (fail); try go_wp2)
           go_roundg k1
           case measure => have := HK1.out; omega
           case rel => exact ⟨(wrap64 (x3_1 + 1)), rsz, H', ⟨by have := HK1.out; omega⟩, drz⟩
         ·
          rw [if_neg c12] at H
          exact absurd H (by simp)
        ·
         rw [if_neg c11] at H
         exact absurd H (by simp)
       ·
        rw [if_neg c8] at H
        have c8b0 : decide (0 < x3_1) = false := decide_eq_false c8
        clear c8
        have H' := Aside0.mk H
        clear H
        have p4 : 0 ≤ (x3_1 : Int) := of_decide_eq_true asz
        have q4 : x3_1 < (a0.size : Int) := of_decide_eq_true asz
        have hx4 := bt_at a0 x3_1
        replace p4 := eq_true p4
        replace q4 := eq_true q4
        have p6 : 0 ≤ (x3_1 : Int) := of_decide_eq_true asz
        have q6 : x3_1 < (a0.size : Int) := of_decide_eq_true asz
        have hx6 := bt_at a0 x3_1
        replace p6 := eq_true p6
        replace q6 := eq_true q6
        go_wp2
        repeat (go_quiet (fail); try go_wp2)
        go_roundg k1
        case measure => have := HK1.out; omega
        case rel => exact ⟨(wrap64 (x3_1 + 1)), rsz, H', ⟨by have := HK1.out; omega⟩, drz⟩
    ·
     rw [if_neg c3] at H
     exact absurd H (by simp)
   ·
    rw [if_neg c2] at H
    have c2b0 : decide (x3_1 < (a0.size : Int)) = false := decide_eq_false c2
    clear c2
    obtain rfl := Option.some.inj H
    go_wp2
    repeat (go_quiet (fail); try go_wp2)
    go_ret
    exact ⟨by first | rfl | (simp; done) | (simp [*]; done), drz⟩

end Go.Proofs.Yteikgnaikeleaaa.XLoop
namespace Go.Proofs.Yteikgnaikeleaaa
open Go.RowKit Go.Proofs.YteikgnaikeleaaaW.PrintWords Go.Proofs.YteikgnaikeleaaaW.PrintLast Go.Proofs.YteikgnaikeleaaaW.PrintMore
set_option linter.unusedVariables false

theorem below_dn {B : Nat} {a w : World} (h : Below B a w) (n : Nat) : Below B a (w.drewN n) := ⟨h.os, h.tape, h.output, h.size, h.block⟩
def ReadC (w : World) (s : List UInt8) (e : Ending) (w' : World) : Prop :=
 ∃ v, e = .returned (.tuple #[.agg (tbl v), .bool (parseL s).isSome]) ∧ (∀ m, parseL s = some m → v = m.f) ∧ Below w.heap.size w w'
theorem read_c (s : List UInt8) (w : World) : Calls Try.prog 65 #[.string (tx s)] w (ReadC w s) := by
 refine (read_calls s w).mono ?_
 rintro e w' ⟨hb, h⟩
 rw [readL_eq] at h
 cases hp : parseL s with
 | none =>
  rw [hp] at h
  obtain ⟨v, rfl⟩ := h
  exact ⟨v, by rw [hp]; rfl, (by intro m hm; rw [hp] at hm; cases hm), hb⟩
 | some m =>
  rw [hp] at h
  exact ⟨m.f, by rw [hp]; exact h, (by intro m' hm; rw [hp] at hm; cases hm; rfl), hb⟩
theorem new_row (W : World) (v : Nat → Bool) : ((W.alloc (.cells (tbl fun _ => false) 50)).setRow W.heap.size (tbl v)).heap[W.heap.size]? = some (.cells (tbl v) 50 (0, 0)) := setRow_heap _ _ (tbl fun _ => false) _ _ _ (blk_new _ _)
theorem new_below {b : Nat} {w W : World} (h : Below b w W) (hb : b ≤ w.heap.size) (v : Nat → Bool) : Below b w ((W.alloc (.cells (tbl fun _ => false) 50)).setRow W.heap.size (tbl v)) :=
 below_setRow (h.trans ((Below.refl _ _).alloc (by have := h.size; omega) _)) (by have := h.size; omega) _
set_option maxHeartbeats 8000000 in
set_option maxRecDepth 1000000 in
theorem rvalid_calls (s : List UInt8) (w : World) : Calls Try.prog 21 #[.string (tx s)] w fun e w' => e = .returned (.bool (parseL s).isSome) ∧ Below w.heap.size w w' := by
 have HC := Aside0.mk (read_c s)
 have hzz := zero50
 go_enter Try.func21, Try.ntmps21
 go_wp2_with (first | (go_at_call 65; refine (HC.out _).mono ?_; rintro e W1 ⟨v, rfl, hv, hb⟩; have HB := Aside0.mk hb; clear hb hv) | (refine wpList_store_row rfl 50 (.tmp 3) (.tmp 8) rfl W1.heap.size (tbl v) rfl rfl 50 (tbl fun _ => false) (blk_new _ _) (tbl_info v) (by rw [tbl_size, tbl_size]) (tbl_one v) ?_))
 go_ret
 exact ⟨rfl, new_below HB.out (Nat.le_refl _) v⟩
/-! the reference's sets -/
theorem bt_tx (s : List UInt8) (x : Nat) (h : x < s.length) : bt (tx s) (x : Int) = ((s[x]'h).toNat : Int) := by
 have h' : (x : Int).toNat < (tx s).size := by rw [tx_size]; exact h
 unfold bt
 rw [dif_pos h']
 exact congrArg (fun b : UInt8 => (b.toNat : Int)) (tx_get s x h')
theorem vs_eq : ∀ (t : List UInt8) (k x : Nat) (s : List UInt8) (out : Nat) (last : Int), s.drop x = t → s.length < 1000000000 → (x = 0 ∧ last = -1 ∨ 0 < x ∧ x ≤ s.length ∧ last = bt (tx s) ((x : Int) - 1) - 97) → t.length < k →
  XLoop.dropperref09_ValidSet.l0 k (tx s) x = some (setL t out last).isSome
 | [], k + 1, x, s, out, last, hs, hm, hl, hk => by
  have : ¬ (x : Int) < ((tx s).size : Int) := by
   rw [tx_size]
   have := congrArg List.length hs
   simp at this
   omega
  rw [XLoop.dropperref09_ValidSet.l0, if_neg this]
  rfl
 | b :: t, 0, x, s, out, last, hs, hm, hl, hk => by simp at hk
 | b :: t, k + 1, x, s, out, last, hs, hm, hl, hk => by
  have hp : x < s.length := by
   have := congrArg List.length hs
   simp at this
   omega
  have hc := List.drop_eq_getElem_cons hp
  rw [hs] at hc
  obtain ⟨hb, ht⟩ := List.cons.inj hc
  have h1 : (x : Int) < ((tx s).size : Int) := by rw [tx_size]; omega
  have hbt : bt (tx s) (x : Int) = (b.toNat : Int) := by rw [bt_tx s x hp, ← hb]
  have hw : wrap64 ((x : Int) + 1) = ((x + 1 : Nat) : Int) := by unfold wrap64; omega
  have hw1 : 0 < x → wrap64 ((x : Int) - 1) = (x : Int) - 1 := fun h => by unfold wrap64; omega
  have go := fun out' => vs_eq t k (x + 1) s out' ((b.toNat : Int) - 97) ht.symm hm (Or.inr ⟨by omega, by omega, by rw [← hbt]; simp⟩) (by simp at hk; omega)
  rw [XLoop.dropperref09_ValidSet.l0, if_pos h1, if_pos (Int.natCast_nonneg x), hbt, hw, setL]
  by_cases hi : isL b = true
  ·
   have hi' := (isL_iff b).1 hi
   rw [if_neg (by omega), if_neg (by omega)]
   by_cases hx : 0 < x
   ·
    rw [if_pos (by omega), hw1 hx, if_pos (by omega), if_pos (by omega)]
    rcases hl with hl | ⟨_, _, hl⟩
    ·
     omega
    by_cases h3 : last < (b.toNat : Int) - 97
    ·
     rw [if_neg (by omega), if_pos ⟨hi, h3⟩]
     exact go _
    ·
     rw [if_pos (by omega), if_neg (fun h => h3 h.2)]
     rfl
   ·
    rw [if_neg (by omega)]
    rcases hl with ⟨_, hl⟩ | ⟨hl, _⟩
    ·
     rw [if_pos ⟨hi, by omega⟩]
     exact go _
    ·
     omega
  ·
   rw [if_neg (show ¬ (isL b = true ∧ _) from fun h => hi h.1)]
   have : ¬ (97 ≤ (b.toNat : Int) ∧ (b.toNat : Int) ≤ 104) := fun h => hi ((isL_iff b).2 h)
   by_cases h3 : (b.toNat : Int) < 97
   ·
    rw [if_pos h3]; rfl
   ·
    rw [if_neg h3, if_pos (by omega)]; rfl
theorem rset_calls (s : List UInt8) (hm : s.length < 1000000000) (w : World) : Calls Try.prog 22 #[.string (tx s)] w fun e w' => e = .returned (.bool (setL s 0 (-1)).isSome) ∧ Drawn0 w w' :=
 XLoop.dropperref09_ValidSet.calls (s.length + 1) (tx s) _ w (vs_eq s (s.length + 1) 0 s 0 (-1) rfl hm (Or.inl ⟨rfl, rfl⟩) (Nat.lt_succ_self _))
set_option maxHeartbeats 8000000 in
set_option maxRecDepth 1000000 in
theorem rbits_calls (s : List UInt8) (hm : s.length < 1000000000) (k : Nat) (hk : setL s 0 (-1) = some k) (w : World) : Calls Try.prog 79 #[.string (tx s)] w fun e w' => e = .returned (.int .i64 k) ∧ Drawn0 w w' := by
 have hsz := tx_size s
 have HK := Aside0.mk hk
 clear hk
 go_enter Try.func79, Try.ntmps79
 go_wp2
 go_loopg [3, 4] (s.length + 1) (fun kq v3 v4 W => ∃ (x : Nat) (o : Nat) (last : Int), v3 = .int .i64 (o : Nat) ∧ v4 = .int .i64 x ∧ Aside0 (x + kq = s.length + 1) ∧ Aside0 (x ≤ s.length) ∧ Aside0 (o < 256) ∧ Aside0 (setL (s.drop x) o last = some k) ∧ Drawn0 w W)
 case atStart => exact ⟨0, 0, -1, rfl, rfl, ⟨by omega⟩, ⟨by omega⟩, ⟨by decide⟩, HK, drz⟩
 case round =>
  obtain ⟨x, o, last, rfl, rfl, HX, HL, HO, HS, ⟨m1, rfl⟩⟩ := hrel
  by_cases hx : x < s.length
  ·
   have h1 : decide ((x : Int) < ((tx s).size : Int)) = true := decide_eq_true (by rw [hsz]; omega)
   have h2 : (0 : Int) ≤ (x : Int) ∧ (x : Int) < ((tx s).size : Int) := by rw [hsz]; omega
   have hl2 : x < (tx s).size := by rw [hsz]; exact hx
   obtain ⟨b, hb⟩ : ∃ b, (tx s)[x]'hl2 = b := ⟨_, rfl⟩
   have hd := HS.out
   rw [List.drop_eq_getElem_cons hx, ← tx_get s x hl2, hb, setL] at hd
   split at hd
   case isFalse => cases hd
   rename_i hc
   have hi := (isL_iff b).1 hc.1
   have hu : ((b.toNat : Int) - 97) % 256 = (b.toNat : Int) - 97 := by omega
   have hnx : wrap64 ((x : Int) + 1) = ((x + 1 : Nat) : Int) := by unfold wrap64; omega
   have hn : ((b.toNat : Int) - 97).toNat = b.toNat - 97 := by omega
   have hmn : min (b.toNat - 97) 64 = b.toNat - 97 := by omega
   have h0 : (0 : Int) ≤ (b.toNat : Int) - 97 := by omega
   have hor := or_bits HO.out (show b.toNat - 97 < 8 by omega)
   have HO2 := Aside0.mk (or_lt HO.out (show b.toNat - 97 < 8 by omega))
   have HD := Aside0.mk hd
   have HX1 := Aside0.mk hx
   clear hd hc hi hx hsz HS
   go_wp2
   go_roundg (s.length - x)
   case measure => have := HX.out; have := HX1.out; omega
   case rel => exact ⟨x + 1, o ||| 2 ^ (b.toNat - 97), (b.toNat : Int) - 97, by first | rfl | rw [hor], by first | rfl | rw [hnx], ⟨by have := HX.out; have := HX1.out; omega⟩, ⟨HX1.out⟩, HO2, HD, ⟨_, rfl⟩⟩
  ·
   have h1 : decide ((x : Int) < ((tx s).size : Int)) = false := decide_eq_false (by rw [hsz]; omega)
   have hd := HS.out
   rw [List.drop_eq_nil_of_le (by omega), setL] at hd
   obtain rfl := Option.some.inj hd
   go_wp2
   go_ret
   exact ⟨rfl, _, rfl⟩
/-! what is asked of the reference -/
def RAskPost (w : World) (s q : List UInt8) (e : Ending) (w' : World) : Prop :=
 ∃ v c, e = .returned (.tuple #[.agg (tbl v), .int .i64 c]) ∧ Below w.heap.size w w' ∧ match parseL s, setL q 0 (-1) with
  | none, _ => c = 90
  | some m, none => c = 91
  | some m, some k => c = 0 ∧ v = m.f
theorem results_row_tmp2 {P : Program} {fn : Func} {p q : Tmp} {ty : TypeId} (h : fn.results = #[.cell p ty, .tmp q]) (tmps : Array Value) (w : World) (g : Nat) (t : TypeId) (cs : Array Value) (fr : Nat × Nat) (d : TypeDesc)
  (hp : tmps.getD p undef = .pointer (some ⟨g, 0, none⟩)) (hg : w.heap[g]? = some (.cells cs t fr))
  (hu : P.underlying ty = some d) (hd : (match d with | .struct _ | .array _ _ => true | _ => false) = true) (hi : (P.info? ty).map (·.size) = some cs.size) {r : Value} (hr : tmps.getD q undef = r) :
  (results fn tmps).run P w = .ok (.tuple #[.agg cs, r]) w := by
 rw [← hr]
 exact results_row_tmp h tmps w g t cs fr d hp hg hu hd hi
theorem old_row {W : World} {g : Nat} {o : Obj} (h : W.heap[g]? = some o) (v : Nat → Bool) : ((W.alloc (.cells (tbl fun _ => false) 50)).setRow W.heap.size (tbl v)).heap[g]? = some o := by
 have hlt : g < W.heap.size := (Array.getElem?_eq_some_iff.1 h).1
 rw [setRow_other _ _ _ _ (by omega)]
 exact blk_alloc h _
theorem pre_row {w W : World} (hb : Below (w.alloc (.cells (tbl fun _ => false) 50)).heap.size (w.alloc (.cells (tbl fun _ => false) 50)) W) : W.heap[w.heap.size]? = some (.cells (tbl fun _ => false) 50 (0, 0)) :=
 blk_below (blk_new w (.cells (tbl fun _ => false) 50)) hb
theorem pre_below {w W : World} (hb : Below (w.alloc (.cells (tbl fun _ => false) 50)).heap.size (w.alloc (.cells (tbl fun _ => false) 50)) W) : Below w.heap.size w W :=
 ((Below.refl _ w).alloc (Nat.le_refl _) _).trans (hb.mono (by simp))
set_option maxHeartbeats 8000000 in
set_option maxRecDepth 1000000 in
theorem rasked_calls (s q : List UInt8) (hm : q.length < 1000000000) (w : World) : Calls Try.prog 61 #[.string (tx s), .string (tx q)] w (RAskPost w s q) := by
 have HC := Aside0.mk (read_c s)
 have HS := Aside0.mk (rset_calls q hm)
 have hzz := zero50
 have G := Aside0.mk (blk_new w (.cells (tbl fun _ => false) 50))
 cases hp : parseL s with
 | none =>
  have hi : (parseL s).isSome = false := by rw [hp]; rfl
  go_enter Try.func61, Try.ntmps61
  go_wp2_with (first | (go_at_call 65; refine (HC.out _).mono ?_; rintro e W1 ⟨v, rfl, hv, hb⟩; rw [hi]; have HV := Aside0.mk hv; have HB := Aside0.mk (pre_below hb); have H4 := Aside0.mk (old_row (pre_row hb) v); have H6 := Aside0.mk (new_row W1 v); clear hb hv) | (refine wpList_store_row rfl 50 (.tmp 6) (.tmp 11) rfl W1.heap.size (tbl v) rfl rfl 50 (tbl fun _ => false) (blk_new _ _) (tbl_info v) (by rw [tbl_size, tbl_size]) (tbl_one v) ?_) | (refine wpList_load_row rfl 50 (.tmp 6) rfl W1.heap.size rfl 50 (tbl v) (0, 0) _ (by repeat (first | exact H6.out | with_reducible refine tbl_drewN ?_ _)) Try.underlying50 rfl (tbl_info v) ?_) | (refine wpList_store_row rfl 50 (.tmp 4) (.tmp 16) rfl w.heap.size (tbl v) rfl rfl 50 (tbl fun _ => false) (by repeat (first | exact H4.out | with_reducible refine tbl_drewN ?_ _)) (tbl_info v) (by rw [tbl_size, tbl_size]) (tbl_one v) ?_) | (refine wpList_store_row rfl 50 (.tmp 4) (.tmp 21) rfl w.heap.size (tbl v) rfl rfl 50 (tbl fun _ => false) (by repeat (first | exact H4.out | with_reducible refine tbl_drewN ?_ _)) (tbl_info v) (by rw [tbl_size, tbl_size]) (tbl_one v) ?_) | (refine wpList_store_row rfl 50 (.tmp 4) (.tmp 22) rfl w.heap.size (tbl v) rfl rfl 50 (tbl fun _ => false) (by repeat (first | exact H4.out | with_reducible refine tbl_drewN ?_ _)) (tbl_info v) (by rw [tbl_size, tbl_size]) (tbl_one v) ?_))
  refine bodyPost_ret (results_row_tmp2 rfl _ _ w.heap.size 50 (tbl v) (0, 0) _ rfl (setRow_heap _ _ (tbl fun _ => false) _ _ _ H4.out) Try.underlying50 rfl (tbl_info _) rfl) rfl ?_
  refine ⟨v, 90, rfl, below_setRow (new_below HB.out (Nat.le_refl _) v) (Nat.le_refl _) _, ?_⟩
  rw [hp]
 | some m =>
  have hi : (parseL s).isSome = true := by rw [hp]; rfl
  cases hq : setL q 0 (-1) with
  | none =>
   have hj : (setL q 0 (-1)).isSome = false := by rw [hq]; rfl
   go_enter Try.func61, Try.ntmps61
   go_wp2_with (first | (go_at_call 65; refine (HC.out _).mono ?_; rintro e W1 ⟨v, rfl, hv, hb⟩; rw [hi]; have HV := Aside0.mk hv; have HB := Aside0.mk (pre_below hb); have H4 := Aside0.mk (old_row (pre_row hb) v); have H6 := Aside0.mk (new_row W1 v); clear hb hv) | (refine wpList_store_row rfl 50 (.tmp 6) (.tmp 11) rfl W1.heap.size (tbl v) rfl rfl 50 (tbl fun _ => false) (blk_new _ _) (tbl_info v) (by rw [tbl_size, tbl_size]) (tbl_one v) ?_) | (go_at_call 22; refine (HS.out _).mono ?_; rintro e W2 ⟨rfl, m2, rfl⟩; rw [hj]) | (refine wpList_load_row rfl 50 (.tmp 6) rfl W1.heap.size rfl 50 (tbl v) (0, 0) _ (by repeat (first | exact H6.out | with_reducible refine tbl_drewN ?_ _)) Try.underlying50 rfl (tbl_info v) ?_) | (refine wpList_store_row rfl 50 (.tmp 4) (.tmp 16) rfl w.heap.size (tbl v) rfl rfl 50 (tbl fun _ => false) (by repeat (first | exact H4.out | with_reducible refine tbl_drewN ?_ _)) (tbl_info v) (by rw [tbl_size, tbl_size]) (tbl_one v) ?_) | (refine wpList_store_row rfl 50 (.tmp 4) (.tmp 21) rfl w.heap.size (tbl v) rfl rfl 50 (tbl fun _ => false) (by repeat (first | exact H4.out | with_reducible refine tbl_drewN ?_ _)) (tbl_info v) (by rw [tbl_size, tbl_size]) (tbl_one v) ?_) | (refine wpList_store_row rfl 50 (.tmp 4) (.tmp 22) rfl w.heap.size (tbl v) rfl rfl 50 (tbl fun _ => false) (by repeat (first | exact H4.out | with_reducible refine tbl_drewN ?_ _)) (tbl_info v) (by rw [tbl_size, tbl_size]) (tbl_one v) ?_))
   refine bodyPost_ret (results_row_tmp2 rfl _ _ w.heap.size 50 (tbl v) (0, 0) _ rfl (setRow_heap _ _ (tbl fun _ => false) _ _ _ (tbl_drewN H4.out _)) Try.underlying50 rfl (tbl_info _) rfl) rfl ?_
   refine ⟨v, 91, rfl, below_setRow (below_dn (new_below HB.out (Nat.le_refl _) v) _) (Nat.le_refl _) _, ?_⟩
   rw [hp, hq]
  | some k =>
   have hj : (setL q 0 (-1)).isSome = true := by rw [hq]; rfl
   go_enter Try.func61, Try.ntmps61
   go_wp2_with (first | (go_at_call 65; refine (HC.out _).mono ?_; rintro e W1 ⟨v, rfl, hv, hb⟩; rw [hi]; have HV := Aside0.mk hv; have HB := Aside0.mk (pre_below hb); have H4 := Aside0.mk (old_row (pre_row hb) v); have H6 := Aside0.mk (new_row W1 v); clear hb hv) | (refine wpList_store_row rfl 50 (.tmp 6) (.tmp 11) rfl W1.heap.size (tbl v) rfl rfl 50 (tbl fun _ => false) (blk_new _ _) (tbl_info v) (by rw [tbl_size, tbl_size]) (tbl_one v) ?_) | (go_at_call 22; refine (HS.out _).mono ?_; rintro e W2 ⟨rfl, m2, rfl⟩; rw [hj]) | (refine wpList_load_row rfl 50 (.tmp 6) rfl W1.heap.size rfl 50 (tbl v) (0, 0) _ (by repeat (first | exact H6.out | with_reducible refine tbl_drewN ?_ _)) Try.underlying50 rfl (tbl_info v) ?_) | (refine wpList_store_row rfl 50 (.tmp 4) (.tmp 16) rfl w.heap.size (tbl v) rfl rfl 50 (tbl fun _ => false) (by repeat (first | exact H4.out | with_reducible refine tbl_drewN ?_ _)) (tbl_info v) (by rw [tbl_size, tbl_size]) (tbl_one v) ?_) | (refine wpList_store_row rfl 50 (.tmp 4) (.tmp 21) rfl w.heap.size (tbl v) rfl rfl 50 (tbl fun _ => false) (by repeat (first | exact H4.out | with_reducible refine tbl_drewN ?_ _)) (tbl_info v) (by rw [tbl_size, tbl_size]) (tbl_one v) ?_) | (refine wpList_store_row rfl 50 (.tmp 4) (.tmp 22) rfl w.heap.size (tbl v) rfl rfl 50 (tbl fun _ => false) (by repeat (first | exact H4.out | with_reducible refine tbl_drewN ?_ _)) (tbl_info v) (by rw [tbl_size, tbl_size]) (tbl_one v) ?_))
   refine bodyPost_ret (results_row_tmp2 rfl _ _ w.heap.size 50 (tbl v) (0, 0) _ rfl (setRow_heap _ _ (tbl fun _ => false) _ _ _ (tbl_drewN H4.out _)) Try.underlying50 rfl (tbl_info _) rfl) rfl ?_
   refine ⟨v, 0, rfl, below_setRow (below_dn (new_below HB.out (Nat.le_refl _) v) _) (Nat.le_refl _) _, ?_⟩
   rw [hp, hq]
   exact ⟨rfl, HV.out m hp⟩
end Go.Proofs.Yteikgnaikeleaaa

namespace Go.Proofs.Yteikgnaikeleaaa
open Go.RowKit Go.Proofs.YteikgnaikeleaaaW.PrintWords Go.Proofs.YteikgnaikeleaaaW.PrintLast Go.Proofs.YteikgnaikeleaaaW.PrintMore
set_option linter.unusedVariables false

theorem xor_255 (k : Nat) (h : k < 256) : 255 ^^^ k = 255 - k := by
 have : ∀ k : Fin 256, 255 ^^^ k.val = 255 - k.val := by decide +kernel
 exact this ⟨k, h⟩
theorem tbl_cell2 {w : World} {g : Nat} {f : Nat → Bool} {t : TypeId} (h : w.heap[g]? = some (.cells (tbl f) t (0, 0))) (n : Nat) (hn : n < 256) : w.cell? ⟨g, n, none⟩ = some (.bool (f n)) := tbl_cell h n hn
set_option maxHeartbeats 8000000 in
set_option maxRecDepth 1000000 in
theorem rconducts_calls (s q : List UInt8) (hm : q.length < 1000000000) (w : World) : Calls Try.prog 46 #[.string (tx s), .string (tx q)] w fun e w' => e = .returned (.tuple #[.bool (condR s q).1, .int .i64 (condR s q).2]) ∧ Below w.heap.size w w' := by
 have HC := Aside0.mk (rasked_calls s q hm)
 unfold RAskPost at HC
 have hzz := zero50
 unfold condR
 cases hp : parseL s with
 | none =>
  rw [hp] at HC
  go_enter Try.func46, Try.ntmps46
  go_wp2_with (first | (go_at_call 61; refine (HC.out _).mono ?_; rintro e W1 ⟨v, c, rfl, hb, hv⟩; obtain rfl := hv; have HB := Aside0.mk hb; have H6 := Aside0.mk (new_row W1 v); clear hb) | (refine wpList_store_row rfl 50 (.tmp 6) (.tmp 12) rfl W1.heap.size (tbl v) rfl rfl 50 (tbl fun _ => false) (blk_new _ _) (tbl_info v) (by rw [tbl_size, tbl_size]) (tbl_one v) ?_))
  go_ret2
  exact ⟨rfl, new_below HB.out (Nat.le_refl _) v⟩
 | some m =>
  rw [hp] at HC
  cases hq : setL q 0 (-1) with
  | none =>
   rw [hq] at HC
   go_enter Try.func46, Try.ntmps46
   go_wp2_with (first | (go_at_call 61; refine (HC.out _).mono ?_; rintro e W1 ⟨v, c, rfl, hb, hv⟩; obtain rfl := hv; have HB := Aside0.mk hb; have H6 := Aside0.mk (new_row W1 v); clear hb) | (refine wpList_store_row rfl 50 (.tmp 6) (.tmp 12) rfl W1.heap.size (tbl v) rfl rfl 50 (tbl fun _ => false) (blk_new _ _) (tbl_info v) (by rw [tbl_size, tbl_size]) (tbl_one v) ?_))
   go_ret2
   exact ⟨rfl, new_below HB.out (Nat.le_refl _) v⟩
  | some k =>
   rw [hq] at HC
   have HS := Aside0.mk (rbits_calls q hm k hq)
   have hk := setL_256 hq
   have h0 : (0 : Int) ≤ (k : Int) ∧ (k : Int) < 256 := by omega
   clear hp hq
   go_enter Try.func46, Try.ntmps46
   go_wp2_with (first | (go_at_call 61; refine (HC.out _).mono ?_; rintro e W1 ⟨v, c, rfl, hb, hv⟩; obtain ⟨rfl, rfl⟩ := hv; have HB := Aside0.mk hb; have H6 := Aside0.mk (new_row W1 m.f); clear hb) | (refine wpList_store_row rfl 50 (.tmp 6) (.tmp 12) rfl W1.heap.size (tbl m.f) rfl rfl 50 (tbl fun _ => false) (blk_new _ _) (tbl_info m.f) (by rw [tbl_size, tbl_size]) (tbl_one m.f) ?_) | (go_at_call 79; refine (HS.out _).mono ?_; rintro e W2 ⟨rfl, m2, rfl⟩; have hcell := tbl_cell (tbl_drewN H6.out m2) k hk))
   go_ret2
   exact ⟨rfl, below_dn (new_below HB.out (Nat.le_refl _) m.f) _⟩
set_option maxHeartbeats 8000000 in
set_option maxRecDepth 1000000 in
theorem riscut_calls (s q : List UInt8) (hm : q.length < 1000000000) (w : World) : Calls Try.prog 41 #[.string (tx s), .string (tx q)] w fun e w' => e = .returned (.tuple #[.bool (cutR s q).1, .int .i64 (cutR s q).2]) ∧ Below w.heap.size w w' := by
 have HC := Aside0.mk (rasked_calls s q hm)
 unfold RAskPost at HC
 have hzz := zero50
 unfold cutR
 cases hp : parseL s with
 | none =>
  rw [hp] at HC
  go_enter Try.func41, Try.ntmps41
  go_wp2_with (first | (go_at_call 61; refine (HC.out _).mono ?_; rintro e W1 ⟨v, c, rfl, hb, hv⟩; obtain rfl := hv; have HB := Aside0.mk hb; have H6 := Aside0.mk (new_row W1 v); clear hb) | (refine wpList_store_row rfl 50 (.tmp 6) (.tmp 12) rfl W1.heap.size (tbl v) rfl rfl 50 (tbl fun _ => false) (blk_new _ _) (tbl_info v) (by rw [tbl_size, tbl_size]) (tbl_one v) ?_))
  go_ret2
  exact ⟨rfl, new_below HB.out (Nat.le_refl _) v⟩
 | some m =>
  rw [hp] at HC
  cases hq : setL q 0 (-1) with
  | none =>
   rw [hq] at HC
   go_enter Try.func41, Try.ntmps41
   go_wp2_with (first | (go_at_call 61; refine (HC.out _).mono ?_; rintro e W1 ⟨v, c, rfl, hb, hv⟩; obtain rfl := hv; have HB := Aside0.mk hb; have H6 := Aside0.mk (new_row W1 v); clear hb) | (refine wpList_store_row rfl 50 (.tmp 6) (.tmp 12) rfl W1.heap.size (tbl v) rfl rfl 50 (tbl fun _ => false) (blk_new _ _) (tbl_info v) (by rw [tbl_size, tbl_size]) (tbl_one v) ?_))
   go_ret2
   exact ⟨rfl, new_below HB.out (Nat.le_refl _) v⟩
  | some k =>
   rw [hq] at HC
   have HS := Aside0.mk (rbits_calls q hm k hq)
   have hk := setL_256 hq
   have h0 : (0 : Int) ≤ (k : Int) ∧ (k : Int) < 256 := by omega
   have hw : wrap64 (255 - (k : Int)) = ((255 - k : Nat) : Int) := by unfold wrap64; omega
   have hx : cutF m.f k = !m.f (255 - k) := by unfold cutF; rw [xor_255 k hk]
   have h1 : (0 : Int) ≤ ((255 - k : Nat) : Int) ∧ ((255 - k : Nat) : Int) < 256 := by omega
   have HK2 : Aside0 (255 - k < 256) := ⟨by omega⟩
   simp only [hx]
   clear hp hq
   go_enter Try.func41, Try.ntmps41
   go_wp2_with (first | (go_at_call 61; refine (HC.out _).mono ?_; rintro e W1 ⟨v, c, rfl, hb, hv⟩; obtain ⟨rfl, rfl⟩ := hv; have HB := Aside0.mk hb; have H6 := Aside0.mk (new_row W1 m.f); clear hb) | (refine wpList_store_row rfl 50 (.tmp 6) (.tmp 12) rfl W1.heap.size (tbl m.f) rfl rfl 50 (tbl fun _ => false) (blk_new _ _) (tbl_info m.f) (by rw [tbl_size, tbl_size]) (tbl_one m.f) ?_) | (go_at_call 79; refine (HS.out _).mono ?_; rintro e W2 ⟨rfl, m2, rfl⟩; have hcell := tbl_cell (tbl_drewN H6.out m2) (255 - k) HK2.out))
   go_ret2
   exact ⟨rfl, below_dn (new_below HB.out (Nat.le_refl _) m.f) _⟩
set_option maxHeartbeats 8000000 in
set_option maxRecDepth 1000000 in
theorem rispath_calls (s q : List UInt8) (hm : q.length < 1000000000) (w : World) : Calls Try.prog 40 #[.string (tx s), .string (tx q)] w fun e w' => e = .returned (.tuple #[.bool (condR s q).1, .int .i64 (condR s q).2]) ∧ Below w.heap.size w w' := by
 have HC := Aside0.mk (rconducts_calls s q hm)
 generalize condR s q = r at HC
 go_enter Try.func40, Try.ntmps40
 go_wp2_with (go_at_call 46; refine (HC.out _).mono ?_; rintro e W1 ⟨rfl, hb⟩; have HB := Aside0.mk hb; clear hb)
 go_ret2
 exact ⟨rfl, HB.out⟩
end Go.Proofs.Yteikgnaikeleaaa

namespace Go.Proofs.Yteikgnaikeleaaa
set_option linter.unusedVariables false
open Go.RowKit Go.Proofs.Yteikgnaikeleaaa.XLoop Go.Proofs.YteikgnaikeleaaaW.PrintWords Go.Proofs.YteikgnaikeleaaaW.PrintLast Go.Proofs.YteikgnaikeleaaaW.PrintMore
theorem first_paths : pathsR [97, 40, 98, 43, 99, 41] = ([tx [97, 98], tx [97, 99]], 0) := by decide +kernel
theorem first_cuts : cutsR [97, 40, 98, 43, 99, 41] = ([tx [97], tx [98, 99]], 0) := by decide +kernel
theorem first_dual : dualR [97, 40, 98, 43, 99, 41] = ([97, 43, 98, 99], 0) := by decide +kernel
theorem same_two (a b : ByteArray) (k : Nat) : dropperlaw09_SameTexts.f (k + 3) [a, b] [a, b] = some true := by
 unfold dropperlaw09_SameTexts.f
 simp [dropperlaw09_SameTexts.l0, wrap64]
theorem first_evk (k : Nat) : dropperlaw09_First.f (k + 3) = some true := by
 have h1 : loop_Paths.f (⟨#[97, 40, 98, 43, 99, 41]⟩ : ByteArray) = some ([tx [97, 98], tx [97, 99]], 0) := by
  show some ((pathsR [97, 40, 98, 43, 99, 41]).1, (pathsR [97, 40, 98, 43, 99, 41]).2) = _
  rw [first_paths]
 have h2 : loop_Cuts.f (⟨#[97, 40, 98, 43, 99, 41]⟩ : ByteArray) = some ([tx [97], tx [98, 99]], 0) := by
  show some ((cutsR [97, 40, 98, 43, 99, 41]).1, (cutsR [97, 40, 98, 43, 99, 41]).2) = _
  rw [first_cuts]
 have h3 : loop_Dual.f (⟨#[97, 40, 98, 43, 99, 41]⟩ : ByteArray) = some (tx [97, 43, 98, 99], 0) := by
  show some (tx (dualR [97, 40, 98, 43, 99, 41]).1, (dualR [97, 40, 98, 43, 99, 41]).2) = _
  rw [first_dual]
 have h4 : dropperlaw09_SameTexts.f (k + 3) [tx [97, 98], tx [97, 99]] ([(⟨#[97, 98]⟩ : ByteArray), (⟨#[97, 99]⟩ : ByteArray)] : List ByteArray) = some true := same_two _ _ k
 have h5 : dropperlaw09_SameTexts.f (k + 3) [tx [97], tx [98, 99]] ([(⟨#[97]⟩ : ByteArray), (⟨#[98, 99]⟩ : ByteArray)] : List ByteArray) = some true := same_two _ _ k
 unfold dropperlaw09_First.f
 rw [h1, h2, h3]
 simp only [Option.bind_some, if_true]
 rw [h4, Option.bind_some, if_pos rfl, h5, Option.bind_some, if_pos rfl, ByteArray.toList_eq]
 rfl
theorem first_ev : dropperlaw09_First.f 3 = some true := first_evk 0
theorem long_ev (a b : ByteArray) : (dropperlaw09_Long.f a b = some true) ∨ (dropperlaw09_Long.f a b = some false ∧ a.size ≤ 200 ∧ b.size ≤ 200) := by
 unfold dropperlaw09_Long.f
 by_cases h1 : (a.size : Int) > 200
 ·
  exact Or.inl (if_pos h1)
 ·
  rw [if_neg h1]
  by_cases h2 : (b.size : Int) > 200
  ·
   exact Or.inl (by rw [decide_eq_true h2])
  ·
   exact Or.inr ⟨by rw [decide_eq_false h2], by omega, by omega⟩
end Go.Proofs.Yteikgnaikeleaaa

namespace Go.Proofs.Yteikgnaikeleaaa.Open
open Go.RowKit Go.Proofs.YteikgnaikeleaaaW.PrintWords Go.Proofs.YteikgnaikeleaaaW.PrintLast Go.Proofs.YteikgnaikeleaaaW.PrintMore
set_option linter.unusedVariables false
set_option linter.unusedSimpArgs false
/-! What an argument of a type reads as, in the print's kinds. -/
section
variable {P : Program} {t e : TypeId} {α β : Type} {kd : Kd α} {G : α → Prop}
theorem add_add (a : Addr) (m n : Nat) : (a.add m).add n = a.add (m + n) := by
 unfold Addr.add
 by_cases h1 : m = 0
 ·
  subst h1; simp
 ·
  by_cases h2 : n = 0
  ·
   subst h2; simp [h1]
  ·
   have : ¬ m + n = 0 := by omega
   simp [h1, h2, this, Nat.add_assoc]
end
end Go.Proofs.Yteikgnaikeleaaa.Open
