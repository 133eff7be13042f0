-- Written by wip/pack.py of this repo: texts of this claim, put together.
import Derived.Sort.LotA
import Derived.Shelf.SlSortCmp.WholeK
import Derived.Shelf.SlGeneric
import Derived.Ground.SlsfProg
import Derived.Test.YtcmdcgghpkcchaaGreatDoorProg
import Derived.Sort.WalkB2
import Derived.Sort.WalkB12
import Derived.Deep.LoopGhost
import Derived.Shelf.SlSortCmp.NoneTotal
import Derived.Outline
import Derived.Test.YtcmdcgghpkcchaaGreatDoorKMastZb

/- The stable sort's parts, in plain Lean: ranges exchanged, rotation, binary search, symmetric merge. -/
namespace Go.Proofs.YtcmdcgghpkcchaaGreatDoor.Stab
set_option linter.unusedVariables false
set_option linter.unusedSimpArgs false
open Go.Sort
variable {α : Type} [Inhabited α]
def swr (a b n i : Nat) (d : Array α) : Array α := if i < n then swr a b n (i + 1) (swp d (a + i) (b + i)) else d
termination_by n - i
theorem swr_size (a b n : Nat) : ∀ (t i : Nat) (d : Array α), n - i = t → (swr a b n i d).size = d.size
 | 0, i, d, h => by rw [swr, if_neg (by omega)]
 | t + 1, i, d, h => by rw [swr, if_pos (by omega), swr_size a b n t (i + 1) _ (by omega), size_swp]
theorem swr_get (a b n : Nat) (hab : a + n ≤ b) : ∀ (t i : Nat) (d : Array α), n - i = t → i ≤ n → b + n ≤ d.size → ∀ k, (swr a b n i d)[k]! = if a + i ≤ k ∧ k < a + n then d[k - a + b]! else if b + i ≤ k ∧ k < b + n then d[k - b + a]! else d[k]!
 | 0, i, d, h, hi, hb, k => by
  rw [swr, if_neg (by omega), if_neg (by omega), if_neg (by omega)]
 | t + 1, i, d, h, hi, hb, k => by
  rw [swr, if_pos (by omega), swr_get a b n hab t (i + 1) _ (by omega) (by omega) (by rw [size_swp]; exact hb)]
  have g := swp_get d (show a + i < d.size by omega) (show b + i < d.size by omega)
  simp only [g]
  by_cases h1 : k = a + i
  ·
   subst h1
   rw [if_neg (by omega), if_neg (by omega), if_neg (by omega), if_pos rfl, if_pos (by omega)]
   congr 1; omega
  ·
   by_cases h2 : k = b + i
   ·
    subst h2
    rw [if_neg (by omega), if_neg (by omega), if_pos rfl, if_neg (by omega), if_pos (by omega)]
    congr 1; omega
   ·
    by_cases h3 : a + i ≤ k ∧ k < a + n
    ·
     rw [if_pos (by omega), if_pos h3, if_neg (by omega), if_neg (by omega)]
    ·
     by_cases h4 : b + i ≤ k ∧ k < b + n
     ·
      rw [if_neg (by omega), if_pos (by omega), if_neg h3, if_pos h4, if_neg (by omega), if_neg (by omega)]
     ·
      rw [if_neg (by omega), if_neg (by omega), if_neg h3, if_neg h4, if_neg h2, if_neg h1]
theorem swr_perm (a b n lo hi : Nat) (hlo : lo ≤ a) (hab : a + n ≤ b) (hhi : b + n ≤ hi) : ∀ (t i : Nat) (d : Array α), n - i = t → i ≤ n → hi ≤ d.size → PermIn lo hi d (swr a b n i d)
 | 0, i, d, h, _, _ => by rw [swr, if_neg (by omega)]; exact permIn_refl _ _ _
 | t + 1, i, d, h, _, hd => by
  rw [swr, if_pos (by omega)]
  exact permIn_trans _ _ _ _ _ (swp_permIn d lo hi (a + i) (b + i) (by omega) (by omega) (by omega) (by omega) hd) (swr_perm a b n lo hi hlo hab hhi t (i + 1) _ (by omega) (by omega) (by rw [size_swp]; exact hd))
def rot (m i j : Nat) (d : Array α) : Array α :=
 if h : 0 < i ∧ 0 < j ∧ i ≠ j then (if h2 : j < i then rot m (i - j) j (swr (m - i) m j 0 d) else rot m i (j - i) (swr (m - i) (m + j - i) i 0 d)) else swr (m - i) m i 0 d
termination_by i + j
decreasing_by all_goals omega
theorem rot_perm (m lo hi : Nat) : ∀ (t i j : Nat) (d : Array α), i + j ≤ t → 0 < i → 0 < j → lo ≤ m - i → i ≤ m → m + j ≤ hi → hi ≤ d.size → PermIn lo hi d (rot m i j d)
 | 0, i, j, d, h, h1, h2, _, _, _, _ => by omega
 | t + 1, i, j, d, h, h1, h2, hlo, him, hhi, hd => by
  rw [rot]
  by_cases he : 0 < i ∧ 0 < j ∧ i ≠ j
  ·
   rw [dif_pos he]
   by_cases hj : j < i
   ·
    rw [dif_pos hj]
    have p := swr_perm (α := α) (m - i) m j lo hi hlo (by omega) hhi j 0 d rfl (by omega) hd
    exact permIn_trans _ _ _ _ _ p (rot_perm m lo hi t (i - j) j _ (by omega) (by omega) h2 (by omega) (by omega) hhi (by rw [p.1]; exact hd))
   ·
    rw [dif_neg hj]
    have p := swr_perm (α := α) (m - i) (m + j - i) i lo hi hlo (by omega) (by omega) i 0 d rfl (by omega) hd
    exact permIn_trans _ _ _ _ _ p (rot_perm m lo hi t i (j - i) _ (by omega) h1 (by omega) hlo him (by omega) (by rw [p.1]; exact hd))
  ·
   rw [dif_neg he]
   exact swr_perm (α := α) (m - i) m i lo hi hlo (by omega) (by omega) i 0 d rfl (by omega) hd
theorem rot_get (m : Nat) : ∀ (t i j : Nat) (d : Array α), i + j ≤ t → 0 < i → 0 < j → i ≤ m → m + j ≤ d.size → ∀ k, (rot m i j d)[k]! = if m - i ≤ k ∧ k < m - i + j then d[k + i]! else if m - i + j ≤ k ∧ k < m + j then d[k - j]! else d[k]!
 | 0, i, j, d, h, h1, h2, _, _, _ => by omega
 | t + 1, i, j, d, h, h1, h2, him, hd, k => by
  rw [rot]
  by_cases he : 0 < i ∧ 0 < j ∧ i ≠ j
  ·
   rw [dif_pos he]
   by_cases hj : j < i
   ·
    rw [dif_pos hj]
    have g := swr_get (α := α) (m - i) m j (by omega) j 0 d rfl (by omega) hd
    have gs := swr_size (α := α) (m - i) m j j 0 d rfl
    rw [rot_get m t (i - j) j _ (by omega) (by omega) h2 (by omega) (by rw [gs]; exact hd)]
    simp only [g]
    by_cases c1 : k < m - i
    ·
     rw [if_neg (by omega), if_neg (by omega), if_neg (by omega), if_neg (by omega), if_neg (by omega), if_neg (by omega)]
    ·
     by_cases c2 : k < m - i + j
     ·
      rw [if_neg (by omega), if_neg (by omega), if_pos (by omega), if_pos (by omega)]; congr 1; omega
     ·
      by_cases c3 : k < m - i + j + j
      ·
       rw [if_pos (by omega), if_neg (by omega), if_pos (by omega), if_neg (by omega), if_pos (by omega)]; congr 1; omega
      ·
       by_cases c4 : k < m + j
       ·
        rw [if_neg (by omega), if_pos (by omega), if_neg (by omega), if_neg (by omega), if_neg (by omega), if_pos (by omega)]
       ·
        rw [if_neg (by omega), if_neg (by omega), if_neg (by omega), if_neg (by omega), if_neg (by omega), if_neg (by omega)]
   ·
    rw [dif_neg hj]
    have g := swr_get (α := α) (m - i) (m + j - i) i (by omega) i 0 d rfl (by omega) (by omega)
    have gs := swr_size (α := α) (m - i) (m + j - i) i i 0 d rfl
    rw [rot_get m t i (j - i) _ (by omega) h1 (by omega) him (by rw [gs]; omega)]
    simp only [g]
    by_cases c1 : k < m - i
    ·
     rw [if_neg (by omega), if_neg (by omega), if_neg (by omega), if_neg (by omega), if_neg (by omega), if_neg (by omega)]
    ·
     by_cases c2 : k < m - i + (j - i)
     ·
      rw [if_pos (by omega), if_neg (by omega), if_neg (by omega), if_pos (by omega)]
     ·
      by_cases c3 : k < m + j - i
      ·
       rw [if_neg (by omega), if_pos (by omega), if_pos (by omega), if_pos (by omega)]; congr 1; omega
      ·
       by_cases c4 : k < m + j
       ·
        rw [if_neg (by omega), if_neg (by omega), if_neg (by omega), if_pos (by omega), if_neg (by omega), if_pos (by omega)]; congr 1; omega
       ·
        rw [if_neg (by omega), if_neg (by omega), if_neg (by omega), if_neg (by omega), if_neg (by omega), if_neg (by omega)]
  ·
   rw [dif_neg he]
   have e : i = j := by omega
   subst e
   have g := swr_get (α := α) (m - i) m i (by omega) i 0 d rfl (by omega) hd
   rw [g]
   by_cases c1 : m - i ≤ k ∧ k < m - i + i
   ·
    rw [if_pos (by omega), if_pos c1]; congr 1; omega
   ·
    by_cases c2 : m ≤ k ∧ k < m + i
    ·
     rw [if_neg (by omega), if_pos (by omega), if_neg c1, if_pos (by omega)]; congr 1; omega
    ·
     rw [if_neg (by omega), if_neg (by omega), if_neg c1, if_neg (by omega)]
def Bs (p : Nat → Bool) (lo hi i j : Nat) : Prop := lo ≤ i ∧ i ≤ j ∧ j ≤ hi ∧ (lo < i → p (i - 1) = true) ∧ (j < hi → p j = false)
theorem Bs.start {p : Nat → Bool} {lo hi : Nat} (h : lo ≤ hi) : Bs p lo hi lo hi := ⟨Nat.le_refl _, h, Nat.le_refl _, fun h => by omega, fun h => by omega⟩
theorem Bs.up {p : Nat → Bool} {lo hi i j : Nat} (h : Bs p lo hi i j) (hij : i < j) (hp : p ((i + j) / 2) = true) : Bs p lo hi ((i + j) / 2 + 1) j := by
 obtain ⟨h1, h2, h3, h4, h5⟩ := h
 exact ⟨by omega, by omega, h3, fun _ => by rw [Nat.add_sub_cancel]; exact hp, h5⟩
theorem Bs.dn {p : Nat → Bool} {lo hi i j : Nat} (h : Bs p lo hi i j) (hij : i < j) (hp : p ((i + j) / 2) = false) : Bs p lo hi i ((i + j) / 2) := by
 obtain ⟨h1, h2, h3, h4, h5⟩ := h
 exact ⟨h1, by omega, by omega, h4, fun _ => hp⟩
def up (e k : Nat) (d : Array α) : Array α := if k < e then up e (k + 1) (swp d k (k + 1)) else d
termination_by e - k
theorem up_size (e : Nat) : ∀ (t k : Nat) (d : Array α), e - k = t → (up e k d).size = d.size
 | 0, k, d, h => by rw [up, if_neg (by omega)]
 | t + 1, k, d, h => by rw [up, if_pos (by omega), up_size e t (k + 1) _ (by omega), size_swp]
theorem up_perm (lo hi e : Nat) (he : e < hi) : ∀ (t k : Nat) (d : Array α), e - k = t → lo ≤ k → hi ≤ d.size → PermIn lo hi d (up e k d)
 | 0, k, d, h, _, _ => by rw [up, if_neg (by omega)]; exact permIn_refl _ _ _
 | t + 1, k, d, h, hk, hd => by
  rw [up, if_pos (by omega)]
  exact permIn_trans _ _ _ _ _ (swp_permIn d lo hi k (k + 1) (by omega) (by omega) (by omega) (by omega) hd) (up_perm lo hi e he t (k + 1) _ (by omega) (by omega) (by rw [size_swp]; exact hd))
theorem up_get (e : Nat) : ∀ (t k : Nat) (d : Array α), e - k = t → k ≤ e → e < d.size → ∀ x, (up e k d)[x]! = if k ≤ x ∧ x < e then d[x + 1]! else if x = e then d[k]! else d[x]!
 | 0, k, d, h, hk, hd, x => by
  rw [up, if_neg (by omega), if_neg (by omega)]
  have : k = e := by omega
  subst this
  by_cases hx : x = k
  ·
   subst hx; rw [if_pos rfl]
  ·
   rw [if_neg hx]
 | t + 1, k, d, h, hk, hd, x => by
  rw [up, if_pos (by omega), up_get e t (k + 1) _ (by omega) (by omega) (by rw [size_swp]; exact hd)]
  have g := swp_get d (show k < d.size by omega) (show k + 1 < d.size by omega)
  simp only [g]
  by_cases c1 : x = k
  ·
   subst c1
   rw [if_neg (by omega), if_neg (by omega), if_neg (by omega), if_pos rfl, if_pos (by omega)]
  ·
   by_cases c2 : k ≤ x ∧ x < e
   ·
    rw [if_pos (by omega), if_neg (by omega), if_neg (by omega), if_pos c2]
   ·
    by_cases c3 : x = e
    ·
     subst c3
     rw [if_neg (by omega), if_pos rfl, if_pos trivial, if_neg c2, if_pos rfl]
    ·
     rw [if_neg (by omega), if_neg c3, if_neg c2, if_neg c3, if_neg (by omega), if_neg c1]
def dn (e k : Nat) (d : Array α) : Array α := if e < k then dn e (k - 1) (swp d k (k - 1)) else d
termination_by k - e
theorem dn_size (e : Nat) : ∀ (t k : Nat) (d : Array α), k - e = t → (dn e k d).size = d.size
 | 0, k, d, h => by rw [dn, if_neg (by omega)]
 | t + 1, k, d, h => by rw [dn, if_pos (by omega), dn_size e t (k - 1) _ (by omega), size_swp]
theorem dn_perm (lo hi e : Nat) (he : lo ≤ e) : ∀ (t k : Nat) (d : Array α), k - e = t → k < hi → hi ≤ d.size → PermIn lo hi d (dn e k d)
 | 0, k, d, h, _, _ => by rw [dn, if_neg (by omega)]; exact permIn_refl _ _ _
 | t + 1, k, d, h, hk, hd => by
  rw [dn, if_pos (by omega)]
  exact permIn_trans _ _ _ _ _ (swp_permIn d lo hi k (k - 1) (by omega) (by omega) (by omega) (by omega) hd) (dn_perm lo hi e he t (k - 1) _ (by omega) (by omega) (by rw [size_swp]; exact hd))
theorem dn_get (e : Nat) : ∀ (t k : Nat) (d : Array α), k - e = t → e ≤ k → k < d.size → ∀ x, (dn e k d)[x]! = if e < x ∧ x ≤ k then d[x - 1]! else if x = e then d[k]! else d[x]!
 | 0, k, d, h, hk, hd, x => by
  rw [dn, if_neg (by omega), if_neg (by omega)]
  have : k = e := by omega
  subst this
  by_cases hx : x = k
  ·
   subst hx; rw [if_pos rfl]
  ·
   rw [if_neg hx]
 | t + 1, k, d, h, hk, hd, x => by
  rw [dn, if_pos (by omega), dn_get e t (k - 1) _ (by omega) (by omega) (by rw [size_swp]; omega)]
  have g := swp_get d (show k < d.size by omega) (show k - 1 < d.size by omega)
  simp only [g]
  by_cases c1 : x = k
  ·
   subst c1
   rw [if_neg (by omega), if_neg (by omega), if_neg (by omega), if_pos rfl, if_pos (by omega)]
  ·
   by_cases c2 : e < x ∧ x ≤ k
   ·
    rw [if_pos (by omega), if_neg (by omega), if_neg (by omega), if_pos c2]
   ·
    by_cases c3 : x = e
    ·
     subst c3
     rw [if_neg (by omega), if_pos rfl, if_pos trivial, if_neg c2, if_pos rfl]
    ·
     rw [if_neg (by omega), if_neg c3, if_neg c2, if_neg c3, if_neg (by omega), if_neg c1]

variable {lt : α → α → Bool}
theorem sorted_le (hS : SWO lt) {a b : Nat} {d : Array α} (h : SortedIn lt a b d) {i j : Nat} (ha : a ≤ i) (hij : i ≤ j) (hj : j < b) : lt d[j]! d[i]! = false := by
 rcases Nat.eq_or_lt_of_le hij with e | e
 ·
  subst e; exact hS.irrefl _
 ·
  exact h i j ha e hj
theorem merge_one_up (hS : SWO lt) {a m b i : Nat} {d : Array α} (hm : m = a + 1) (hb : b ≤ d.size) (hB : SortedIn lt m b d) (h : Bs (fun h => lt d[h]! d[a]!) m b i i) :
  PermIn a b d (up (i - 1) a d) ∧ SortedIn lt a b (up (i - 1) a d) := by
 obtain ⟨h1, _, h3, h4, h5⟩ := h
 by_cases hab : a = b
 ·
  subst hab; omega
 refine ⟨up_perm a b (i - 1) (by omega) _ a d rfl (by omega) hb, fun x y hax hxy hyb => ?_⟩
 have g := up_get (i - 1) _ a d rfl (by omega) (by omega)
 rw [g, g]
 by_cases c1 : y < i - 1
 ·
  rw [if_pos (by omega), if_pos (by omega)]
  exact hB _ _ (by omega) (by omega) (by omega)
 ·
  by_cases c2 : y = i - 1
  ·
   subst c2
   rw [if_neg (by omega), if_pos rfl, if_pos (by omega)]
   exact hS.ntrans _ _ _ (hS.asymmA (h4 (by omega))) (sorted_le hS hB (by omega) (by omega) (by omega))
  ·
   rw [if_neg (by omega), if_neg c2]
   by_cases c3 : x < i - 1
   ·
    rw [if_pos (by omega)]
    exact hB _ _ (by omega) (by omega) (by omega)
   ·
    by_cases c4 : x = i - 1
    ·
     rw [if_neg (by omega), if_pos c4]
     exact hS.ntrans _ _ _ (sorted_le hS hB (i := i) (by omega) (by omega) hyb) (h5 (by omega))
    ·
     rw [if_neg (by omega), if_neg c4]
     exact hB _ _ (by omega) hxy hyb
theorem merge_one_dn (hS : SWO lt) {a m b i : Nat} {d : Array α} (hm : b = m + 1) (hb : b ≤ d.size) (hA : SortedIn lt a m d) (h : Bs (fun h => !lt d[m]! d[h]!) a m i i) :
  PermIn a b d (dn i m d) ∧ SortedIn lt a b (dn i m d) := by
 obtain ⟨h1, _, h3, h4, h5⟩ := h
 refine ⟨dn_perm a b i h1 _ m d rfl (by omega) hb, fun x y hax hxy hyb => ?_⟩
 have g := dn_get i _ m d rfl (by omega) (by omega)
 rw [g, g]
 by_cases c1 : y < i
 ·
  rw [if_neg (by omega), if_neg (by omega), if_neg (by omega), if_neg (by omega)]
  exact hA _ _ hax hxy (by omega)
 ·
  by_cases c2 : y = i
  ·
   rw [if_neg (by omega), if_pos c2, if_neg (by omega), if_neg (by omega)]
   have := h4 (by omega)
   rw [Bool.not_eq_true'] at this
   exact hS.ntrans _ _ _ this (sorted_le hS hA hax (by omega) (by omega))
  ·
   rw [if_pos (by omega)]
   by_cases c3 : x < i
   ·
    rw [if_neg (by omega), if_neg (by omega)]
    exact sorted_le hS hA hax (by omega) (by omega)
   ·
    by_cases c4 : x = i
    ·
     rw [if_neg (by omega), if_pos c4]
     have := h5 (by omega)
     rw [Bool.not_eq_false'] at this
     exact hS.ntrans _ _ _ (sorted_le hS hA (i := i) (by omega) (by omega) (by omega)) (hS.asymmA this)
    ·
     rw [if_pos (by omega)]
     exact hA _ _ (by omega) (by omega) (by omega)
def turned (s m e : Nat) (d : Array α) : Array α := if s < m ∧ m < e then rot m (m - s) (e - m) d else d
theorem turned_size (s m e : Nat) (d : Array α) (he : e ≤ d.size) : (turned s m e d).size = d.size := by
 unfold turned
 split
 ·
  exact (rot_perm m s e _ (m - s) (e - m) d (Nat.le_refl _) (by omega) (by omega) (by omega) (by omega) (by omega) he).1
 ·
  rfl
theorem turned_get (s m e mid : Nat) (d : Array α) (h1 : s ≤ m) (h2 : m ≤ e) (he : e ≤ d.size) (hmid : s + e = mid + m) (k : Nat) :
  (turned s m e d)[k]! = if s ≤ k ∧ k < mid then d[k + (m - s)]! else if mid ≤ k ∧ k < e then d[k - (e - m)]! else d[k]! := by
 unfold turned
 by_cases hc : s < m ∧ m < e
 ·
  rw [if_pos hc, rot_get m _ (m - s) (e - m) d (Nat.le_refl _) (by omega) (by omega) (by omega) (by omega)]
  have e1 : m - (m - s) = s := by omega
  have e2 : s + (e - m) = mid := by omega
  have e3 : m + (e - m) = e := by omega
  rw [e1, e2, e3]
 ·
  rw [if_neg hc]
  by_cases c1 : s ≤ k ∧ k < mid
  ·
   rw [if_pos c1]; congr 1; omega
  ·
   rw [if_neg c1]
   by_cases c2 : mid ≤ k ∧ k < e
   ·
    rw [if_pos c2]; congr 1; omega
   ·
    rw [if_neg c2]
structure Cut (lt : α → α → Bool) (a s mid e b : Nat) (d d1 : Array α) : Prop where
 perm : PermIn a b d d1
 s1 : SortedIn lt a s d1
 s2 : SortedIn lt s mid d1
 s3 : SortedIn lt mid e d1
 s4 : SortedIn lt e b d1
 cross : ∀ i j, a ≤ i → i < mid → mid ≤ j → j < b → lt d1[j]! d1[i]! = false
 as_ : a ≤ s
 sm : s ≤ mid
 me : mid ≤ e
 eb : e ≤ b
theorem cut (hS : SWO lt) {a m b mid lo hi s : Nat} {d : Array α} (ham : a < m) (hmb : m < b) (hb : b ≤ d.size) (hmid : mid = (a + b) / 2)
  (hlo : lo = if mid < m then mid + m - b else a) (hhi : hi = if mid < m then mid else m) (hA : SortedIn lt a m d) (hB : SortedIn lt m b d)
  (h : Bs (fun c => !lt d[mid + m - 1 - c]! d[c]!) lo hi s s) : Cut lt a s mid (mid + m - s) b d (turned s m (mid + m - s) d) := by
 obtain ⟨h1, _, h3, h4, h5⟩ := h
 have hcase : mid < m ∨ m ≤ mid := by omega
 have hlo1 : a ≤ lo ∧ mid + m - b ≤ lo ∧ (lo = a ∨ lo + b = mid + m) := by rcases hcase with c | c <;> simp only [hlo] <;> (first | rw [if_pos c] | rw [if_neg (by omega)]) <;> omega
 have hhi1 : hi ≤ mid ∧ hi ≤ m ∧ (hi = mid ∨ hi = m) := by rcases hcase with c | c <;> simp only [hhi] <;> (first | rw [if_pos c] | rw [if_neg (by omega)]) <;> omega
 clear hlo hhi
 obtain ⟨e, he⟩ : ∃ e, e = mid + m - s := ⟨_, rfl⟩
 rw [← he]
 have hse : s + e = mid + m := by omega
 have hme : m ≤ e := by omega
 have hide : mid ≤ e := by omega
 have heb : e ≤ b := by omega
 have g := turned_get s m e mid d (by omega) hme (by omega) hse
 have hS1 : lo < s → lt d[e]! d[s - 1]! = false := fun hl => by
  have := h4 hl
  rw [Bool.not_eq_true', show mid + m - 1 - (s - 1) = e by omega] at this
  exact this
 have hS2 : s < hi → lt d[s]! d[e - 1]! = false := fun hl => by
  have := h5 hl
  rw [Bool.not_eq_false', show mid + m - 1 - s = e - 1 by omega] at this
  exact hS.asymmA this
 refine ⟨?_, fun x y hx hxy hy => ?_, fun x y hx hxy hy => ?_, fun x y hx hxy hy => ?_, fun x y hx hxy hy => ?_, fun x y hx hxm hmy hyb => ?_, by omega, by omega, hide, heb⟩
 ·
  unfold turned
  split
  ·
   exact rot_perm m a b _ (m - s) (e - m) d (Nat.le_refl _) (by omega) (by omega) (by omega) (by omega) (by omega) hb
  ·
   exact permIn_refl _ _ _
 ·
  rw [g, g, if_neg (by omega), if_neg (by omega), if_neg (by omega), if_neg (by omega)]
  exact hA _ _ hx hxy (by omega)
 ·
  rw [g, g, if_pos (by omega), if_pos (by omega)]
  exact hB _ _ (by omega) (by omega) (by omega)
 ·
  rw [g, g, if_neg (by omega), if_pos (by omega), if_neg (by omega), if_pos (by omega)]
  exact hA _ _ (by omega) (by omega) (by omega)
 ·
  rw [g, g, if_neg (by omega), if_neg (by omega), if_neg (by omega), if_neg (by omega)]
  exact hB _ _ (by omega) hxy hy
 ·
  rw [g, g]
  by_cases cx : x < s
  ·
   rw [if_neg (show ¬ (s ≤ x ∧ x < mid) by omega), if_neg (show ¬ (mid ≤ x ∧ x < e) by omega), if_neg (show ¬ (s ≤ y ∧ y < mid) by omega)]
   by_cases cy : y < e
   ·
    rw [if_pos (by omega)]
    exact hA _ _ hx (by omega) (by omega)
   ·
    rw [if_neg (by omega)]
    exact hS.ntrans _ _ _ (sorted_le hS hB (i := e) (by omega) (by omega) hyb) (hS.ntrans _ _ _ (hS1 (by omega)) (sorted_le hS hA hx (by omega) (by omega)))
  ·
   rw [if_pos (show s ≤ x ∧ x < mid by omega), if_neg (show ¬ (s ≤ y ∧ y < mid) by omega)]
   by_cases cy : y < e
   ·
    rw [if_pos (by omega)]
    exact hS.ntrans _ _ _ (sorted_le hS hA (i := s) (by omega) (by omega) (by omega)) (hS.ntrans _ _ _ (hS2 (by omega)) (sorted_le hS hB (by omega) (by omega) (by omega)))
   ·
    rw [if_neg (by omega)]
    exact hB _ _ (by omega) (by omega) hyb
theorem Cut.join {a s mid e b : Nat} {d d1 d2 d3 : Array α} (h : Cut lt a s mid e b d d1) (hb : b ≤ d.size) (p2 : PermIn a mid d1 d2) (q2 : SortedIn lt a mid d2) (p3 : PermIn mid b d2 d3) (q3 : SortedIn lt mid b d3) :
  PermIn a b d d3 ∧ SortedIn lt a b d3 := by
 have z1 := h.perm.1
 have z2 := p2.1
 have z3 := p3.1
 have am := Nat.le_trans h.as_ h.sm
 have mb := Nat.le_trans h.me h.eb
 have c2 : ∀ j, mid ≤ j → j < b → ∀ i, a ≤ i → i < mid → lt d2[j]! d2[i]! = false := fun j hj hjb => by
  have hj2 : d2[j]! = d1[j]! := p2.2.1 j (.inr hj)
  rw [hj2]
  exact permIn_all d1 d2 a mid (fun v => lt d1[j]! v = false) (by omega) p2 (fun i hi him => h.cross i j hi him hj hjb)
 have c3 : ∀ i, a ≤ i → i < mid → ∀ j, mid ≤ j → j < b → lt d3[j]! d3[i]! = false := fun i hi him => by
  have hi3 : d3[i]! = d2[i]! := p3.2.1 i (.inl him)
  rw [hi3]
  exact permIn_all d2 d3 mid b (fun v => lt v d2[i]! = false) (by omega) p3 (fun j hj hjb => c2 j hj hjb i hi him)
 refine ⟨permIn_trans _ _ _ _ _ h.perm (permIn_trans _ _ _ _ _ (permIn_mono d1 d2 a mid a b (Nat.le_refl _) mb (by omega) p2) (permIn_mono d2 d3 mid b a b am (Nat.le_refl _) (by omega) p3)), fun x y hx hxy hyb => ?_⟩
 by_cases cy : y < mid
 ·
  rw [p3.2.1 x (.inl (by omega)), p3.2.1 y (.inl cy)]
  exact q2 x y hx hxy cy
 ·
  by_cases cx : x < mid
  ·
   exact c3 x hx cx y (by omega) hyb
  ·
   exact q3 x y (by omega) hxy hyb
theorem Cut.left {a s mid e b : Nat} {d d1 : Array α} (h : Cut lt a s mid e b d d1) (hc : ¬ (a < s ∧ s < mid)) : SortedIn lt a mid d1 := by
 have h1 := h.as_
 have h2 := h.sm
 by_cases hs : s = mid
 ·
  subst hs; exact h.s1
 ·
  have : s = a := by omega
  subst this; exact h.s2
theorem Cut.right {a s mid e b : Nat} {d d1 : Array α} (h : Cut lt a s mid e b d d1) (hc : ¬ (mid < e ∧ e < b)) : SortedIn lt mid b d1 := by
 have h1 := h.me
 have h2 := h.eb
 by_cases hs : e = b
 ·
  subst hs; exact h.s3
 ·
  have : e = mid := by omega
  subst this; exact h.s4
theorem sorted_far {a b x y : Nat} {d d' : Array α} (p : PermIn a b d d') (h : SortedIn lt x y d) (hx : b ≤ x ∨ y ≤ a) : SortedIn lt x y d' := by
 intro i j h1 h2 h3
 rw [p.2.1 i (by omega), p.2.1 j (by omega)]
 exact h i j h1 h2 h3
/-! ### the runs of the stable sort -/
def Runs (lt : α → α → Bool) (bs N lo : Nat) (d : Array α) : Prop := ∀ q, SortedIn lt (lo + bs * q) (min (lo + bs * q + bs) N) d
def Past (lt : α → α → Bool) (bs a : Nat) (d : Array α) : Prop := ∀ q, bs * q + bs ≤ a → SortedIn lt (bs * q) (bs * q + bs) d
theorem Runs.next {bs N lo : Nat} {d : Array α} (h : Runs lt bs N lo d) : Runs lt bs N (lo + bs) d := fun q => by
 have := h (q + 1)
 rw [Nat.mul_add, Nat.mul_one, show lo + (bs * q + bs) = lo + bs + bs * q by omega] at this
 exact this
theorem Runs.fst {bs N lo : Nat} {d : Array α} (h : Runs lt bs N lo d) (hl : lo + bs ≤ N) : SortedIn lt lo (lo + bs) d := by
 have := h 0
 rw [Nat.mul_zero, Nat.add_zero, Nat.min_eq_left hl] at this
 exact this
theorem Runs.all {bs N lo : Nat} {d : Array α} (h : Runs lt bs N lo d) (hl : N ≤ lo + bs) : SortedIn lt lo N d := by
 have := h 0
 rw [Nat.mul_zero, Nat.add_zero, Nat.min_eq_right hl] at this
 exact this
theorem Runs.far {bs N lo x y : Nat} {d d' : Array α} (p : PermIn x y d d') (h : Runs lt bs N lo d) (hx : y ≤ lo) : Runs lt bs N lo d' :=
 fun q => sorted_far p (h q) (.inl (by omega))
theorem Past.zero {bs : Nat} {d : Array α} (h : 0 < bs) : Past lt bs 0 d := fun q hq => by omega
theorem Past.step {bs t : Nat} {d d' : Array α} (h : Past lt bs (bs * t) d) (p : PermIn (bs * t) (bs * t + bs) d d') (s : SortedIn lt (bs * t) (bs * t + bs) d') : Past lt bs (bs * t + bs) d' := fun q hq => by
 rcases Nat.lt_trichotomy q t with c | c | c
 ·
  have h1 : bs * (q + 1) ≤ bs * t := Nat.mul_le_mul_left _ c
  rw [Nat.mul_add, Nat.mul_one] at h1
  exact sorted_far p (h q h1) (.inr h1)
 ·
  subst c; exact s
 ·
  have h1 : bs * (t + 1) ≤ bs * q := Nat.mul_le_mul_left _ c
  rw [Nat.mul_add, Nat.mul_one] at h1
  intro i j h2 h3 h4
  omega
theorem Past.done {bs t N : Nat} {d d' : Array α} (hb : 0 < bs) (h : Past lt bs (bs * t) d) (p : PermIn (bs * t) N d d') (s : SortedIn lt (bs * t) N d') (h1 : bs * t ≤ N) (h2 : N < bs * t + bs) : Runs lt bs N 0 d' := fun q => by
 rw [Nat.zero_add]
 rcases Nat.lt_trichotomy q t with c | c | c
 ·
  have h3 : bs * (q + 1) ≤ bs * t := Nat.mul_le_mul_left _ c
  rw [Nat.mul_add, Nat.mul_one] at h3
  rw [Nat.min_eq_left (by omega)]
  exact sorted_far p (h q h3) (.inr h3)
 ·
  subst c; rw [Nat.min_eq_right (by omega)]; exact s
 ·
  have h3 : bs * (t + 1) ≤ bs * q := Nat.mul_le_mul_left _ c
  rw [Nat.mul_add, Nat.mul_one] at h3
  intro i j h4 h5 h6
  omega
theorem perm_part {d0 d d' : Array α} {x y N : Nat} (h0 : PermIn 0 N d0 d) (p : PermIn x y d d') (hy : y ≤ N) (hN : N ≤ d.size) : PermIn 0 N d0 d' :=
 permIn_trans _ _ _ _ _ h0 (permIn_mono d d' x y 0 N (Nat.zero_le _) hy hN p)
end Go.Proofs.YtcmdcgghpkcchaaGreatDoor.Stab

/-
 DERIVED: THE SHELF's CONTRACTS AT THIS DUMP, IN PLAIN WORDS (tools/lay-plain.mjs out of 'YtcmdcgghpkcchaaGreatDoorSort.lean', which tools/lay-shelf.mjs wrote): THE SAME DECLARATIONS UNDER THE SAME NAMES: 'import', 'namespace', 'open', 'def', 'theorem' AND NOTHING ELSE: no command of the shelf's: FOR A HAND-IN. Each laying: the table of numbers ('.._ren') and one theorem, a field a fact of the dump's own or the kernel's comparison; each contract: ONE APPLICATION.
-/
namespace Go.Proofs
open Go.Shelf
def Tryz.sortCh_ren : Go.Shelf.Ren := ⟨fun | 6 => 67 | 15 => 84 | 14 => 83 | 28 => 102 | 29 => 103 | 20 => 93 | 21 => 95 | 22 => 96 | 23 => 97 | 24 => 98 | 25 => 99 | 26 => 100 | 27 => 101 | 46 => 109 | 47 => 110 | 48 => 111 | 49 => 112 | 50 => 113 | 57 => 117 | n => n, fun | 22 => 68 | 24 => 86 | 25 => 88 | 3 => 3 | 39 => 89 | 0 => 0 | 53 => 112 | 55 => 93 | 4 => 4 | 46 => 125 | 45 => 124 | 50 => 70 | 5 => 5 | 9 => 9 | 66 => 134 | 70 => 138 | 76 => 140 | 77 => 141 | n => n, fun | n => n⟩
theorem Tryz.sortCh : Go.Proofs.SlLaysF0.n6 Tryz.prog Tryz.sortCh_ren := {
 mixed := by kernel_rfl
 f6 := ⟨Tryz.f67.name, by decide, Tryz.func67.trans (congrArg some (by kernel_rfl))⟩
 f14 := ⟨Tryz.f83.name, by decide, Tryz.func83.trans (congrArg some (by kernel_rfl))⟩
 f15 := Tryz.func84.trans (congrArg some (by kernel_rfl))
 f20 := ⟨Tryz.f93.name, by decide, Tryz.func93.trans (congrArg some (by kernel_rfl))⟩
 f21 := ⟨Tryz.f95.name, by decide, Tryz.func95.trans (congrArg some (by kernel_rfl))⟩
 f22 := ⟨Tryz.f96.name, by decide, Tryz.func96.trans (congrArg some (by kernel_rfl))⟩
 f23 := ⟨Tryz.f97.name, by decide, Tryz.func97.trans (congrArg some (by kernel_rfl))⟩
 f24 := ⟨Tryz.f98.name, by decide, Tryz.func98.trans (congrArg some (by kernel_rfl))⟩
 f25 := ⟨Tryz.f99.name, by decide, Tryz.func99.trans (congrArg some (by kernel_rfl))⟩
 f26 := ⟨Tryz.f100.name, by decide, Tryz.func100.trans (congrArg some (by kernel_rfl))⟩
 f27 := ⟨Tryz.f101.name, by decide, Tryz.func101.trans (congrArg some (by kernel_rfl))⟩
 f28 := Tryz.func102.trans (congrArg some (by kernel_rfl))
 f29 := Tryz.func103.trans (congrArg some (by kernel_rfl))
 f46 := ⟨Tryz.f109.name, by decide, Tryz.func109.trans (congrArg some (by kernel_rfl))⟩
 f47 := Tryz.func110.trans (congrArg some (by kernel_rfl))
 f48 := Tryz.func111.trans (congrArg some (by kernel_rfl))
 f49 := ⟨Tryz.f112.name, by decide, Tryz.func112.trans (congrArg some (by kernel_rfl))⟩
 f50 := ⟨Tryz.f113.name, by decide, Tryz.func113.trans (congrArg some (by kernel_rfl))⟩
 f57 := ⟨Tryz.f117.name, by decide, Tryz.func117.trans (congrArg some (by kernel_rfl))⟩
 t0 := Tryz.underlying0
 a0 := Tryz.isAgg0
 z0 := Tryz.sizeOf0
 v0 := Tryz.zeroValue0
 t3 := Tryz.underlying3
 a3 := Tryz.isAgg3
 z3 := Tryz.sizeOf3
 v3 := Tryz.zeroValue3
 t4 := Tryz.underlying4
 a4 := Tryz.isAgg4
 z4 := Tryz.sizeOf4
 v4 := Tryz.zeroValue4
 t5 := Tryz.underlying5
 a5 := Tryz.isAgg5
 z5 := Tryz.sizeOf5
 v5 := Tryz.zeroValue5
 t9 := Tryz.underlying9
 a9 := Tryz.isAgg9
 z9 := Tryz.sizeOf9
 v9 := Tryz.zeroValue9
 t22 := Tryz.underlying68
 a22 := Tryz.isAgg68
 z22 := Tryz.sizeOf68
 v22 := Tryz.zeroValue68
 t25 := Tryz.underlying88
 a25 := Tryz.isAgg88
 z25 := Tryz.sizeOf88
 v25 := Tryz.zeroValue88
 t39 := Tryz.underlying89
 a39 := Tryz.isAgg89
 z39 := Tryz.sizeOf89
 v39 := Tryz.zeroValue89
 t45 := Tryz.underlying124
 a45 := Tryz.isAgg124
 z45 := Tryz.sizeOf124
 v45 := Tryz.zeroValue124
 t46 := Tryz.underlying125
 a46 := Tryz.isAgg125
 z46 := Tryz.sizeOf125
 v46 := Tryz.zeroValue125
 t50 := Tryz.underlying70
 a50 := Tryz.isAgg70
 z50 := Tryz.sizeOf70
 v50 := Tryz.zeroValue70
 t53 := Tryz.underlying112
 a53 := Tryz.isAgg112
 z53 := Tryz.sizeOf112
 v53 := Tryz.zeroValue112
 t55 := Tryz.underlying93
 a55 := Tryz.isAgg93
 z55 := Tryz.sizeOf93
 v55 := Tryz.zeroValue93
 t66 := Tryz.underlying134
 a66 := Tryz.isAgg134
 z66 := Tryz.sizeOf134
 v66 := Tryz.zeroValue134
 t70 := Tryz.underlying138
 a70 := Tryz.isAgg138
 z70 := Tryz.sizeOf138
 v70 := Tryz.zeroValue138
 t76 := Tryz.underlying140
 a76 := Tryz.isAgg140
 z76 := Tryz.sizeOf140
 v76 := Tryz.zeroValue140
 t77 := Tryz.underlying141
 a77 := Tryz.isAgg141
 z77 := Tryz.sizeOf141
 v77 := Tryz.zeroValue141 }
end Go.Proofs


/- slices.SortStableFunc at this program's changes: whatever it lays, the row holds a sorted permutation; walked after the shelf's texts of the same family. -/
namespace Go.Proofs.YtcmdcgghpkcchaaGreatDoor.Stable
set_option linter.unusedVariables false
set_option linter.unusedSimpArgs false
open Go.Shelf Go.RowKit Go.Lib Go.Sort Go.Proofs.YtcmdcgghpkcchaaGreatDoor.Stab
variable {α : Type} [Inhabited α]
set_option maxHeartbeats 4000000 in
set_option maxRecDepth 1000000 in
theorem swapRange (k : Nat) (aE : ∀ w, (isAgg 86).run Tryz.prog w = .ok true w) (zE : ∀ w, (Go.sizeOf 86).run Tryz.prog w = .ok k w) (enc : α → List Value) (g : Nat) (cb : Array Value) (blk off cap N a b n : Nat) (az bz nz : Int) (d0 d : Array α) (w0 w : World) (ha : az = a) (hbz : bz = b) (hnz : nz = n)
  (R : RowK enc k w0 blk off d0) (h0 : d0.size = N) (hN : d.size = N) (S : SWK enc k w0 blk off d w) (hab : a + n ≤ b) (hb : b + n ≤ N) (hsz : N < 4611686018427387904) :
  Calls Tryz.prog 116 #[.slice (some ⟨blk, off, none⟩) N cap, .int .i64 az, .int .i64 bz, .int .i64 nz, .func (.func g) #[] cb] w fun e w' => e = .returned (.tuple #[]) ∧ SWK enc k w0 blk off (swr a b n 0 d) w' := by
 subst ha hbz hnz
 have mixed : Tryz.prog.follows .mixedOrders = true := by kernel_rfl
 have us := run_underlying Tryz.underlying68
 have S0 : Aside (SWK enc k w0 blk off d w) := S
 clear S
 go_enter Tryz.func116, Tryz.ntmps116
 go_wp2
 go_loopg [10] n (fun kx s10 wr => ∃ (i : Nat) (dk : Array α), s10 = .int .i64 i ∧ i ≤ n ∧ n - i ≤ kx ∧ dk.size = N ∧ Aside (SWK enc k w0 blk off dk wr) ∧ Aside (swr a b n i dk = swr a b n 0 d))
 case atStart => exact ⟨0, d, rfl, Nat.zero_le _, by omega, hN, S0, rfl⟩
 case round =>
  clear S0
  obtain ⟨i, dk, rfl, hin, hkx, hds, S1, HEQ⟩ := hrel
  by_cases hlt : i < n
  ·
   have hltz : (i : Int) < (n : Int) := by omega
   go_wp2_with fail
   have ea41a : ((a : Int) + (i : Int)).toNat = a + i := by omega
   have pa41a : (0 : Int) ≤ (a : Int) + (i : Int) := by omega
   have ba41a : (a : Int) + (i : Int) < (N : Int) := by omega
   have ra41a : IntKind.i64.wrap ((a : Int) + (i : Int)) = (a : Int) + (i : Int) := by rw [IntKind.wrap_i64]; omega
   have ea41b : ((b : Int) + (i : Int)).toNat = b + i := by omega
   have pa41b : (0 : Int) ≤ (b : Int) + (i : Int) := by omega
   have ba41b : (b : Int) + (i : Int) < (N : Int) := by omega
   have ra41b : IntKind.i64.wrap ((b : Int) + (i : Int)) = (b : Int) + (i : Int) := by rw [IntKind.wrap_i64]; omega
   have S2 : Aside (SWK enc k w0 blk off (swp dk (a + i) (b + i)) ((wr.drew.setCells blk (off + (a + i) * k) (enc dk[b + i]!)).setCells blk (off + (b + i) * k) (enc dk[a + i]!))) := S1.out.swapped R (a + i) (b + i) (by omega) (by omega)
   have l41a := S1.out.ld1 R (by omega) Tryz.prog (a + i) (by omega)
   have l41b := S1.out.ld1 R (by omega) Tryz.prog (b + i) (by omega)
   have s41a := S1.out.st1 R (by omega) Tryz.prog (a + i) (by omega) dk[b + i]!
   have s41b := S1.out.st2 R (by omega) Tryz.prog (a + i) (b + i) (by omega) (by omega) dk[b + i]! dk[a + i]!
   have n41a : (enc dk[a + i]!).length = k := R.hk _
   have n41b : (enc dk[b + i]!).length = k := R.hk _
   generalize enc dk[a + i]! = cI41 at S2 l41a s41b n41a
   generalize enc dk[b + i]! = cJ41 at S2 l41b s41a s41b n41b
   clear S1
   go_wp2_with fail
   go_big_region_o
   clear l41a l41b s41a s41b
   generalize (wr.drew.setCells blk (off + (a + i) * k) cJ41).setCells blk (off + (b + i) * k) cI41 = w2 at S2 ⊢
   go_wp2
   go_roundg (n - (i + 1))
   case measure => omega
   case rel =>
    have heq := HEQ.out
    rw [swr, if_pos hlt] at heq
    exact ⟨i + 1, swp dk (a + i) (b + i), by simp, by omega, Nat.le_refl _, by rw [size_swp]; exact hds, S2, heq⟩
  ·
   have hltz : ¬ (i : Int) < (n : Int) := by omega
   go_wp2
   go_end0
   refine ⟨rfl, ?_⟩
   have heq := HEQ.out
   rw [swr, if_neg hlt] at heq
   rw [← heq]
   exact S1.out
set_option maxHeartbeats 4000000 in
set_option maxRecDepth 1000000 in
theorem rotate (k : Nat) (aE : ∀ w, (isAgg 86).run Tryz.prog w = .ok true w) (zE : ∀ w, (Go.sizeOf 86).run Tryz.prog w = .ok k w) (enc : α → List Value) (g : Nat) (cb : Array Value) (blk off cap N a m b : Nat) (az mz bz : Int) (d0 d : Array α) (w0 w : World) (ha : az = a) (hmz : mz = m) (hbz : bz = b)
  (R : RowK enc k w0 blk off d0) (h0 : d0.size = N) (hN : d.size = N) (S : SWK enc k w0 blk off d w) (ham : a < m) (hmb : m < b) (hb : b ≤ N) (hsz : N < 4611686018427387904) :
  Calls Tryz.prog 108 #[.slice (some ⟨blk, off, none⟩) N cap, .int .i64 az, .int .i64 mz, .int .i64 bz, .func (.func g) #[] cb] w fun e w' => e = .returned (.tuple #[]) ∧ SWK enc k w0 blk off (rot m (m - a) (b - m) d) w' := by
 subst ha hmz hbz
 have mixed : Tryz.prog.follows .mixedOrders = true := by kernel_rfl
 have us := run_underlying Tryz.underlying68
 have S0 : Aside (SWK enc k w0 blk off d w) := S
 clear S
 go_enter Tryz.func108, Tryz.ntmps108
 go_wp2
 go_loopg [10, 11] (b - a) (fun kx s10 s11 wr => ∃ (i j : Nat) (dk : Array α), s10 = .int .i64 i ∧ s11 = .int .i64 j ∧ 0 < i ∧ 0 < j ∧ i ≤ m - a ∧ j ≤ b - m ∧ i + j ≤ kx ∧ dk.size = N ∧ Aside (SWK enc k w0 blk off dk wr) ∧ Aside (rot m i j dk = rot m (m - a) (b - m) d))
 case atStart => exact ⟨m - a, b - m, d, by simp; omega, by simp; omega, by omega, by omega, by omega, by omega, by omega, hN, S0, rfl⟩
 case round =>
  clear S0
  obtain ⟨i, j, dk, rfl, rfl, hi0, hj0, him, hjb, hkx, hds, S1, HEQ⟩ := hrel
  by_cases hij : i = j
  ·
   subst hij
   have heq := HEQ.out
   rw [rot, dif_neg (by omega)] at heq
   have HE2 : Aside _ := heq
   clear heq HEQ
   go_wp2_with (first | (go_at_call 116; refine (swapRange k aE zE enc g cb blk off cap N (m - i) (m) (i) _ _ _ d0 dk w0 _ ?ha ?hbz ?hnz R h0 hds S1.out (by omega) (by omega) hsz).mono ?_; (case ha => omega); (case hbz => omega); (case hnz => omega); rintro e w2 ⟨rfl, hS2⟩; have S2 : Aside _ := hS2; clear hS2 S1))
   go_end0
   refine ⟨rfl, ?_⟩
   rw [← HE2.out]
   exact S2.out
  ·
   have b1 : ((i : Int) = (j : Int)) = False := eq_false (by omega)
   by_cases hlt : j < i
   ·
    have b2 : (j : Int) < (i : Int) := by omega
    have heq := HEQ.out
    rw [rot, dif_pos (by omega), dif_pos hlt] at heq
    have HE2 : Aside _ := heq
    clear heq HEQ
    go_wp2_with (first | (go_at_call 116; refine (swapRange k aE zE enc g cb blk off cap N (m - i) (m) (j) _ _ _ d0 dk w0 _ ?ha ?hbz ?hnz R h0 hds S1.out (by omega) (by omega) hsz).mono ?_; (case ha => omega); (case hbz => omega); (case hnz => omega); rintro e w2 ⟨rfl, hS2⟩; have S2 : Aside _ := hS2; clear hS2 S1))
    go_roundg (i - j + j)
    case measure => omega
    case rel => exact ⟨i - j, j, _, by simp; omega, rfl, by omega, hj0, by omega, hjb, by omega, by rw [swr_size _ _ _ _ _ _ rfl]; exact hds, S2, HE2⟩
   ·
    have b2 : ¬ (j : Int) < (i : Int) := by omega
    have heq := HEQ.out
    rw [rot, dif_pos (by omega), dif_neg hlt] at heq
    have HE2 : Aside _ := heq
    clear heq HEQ
    go_wp2_with (first | (go_at_call 116; refine (swapRange k aE zE enc g cb blk off cap N (m - i) (m + j - i) (i) _ _ _ d0 dk w0 _ ?ha ?hbz ?hnz R h0 hds S1.out (by omega) (by omega) hsz).mono ?_; (case ha => omega); (case hbz => omega); (case hnz => omega); rintro e w2 ⟨rfl, hS2⟩; have S2 : Aside _ := hS2; clear hS2 S1))
    go_roundg (i + (j - i))
    case measure => omega
    case rel => exact ⟨i, j - i, _, rfl, by simp; omega, hi0, by omega, him, by omega, by omega, by rw [swr_size _ _ _ _ _ _ rfl]; exact hds, S2, HE2⟩
def Done (lt : α → α → Bool) (enc : α → List Value) (k : Nat) (w0 : World) (blk off a b : Nat) (d : Array α) (w' : World) : Prop := ∃ d', PermIn a b d d' ∧ SortedIn lt a b d' ∧ SWK enc k w0 blk off d' w'
set_option maxHeartbeats 4000000 in
set_option maxRecDepth 1000000 in
theorem symMerge (k : Nat) (aE : ∀ w, (isAgg 86).run Tryz.prog w = .ok true w) (zE : ∀ w, (Go.sizeOf 86).run Tryz.prog w = .ok k w) (enc : α → List Value) (cf : α → α → Int) (g : Nat) (cb : Array Value) (blk off cap N : Nat) (d0 : Array α) (w0 : World) (eg : ∀ args w, (callFunc g args).run Tryz.prog w = .ok (.enter g args) w) (hcmp : CmpLays Tryz.prog g cb enc k cf blk off d0.size w0)
  (R : RowK enc k w0 blk off d0) (h0 : d0.size = N) (hO : SWO (ltOf cf)) (hsz : N < 4611686018427387904) : ∀ (fu a m b : Nat) (az mz bz : Int) (d : Array α) (w : World), b - a ≤ fu → az = a → mz = m → bz = b → a < m → m < b → b ≤ N → d.size = N → SWK enc k w0 blk off d w →
  SortedIn (ltOf cf) a m d → SortedIn (ltOf cf) m b d →
  Calls Tryz.prog 94 #[.slice (some ⟨blk, off, none⟩) N cap, .int .i64 az, .int .i64 mz, .int .i64 bz, .func (.func g) #[] cb] w fun e w' => e = .returned (.tuple #[]) ∧ Done (ltOf cf) enc k w0 blk off a b d w' := by
 intro fu
 induction fu with
 | zero => intro a m b az mz bz d w hfu _ _ _ ham hmb; omega
 | succ fu ih =>
 intro a m b az mz bz d w hfu ha hmz hbz ham hmb hb hN S hA hB
 subst ha hmz hbz
 have IH : Aside _ := ih
 have HA : Aside _ := hA
 have HBB : Aside _ := hB
 have HOO : Aside _ := hO
 clear ih hA hB hO
 have mixed : Tryz.prog.follows .mixedOrders = true := by kernel_rfl
 have us := run_underlying Tryz.underlying68
 have S0 : Aside (SWK enc k w0 blk off d w) := S
 clear S
 have HC : Aside _ := hcmp
 clear hcmp
 by_cases h1 : m ≤ a + 1
 ·
  have g28 : ((m : Int) - (a : Int) == 1) = true := by simp; omega
  go_enter Tryz.func94, Tryz.ntmps94
  go_wp2
  go_loopg [10, 11] (b - m) (fun kx s10 s11 wr => ∃ (i j : Nat), s10 = .int .i64 i ∧ s11 = .int .i64 j ∧ i ≤ j ∧ j ≤ b ∧ m ≤ i ∧ j - i ≤ kx ∧ Aside (Bs (fun h => ltOf cf d[h]! d[a]!) m b i j) ∧ Aside (SWK enc k w0 blk off d wr))
  case atStart => exact ⟨m, b, rfl, rfl, by omega, by omega, by omega, by omega, Bs.start (by omega), S0⟩
  case round =>
   clear S0
   obtain ⟨i, j, rfl, rfl, hij, hjb, hmi, hkx, HBS, S1⟩ := hrel
   by_cases hlt : i < j
   ·
    have hltz : (i : Int) < (j : Int) := by omega
    go_wp2_with fail
    cases hlv : ltOf cf d[(i + j) / 2]! d[a]! with
    | true =>
      have ea42a : (((i : Int) + (j : Int)) / 2).toNat = (i + j) / 2 := by omega
      have pa42a : (0 : Int) ≤ ((i : Int) + (j : Int)) / 2 := by omega
      have ba42a : ((i : Int) + (j : Int)) / 2 < (N : Int) := by omega
      have ra42a : IntKind.i64.wrap (((i : Int) + (j : Int)) / 2) = ((i : Int) + (j : Int)) / 2 := by rw [IntKind.wrap_i64]; omega
      have ea42b : ((a : Int)).toNat = a := by omega
      have pa42b : (0 : Int) ≤ (a : Int) := by omega
      have ba42b : (a : Int) < (N : Int) := by omega
      have ra42b : IntKind.i64.wrap ((a : Int)) = (a : Int) := by rw [IntKind.wrap_i64]; omega
      obtain ⟨x42, hx42⟩ : ∃ x, x = d[(i + j) / 2]! := ⟨_, rfl⟩
      obtain ⟨y42, hy42⟩ : ∃ x, x = d[a]! := ⟨_, rfl⟩
      have l42a := S1.out.ld R (by omega) Tryz.prog ((i + j) / 2) (by omega)
      have l42b := S1.out.ld R (by omega) Tryz.prog (a) (by omega)
      rw [← hx42] at l42a
      rw [← hy42] at l42b
      have hc42 := S1.out.cmp HC.out (by omega) x42 y42
      have hv42 : cf x42 y42 < 0 := by rw [hx42, hy42]; exact of_decide_eq_true hlv
      have hd42 : decide (cf x42 y42 < 0) = true := decide_eq_true hv42
      have HLV : Aside _ := hlv
      clear hx42 hy42 hlv
      go_wp2_with fail
      go_quiet_grown (first | (go_at_fn g; refine Calls.grown_of (hc42 _ _)))
      have S2 : Aside (SWK enc k w0 blk off d (grow (wr.drewN nq) osq)) := S1.out.grown nq osq
      clear l42a l42b hc42 S1
      generalize grow (wr.drewN nq) osq = w2 at S2 ⊢
      clear nq osq
      go_wp2
      go_roundg (j - ((i + j) / 2 + 1))
      case measure => omega
      case rel => exact ⟨(i + j) / 2 + 1, j, by simp, rfl, by omega, by omega, by omega, by omega, HBS.out.up hlt HLV, S2⟩
    | false =>
      have ea43a : (((i : Int) + (j : Int)) / 2).toNat = (i + j) / 2 := by omega
      have pa43a : (0 : Int) ≤ ((i : Int) + (j : Int)) / 2 := by omega
      have ba43a : ((i : Int) + (j : Int)) / 2 < (N : Int) := by omega
      have ra43a : IntKind.i64.wrap (((i : Int) + (j : Int)) / 2) = ((i : Int) + (j : Int)) / 2 := by rw [IntKind.wrap_i64]; omega
      have ea43b : ((a : Int)).toNat = a := by omega
      have pa43b : (0 : Int) ≤ (a : Int) := by omega
      have ba43b : (a : Int) < (N : Int) := by omega
      have ra43b : IntKind.i64.wrap ((a : Int)) = (a : Int) := by rw [IntKind.wrap_i64]; omega
      obtain ⟨x43, hx43⟩ : ∃ x, x = d[(i + j) / 2]! := ⟨_, rfl⟩
      obtain ⟨y43, hy43⟩ : ∃ x, x = d[a]! := ⟨_, rfl⟩
      have l43a := S1.out.ld R (by omega) Tryz.prog ((i + j) / 2) (by omega)
      have l43b := S1.out.ld R (by omega) Tryz.prog (a) (by omega)
      rw [← hx43] at l43a
      rw [← hy43] at l43b
      have hc43 := S1.out.cmp HC.out (by omega) x43 y43
      have hv43 : ¬ cf x43 y43 < 0 := by rw [hx43, hy43]; exact of_decide_eq_false hlv
      have hd43 : decide (cf x43 y43 < 0) = false := decide_eq_false hv43
      have HLV : Aside _ := hlv
      clear hx43 hy43 hlv
      go_wp2_with fail
      go_quiet_grown (first | (go_at_fn g; refine Calls.grown_of (hc43 _ _)))
      have S2 : Aside (SWK enc k w0 blk off d (grow (wr.drewN nq) osq)) := S1.out.grown nq osq
      clear l43a l43b hc43 S1
      generalize grow (wr.drewN nq) osq = w2 at S2 ⊢
      clear nq osq
      go_wp2
      go_roundg ((i + j) / 2 - i)
      case measure => omega
      case rel => exact ⟨i, (i + j) / 2, rfl, by simp, by omega, by omega, by omega, by omega, HBS.out.dn hlt HLV, S2⟩
   ·
    have hltz : ¬ (i : Int) < (j : Int) := by omega
    have eij : j = i := by omega
    subst eij
    have HM : Aside _ := merge_one_up HOO.out (d := d) (i := j) (a := a) (m := m) (b := b) (by omega) (by omega) HBB.out HBS.out
    go_wp2
    go_loopg [13] (j - 1 - a) (fun kx s13 wr => ∃ (kk : Nat) (dk : Array α), s13 = .int .i64 kk ∧ a ≤ kk ∧ kk < b + 1 ∧ ((j - 1) - kk ≤ kx) ∧ dk.size = N ∧ Aside (SWK enc k w0 blk off dk wr) ∧ Aside (up (j - 1) kk dk = up (j - 1) a d))
    case atStart => exact ⟨a, d, rfl, by omega, by omega, (by omega), hN, S1, rfl⟩
    case round =>
     clear S1
     obtain ⟨kk, dk, rfl, hak, hkb, hkx2, hds, S1, HEQ⟩ := hrel
     by_cases hlt2 : kk < j - 1
     ·
      have hltz2 : (kk : Int) < (j : Int) - 1 := by omega
      go_wp2_with fail
      have ea44a : ((kk : Int)).toNat = kk := by omega
      have pa44a : (0 : Int) ≤ (kk : Int) := by omega
      have ba44a : (kk : Int) < (N : Int) := by omega
      have ra44a : IntKind.i64.wrap ((kk : Int)) = (kk : Int) := by rw [IntKind.wrap_i64]; omega
      have ea44b : ((kk : Int) + 1).toNat = kk + 1 := by omega
      have pa44b : (0 : Int) ≤ (kk : Int) + 1 := by omega
      have ba44b : (kk : Int) + 1 < (N : Int) := by omega
      have ra44b : IntKind.i64.wrap ((kk : Int) + 1) = (kk : Int) + 1 := by rw [IntKind.wrap_i64]; omega
      have S2 : Aside (SWK enc k w0 blk off (swp dk (kk) (kk + 1)) ((wr.drew.setCells blk (off + (kk) * k) (enc dk[kk + 1]!)).setCells blk (off + (kk + 1) * k) (enc dk[kk]!))) := S1.out.swapped R (kk) (kk + 1) (by omega) (by omega)
      have l44a := S1.out.ld1 R (by omega) Tryz.prog (kk) (by omega)
      have l44b := S1.out.ld1 R (by omega) Tryz.prog (kk + 1) (by omega)
      have s44a := S1.out.st1 R (by omega) Tryz.prog (kk) (by omega) dk[kk + 1]!
      have s44b := S1.out.st2 R (by omega) Tryz.prog (kk) (kk + 1) (by omega) (by omega) dk[kk + 1]! dk[kk]!
      have n44a : (enc dk[kk]!).length = k := R.hk _
      have n44b : (enc dk[kk + 1]!).length = k := R.hk _
      generalize enc dk[kk]! = cI44 at S2 l44a s44b n44a
      generalize enc dk[kk + 1]! = cJ44 at S2 l44b s44a s44b n44b
      clear S1
      go_wp2_with fail
      go_big_region_o
      clear l44a l44b s44a s44b
      generalize (wr.drew.setCells blk (off + (kk) * k) cJ44).setCells blk (off + (kk + 1) * k) cI44 = w2 at S2 ⊢
      go_wp2
      go_roundg (j - 1 - (kk + 1))
      case measure => omega
      case rel =>
       have heq := HEQ.out
       rw [up, if_pos hlt2] at heq
       exact ⟨kk + 1, swp dk kk (kk + 1), by first | rfl | (simp; omega) | simp, by omega, by omega, by omega, by rw [size_swp]; exact hds, S2, heq⟩
     ·
      have hltz2 : ¬ (kk : Int) < (j : Int) - 1 := by omega
      go_wp2
      first | go_end0 | go_ret | ((try simp only [Exit.inBlock, Exit.then]); refine bodyPost_ret (results_none rfl _ _ _) rfl ?_)
      have heq := HEQ.out
      rw [up, if_neg hlt2] at heq
      have hm := HM.out
      rw [← heq] at hm
      exact ⟨rfl, dk, hm.1, hm.2, S1.out⟩
 by_cases h2 : b ≤ m + 1
 ·
  have ham2 : (a : Int) + 1 < (m : Int) := by omega
  have g28 : ((m : Int) - (a : Int) == 1) = false := by simp; omega
  have g80 : ((b : Int) - (m : Int) == 1) = true := by simp; omega
  go_enter Tryz.func94, Tryz.ntmps94
  go_wp2
  go_loopg [14, 15] (m - a) (fun kx s10 s11 wr => ∃ (i j : Nat), s10 = .int .i64 i ∧ s11 = .int .i64 j ∧ i ≤ j ∧ j ≤ m ∧ a ≤ i ∧ j - i ≤ kx ∧ Aside (Bs (fun h => !ltOf cf d[m]! d[h]!) a m i j) ∧ Aside (SWK enc k w0 blk off d wr))
  case atStart => exact ⟨a, m, rfl, rfl, by omega, by omega, by omega, by omega, Bs.start (by omega), S0⟩
  case round =>
   clear S0
   obtain ⟨i, j, rfl, rfl, hij, hjb, hmi, hkx, HBS, S1⟩ := hrel
   by_cases hlt : i < j
   ·
    have hltz : (i : Int) < (j : Int) := by omega
    go_wp2_with fail
    cases hlv : ltOf cf d[m]! d[(i + j) / 2]! with
    | true =>
      have ea45a : ((m : Int)).toNat = m := by omega
      have pa45a : (0 : Int) ≤ (m : Int) := by omega
      have ba45a : (m : Int) < (N : Int) := by omega
      have ra45a : IntKind.i64.wrap ((m : Int)) = (m : Int) := by rw [IntKind.wrap_i64]; omega
      have ea45b : (((i : Int) + (j : Int)) / 2).toNat = (i + j) / 2 := by omega
      have pa45b : (0 : Int) ≤ ((i : Int) + (j : Int)) / 2 := by omega
      have ba45b : ((i : Int) + (j : Int)) / 2 < (N : Int) := by omega
      have ra45b : IntKind.i64.wrap (((i : Int) + (j : Int)) / 2) = ((i : Int) + (j : Int)) / 2 := by rw [IntKind.wrap_i64]; omega
      obtain ⟨x45, hx45⟩ : ∃ x, x = d[m]! := ⟨_, rfl⟩
      obtain ⟨y45, hy45⟩ : ∃ x, x = d[(i + j) / 2]! := ⟨_, rfl⟩
      have l45a := S1.out.ld R (by omega) Tryz.prog (m) (by omega)
      have l45b := S1.out.ld R (by omega) Tryz.prog ((i + j) / 2) (by omega)
      rw [← hx45] at l45a
      rw [← hy45] at l45b
      have hc45 := S1.out.cmp HC.out (by omega) x45 y45
      have hv45 : cf x45 y45 < 0 := by rw [hx45, hy45]; exact of_decide_eq_true hlv
      have hd45 : decide (cf x45 y45 < 0) = true := decide_eq_true hv45
      have HLV : Aside _ := hlv
      clear hx45 hy45 hlv
      go_wp2_with fail
      go_quiet_grown (first | (go_at_fn g; refine Calls.grown_of (hc45 _ _)))
      have S2 : Aside (SWK enc k w0 blk off d (grow (wr.drewN nq) osq)) := S1.out.grown nq osq
      clear l45a l45b hc45 S1
      generalize grow (wr.drewN nq) osq = w2 at S2 ⊢
      clear nq osq
      go_wp2
      go_roundg ((i + j) / 2 - i)
      case measure => omega
      case rel => exact ⟨i, (i + j) / 2, rfl, by simp, by omega, by omega, by omega, by omega, HBS.out.dn hlt (show (!ltOf cf d[m]! d[(i + j) / 2]!) = false by rw [show ltOf cf d[m]! d[(i + j) / 2]! = true from HLV]; rfl), S2⟩
    | false =>
      have ea46a : ((m : Int)).toNat = m := by omega
      have pa46a : (0 : Int) ≤ (m : Int) := by omega
      have ba46a : (m : Int) < (N : Int) := by omega
      have ra46a : IntKind.i64.wrap ((m : Int)) = (m : Int) := by rw [IntKind.wrap_i64]; omega
      have ea46b : (((i : Int) + (j : Int)) / 2).toNat = (i + j) / 2 := by omega
      have pa46b : (0 : Int) ≤ ((i : Int) + (j : Int)) / 2 := by omega
      have ba46b : ((i : Int) + (j : Int)) / 2 < (N : Int) := by omega
      have ra46b : IntKind.i64.wrap (((i : Int) + (j : Int)) / 2) = ((i : Int) + (j : Int)) / 2 := by rw [IntKind.wrap_i64]; omega
      obtain ⟨x46, hx46⟩ : ∃ x, x = d[m]! := ⟨_, rfl⟩
      obtain ⟨y46, hy46⟩ : ∃ x, x = d[(i + j) / 2]! := ⟨_, rfl⟩
      have l46a := S1.out.ld R (by omega) Tryz.prog (m) (by omega)
      have l46b := S1.out.ld R (by omega) Tryz.prog ((i + j) / 2) (by omega)
      rw [← hx46] at l46a
      rw [← hy46] at l46b
      have hc46 := S1.out.cmp HC.out (by omega) x46 y46
      have hv46 : ¬ cf x46 y46 < 0 := by rw [hx46, hy46]; exact of_decide_eq_false hlv
      have hd46 : decide (cf x46 y46 < 0) = false := decide_eq_false hv46
      have HLV : Aside _ := hlv
      clear hx46 hy46 hlv
      go_wp2_with fail
      go_quiet_grown (first | (go_at_fn g; refine Calls.grown_of (hc46 _ _)))
      have S2 : Aside (SWK enc k w0 blk off d (grow (wr.drewN nq) osq)) := S1.out.grown nq osq
      clear l46a l46b hc46 S1
      generalize grow (wr.drewN nq) osq = w2 at S2 ⊢
      clear nq osq
      go_wp2
      go_roundg (j - ((i + j) / 2 + 1))
      case measure => omega
      case rel => exact ⟨(i + j) / 2 + 1, j, by simp, rfl, by omega, by omega, by omega, by omega, HBS.out.up hlt (show (!ltOf cf d[m]! d[(i + j) / 2]!) = true by rw [show ltOf cf d[m]! d[(i + j) / 2]! = false from HLV]; rfl), S2⟩
   ·
    have hltz : ¬ (i : Int) < (j : Int) := by omega
    have eij : j = i := by omega
    subst eij
    have HM : Aside _ := merge_one_dn HOO.out (d := d) (i := j) (a := a) (m := m) (b := b) (by omega) (by omega) HA.out HBS.out
    go_wp2
    go_loopg [17] (m - j) (fun kx s13 wr => ∃ (kk : Nat) (dk : Array α), s13 = .int .i64 kk ∧ a ≤ kk ∧ kk < b + 1 ∧ (kk ≤ m ∧ j ≤ kk ∧ kk - j ≤ kx) ∧ dk.size = N ∧ Aside (SWK enc k w0 blk off dk wr) ∧ Aside (dn j kk dk = dn j m d))
    case atStart => exact ⟨m, d, rfl, by omega, by omega, (by omega), hN, S1, rfl⟩
    case round =>
     clear S1
     obtain ⟨kk, dk, rfl, hak, hkb, hkx2, hds, S1, HEQ⟩ := hrel
     by_cases hlt2 : j < kk
     ·
      obtain ⟨kp, rfl⟩ : ∃ kp, kk = kp + 1 := ⟨kk - 1, by omega⟩
      have hltz2 : (j : Int) < (kp : Int) + 1 := by omega
      go_wp2_with fail
      have ea47a : ((kp : Int) + 1).toNat = kp + 1 := by omega
      have pa47a : (0 : Int) ≤ (kp : Int) + 1 := by omega
      have ba47a : (kp : Int) + 1 < (N : Int) := by omega
      have ra47a : IntKind.i64.wrap ((kp : Int) + 1) = (kp : Int) + 1 := by rw [IntKind.wrap_i64]; omega
      have ea47b : ((kp : Int)).toNat = kp := by omega
      have pa47b : (0 : Int) ≤ (kp : Int) := by omega
      have ba47b : (kp : Int) < (N : Int) := by omega
      have ra47b : IntKind.i64.wrap ((kp : Int)) = (kp : Int) := by rw [IntKind.wrap_i64]; omega
      have S2 : Aside (SWK enc k w0 blk off (swp dk (kp + 1) (kp)) ((wr.drew.setCells blk (off + (kp + 1) * k) (enc dk[kp]!)).setCells blk (off + (kp) * k) (enc dk[kp + 1]!))) := S1.out.swapped R (kp + 1) (kp) (by omega) (by omega)
      have l47a := S1.out.ld1 R (by omega) Tryz.prog (kp + 1) (by omega)
      have l47b := S1.out.ld1 R (by omega) Tryz.prog (kp) (by omega)
      have s47a := S1.out.st1 R (by omega) Tryz.prog (kp + 1) (by omega) dk[kp]!
      have s47b := S1.out.st2 R (by omega) Tryz.prog (kp + 1) (kp) (by omega) (by omega) dk[kp]! dk[kp + 1]!
      have n47a : (enc dk[kp + 1]!).length = k := R.hk _
      have n47b : (enc dk[kp]!).length = k := R.hk _
      generalize enc dk[kp + 1]! = cI47 at S2 l47a s47b n47a
      generalize enc dk[kp]! = cJ47 at S2 l47b s47a s47b n47b
      clear S1
      go_wp2_with fail
      go_big_region_o
      clear l47a l47b s47a s47b
      generalize (wr.drew.setCells blk (off + (kp + 1) * k) cJ47).setCells blk (off + (kp) * k) cI47 = w2 at S2 ⊢
      go_wp2
      go_roundg (kp - j)
      case measure => omega
      case rel =>
       have heq := HEQ.out
       rw [dn, if_pos hlt2] at heq
       exact ⟨kp, swp dk (kp + 1) (kp), by first | rfl | (simp; omega) | simp, by omega, by omega, by omega, by rw [size_swp]; exact hds, S2, heq⟩
     ·
      have hltz2 : ¬ (j : Int) < (kk : Int) := by omega
      go_wp2
      first | go_end0 | go_ret | ((try simp only [Exit.inBlock, Exit.then]); refine bodyPost_ret (results_none rfl _ _ _) rfl ?_)
      have heq := HEQ.out
      rw [dn, if_neg hlt2] at heq
      have hm := HM.out
      rw [← heq] at hm
      exact ⟨rfl, dk, hm.1, hm.2, S1.out⟩
 have ham2 : (a : Int) + 1 < (m : Int) := by omega
 have hmb2 : (m : Int) + 1 < (b : Int) := by omega
 obtain ⟨mid, hmid⟩ : ∃ mid : Nat, mid = (a + b) / 2 := ⟨_, rfl⟩
 have emid : ((a : Int) + (b : Int)) / 2 = (mid : Int) := by omega
 have bmid : a < mid ∧ mid < b ∧ mid + mid ≤ a + b ∧ a + b ≤ mid + mid + 1 := by omega
 have HMID : Aside _ := hmid
 clear hmid
 by_cases hmm0 : mid < m
 ·
  have hmm : (mid : Int) < (m : Int) := by omega
  have g28 : ((m : Int) - (a : Int) == 1) = false := by simp; omega
  have g80 : ((b : Int) - (m : Int) == 1) = false := by simp; omega
  have hlo : (mid + m - b) ≤ mid ∧ a ≤ (mid + m - b) ∧ mid ≤ m ∧ mid ≤ mid := by omega
  go_enter Tryz.func94, Tryz.ntmps94
  go_wp2
  go_loopg [20, 21] (mid - (mid + m - b)) (fun kx s10 s11 wr => ∃ (i j : Nat), s10 = .int .i64 i ∧ s11 = .int .i64 j ∧ i ≤ j ∧ j ≤ mid ∧ (mid + m - b) ≤ i ∧ j - i ≤ kx ∧ Aside (Bs (fun c => !ltOf cf d[mid + m - 1 - c]! d[c]!) (mid + m - b) mid i j) ∧ Aside (SWK enc k w0 blk off d wr))
  case atStart => exact ⟨(mid + m - b), mid, by first | rfl | (simp; omega), by first | rfl | (simp; omega), by omega, by omega, by omega, by omega, Bs.start (by omega), S0⟩
  case round =>
   clear S0
   obtain ⟨i, j, rfl, rfl, hij, hjb, hmi, hkx, HBS, S1⟩ := hrel
   by_cases hlt : i < j
   ·
    have hltz : (i : Int) < (j : Int) := by omega
    go_wp2_with fail
    obtain ⟨q, hq⟩ : ∃ q, q = mid + m - 1 - (i + j) / 2 := ⟨_, rfl⟩
    have zq : (mid : Int) + (m : Int) - 1 - ((i : Int) + (j : Int)) / 2 = (q : Int) := by omega
    have rq : IntKind.i64.wrap ((mid : Int) + (m : Int) - 1 - ((i : Int) + (j : Int)) / 2) = (q : Int) := by rw [IntKind.wrap_i64]; omega
    have bq : q < N := by omega
    have HQ : Aside _ := hq
    clear hq
    cases hlv : ltOf cf d[q]! d[(i + j) / 2]! with
    | true =>
     have ea48a : ((q : Int)).toNat = q := by omega
     have pa48a : (0 : Int) ≤ (q : Int) := by omega
     have ba48a : (q : Int) < (N : Int) := by omega
     have ra48a : IntKind.i64.wrap ((q : Int)) = (q : Int) := by rw [IntKind.wrap_i64]; omega
     have ea48b : (((i : Int) + (j : Int)) / 2).toNat = (i + j) / 2 := by omega
     have pa48b : (0 : Int) ≤ ((i : Int) + (j : Int)) / 2 := by omega
     have ba48b : ((i : Int) + (j : Int)) / 2 < (N : Int) := by omega
     have ra48b : IntKind.i64.wrap (((i : Int) + (j : Int)) / 2) = ((i : Int) + (j : Int)) / 2 := by rw [IntKind.wrap_i64]; omega
     obtain ⟨x48, hx48⟩ : ∃ x, x = d[q]! := ⟨_, rfl⟩
     obtain ⟨y48, hy48⟩ : ∃ x, x = d[(i + j) / 2]! := ⟨_, rfl⟩
     have l48a := S1.out.ld R (by omega) Tryz.prog (q) (by omega)
     have l48b := S1.out.ld R (by omega) Tryz.prog ((i + j) / 2) (by omega)
     rw [← hx48] at l48a
     rw [← hy48] at l48b
     have hc48 := S1.out.cmp HC.out (by omega) x48 y48
     have hv48 : cf x48 y48 < 0 := by rw [hx48, hy48]; exact of_decide_eq_true hlv
     have hd48 : decide (cf x48 y48 < 0) = true := decide_eq_true hv48
     have HLV : Aside _ := hlv
     clear hx48 hy48 hlv
     go_wp2_with fail
     go_quiet_grown (first | (go_at_fn g; refine Calls.grown_of (hc48 _ _)))
     have S2 : Aside (SWK enc k w0 blk off d (grow (wr.drewN nq) osq)) := S1.out.grown nq osq
     clear l48a l48b hc48 S1
     generalize grow (wr.drewN nq) osq = w2 at S2 ⊢
     clear nq osq
     go_wp2
     go_roundg ((i + j) / 2 - i)
     case measure => omega
     case rel => exact ⟨i, (i + j) / 2, rfl, by simp, by omega, by omega, by omega, by omega, HBS.out.dn hlt (show (!ltOf cf d[mid + m - 1 - (i + j) / 2]! d[(i + j) / 2]!) = false by rw [← show q = mid + m - 1 - (i + j) / 2 from HQ, show ltOf cf d[q]! d[(i + j) / 2]! = true from HLV]; rfl), S2⟩
    | false =>
     have ea49a : ((q : Int)).toNat = q := by omega
     have pa49a : (0 : Int) ≤ (q : Int) := by omega
     have ba49a : (q : Int) < (N : Int) := by omega
     have ra49a : IntKind.i64.wrap ((q : Int)) = (q : Int) := by rw [IntKind.wrap_i64]; omega
     have ea49b : (((i : Int) + (j : Int)) / 2).toNat = (i + j) / 2 := by omega
     have pa49b : (0 : Int) ≤ ((i : Int) + (j : Int)) / 2 := by omega
     have ba49b : ((i : Int) + (j : Int)) / 2 < (N : Int) := by omega
     have ra49b : IntKind.i64.wrap (((i : Int) + (j : Int)) / 2) = ((i : Int) + (j : Int)) / 2 := by rw [IntKind.wrap_i64]; omega
     obtain ⟨x49, hx49⟩ : ∃ x, x = d[q]! := ⟨_, rfl⟩
     obtain ⟨y49, hy49⟩ : ∃ x, x = d[(i + j) / 2]! := ⟨_, rfl⟩
     have l49a := S1.out.ld R (by omega) Tryz.prog (q) (by omega)
     have l49b := S1.out.ld R (by omega) Tryz.prog ((i + j) / 2) (by omega)
     rw [← hx49] at l49a
     rw [← hy49] at l49b
     have hc49 := S1.out.cmp HC.out (by omega) x49 y49
     have hv49 : ¬ cf x49 y49 < 0 := by rw [hx49, hy49]; exact of_decide_eq_false hlv
     have hd49 : decide (cf x49 y49 < 0) = false := decide_eq_false hv49
     have HLV : Aside _ := hlv
     clear hx49 hy49 hlv
     go_wp2_with fail
     go_quiet_grown (first | (go_at_fn g; refine Calls.grown_of (hc49 _ _)))
     have S2 : Aside (SWK enc k w0 blk off d (grow (wr.drewN nq) osq)) := S1.out.grown nq osq
     clear l49a l49b hc49 S1
     generalize grow (wr.drewN nq) osq = w2 at S2 ⊢
     clear nq osq
     go_wp2
     go_roundg (j - ((i + j) / 2 + 1))
     case measure => omega
     case rel => exact ⟨(i + j) / 2 + 1, j, by simp, rfl, by omega, by omega, by omega, by omega, HBS.out.up hlt (show (!ltOf cf d[mid + m - 1 - (i + j) / 2]! d[(i + j) / 2]!) = true by rw [← show q = mid + m - 1 - (i + j) / 2 from HQ, show ltOf cf d[q]! d[(i + j) / 2]! = false from HLV]; rfl), S2⟩
   ·
    have hltz : ¬ (i : Int) < (j : Int) := by omega
    have eij : j = i := by omega
    subst eij
    have CUT : Aside _ := cut HOO.out (d := d) (a := a) (m := m) (b := b) (mid := mid) (s := j) ham hmb (by omega) HMID.out rfl rfl HA.out HBB.out (by rw [if_pos (show mid < m by omega), if_pos (show mid < m by omega)]; exact HBS.out)
    have hj : a ≤ j ∧ j ≤ m ∧ j ≤ mid ∧ m ≤ mid + m - j ∧ mid ≤ mid + m - j ∧ mid + m - j ≤ b := by omega
    clear HBS
    by_cases c1 : j < m ∧ m < mid + m - j
    ·
     have z1 : (j : Int) < (m : Int) := by omega
     have z2 : (m : Int) < (mid : Int) + (m : Int) - (j : Int) := by omega
     have et : rot m (m - j) (mid + m - j - m) d = turned j m (mid + m - j) d := by unfold turned; rw [if_pos c1]
     have ET : Aside _ := et
     have hT : (turned j m (mid + m - j) d).size = N := by rw [turned_size _ _ _ _ (by omega)]; exact hN
     clear et c1
     by_cases c2 : a < j ∧ j < mid
     ·
      have z3 : (a : Int) < (j : Int) ∧ (j : Int) < (mid : Int) := by omega
      obtain ⟨z3a, z3b⟩ := z3
      by_cases c3 : mid < mid + m - j ∧ mid + m - j < b
      ·
       have z4 : (mid : Int) < (mid : Int) + (m : Int) - (j : Int) ∧ (mid : Int) + (m : Int) - (j : Int) < (b : Int) := by omega
       obtain ⟨z4a, z4b⟩ := z4
       go_wp2_with (first | (go_at_call 108; refine (rotate k aE zE enc g cb blk off cap N j m (mid + m - j) _ _ _ d0 d w0 _ ?ha ?hmz ?hbz R h0 hN S1.out ?h1 ?h2 ?h3 hsz).mono ?_; (case ha => omega); (case hmz => omega); (case hbz => omega); (case h1 => omega); (case h2 => omega); (case h3 => omega); rintro e w2 ⟨rfl, hS2⟩; have S2 : Aside (SWK enc k w0 blk off (turned j m (mid + m - j) d) w2) := (by rw [← ET.out]; exact hS2); clear hS2 S1) | (go_at_call 94; refine (IH.out (a) (j) (mid) _ _ _ (turned j m (mid + m - j) d) _ ?hf ?hx ?hy ?hz ?h1 ?h2 ?h3 ?h4 S2.out CUT.out.s1 CUT.out.s2).mono ?_; (case hf => omega); (case hx => omega); (case hy => omega); (case hz => omega); (case h1 => omega); (case h2 => omega); (case h3 => omega); (case h4 => omega); rintro e w3 ⟨rfl, dd3, p3, q3, hS3⟩; have hz3 : dd3.size = N := (p3.1).trans (by omega); have P3 : Aside _ := p3; have Q3 : Aside _ := q3; have S3 : Aside _ := hS3; clear p3 q3 hS3 S2) | (go_at_call 94; refine (IH.out (mid) (mid + m - j) (b) _ _ _ dd3 _ ?hf ?hx ?hy ?hz ?h1 ?h2 ?h3 ?h4 S3.out (sorted_far P3.out CUT.out.s3 (.inl (Nat.le_refl _))) (sorted_far P3.out CUT.out.s4 (.inl (by omega)))).mono ?_; (case hf => omega); (case hx => omega); (case hy => omega); (case hz => omega); (case h1 => omega); (case h2 => omega); (case h3 => omega); (case h4 => omega); rintro e w4 ⟨rfl, dd4, p4, q4, hS4⟩; have hz4 : dd4.size = N := (p4.1).trans (by omega); have P4 : Aside _ := p4; have Q4 : Aside _ := q4; have S4 : Aside _ := hS4; clear p4 q4 hS4 S3))
       all_goals
        first | go_end0 | go_ret | ((try simp only [Exit.inBlock, Exit.then]); refine bodyPost_ret (results_none rfl _ _ _) rfl ?_)
        have hj_ := CUT.out.join (by omega) P3.out Q3.out P4.out Q4.out
        exact ⟨rfl, dd4, hj_.1, hj_.2, S4.out⟩
      ·
       have z4 : ¬ (mid : Int) < (mid : Int) + (m : Int) - (j : Int) ∨ ¬ (mid : Int) + (m : Int) - (j : Int) < (b : Int) := by omega
       rcases z4 with z4 | z4
       all_goals
        go_wp2_with (first | (go_at_call 108; refine (rotate k aE zE enc g cb blk off cap N j m (mid + m - j) _ _ _ d0 d w0 _ ?ha ?hmz ?hbz R h0 hN S1.out ?h1 ?h2 ?h3 hsz).mono ?_; (case ha => omega); (case hmz => omega); (case hbz => omega); (case h1 => omega); (case h2 => omega); (case h3 => omega); rintro e w2 ⟨rfl, hS2⟩; have S2 : Aside (SWK enc k w0 blk off (turned j m (mid + m - j) d) w2) := (by rw [← ET.out]; exact hS2); clear hS2 S1) | (go_at_call 94; refine (IH.out (a) (j) (mid) _ _ _ (turned j m (mid + m - j) d) _ ?hf ?hx ?hy ?hz ?h1 ?h2 ?h3 ?h4 S2.out CUT.out.s1 CUT.out.s2).mono ?_; (case hf => omega); (case hx => omega); (case hy => omega); (case hz => omega); (case h1 => omega); (case h2 => omega); (case h3 => omega); (case h4 => omega); rintro e w3 ⟨rfl, dd3, p3, q3, hS3⟩; have hz3 : dd3.size = N := (p3.1).trans (by omega); have P3 : Aside _ := p3; have Q3 : Aside _ := q3; have S3 : Aside _ := hS3; clear p3 q3 hS3 S2))
        all_goals
         first | go_end0 | go_ret | ((try simp only [Exit.inBlock, Exit.then]); refine bodyPost_ret (results_none rfl _ _ _) rfl ?_)
         have hj_ := CUT.out.join (by omega) P3.out Q3.out (permIn_refl _ _ _) (sorted_far P3.out (CUT.out.right (by omega)) (.inl (Nat.le_refl _)))
         exact ⟨rfl, dd3, hj_.1, hj_.2, S3.out⟩
     ·
      have z3 : ¬ (a : Int) < (j : Int) ∨ ¬ (j : Int) < (mid : Int) := by omega
      by_cases c3 : mid < mid + m - j ∧ mid + m - j < b
      ·
       have z4 : (mid : Int) < (mid : Int) + (m : Int) - (j : Int) ∧ (mid : Int) + (m : Int) - (j : Int) < (b : Int) := by omega
       obtain ⟨z4a, z4b⟩ := z4
       rcases z3 with z3 | z3
       all_goals
        go_wp2_with (first | (go_at_call 108; refine (rotate k aE zE enc g cb blk off cap N j m (mid + m - j) _ _ _ d0 d w0 _ ?ha ?hmz ?hbz R h0 hN S1.out ?h1 ?h2 ?h3 hsz).mono ?_; (case ha => omega); (case hmz => omega); (case hbz => omega); (case h1 => omega); (case h2 => omega); (case h3 => omega); rintro e w2 ⟨rfl, hS2⟩; have S2 : Aside (SWK enc k w0 blk off (turned j m (mid + m - j) d) w2) := (by rw [← ET.out]; exact hS2); clear hS2 S1) | (go_at_call 94; refine (IH.out (mid) (mid + m - j) (b) _ _ _ (turned j m (mid + m - j) d) _ ?hf ?hx ?hy ?hz ?h1 ?h2 ?h3 ?h4 S2.out CUT.out.s3 CUT.out.s4).mono ?_; (case hf => omega); (case hx => omega); (case hy => omega); (case hz => omega); (case h1 => omega); (case h2 => omega); (case h3 => omega); (case h4 => omega); rintro e w4 ⟨rfl, dd4, p4, q4, hS4⟩; have hz4 : dd4.size = N := (p4.1).trans (by omega); have P4 : Aside _ := p4; have Q4 : Aside _ := q4; have S4 : Aside _ := hS4; clear p4 q4 hS4 S2))
        all_goals
         first | go_end0 | go_ret | ((try simp only [Exit.inBlock, Exit.then]); refine bodyPost_ret (results_none rfl _ _ _) rfl ?_)
         have hj_ := CUT.out.join (by omega) (permIn_refl _ _ _) (CUT.out.left (by omega)) P4.out Q4.out
         exact ⟨rfl, dd4, hj_.1, hj_.2, S4.out⟩
      ·
       have z4 : ¬ (mid : Int) < (mid : Int) + (m : Int) - (j : Int) ∨ ¬ (mid : Int) + (m : Int) - (j : Int) < (b : Int) := by omega
       (rcases z3 with z3 | z3) <;> (rcases z4 with z4 | z4)
       all_goals
        go_wp2_with (first | (go_at_call 108; refine (rotate k aE zE enc g cb blk off cap N j m (mid + m - j) _ _ _ d0 d w0 _ ?ha ?hmz ?hbz R h0 hN S1.out ?h1 ?h2 ?h3 hsz).mono ?_; (case ha => omega); (case hmz => omega); (case hbz => omega); (case h1 => omega); (case h2 => omega); (case h3 => omega); rintro e w2 ⟨rfl, hS2⟩; have S2 : Aside (SWK enc k w0 blk off (turned j m (mid + m - j) d) w2) := (by rw [← ET.out]; exact hS2); clear hS2 S1))
        all_goals
         first | go_end0 | go_ret | ((try simp only [Exit.inBlock, Exit.then]); refine bodyPost_ret (results_none rfl _ _ _) rfl ?_)
         have hj_ := CUT.out.join (by omega) (permIn_refl _ _ _) (CUT.out.left (by omega)) (permIn_refl _ _ _) (CUT.out.right (by omega))
         exact ⟨rfl, (turned j m (mid + m - j) d), hj_.1, hj_.2, S2.out⟩
    ·
     have et : d = turned j m (mid + m - j) d := by unfold turned; rw [if_neg c1]
     have z1 : ¬ (j : Int) < (m : Int) ∨ ¬ (m : Int) < (mid : Int) + (m : Int) - (j : Int) := by omega
     have ET : Aside _ := et
     have hT : (turned j m (mid + m - j) d).size = N := by rw [turned_size _ _ _ _ (by omega)]; exact hN
     clear et c1
     have S2 : Aside (SWK enc k w0 blk off (turned j m (mid + m - j) d) wr) := by rw [← ET.out]; exact S1.out
     clear S1
     by_cases c2 : a < j ∧ j < mid
     ·
      have z3 : (a : Int) < (j : Int) ∧ (j : Int) < (mid : Int) := by omega
      obtain ⟨z3a, z3b⟩ := z3
      by_cases c3 : mid < mid + m - j ∧ mid + m - j < b
      ·
       have z4 : (mid : Int) < (mid : Int) + (m : Int) - (j : Int) ∧ (mid : Int) + (m : Int) - (j : Int) < (b : Int) := by omega
       obtain ⟨z4a, z4b⟩ := z4
       rcases z1 with z1 | z1
       all_goals
        go_wp2_with (first | (go_at_call 94; refine (IH.out (a) (j) (mid) _ _ _ (turned j m (mid + m - j) d) _ ?hf ?hx ?hy ?hz ?h1 ?h2 ?h3 ?h4 S2.out CUT.out.s1 CUT.out.s2).mono ?_; (case hf => omega); (case hx => omega); (case hy => omega); (case hz => omega); (case h1 => omega); (case h2 => omega); (case h3 => omega); (case h4 => omega); rintro e w3 ⟨rfl, dd3, p3, q3, hS3⟩; have hz3 : dd3.size = N := (p3.1).trans (by omega); have P3 : Aside _ := p3; have Q3 : Aside _ := q3; have S3 : Aside _ := hS3; clear p3 q3 hS3 S2) | (go_at_call 94; refine (IH.out (mid) (mid + m - j) (b) _ _ _ dd3 _ ?hf ?hx ?hy ?hz ?h1 ?h2 ?h3 ?h4 S3.out (sorted_far P3.out CUT.out.s3 (.inl (Nat.le_refl _))) (sorted_far P3.out CUT.out.s4 (.inl (by omega)))).mono ?_; (case hf => omega); (case hx => omega); (case hy => omega); (case hz => omega); (case h1 => omega); (case h2 => omega); (case h3 => omega); (case h4 => omega); rintro e w4 ⟨rfl, dd4, p4, q4, hS4⟩; have hz4 : dd4.size = N := (p4.1).trans (by omega); have P4 : Aside _ := p4; have Q4 : Aside _ := q4; have S4 : Aside _ := hS4; clear p4 q4 hS4 S3))
        all_goals
         first | go_end0 | go_ret | ((try simp only [Exit.inBlock, Exit.then]); refine bodyPost_ret (results_none rfl _ _ _) rfl ?_)
         have hj_ := CUT.out.join (by omega) P3.out Q3.out P4.out Q4.out
         exact ⟨rfl, dd4, hj_.1, hj_.2, S4.out⟩
      ·
       have z4 : ¬ (mid : Int) < (mid : Int) + (m : Int) - (j : Int) ∨ ¬ (mid : Int) + (m : Int) - (j : Int) < (b : Int) := by omega
       (rcases z1 with z1 | z1) <;> (rcases z4 with z4 | z4)
       all_goals
        go_wp2_with (first | (go_at_call 94; refine (IH.out (a) (j) (mid) _ _ _ (turned j m (mid + m - j) d) _ ?hf ?hx ?hy ?hz ?h1 ?h2 ?h3 ?h4 S2.out CUT.out.s1 CUT.out.s2).mono ?_; (case hf => omega); (case hx => omega); (case hy => omega); (case hz => omega); (case h1 => omega); (case h2 => omega); (case h3 => omega); (case h4 => omega); rintro e w3 ⟨rfl, dd3, p3, q3, hS3⟩; have hz3 : dd3.size = N := (p3.1).trans (by omega); have P3 : Aside _ := p3; have Q3 : Aside _ := q3; have S3 : Aside _ := hS3; clear p3 q3 hS3 S2))
        all_goals
         first | go_end0 | go_ret | ((try simp only [Exit.inBlock, Exit.then]); refine bodyPost_ret (results_none rfl _ _ _) rfl ?_)
         have hj_ := CUT.out.join (by omega) P3.out Q3.out (permIn_refl _ _ _) (sorted_far P3.out (CUT.out.right (by omega)) (.inl (Nat.le_refl _)))
         exact ⟨rfl, dd3, hj_.1, hj_.2, S3.out⟩
     ·
      have z3 : ¬ (a : Int) < (j : Int) ∨ ¬ (j : Int) < (mid : Int) := by omega
      by_cases c3 : mid < mid + m - j ∧ mid + m - j < b
      ·
       have z4 : (mid : Int) < (mid : Int) + (m : Int) - (j : Int) ∧ (mid : Int) + (m : Int) - (j : Int) < (b : Int) := by omega
       obtain ⟨z4a, z4b⟩ := z4
       (rcases z1 with z1 | z1) <;> (rcases z3 with z3 | z3)
       all_goals
        go_wp2_with (first | (go_at_call 94; refine (IH.out (mid) (mid + m - j) (b) _ _ _ (turned j m (mid + m - j) d) _ ?hf ?hx ?hy ?hz ?h1 ?h2 ?h3 ?h4 S2.out CUT.out.s3 CUT.out.s4).mono ?_; (case hf => omega); (case hx => omega); (case hy => omega); (case hz => omega); (case h1 => omega); (case h2 => omega); (case h3 => omega); (case h4 => omega); rintro e w4 ⟨rfl, dd4, p4, q4, hS4⟩; have hz4 : dd4.size = N := (p4.1).trans (by omega); have P4 : Aside _ := p4; have Q4 : Aside _ := q4; have S4 : Aside _ := hS4; clear p4 q4 hS4 S2))
        all_goals
         first | go_end0 | go_ret | ((try simp only [Exit.inBlock, Exit.then]); refine bodyPost_ret (results_none rfl _ _ _) rfl ?_)
         have hj_ := CUT.out.join (by omega) (permIn_refl _ _ _) (CUT.out.left (by omega)) P4.out Q4.out
         exact ⟨rfl, dd4, hj_.1, hj_.2, S4.out⟩
      ·
       have z4 : ¬ (mid : Int) < (mid : Int) + (m : Int) - (j : Int) ∨ ¬ (mid : Int) + (m : Int) - (j : Int) < (b : Int) := by omega
       (rcases z1 with z1 | z1) <;> (rcases z3 with z3 | z3) <;> (rcases z4 with z4 | z4)
       all_goals
        go_wp2
        all_goals
         first | go_end0 | go_ret | ((try simp only [Exit.inBlock, Exit.then]); refine bodyPost_ret (results_none rfl _ _ _) rfl ?_)
         have hj_ := CUT.out.join (by omega) (permIn_refl _ _ _) (CUT.out.left (by omega)) (permIn_refl _ _ _) (CUT.out.right (by omega))
         exact ⟨rfl, (turned j m (mid + m - j) d), hj_.1, hj_.2, S2.out⟩
 ·
  have hmm : ¬ (mid : Int) < (m : Int) := by omega
  have g28 : ((m : Int) - (a : Int) == 1) = false := by simp; omega
  have g80 : ((b : Int) - (m : Int) == 1) = false := by simp; omega
  have hlo : a ≤ m ∧ a ≤ a ∧ m ≤ m ∧ m ≤ mid := by omega
  go_enter Tryz.func94, Tryz.ntmps94
  go_wp2
  go_loopg [20, 21] (m - a) (fun kx s10 s11 wr => ∃ (i j : Nat), s10 = .int .i64 i ∧ s11 = .int .i64 j ∧ i ≤ j ∧ j ≤ m ∧ a ≤ i ∧ j - i ≤ kx ∧ Aside (Bs (fun c => !ltOf cf d[mid + m - 1 - c]! d[c]!) a m i j) ∧ Aside (SWK enc k w0 blk off d wr))
  case atStart => exact ⟨a, m, by first | rfl | (simp; omega), by first | rfl | (simp; omega), by omega, by omega, by omega, by omega, Bs.start (by omega), S0⟩
  case round =>
   clear S0
   obtain ⟨i, j, rfl, rfl, hij, hjb, hmi, hkx, HBS, S1⟩ := hrel
   by_cases hlt : i < j
   ·
    have hltz : (i : Int) < (j : Int) := by omega
    go_wp2_with fail
    obtain ⟨q, hq⟩ : ∃ q, q = mid + m - 1 - (i + j) / 2 := ⟨_, rfl⟩
    have zq : (mid : Int) + (m : Int) - 1 - ((i : Int) + (j : Int)) / 2 = (q : Int) := by omega
    have rq : IntKind.i64.wrap ((mid : Int) + (m : Int) - 1 - ((i : Int) + (j : Int)) / 2) = (q : Int) := by rw [IntKind.wrap_i64]; omega
    have bq : q < N := by omega
    have HQ : Aside _ := hq
    clear hq
    cases hlv : ltOf cf d[q]! d[(i + j) / 2]! with
    | true =>
     have ea50a : ((q : Int)).toNat = q := by omega
     have pa50a : (0 : Int) ≤ (q : Int) := by omega
     have ba50a : (q : Int) < (N : Int) := by omega
     have ra50a : IntKind.i64.wrap ((q : Int)) = (q : Int) := by rw [IntKind.wrap_i64]; omega
     have ea50b : (((i : Int) + (j : Int)) / 2).toNat = (i + j) / 2 := by omega
     have pa50b : (0 : Int) ≤ ((i : Int) + (j : Int)) / 2 := by omega
     have ba50b : ((i : Int) + (j : Int)) / 2 < (N : Int) := by omega
     have ra50b : IntKind.i64.wrap (((i : Int) + (j : Int)) / 2) = ((i : Int) + (j : Int)) / 2 := by rw [IntKind.wrap_i64]; omega
     obtain ⟨x50, hx50⟩ : ∃ x, x = d[q]! := ⟨_, rfl⟩
     obtain ⟨y50, hy50⟩ : ∃ x, x = d[(i + j) / 2]! := ⟨_, rfl⟩
     have l50a := S1.out.ld R (by omega) Tryz.prog (q) (by omega)
     have l50b := S1.out.ld R (by omega) Tryz.prog ((i + j) / 2) (by omega)
     rw [← hx50] at l50a
     rw [← hy50] at l50b
     have hc50 := S1.out.cmp HC.out (by omega) x50 y50
     have hv50 : cf x50 y50 < 0 := by rw [hx50, hy50]; exact of_decide_eq_true hlv
     have hd50 : decide (cf x50 y50 < 0) = true := decide_eq_true hv50
     have HLV : Aside _ := hlv
     clear hx50 hy50 hlv
     go_wp2_with fail
     go_quiet_grown (first | (go_at_fn g; refine Calls.grown_of (hc50 _ _)))
     have S2 : Aside (SWK enc k w0 blk off d (grow (wr.drewN nq) osq)) := S1.out.grown nq osq
     clear l50a l50b hc50 S1
     generalize grow (wr.drewN nq) osq = w2 at S2 ⊢
     clear nq osq
     go_wp2
     go_roundg ((i + j) / 2 - i)
     case measure => omega
     case rel => exact ⟨i, (i + j) / 2, rfl, by simp, by omega, by omega, by omega, by omega, HBS.out.dn hlt (show (!ltOf cf d[mid + m - 1 - (i + j) / 2]! d[(i + j) / 2]!) = false by rw [← show q = mid + m - 1 - (i + j) / 2 from HQ, show ltOf cf d[q]! d[(i + j) / 2]! = true from HLV]; rfl), S2⟩
    | false =>
     have ea51a : ((q : Int)).toNat = q := by omega
     have pa51a : (0 : Int) ≤ (q : Int) := by omega
     have ba51a : (q : Int) < (N : Int) := by omega
     have ra51a : IntKind.i64.wrap ((q : Int)) = (q : Int) := by rw [IntKind.wrap_i64]; omega
     have ea51b : (((i : Int) + (j : Int)) / 2).toNat = (i + j) / 2 := by omega
     have pa51b : (0 : Int) ≤ ((i : Int) + (j : Int)) / 2 := by omega
     have ba51b : ((i : Int) + (j : Int)) / 2 < (N : Int) := by omega
     have ra51b : IntKind.i64.wrap (((i : Int) + (j : Int)) / 2) = ((i : Int) + (j : Int)) / 2 := by rw [IntKind.wrap_i64]; omega
     obtain ⟨x51, hx51⟩ : ∃ x, x = d[q]! := ⟨_, rfl⟩
     obtain ⟨y51, hy51⟩ : ∃ x, x = d[(i + j) / 2]! := ⟨_, rfl⟩
     have l51a := S1.out.ld R (by omega) Tryz.prog (q) (by omega)
     have l51b := S1.out.ld R (by omega) Tryz.prog ((i + j) / 2) (by omega)
     rw [← hx51] at l51a
     rw [← hy51] at l51b
     have hc51 := S1.out.cmp HC.out (by omega) x51 y51
     have hv51 : ¬ cf x51 y51 < 0 := by rw [hx51, hy51]; exact of_decide_eq_false hlv
     have hd51 : decide (cf x51 y51 < 0) = false := decide_eq_false hv51
     have HLV : Aside _ := hlv
     clear hx51 hy51 hlv
     go_wp2_with fail
     go_quiet_grown (first | (go_at_fn g; refine Calls.grown_of (hc51 _ _)))
     have S2 : Aside (SWK enc k w0 blk off d (grow (wr.drewN nq) osq)) := S1.out.grown nq osq
     clear l51a l51b hc51 S1
     generalize grow (wr.drewN nq) osq = w2 at S2 ⊢
     clear nq osq
     go_wp2
     go_roundg (j - ((i + j) / 2 + 1))
     case measure => omega
     case rel => exact ⟨(i + j) / 2 + 1, j, by simp, rfl, by omega, by omega, by omega, by omega, HBS.out.up hlt (show (!ltOf cf d[mid + m - 1 - (i + j) / 2]! d[(i + j) / 2]!) = true by rw [← show q = mid + m - 1 - (i + j) / 2 from HQ, show ltOf cf d[q]! d[(i + j) / 2]! = false from HLV]; rfl), S2⟩
   ·
    have hltz : ¬ (i : Int) < (j : Int) := by omega
    have eij : j = i := by omega
    subst eij
    have CUT : Aside _ := cut HOO.out (d := d) (a := a) (m := m) (b := b) (mid := mid) (s := j) ham hmb (by omega) HMID.out rfl rfl HA.out HBB.out (by rw [if_neg (show ¬ mid < m by omega), if_neg (show ¬ mid < m by omega)]; exact HBS.out)
    have hj : a ≤ j ∧ j ≤ m ∧ j ≤ mid ∧ m ≤ mid + m - j ∧ mid ≤ mid + m - j ∧ mid + m - j ≤ b := by omega
    clear HBS
    by_cases c1 : j < m ∧ m < mid + m - j
    ·
     have z1 : (j : Int) < (m : Int) := by omega
     have z2 : (m : Int) < (mid : Int) + (m : Int) - (j : Int) := by omega
     have et : rot m (m - j) (mid + m - j - m) d = turned j m (mid + m - j) d := by unfold turned; rw [if_pos c1]
     have ET : Aside _ := et
     have hT : (turned j m (mid + m - j) d).size = N := by rw [turned_size _ _ _ _ (by omega)]; exact hN
     clear et c1
     by_cases c2 : a < j ∧ j < mid
     ·
      have z3 : (a : Int) < (j : Int) ∧ (j : Int) < (mid : Int) := by omega
      obtain ⟨z3a, z3b⟩ := z3
      by_cases c3 : mid < mid + m - j ∧ mid + m - j < b
      ·
       have z4 : (mid : Int) < (mid : Int) + (m : Int) - (j : Int) ∧ (mid : Int) + (m : Int) - (j : Int) < (b : Int) := by omega
       obtain ⟨z4a, z4b⟩ := z4
       go_wp2_with (first | (go_at_call 108; refine (rotate k aE zE enc g cb blk off cap N j m (mid + m - j) _ _ _ d0 d w0 _ ?ha ?hmz ?hbz R h0 hN S1.out ?h1 ?h2 ?h3 hsz).mono ?_; (case ha => omega); (case hmz => omega); (case hbz => omega); (case h1 => omega); (case h2 => omega); (case h3 => omega); rintro e w2 ⟨rfl, hS2⟩; have S2 : Aside (SWK enc k w0 blk off (turned j m (mid + m - j) d) w2) := (by rw [← ET.out]; exact hS2); clear hS2 S1) | (go_at_call 94; refine (IH.out (a) (j) (mid) _ _ _ (turned j m (mid + m - j) d) _ ?hf ?hx ?hy ?hz ?h1 ?h2 ?h3 ?h4 S2.out CUT.out.s1 CUT.out.s2).mono ?_; (case hf => omega); (case hx => omega); (case hy => omega); (case hz => omega); (case h1 => omega); (case h2 => omega); (case h3 => omega); (case h4 => omega); rintro e w3 ⟨rfl, dd3, p3, q3, hS3⟩; have hz3 : dd3.size = N := (p3.1).trans (by omega); have P3 : Aside _ := p3; have Q3 : Aside _ := q3; have S3 : Aside _ := hS3; clear p3 q3 hS3 S2) | (go_at_call 94; refine (IH.out (mid) (mid + m - j) (b) _ _ _ dd3 _ ?hf ?hx ?hy ?hz ?h1 ?h2 ?h3 ?h4 S3.out (sorted_far P3.out CUT.out.s3 (.inl (Nat.le_refl _))) (sorted_far P3.out CUT.out.s4 (.inl (by omega)))).mono ?_; (case hf => omega); (case hx => omega); (case hy => omega); (case hz => omega); (case h1 => omega); (case h2 => omega); (case h3 => omega); (case h4 => omega); rintro e w4 ⟨rfl, dd4, p4, q4, hS4⟩; have hz4 : dd4.size = N := (p4.1).trans (by omega); have P4 : Aside _ := p4; have Q4 : Aside _ := q4; have S4 : Aside _ := hS4; clear p4 q4 hS4 S3))
       all_goals
        first | go_end0 | go_ret | ((try simp only [Exit.inBlock, Exit.then]); refine bodyPost_ret (results_none rfl _ _ _) rfl ?_)
        have hj_ := CUT.out.join (by omega) P3.out Q3.out P4.out Q4.out
        exact ⟨rfl, dd4, hj_.1, hj_.2, S4.out⟩
      ·
       have z4 : ¬ (mid : Int) < (mid : Int) + (m : Int) - (j : Int) ∨ ¬ (mid : Int) + (m : Int) - (j : Int) < (b : Int) := by omega
       rcases z4 with z4 | z4
       all_goals
        go_wp2_with (first | (go_at_call 108; refine (rotate k aE zE enc g cb blk off cap N j m (mid + m - j) _ _ _ d0 d w0 _ ?ha ?hmz ?hbz R h0 hN S1.out ?h1 ?h2 ?h3 hsz).mono ?_; (case ha => omega); (case hmz => omega); (case hbz => omega); (case h1 => omega); (case h2 => omega); (case h3 => omega); rintro e w2 ⟨rfl, hS2⟩; have S2 : Aside (SWK enc k w0 blk off (turned j m (mid + m - j) d) w2) := (by rw [← ET.out]; exact hS2); clear hS2 S1) | (go_at_call 94; refine (IH.out (a) (j) (mid) _ _ _ (turned j m (mid + m - j) d) _ ?hf ?hx ?hy ?hz ?h1 ?h2 ?h3 ?h4 S2.out CUT.out.s1 CUT.out.s2).mono ?_; (case hf => omega); (case hx => omega); (case hy => omega); (case hz => omega); (case h1 => omega); (case h2 => omega); (case h3 => omega); (case h4 => omega); rintro e w3 ⟨rfl, dd3, p3, q3, hS3⟩; have hz3 : dd3.size = N := (p3.1).trans (by omega); have P3 : Aside _ := p3; have Q3 : Aside _ := q3; have S3 : Aside _ := hS3; clear p3 q3 hS3 S2))
        all_goals
         first | go_end0 | go_ret | ((try simp only [Exit.inBlock, Exit.then]); refine bodyPost_ret (results_none rfl _ _ _) rfl ?_)
         have hj_ := CUT.out.join (by omega) P3.out Q3.out (permIn_refl _ _ _) (sorted_far P3.out (CUT.out.right (by omega)) (.inl (Nat.le_refl _)))
         exact ⟨rfl, dd3, hj_.1, hj_.2, S3.out⟩
     ·
      have z3 : ¬ (a : Int) < (j : Int) ∨ ¬ (j : Int) < (mid : Int) := by omega
      by_cases c3 : mid < mid + m - j ∧ mid + m - j < b
      ·
       have z4 : (mid : Int) < (mid : Int) + (m : Int) - (j : Int) ∧ (mid : Int) + (m : Int) - (j : Int) < (b : Int) := by omega
       obtain ⟨z4a, z4b⟩ := z4
       rcases z3 with z3 | z3
       all_goals
        go_wp2_with (first | (go_at_call 108; refine (rotate k aE zE enc g cb blk off cap N j m (mid + m - j) _ _ _ d0 d w0 _ ?ha ?hmz ?hbz R h0 hN S1.out ?h1 ?h2 ?h3 hsz).mono ?_; (case ha => omega); (case hmz => omega); (case hbz => omega); (case h1 => omega); (case h2 => omega); (case h3 => omega); rintro e w2 ⟨rfl, hS2⟩; have S2 : Aside (SWK enc k w0 blk off (turned j m (mid + m - j) d) w2) := (by rw [← ET.out]; exact hS2); clear hS2 S1) | (go_at_call 94; refine (IH.out (mid) (mid + m - j) (b) _ _ _ (turned j m (mid + m - j) d) _ ?hf ?hx ?hy ?hz ?h1 ?h2 ?h3 ?h4 S2.out CUT.out.s3 CUT.out.s4).mono ?_; (case hf => omega); (case hx => omega); (case hy => omega); (case hz => omega); (case h1 => omega); (case h2 => omega); (case h3 => omega); (case h4 => omega); rintro e w4 ⟨rfl, dd4, p4, q4, hS4⟩; have hz4 : dd4.size = N := (p4.1).trans (by omega); have P4 : Aside _ := p4; have Q4 : Aside _ := q4; have S4 : Aside _ := hS4; clear p4 q4 hS4 S2))
        all_goals
         first | go_end0 | go_ret | ((try simp only [Exit.inBlock, Exit.then]); refine bodyPost_ret (results_none rfl _ _ _) rfl ?_)
         have hj_ := CUT.out.join (by omega) (permIn_refl _ _ _) (CUT.out.left (by omega)) P4.out Q4.out
         exact ⟨rfl, dd4, hj_.1, hj_.2, S4.out⟩
      ·
       have z4 : ¬ (mid : Int) < (mid : Int) + (m : Int) - (j : Int) ∨ ¬ (mid : Int) + (m : Int) - (j : Int) < (b : Int) := by omega
       (rcases z3 with z3 | z3) <;> (rcases z4 with z4 | z4)
       all_goals
        go_wp2_with (first | (go_at_call 108; refine (rotate k aE zE enc g cb blk off cap N j m (mid + m - j) _ _ _ d0 d w0 _ ?ha ?hmz ?hbz R h0 hN S1.out ?h1 ?h2 ?h3 hsz).mono ?_; (case ha => omega); (case hmz => omega); (case hbz => omega); (case h1 => omega); (case h2 => omega); (case h3 => omega); rintro e w2 ⟨rfl, hS2⟩; have S2 : Aside (SWK enc k w0 blk off (turned j m (mid + m - j) d) w2) := (by rw [← ET.out]; exact hS2); clear hS2 S1))
        all_goals
         first | go_end0 | go_ret | ((try simp only [Exit.inBlock, Exit.then]); refine bodyPost_ret (results_none rfl _ _ _) rfl ?_)
         have hj_ := CUT.out.join (by omega) (permIn_refl _ _ _) (CUT.out.left (by omega)) (permIn_refl _ _ _) (CUT.out.right (by omega))
         exact ⟨rfl, (turned j m (mid + m - j) d), hj_.1, hj_.2, S2.out⟩
    ·
     have et : d = turned j m (mid + m - j) d := by unfold turned; rw [if_neg c1]
     have z1 : ¬ (j : Int) < (m : Int) ∨ ¬ (m : Int) < (mid : Int) + (m : Int) - (j : Int) := by omega
     have ET : Aside _ := et
     have hT : (turned j m (mid + m - j) d).size = N := by rw [turned_size _ _ _ _ (by omega)]; exact hN
     clear et c1
     have S2 : Aside (SWK enc k w0 blk off (turned j m (mid + m - j) d) wr) := by rw [← ET.out]; exact S1.out
     clear S1
     by_cases c2 : a < j ∧ j < mid
     ·
      have z3 : (a : Int) < (j : Int) ∧ (j : Int) < (mid : Int) := by omega
      obtain ⟨z3a, z3b⟩ := z3
      by_cases c3 : mid < mid + m - j ∧ mid + m - j < b
      ·
       have z4 : (mid : Int) < (mid : Int) + (m : Int) - (j : Int) ∧ (mid : Int) + (m : Int) - (j : Int) < (b : Int) := by omega
       obtain ⟨z4a, z4b⟩ := z4
       rcases z1 with z1 | z1
       all_goals
        go_wp2_with (first | (go_at_call 94; refine (IH.out (a) (j) (mid) _ _ _ (turned j m (mid + m - j) d) _ ?hf ?hx ?hy ?hz ?h1 ?h2 ?h3 ?h4 S2.out CUT.out.s1 CUT.out.s2).mono ?_; (case hf => omega); (case hx => omega); (case hy => omega); (case hz => omega); (case h1 => omega); (case h2 => omega); (case h3 => omega); (case h4 => omega); rintro e w3 ⟨rfl, dd3, p3, q3, hS3⟩; have hz3 : dd3.size = N := (p3.1).trans (by omega); have P3 : Aside _ := p3; have Q3 : Aside _ := q3; have S3 : Aside _ := hS3; clear p3 q3 hS3 S2) | (go_at_call 94; refine (IH.out (mid) (mid + m - j) (b) _ _ _ dd3 _ ?hf ?hx ?hy ?hz ?h1 ?h2 ?h3 ?h4 S3.out (sorted_far P3.out CUT.out.s3 (.inl (Nat.le_refl _))) (sorted_far P3.out CUT.out.s4 (.inl (by omega)))).mono ?_; (case hf => omega); (case hx => omega); (case hy => omega); (case hz => omega); (case h1 => omega); (case h2 => omega); (case h3 => omega); (case h4 => omega); rintro e w4 ⟨rfl, dd4, p4, q4, hS4⟩; have hz4 : dd4.size = N := (p4.1).trans (by omega); have P4 : Aside _ := p4; have Q4 : Aside _ := q4; have S4 : Aside _ := hS4; clear p4 q4 hS4 S3))
        all_goals
         first | go_end0 | go_ret | ((try simp only [Exit.inBlock, Exit.then]); refine bodyPost_ret (results_none rfl _ _ _) rfl ?_)
         have hj_ := CUT.out.join (by omega) P3.out Q3.out P4.out Q4.out
         exact ⟨rfl, dd4, hj_.1, hj_.2, S4.out⟩
      ·
       have z4 : ¬ (mid : Int) < (mid : Int) + (m : Int) - (j : Int) ∨ ¬ (mid : Int) + (m : Int) - (j : Int) < (b : Int) := by omega
       (rcases z1 with z1 | z1) <;> (rcases z4 with z4 | z4)
       all_goals
        go_wp2_with (first | (go_at_call 94; refine (IH.out (a) (j) (mid) _ _ _ (turned j m (mid + m - j) d) _ ?hf ?hx ?hy ?hz ?h1 ?h2 ?h3 ?h4 S2.out CUT.out.s1 CUT.out.s2).mono ?_; (case hf => omega); (case hx => omega); (case hy => omega); (case hz => omega); (case h1 => omega); (case h2 => omega); (case h3 => omega); (case h4 => omega); rintro e w3 ⟨rfl, dd3, p3, q3, hS3⟩; have hz3 : dd3.size = N := (p3.1).trans (by omega); have P3 : Aside _ := p3; have Q3 : Aside _ := q3; have S3 : Aside _ := hS3; clear p3 q3 hS3 S2))
        all_goals
         first | go_end0 | go_ret | ((try simp only [Exit.inBlock, Exit.then]); refine bodyPost_ret (results_none rfl _ _ _) rfl ?_)
         have hj_ := CUT.out.join (by omega) P3.out Q3.out (permIn_refl _ _ _) (sorted_far P3.out (CUT.out.right (by omega)) (.inl (Nat.le_refl _)))
         exact ⟨rfl, dd3, hj_.1, hj_.2, S3.out⟩
     ·
      have z3 : ¬ (a : Int) < (j : Int) ∨ ¬ (j : Int) < (mid : Int) := by omega
      by_cases c3 : mid < mid + m - j ∧ mid + m - j < b
      ·
       have z4 : (mid : Int) < (mid : Int) + (m : Int) - (j : Int) ∧ (mid : Int) + (m : Int) - (j : Int) < (b : Int) := by omega
       obtain ⟨z4a, z4b⟩ := z4
       (rcases z1 with z1 | z1) <;> (rcases z3 with z3 | z3)
       all_goals
        go_wp2_with (first | (go_at_call 94; refine (IH.out (mid) (mid + m - j) (b) _ _ _ (turned j m (mid + m - j) d) _ ?hf ?hx ?hy ?hz ?h1 ?h2 ?h3 ?h4 S2.out CUT.out.s3 CUT.out.s4).mono ?_; (case hf => omega); (case hx => omega); (case hy => omega); (case hz => omega); (case h1 => omega); (case h2 => omega); (case h3 => omega); (case h4 => omega); rintro e w4 ⟨rfl, dd4, p4, q4, hS4⟩; have hz4 : dd4.size = N := (p4.1).trans (by omega); have P4 : Aside _ := p4; have Q4 : Aside _ := q4; have S4 : Aside _ := hS4; clear p4 q4 hS4 S2))
        all_goals
         first | go_end0 | go_ret | ((try simp only [Exit.inBlock, Exit.then]); refine bodyPost_ret (results_none rfl _ _ _) rfl ?_)
         have hj_ := CUT.out.join (by omega) (permIn_refl _ _ _) (CUT.out.left (by omega)) P4.out Q4.out
         exact ⟨rfl, dd4, hj_.1, hj_.2, S4.out⟩
      ·
       have z4 : ¬ (mid : Int) < (mid : Int) + (m : Int) - (j : Int) ∨ ¬ (mid : Int) + (m : Int) - (j : Int) < (b : Int) := by omega
       (rcases z1 with z1 | z1) <;> (rcases z3 with z3 | z3) <;> (rcases z4 with z4 | z4)
       all_goals
        go_wp2
        all_goals
         first | go_end0 | go_ret | ((try simp only [Exit.inBlock, Exit.then]); refine bodyPost_ret (results_none rfl _ _ _) rfl ?_)
         have hj_ := CUT.out.join (by omega) (permIn_refl _ _ _) (CUT.out.left (by omega)) (permIn_refl _ _ _) (CUT.out.right (by omega))
         exact ⟨rfl, (turned j m (mid + m - j) d), hj_.1, hj_.2, S2.out⟩
end Go.Proofs.YtcmdcgghpkcchaaGreatDoor.Stable


/- slices.SortStableFunc at this program's changes: whatever it lays, the row holds a sorted permutation; walked after the shelf's texts of the same family. -/
namespace Go.Proofs.YtcmdcgghpkcchaaGreatDoor.Stable
set_option linter.unusedVariables false
set_option linter.unusedSimpArgs false
open Go.Shelf Go.RowKit Go.Lib Go.Sort Go.Proofs.YtcmdcgghpkcchaaGreatDoor.Stab
variable {α : Type} [Inhabited α]
theorem insertion (k : Nat) (aE : ∀ w, (isAgg 86).run Tryz.prog w = .ok true w) (zE : ∀ w, (Go.sizeOf 86).run Tryz.prog w = .ok k w) (enc : α → List Value) (cf : α → α → Int) (g : Nat) (cb : Array Value) (blk off cap N a b : Nat) (az bz : Int) (d0 d : Array α) (w0 w : World) (ha : az = a) (hbz : bz = b)
  (eg : ∀ args w, (callFunc g args).run Tryz.prog w = .ok (.enter g args) w) (hcmp : CmpLays Tryz.prog g cb enc k cf blk off d0.size w0)
  (R : RowK enc k w0 blk off d0) (h0 : d0.size = N) (hN : d.size = N) (S : SWK enc k w0 blk off d w) (hO : SWO (ltOf cf)) (hab : a ≤ b) (hb : b ≤ N) (hsz : N < 4611686018427387904) :
  Calls Tryz.prog 93 #[.slice (some ⟨blk, off, none⟩) N cap, .int .i64 az, .int .i64 bz, .func (.func g) #[] cb] w fun e w' => e = .returned (.tuple #[]) ∧ Done (ltOf cf) enc k w0 blk off a b d w' := by
 subst ha hbz
 have h := AnyQ.insertionSortCmpFunc_w (P := Tryz.prog) (ρ := Tryz.sortCh_ren) { Tryz.sortCh with } k aE zE enc cf g cb blk off cap a b d0 d w0 w eg hcmp R (by omega) S hO hab (by omega) (by omega)
 rw [hN] at h
 have hp := insertionSort_holds hO d a b hab (by omega)
 refine Calls.mono h ?_
 rintro e w' ⟨rfl, hS⟩
 exact ⟨rfl, _, hp.1, hp.2, hS⟩
set_option maxHeartbeats 4000000 in
set_option maxRecDepth 1000000 in
theorem stable (k : Nat) (aE : ∀ w, (isAgg 86).run Tryz.prog w = .ok true w) (zE : ∀ w, (Go.sizeOf 86).run Tryz.prog w = .ok k w) (enc : α → List Value) (cf : α → α → Int) (g : Nat) (cb : Array Value) (blk off cap N : Nat) (nz : Int) (d0 d : Array α) (w0 w : World) (hn : nz = N) (eg : ∀ args w, (callFunc g args).run Tryz.prog w = .ok (.enter g args) w) (hcmp : CmpLays Tryz.prog g cb enc k cf blk off d0.size w0)
  (R : RowK enc k w0 blk off d0) (h0 : d0.size = N) (hN : d.size = N) (S : SWK enc k w0 blk off d w) (hO : SWO (ltOf cf)) (hsz : N ≤ 1000000) :
  Calls Tryz.prog 81 #[.slice (some ⟨blk, off, none⟩) N cap, .int .i64 nz, .func (.func g) #[] cb] w fun e w' => e = .returned (.tuple #[]) ∧ Done (ltOf cf) enc k w0 blk off 0 N d w' := by
 subst hn
 have HOO : Aside _ := hO
 clear hO
 have mixed : Tryz.prog.follows .mixedOrders = true := by kernel_rfl
 have us := run_underlying Tryz.underlying68
 have S0 : Aside (SWK enc k w0 blk off d w) := S
 clear S
 have HC : Aside _ := hcmp
 clear hcmp
 go_enter Tryz.func81, Tryz.ntmps81
 go_wp2
 go_loopg [7, 8] (N + 1) (fun kx s7 s8 wr => ∃ (a t : Nat) (dk : Array α), s7 = .int .i64 a ∧ s8 = .int .i64 ((a + 20 : Nat) : Int) ∧ a ≤ N ∧ N + 1 - a ≤ kx ∧ dk.size = N ∧ Aside (a = 20 * t) ∧ Aside (PermIn 0 N d dk) ∧ Aside (Past (ltOf cf) 20 a dk) ∧ Aside (SWK enc k w0 blk off dk wr))
 case atStart => exact ⟨0, 0, d, rfl, rfl, by omega, by omega, hN, rfl, permIn_refl _ _ _, Past.zero (by omega), S0⟩
 case round =>
  clear S0
  obtain ⟨a, t, dk, rfl, rfl, ha, hkx, hds, HT, HP, HPA, S1⟩ := hrel
  by_cases hlt : a + 20 ≤ N
  ·
   have hltz : (a : Int) + 20 ≤ (N : Int) := by omega
   go_wp2_with (first | (go_at_call 93; refine (insertion k aE zE enc cf g cb blk off cap N (a) (a + 20) _ _ d0 dk w0 _ ?ha ?hbz eg HC.out R h0 (by omega) S1.out HOO.out ?h1 ?h2 (by omega)).mono ?_; (case ha => omega); (case hbz => omega); (case h1 => omega); (case h2 => omega); rintro e w2 ⟨rfl, dd2, p2, q2, hS2⟩; have hz2 : dd2.size = N := (p2.1).trans (by omega); have P2 : Aside _ := p2; have Q2 : Aside _ := q2; have S2 : Aside _ := hS2; clear p2 q2 hS2 S1))
   go_roundg (N + 1 - (a + 20))
   case measure => omega
   case rel =>
    have ht := HT.out
    subst ht
    exact ⟨20 * t + 20, t + 1, dd2, by simp, by simp, hlt, by omega, hz2, (show 20 * t + 20 = 20 * (t + 1) by omega), perm_part HP.out P2.out hlt (by omega), HPA.out.step P2.out Q2.out, S2⟩
  ·
   have hltz : ¬ (a : Int) + 20 ≤ (N : Int) := by omega
   go_wp2_with (first | (go_at_call 93; refine (insertion k aE zE enc cf g cb blk off cap N (a) (N) _ _ d0 dk w0 _ ?ha ?hbz eg HC.out R h0 (by omega) S1.out HOO.out ?h1 ?h2 (by omega)).mono ?_; (case ha => omega); (case hbz => omega); (case h1 => omega); (case h2 => omega); rintro e w2 ⟨rfl, dd2, p2, q2, hS2⟩; have hz2 : dd2.size = N := (p2.1).trans (by omega); have P2 : Aside _ := p2; have Q2 : Aside _ := q2; have S2 : Aside _ := hS2; clear p2 q2 hS2 S1))
   have HR : Aside (Runs (ltOf cf) 20 N 0 dd2) := by
    have ht := HT.out
    subst ht
    exact HPA.out.done (by omega) P2.out Q2.out ha (by omega)
   have HP2 : Aside (PermIn 0 N d dd2) := perm_part HP.out P2.out (Nat.le_refl _) (by omega)
   clear HT HP HPA P2 Q2
   go_loopg [6] N (fun kx s6 wr => ∃ (bs : Nat) (dk : Array α), s6 = .int .i64 bs ∧ 0 < bs ∧ bs ≤ N + N + 20 ∧ N - bs ≤ kx ∧ dk.size = N ∧ Aside (PermIn 0 N d dk) ∧ Aside (Runs (ltOf cf) bs N 0 dk) ∧ Aside (SWK enc k w0 blk off dk wr))
   case atStart => exact ⟨20, dd2, rfl, by omega, by omega, by omega, hz2, HP2, HR, S2⟩
   case round =>
    clear HR HP2 S2
    obtain ⟨bs, dk, rfl, hb0, hbN, hkx2, hds, HP, HR, S1⟩ := hrel
    by_cases hlt2 : bs < N
    ·
     have hltz2 : (bs : Int) < (N : Int) := by omega
     go_wp2_with fail
     obtain ⟨wi, rfl⟩ : ∃ wi : World, wi = wr := ⟨_, rfl⟩
     go_loopg [7, 8] (N + 1) (fun kx s7 s8 wr => ∃ (x t : Nat) (dk : Array α), s7 = .int .i64 x ∧ s8 = .int .i64 ((x + 2 * bs : Nat) : Int) ∧ x ≤ N ∧ N + 1 - x ≤ kx ∧ dk.size = N ∧ Aside (x = (2 * bs) * t) ∧ Aside (PermIn 0 N d dk) ∧ Aside (Past (ltOf cf) (2 * bs) x dk) ∧ Aside (Runs (ltOf cf) bs N x dk) ∧ Aside (SWK enc k w0 blk off dk wr))
     case atStart => exact ⟨0, 0, dk, rfl, by first | rfl | simp, by omega, by omega, hds, rfl, HP, Past.zero (by omega), HR, S1⟩
     case round =>
      clear HP HR S1 hds
      obtain ⟨x, t, dk, rfl, rfl, hx, hkx3, hds, HT, HP, HPA, HR, S1⟩ := hrel
      by_cases hlt3 : x + 2 * bs ≤ N
      ·
       have hltz3 : (x : Int) + 2 * (bs : Int) ≤ (N : Int) := by omega
       have e2 : x + bs + bs = x + 2 * bs := by omega
       have R1 : Aside (SortedIn (ltOf cf) x (x + bs) dk) := HR.out.fst (by omega)
       have R2 : Aside (SortedIn (ltOf cf) (x + bs) (x + 2 * bs) dk) := by have := HR.out.next.fst (by omega); rw [e2] at this; exact this
       have R3 : Aside (Runs (ltOf cf) bs N (x + 2 * bs) dk) := by have := HR.out.next.next; rw [e2] at this; exact this
       clear e2 HR
       go_wp2_with (first | (go_at_call 94; refine (symMerge k aE zE enc cf g cb blk off cap N d0 w0 eg HC.out R h0 HOO.out (by omega) _ (x) (x + bs) (x + 2 * bs) _ _ _ dk _ (Nat.le_refl _) ?hx ?hy ?hz ?h1 ?h2 ?h3 ?h4 S1.out R1.out R2.out).mono ?_; (case hx => omega); (case hy => omega); (case hz => omega); (case h1 => omega); (case h2 => omega); (case h3 => omega); (case h4 => omega); rintro e w2 ⟨rfl, dd2, p2, q2, hS2⟩; have hz2 : dd2.size = N := (p2.1).trans (by omega); have P2 : Aside _ := p2; have Q2 : Aside _ := q2; have S2 : Aside _ := hS2; clear p2 q2 hS2 S1))
       go_roundg (N + 1 - (x + 2 * bs))
       case measure => omega
       case rel =>
        have ht := HT.out
        subst ht
        exact ⟨(2 * bs) * t + 2 * bs, t + 1, dd2, by simp, by first | rfl | simp, hlt3, by omega, hz2, (show 2 * bs * t + 2 * bs = 2 * bs * (t + 1) by rw [Nat.mul_add, Nat.mul_one]), perm_part HP.out P2.out hlt3 (by omega), HPA.out.step P2.out Q2.out, R3.out.far P2.out (Nat.le_refl _), S2⟩
      ·
       have hltz3 : ¬ (x : Int) + 2 * (bs : Int) ≤ (N : Int) := by omega
       by_cases hm : x + bs < N
       ·
        have hmz : (x : Int) + (bs : Int) < (N : Int) := by omega
        have R1 : Aside (SortedIn (ltOf cf) x (x + bs) dk) := HR.out.fst (by omega)
        have R2 : Aside (SortedIn (ltOf cf) (x + bs) N dk) := HR.out.next.all (by omega)
        clear HR
        go_wp2_with (first | (go_at_call 94; refine (symMerge k aE zE enc cf g cb blk off cap N d0 w0 eg HC.out R h0 HOO.out (by omega) _ (x) (x + bs) (N) _ _ _ dk _ (Nat.le_refl _) ?hx ?hy ?hz ?h1 ?h2 ?h3 ?h4 S1.out R1.out R2.out).mono ?_; (case hx => omega); (case hy => omega); (case hz => omega); (case h1 => omega); (case h2 => omega); (case h3 => omega); (case h4 => omega); rintro e w2 ⟨rfl, dd2, p2, q2, hS2⟩; have hz2 : dd2.size = N := (p2.1).trans (by omega); have P2 : Aside _ := p2; have Q2 : Aside _ := q2; have S2 : Aside _ := hS2; clear p2 q2 hS2 S1))
        go_roundg (N - 2 * bs)
        case measure => omega
        case rel =>
         refine ⟨2 * bs, dd2, by first | rfl | (simp; omega), by omega, by omega, Nat.le_refl _, hz2, perm_part HP.out P2.out (Nat.le_refl _) (by omega), ?_, S2⟩
         have ht := HT.out
         subst ht
         exact HPA.out.done (by omega) P2.out Q2.out hx (by omega)
       ·
        have hmz : ¬ (x : Int) + (bs : Int) < (N : Int) := by omega
        go_wp2
        go_roundg (N - 2 * bs)
        case measure => omega
        case rel =>
         refine ⟨2 * bs, dk, by first | rfl | (simp; omega), by omega, by omega, Nat.le_refl _, hds, HP, ?_, S1⟩
         have ht := HT.out
         subst ht
         exact HPA.out.done (by omega) (permIn_refl _ _ _) (HR.out.all (by omega)) hx (by omega)
    ·
     have hltz2 : ¬ (bs : Int) < (N : Int) := by omega
     go_wp2
     first | go_end0 | go_ret | ((try simp only [Exit.inBlock, Exit.then]); refine bodyPost_ret (results_none rfl _ _ _) rfl ?_)
     exact ⟨rfl, dk, HP.out, HR.out.all (by omega), S1.out⟩
end Go.Proofs.YtcmdcgghpkcchaaGreatDoor.Stable


/- A row of the call's own whose elements have k cells each, for the shelf's sorts: from the print's word on it (Kd.R) to the shelf's (HoldsK, SWK) and back. -/
namespace Go.Proofs.YtcmdcgghpkcchaaGreatDoorW.PrintMore
set_option linter.unusedVariables false
set_option linter.unusedSimpArgs false
open Go.RowKit Go.Proofs.YtcmdcgghpkcchaaGreatDoorW.PrintWords Go.Proofs.YtcmdcgghpkcchaaGreatDoorW.PrintLast Go.Sort Go.Shelf
section
variable {α : Type} [Inhabited α] {enc : α → List Value} {k : Nat}
omit [Inhabited α] in
theorem flat_len (hk : ∀ x, (enc x).length = k) : ∀ xs : List α, (xs.flatMap enc).length = xs.length * k
 | [] => by simp
 | x :: xs => by rw [List.flatMap_cons, List.length_append, hk, flat_len hk xs, List.length_cons, Nat.add_mul, Nat.one_mul, Nat.add_comm]
theorem flat_get (hk : ∀ x, (enc x).length = k) (h0 : 0 < k) : ∀ (xs : List α) (t : Nat), t < xs.length * k → (xs.flatMap enc)[t]? = some ((enc (xs.toArray[t / k]!))[t % k]!)
 | [], t, h => by simp at h
 | x :: xs, t, h => by
  rw [List.flatMap_cons]
  rcases Nat.lt_or_ge t k with hl | hl
  ·
   rw [List.getElem?_append_left (by rw [hk]; exact hl), Nat.div_eq_of_lt hl, Nat.mod_eq_of_lt hl]
   have h1 : t < (enc x).length := by rw [hk]; exact hl
   simp [List.getElem?_eq_getElem h1, getElem!_pos (enc x) t h1]
  ·
   rw [List.getElem?_append_right (by rw [hk]; exact hl), hk]
   have h2 : t - k < xs.length * k := by rw [List.length_cons, Nat.add_mul, Nat.one_mul] at h; omega
   rw [flat_get hk h0 xs (t - k) h2]
   have e1 : t / k = (t - k) / k + 1 := Nat.div_eq_sub_div h0 hl
   have e2 : t % k = (t - k) % k := Nat.mod_eq_sub_mod hl
   rw [e1, e2]
   simp
theorem holdsK_of_block (hk : ∀ x, (enc x).length = k) (h0 : 0 < k) {w : World} {g : Nat} {cur : Array Value} {e : TypeId} {xs : List α} (hb : w.heap[g]? = some (.cells cur e (0, 0))) (ht : cur.toList.take (xs.length * k) = xs.flatMap enc) : HoldsK enc k w g 0 xs.toArray := by
 intro j hj
 have hj' : j < xs.length * k := by simpa using hj
 refine ⟨?_, by simp [World.frozen?, hb]⟩
 have h1 : (cur.toList.take (xs.length * k))[j]? = (xs.flatMap enc)[j]? := by rw [ht]
 rw [List.getElem?_take_of_lt hj', flat_get hk h0 xs j hj'] at h1
 simp only [World.cell?, hb, Nat.zero_add]
 simp only [Option.isSome_none, Bool.false_eq_true, if_false]
 rw [← Array.getElem?_toList, h1, get_flatK enc k xs.toArray j (by simpa using hj')]
 rfl
theorem heap_sortedK {w : World} {g n : Nat} {os : Array Obj} {cur : Array Value} {e : TypeId} {fr : Nat × Nat} (d : Array α) (hb : w.heap[g]? = some (.cells cur e fr)) :
  (sortWorldK enc k w g 0 n d os).heap[g]? = some (.cells (putCells id 0 (flatK enc k d) cur) e fr) := by
 have hg : g < w.heap.size := (Array.getElem?_eq_some_iff.1 hb).1
 unfold sortWorldK putRowK
 rw [heap_grow_old _ _ (by simpa using hg)]
 simp [putRow, mapBlock, Sort.ahead, Array.getElem?_modify, hb, onCells]
theorem grownBy_sortedK {w : World} {g n : Nat} {os : Array Obj} (d : Array α) : w.grownBy (sortWorldK enc k w g 0 n d os) (some g) := by
 unfold sortWorldK putRowK
 refine ⟨rfl, rfl, rfl, by simp, fun j hk hne => ?_⟩
 rw [heap_grow_old _ _ (by simpa using hk)]
 have : g ≠ j := fun e => hne (by rw [e])
 simp [putRow, mapBlock, Sort.ahead, Array.getElem?_modify, this]
theorem take_putCellsK (hk : ∀ x, (enc x).length = k) (h0 : 0 < k) (cur : Array Value) (ys : List α) (h : ys.length * k ≤ cur.size) : (putCells id 0 (flatK enc k ys.toArray) cur).toList.take (ys.length * k) = ys.flatMap enc := by
 apply List.ext_getElem?
 intro j
 by_cases hj : j < ys.length * k
 ·
  rw [List.getElem?_take_of_lt hj, Array.getElem?_toList, flat_get hk h0 ys j hj, ← get_flatK enc k ys.toArray j (by simpa using hj)]
  have hc : j < cur.size := by omega
  have hz : 0 ≤ j ∧ j < 0 + (flatK enc k ys.toArray).size := by rw [size_flatK]; simpa using hj
  simp only [putCells, Array.getElem?_mapIdx, Array.getElem?_eq_getElem hc, Option.map_some]
  rw [if_pos hz]
  rfl
 ·
  rw [List.getElem?_take_eq_none (by omega), List.getElem?_eq_none (by rw [flat_len hk]; omega)]
structure Flat (d : Kd α) (enc : α → List Value) (k : Nat) : Prop where
 sz : d.sz = k
 k0 : 0 < k
 one : ∀ x, ∀ u ∈ enc x, u.oneCell' = true
 len : ∀ x, (enc x).length = k
 open_ : ∀ {w : World} {base : Nat} {ok : Nat → Prop} {x : α} {cs : List Value}, d.M w base ok x cs → cs = enc x
 mk_ : ∀ (w : World) (base : Nat) (ok : Nat → Prop) (x : α), d.M w base ok x (enc x)
omit [Inhabited α] in
theorem Flat.reps {d : Kd α} (F : Flat d enc k) {w : World} {base : Nat} {ok : Nat → Prop} {xs : List α} {cs : List Value} (h : Reps (d.M w base ok) k xs cs) : cs = xs.flatMap enc := by
 induction xs generalizing cs with
 | nil =>
  have := h.1
  simp only [List.length_nil, Nat.zero_mul] at this
  rw [List.eq_nil_of_length_eq_zero this]; rfl
 | cons x xs ih =>
  obtain ⟨h1, h2⟩ := h
  have h3 := h2 0 x rfl
  rw [Nat.zero_mul, List.drop_zero] at h3
  have h4 := F.open_ h3
  have h5 : Reps (d.M w base ok) k xs (cs.drop k) := by
   refine ⟨by rw [List.length_drop, h1, List.length_cons, Nat.add_mul, Nat.one_mul]; omega, fun j p hj => ?_⟩
   have h6 := h2 (j + 1) p (by simpa using hj)
   rw [Nat.add_mul, Nat.one_mul] at h6
   rw [List.drop_drop, Nat.add_comm k]
   exact h6
  rw [List.flatMap_cons, ← h4, ← ih h5, List.take_append_drop]
omit [Inhabited α] in
theorem Flat.reps_mk {d : Kd α} (F : Flat d enc k) (w : World) (base : Nat) (ok : Nat → Prop) (xs : List α) : Reps (d.M w base ok) k xs (xs.flatMap enc) := by
 refine ⟨flat_len F.len xs, fun j p hj => ?_⟩
 have h : ((xs.flatMap enc).drop (j * k)).take k = enc p := by
  induction xs generalizing j with
  | nil => simp at hj
  | cons x xs ih =>
   rw [List.flatMap_cons]
   cases j with
   | zero =>
    obtain rfl : x = p := by simpa using hj
    rw [Nat.zero_mul, List.drop_zero, List.take_left' (F.len x)]
   | succ j =>
    have h1 := ih j (by simpa using hj)
    rw [Nat.add_mul, Nat.one_mul, Nat.add_comm, ← List.drop_drop, List.drop_left' (F.len x)]
    exact h1
 rw [h]
 exact F.mk_ w base ok p
theorem Flat.row {d : Kd α} (F : Flat d enc k) {e : Nat} {w : World} {base : Nat} {ok : Nat → Prop} {v : Value} {xs : List α} (h : d.R e w base ok v xs) (hx : xs ≠ []) :
  ∃ g cap, v = .slice (some ⟨g, 0, none⟩) xs.length cap ∧ g < w.heap.size ∧ base ≤ g ∧ ok g ∧ HoldsK enc k w g 0 xs.toArray ∧
   ∀ (W' : World) (d' : Array α), d'.size = xs.length → SWK enc k w g 0 d' W' → d.R e W' base ok v d'.toList ∧ w.grownBy W' (some g) := by
 obtain ⟨hok, inner, ho, hr⟩ := h
 have hr0 := hr
 rw [F.sz] at hr
 obtain rfl := F.reps hr
 rcases ho.2 with ⟨_, h0⟩ | ⟨g, cap, cur, rfl, hg, hh, hnc, hcm, hcs, ht⟩
 ·
  exact absurd (List.length_eq_zero_iff.1 h0) hx
 ·
  rw [F.sz] at hcs ht
  refine ⟨g, cap, rfl, (Array.getElem?_eq_some_iff.1 hh).1, hg, hok g (by simp [Value.ownBlock]), holdsK_of_block F.len F.k0 hh ht, ?_⟩
  rintro W' d' hd ⟨n, os, rfl⟩
  refine ⟨⟨hok, d'.toList.flatMap enc, ?_, ?_⟩, grownBy_sortedK d'⟩
  ·
   refine ⟨by rw [flat_len F.len, F.sz], .inr ⟨g, cap, _, by simp [hd], hg, heap_sortedK d' hh, by rw [Array.length_toList, hd]; exact hnc, hcm, ?_, ?_⟩⟩
   ·
    rw [F.sz]; simp [putCells, hcs]
   ·
    rw [F.sz]
    have := take_putCellsK F.len F.k0 cur d'.toList (by rw [Array.length_toList, hd, hcs]; exact Nat.mul_le_mul_right _ hnc)
    rw [Array.toArray_toList] at this
    exact this
  ·
   rw [F.sz]
   exact F.reps_mk _ _ _ _
end
end Go.Proofs.YtcmdcgghpkcchaaGreatDoorW.PrintMore


/- Lays in plain Lean: normal lists of stretches are known by the metres that they have; a sweep over changes, and a row of cuts, lead to them. -/
namespace Go.Proofs.YtcmdcgghpkcchaaGreatDoor.Lay
set_option linter.unusedVariables false
set_option linter.unusedSimpArgs false
open Go.RowKit Go.Proofs.YtcmdcgghpkcchaaGreatDoor.XMast
abbrev St := S38
structure Ch where
  f0 : Int
  f1 : Int
instance : Inhabited Ch := ⟨⟨0, 0⟩⟩
theorem St.ext' {a b : St} (h0 : a.f0 = b.f0) (h1 : a.f1 = b.f1) : a = b := by cases a; cases b; simp_all
def cov (l : List St) (x : Int) : Prop := ∃ s ∈ l, s.f0 ≤ x ∧ x < s.f1
def Norm (l : List St) : Prop := l.Pairwise (fun a b => a.f1 < b.f0) ∧ ∀ s ∈ l, 0 ≤ s.f0 ∧ s.f0 < s.f1 ∧ s.f1 ≤ 100000
theorem cov_nil (x : Int) : ¬ cov [] x := fun ⟨_, h, _⟩ => by cases h
theorem cov_cons {s : St} {l : List St} {x : Int} : cov (s :: l) x ↔ (s.f0 ≤ x ∧ x < s.f1) ∨ cov l x := by
  unfold cov
  simp
theorem cov_snoc {s : St} {l : List St} {x : Int} : cov (l ++ [s]) x ↔ cov l x ∨ (s.f0 ≤ x ∧ x < s.f1) := by
  unfold cov
  simp only [List.mem_append, List.mem_singleton]
  constructor
  · rintro ⟨u, h | rfl, h2⟩
    · exact .inl ⟨u, h, h2⟩
    · exact .inr h2
  · rintro (⟨u, h, h2⟩ | h)
    · exact ⟨u, .inl h, h2⟩
    · exact ⟨s, .inr rfl, h⟩
theorem Norm.nil : Norm [] := ⟨.nil, fun _ h => by cases h⟩
theorem Norm.cons {s : St} {l : List St} : Norm (s :: l) ↔ Norm l ∧ (∀ u ∈ l, s.f1 < u.f0) ∧ 0 ≤ s.f0 ∧ s.f0 < s.f1 ∧ s.f1 ≤ 100000 := by
  unfold Norm
  rw [List.pairwise_cons]
  constructor
  · rintro ⟨⟨h1, h2⟩, h3⟩
    exact ⟨⟨h2, fun u hu => h3 u (List.mem_cons_of_mem _ hu)⟩, h1, h3 s List.mem_cons_self⟩
  · rintro ⟨⟨h2, h3⟩, h1, h4⟩
    refine ⟨⟨h1, h2⟩, fun u hu => ?_⟩
    rcases List.mem_cons.1 hu with rfl | hu
    · exact h4
    · exact h3 u hu
theorem Norm.snoc {s : St} {l : List St} (h : Norm l) (hl : ∀ u ∈ l, u.f1 < s.f0) (h0 : 0 ≤ s.f0) (h1 : s.f0 < s.f1) (h2 : s.f1 ≤ 100000) : Norm (l ++ [s]) := by
  refine ⟨List.pairwise_append.2 ⟨h.1, List.pairwise_singleton _ _, fun a ha b hb => ?_⟩, fun u hu => ?_⟩
  · rw [List.mem_singleton] at hb; subst hb; exact hl a ha
  · rcases List.mem_append.1 hu with hu | hu
    · exact h.2 u hu
    · rw [List.mem_singleton] at hu; subst hu; exact ⟨h0, h1, h2⟩
theorem Norm.unique : ∀ {l l' : List St}, Norm l → Norm l' → (∀ x, cov l x ↔ cov l' x) → l = l'
  | [], [], _, _, _ => rfl
  | [], s :: t, _, h', hc => absurd ((hc s.f0).2 (cov_cons.2 (.inl ⟨Int.le_refl _, (Norm.cons.1 h').2.2.2.1⟩))) (cov_nil _)
  | s :: t, [], h, _, hc => absurd ((hc s.f0).1 (cov_cons.2 (.inl ⟨Int.le_refl _, (Norm.cons.1 h).2.2.2.1⟩))) (cov_nil _)
  | s :: t, s' :: t', h, h', hc => by
    obtain ⟨n1, g1, a0, a1, a2⟩ := Norm.cons.1 h
    obtain ⟨n2, g2, b0, b1, b2⟩ := Norm.cons.1 h'
    have f0 : s.f0 = s'.f0 := by
      have h1 := (hc s.f0).1 (cov_cons.2 (.inl ⟨by omega, by omega⟩))
      have h2 := (hc s'.f0).2 (cov_cons.2 (.inl ⟨by omega, by omega⟩))
      rcases cov_cons.1 h1 with h1 | ⟨u, hu, h1⟩ <;> rcases cov_cons.1 h2 with h2 | ⟨v, hv, h2⟩
      · omega
      · have := g1 v hv; omega
      · have := g2 u hu; omega
      · have := g1 v hv; have := g2 u hu; omega
    have f1 : s.f1 = s'.f1 := by
      rcases Int.lt_trichotomy s.f1 s'.f1 with h1 | h1 | h1
      · have h2 := (hc s.f1).2 (cov_cons.2 (.inl ⟨by omega, h1⟩))
        rcases cov_cons.1 h2 with h2 | ⟨v, hv, h2⟩
        · omega
        · have := g1 v hv; omega
      · exact h1
      · have h2 := (hc s'.f1).1 (cov_cons.2 (.inl ⟨by omega, h1⟩))
        rcases cov_cons.1 h2 with h2 | ⟨v, hv, h2⟩
        · omega
        · have := g2 v hv; omega
    have e : t = t' := Norm.unique n1 n2 fun x => by
      constructor
      · rintro ⟨u, hu, h1⟩
        have := g1 u hu
        rcases cov_cons.1 ((hc x).1 (cov_cons.2 (.inr ⟨u, hu, h1⟩))) with h2 | h2
        · omega
        · exact h2
      · rintro ⟨u, hu, h1⟩
        have := g2 u hu
        rcases cov_cons.1 ((hc x).2 (cov_cons.2 (.inr ⟨u, hu, h1⟩))) with h2 | h2
        · omega
        · exact h2
    rw [St.ext' f0 f1, e]
/-! ### a row of cuts -/
def Part (Q : Int → Prop) (c : Int) (out : List St) : Prop := Norm out ∧ (∀ s ∈ out, s.f1 ≤ c) ∧ ∀ x, cov out x ↔ (0 ≤ x ∧ x < c ∧ Q x)
theorem Part.start (Q : Int → Prop) : Part Q 0 [] := ⟨Norm.nil, (fun _ h => by cases h), fun x => ⟨fun h => absurd h (cov_nil x), fun h => by omega⟩⟩
theorem Part.skip {Q : Int → Prop} {c c' : Int} {out : List St} (h : Part Q c out) (hc : c ≤ c') (hq : ∀ x, c ≤ x → x < c' → ¬ Q x) : Part Q c' out := by
  obtain ⟨h1, h2, h3⟩ := h
  refine ⟨h1, fun s hs => by have := h2 s hs; omega, fun x => ?_⟩
  rw [h3]
  constructor
  · rintro ⟨a, b, e⟩; exact ⟨a, by omega, e⟩
  · rintro ⟨a, b, e⟩
    refine ⟨a, ?_, e⟩
    rcases Int.lt_or_le x c with hx | hx
    · exact hx
    · exact absurd e (hq x hx b)
theorem Part.new {Q : Int → Prop} {c c' : Int} {out : List St} (h : Part Q c out) (h0 : 0 ≤ c) (hc : c < c') (hm : c' ≤ 100000) (hl : ∀ s ∈ out, s.f1 ≠ c) (hq : ∀ x, c ≤ x → x < c' → Q x) : Part Q c' (out ++ [⟨c, c'⟩]) := by
  obtain ⟨h1, h2, h3⟩ := h
  refine ⟨h1.snoc (fun u hu => by have := h2 u hu; have := hl u hu; show u.f1 < c; omega) h0 hc hm, fun s hs => ?_, fun x => ?_⟩
  · rcases List.mem_append.1 hs with hs | hs
    · have := h2 s hs; omega
    · rw [List.mem_singleton] at hs; subst hs; exact Int.le_refl _
  · rw [cov_snoc, h3]
    constructor
    · rintro (⟨a, b, e⟩ | ⟨a, b⟩)
      · exact ⟨a, by omega, e⟩
      · have a' : c ≤ x := a
        have b' : x < c' := b
        exact ⟨by omega, b', hq x a' b'⟩
    · rintro ⟨a, b, e⟩
      rcases Int.lt_or_le x c with hx | hx
      · exact .inl ⟨a, hx, e⟩
      · exact .inr ⟨hx, b⟩
theorem Part.more {Q : Int → Prop} {c c' : Int} {out : List St} {u : St} (h : Part Q c (out ++ [u])) (hu : u.f1 = c) (hc : c < c') (hm : c' ≤ 100000) (hq : ∀ x, c ≤ x → x < c' → Q x) : Part Q c' (out ++ [⟨u.f0, c'⟩]) := by
  obtain ⟨h1, h2, h3⟩ := h
  have h4 := List.pairwise_append.1 h1.1
  have h5 := h1.2 u (by simp)
  refine ⟨Norm.snoc ⟨h4.1, fun s hs => h1.2 s (by simp [hs])⟩ (fun v hv => h4.2.2 v hv u (by simp)) h5.1 (show u.f0 < c' by omega) hm, fun s hs => ?_, fun x => ?_⟩
  · rcases List.mem_append.1 hs with hs | hs
    · have := h2 s (by simp [hs]); omega
    · rw [List.mem_singleton] at hs; subst hs; exact Int.le_refl _
  · have h6 := h3 x
    rw [cov_snoc] at h6 ⊢
    constructor
    · rintro (h7 | ⟨a, b⟩)
      · obtain ⟨a, b, e⟩ := h6.1 (.inl h7)
        exact ⟨a, by omega, e⟩
      · have a' : u.f0 ≤ x := a
        have b' : x < c' := b
        rcases Int.lt_or_le x c with hx | hx
        · obtain ⟨a2, _, e⟩ := h6.1 (.inr ⟨a', by omega⟩)
          exact ⟨a2, b', e⟩
        · exact ⟨by omega, b', hq x hx b'⟩
    · rintro ⟨a, b, e⟩
      rcases Int.lt_or_le x c with hx | hx
      · rcases h6.2 ⟨a, hx, e⟩ with h7 | ⟨a2, b2⟩
        · exact .inl h7
        · exact .inr ⟨a2, b⟩
      · exact .inr ⟨show u.f0 ≤ x by omega, b⟩
theorem Part.last {Q : Int → Prop} {c : Int} {out : List St} {u : St} (h : Part Q c (out ++ [u])) (hu : u.f1 ≠ c) : ∀ s ∈ out ++ [u], s.f1 ≠ c := by
  intro s hs e
  have h4 := List.pairwise_append.1 h.1.1
  have h5 := h.1.2 u (by simp)
  have h6 := h.2.1 u (by simp)
  rcases List.mem_append.1 hs with hs | hs
  · have := h4.2.2 s hs u (by simp); omega
  · rw [List.mem_singleton] at hs; subst hs; exact hu e
/-! ### a sweep over changes -/
def Sw (Q : Int → Prop) (a fr : Int) (out : List St) : Prop := 0 ≤ a ∧ Norm out ∧ (out = [] ∨ 0 < a) ∧
  ((fr < 0 ∧ (∀ s ∈ out, s.f1 ≤ a) ∧ ∀ x, cov out x ↔ (0 ≤ x ∧ x < a ∧ Q x)) ∨
   (0 ≤ fr ∧ fr ≤ a ∧ (∀ s ∈ out, s.f1 < fr) ∧ (∀ x, cov out x ↔ (0 ≤ x ∧ x < fr ∧ Q x)) ∧ ∀ x, fr ≤ x → x < a → Q x))
theorem Sw.start (Q : Int → Prop) (fr : Int) (h : fr = -1 ∨ fr = 0) : Sw Q 0 fr [] := by
  refine ⟨Int.le_refl _, Norm.nil, .inl rfl, ?_⟩
  rcases h with rfl | rfl
  · exact .inl ⟨by omega, (fun _ h => by cases h), fun x => ⟨fun h => absurd h (cov_nil x), fun h => by omega⟩⟩
  · exact .inr ⟨Int.le_refl _, Int.le_refl _, (fun _ h => by cases h), (fun x => ⟨fun h => absurd h (cov_nil x), fun h => by omega⟩), fun x h1 h2 => by omega⟩
section
variable {Q : Int → Prop} {a b fr : Int} {out : List St}
theorem Sw.on (h : Sw Q a fr out) (hab : a < b ∨ a = b ∧ out = []) (hq : ∀ x, a ≤ x → x < b → (Q x ↔ 0 ≤ fr)) (hb : b ≤ 100000) (hf : fr < 0) : Sw Q b b out := by
  obtain ⟨h0, h1, h2, ⟨h3, h4, h5⟩ | ⟨h3, _⟩⟩ := h
  · refine ⟨by omega, h1, by rcases hab with h | h; exact .inr (by omega); exact .inl h.2, .inr ⟨by omega, Int.le_refl _, fun s hs => ?_, fun x => ?_, fun x h1 h2 => by omega⟩⟩
    · rcases hab with h | h
      · have := h4 s hs; omega
      · rw [h.2] at hs; cases hs
    · rw [h5]
      constructor
      · rintro ⟨p, q, e⟩; exact ⟨p, by omega, e⟩
      · rintro ⟨p, q, e⟩
        refine ⟨p, ?_, e⟩
        rcases Int.lt_or_le x a with hx | hx
        · exact hx
        · have := (hq x hx q).1 e; omega
  · omega
theorem Sw.off (h : Sw Q a fr out) (hab : a < b ∨ a = b ∧ out = []) (hq : ∀ x, a ≤ x → x < b → (Q x ↔ 0 ≤ fr)) (hb : b ≤ 100000) (hf : 0 ≤ fr) : Sw Q b (-1) (if b > fr then out ++ [⟨fr, b⟩] else out) := by
  obtain ⟨h0, h1, h2, ⟨h3, _⟩ | ⟨h3, h4, h5, h6, h7⟩⟩ := h
  · omega
  · by_cases hbf : b > fr
    · rw [if_pos hbf]
      refine ⟨by omega, h1.snoc h5 h3 hbf hb, .inr (by omega), .inl ⟨by omega, fun s hs => ?_, fun x => ?_⟩⟩
      · rcases List.mem_append.1 hs with hs | hs
        · have := h5 s hs; omega
        · rw [List.mem_singleton] at hs; subst hs; exact Int.le_refl _
      · rw [cov_snoc, h6]
        constructor
        · rintro (⟨p, q, e⟩ | ⟨p, q⟩)
          · exact ⟨p, by omega, e⟩
          · have p' : fr ≤ x := p
            have q' : x < b := q
            refine ⟨by omega, q', ?_⟩
            rcases Int.lt_or_le x a with hx | hx
            · exact h7 x p' hx
            · exact (hq x hx q').2 h3
        · rintro ⟨p, q, e⟩
          rcases Int.lt_or_le x fr with hx | hx
          · exact .inl ⟨p, hx, e⟩
          · exact .inr ⟨hx, q⟩
    · rw [if_neg hbf]
      refine ⟨by omega, h1, by rcases hab with h | h; exact .inr (by omega); exact .inl h.2, .inl ⟨by omega, fun s hs => by have := h5 s hs; omega, fun x => ?_⟩⟩
      rw [h6]
      constructor
      · rintro ⟨p, q, e⟩; exact ⟨p, by omega, e⟩
      · rintro ⟨p, q, e⟩; exact ⟨p, by omega, e⟩
theorem Sw.same (h : Sw Q a fr out) (hab : a < b ∨ a = b ∧ out = []) (hq : ∀ x, a ≤ x → x < b → (Q x ↔ 0 ≤ fr)) : Sw Q b fr out := by
  obtain ⟨h0, h1, h2, ⟨h3, h4, h5⟩ | ⟨h3, h4, h5, h6, h7⟩⟩ := h
  · refine ⟨by omega, h1, by rcases hab with h | h; exact .inr (by omega); exact .inl h.2, .inl ⟨h3, fun s hs => by have := h4 s hs; omega, fun x => ?_⟩⟩
    rw [h5]
    constructor
    · rintro ⟨p, q, e⟩; exact ⟨p, by omega, e⟩
    · rintro ⟨p, q, e⟩
      refine ⟨p, ?_, e⟩
      rcases Int.lt_or_le x a with hx | hx
      · exact hx
      · have := (hq x hx q).1 e; omega
  · refine ⟨by omega, h1, by rcases hab with h | h; exact .inr (by omega); exact .inl h.2, .inr ⟨h3, by omega, h5, h6, fun x p q => ?_⟩⟩
    rcases Int.lt_or_le x a with hx | hx
    · exact h7 x p hx
    · exact (hq x hx q).2 h3
theorem Sw.fin (h : Sw Q a fr out) (ha : a ≤ 100000) (hq : ∀ x, a ≤ x → x < 100000 → (Q x ↔ 0 ≤ fr)) :
    Norm (if 0 ≤ fr ∧ fr < 100000 then out ++ [⟨fr, 100000⟩] else out) ∧ ∀ x, cov (if 0 ≤ fr ∧ fr < 100000 then out ++ [⟨fr, 100000⟩] else out) x ↔ (0 ≤ x ∧ x < 100000 ∧ Q x) := by
  obtain ⟨h0, h1, h2, ⟨h3, h4, h5⟩ | ⟨h3, h4, h5, h6, h7⟩⟩ := h
  · rw [if_neg (by omega)]
    refine ⟨h1, fun x => ?_⟩
    rw [h5]
    constructor
    · rintro ⟨p, q, e⟩; exact ⟨p, by omega, e⟩
    · rintro ⟨p, q, e⟩
      refine ⟨p, ?_, e⟩
      rcases Int.lt_or_le x a with hx | hx
      · exact hx
      · have := (hq x hx q).1 e; omega
  · by_cases hm : fr < 100000
    · rw [if_pos ⟨h3, hm⟩]
      refine ⟨h1.snoc h5 h3 hm (Int.le_refl _), fun x => ?_⟩
      rw [cov_snoc, h6]
      constructor
      · rintro (⟨p, q, e⟩ | ⟨p, q⟩)
        · exact ⟨p, by omega, e⟩
        · have p' : fr ≤ x := p
          have q' : x < 100000 := q
          refine ⟨by omega, q', ?_⟩
          rcases Int.lt_or_le x a with hx | hx
          · exact h7 x p' hx
          · exact (hq x hx q').2 h3
      · rintro ⟨p, q, e⟩
        rcases Int.lt_or_le x fr with hx | hx
        · exact .inl ⟨p, hx, e⟩
        · exact .inr ⟨hx, q⟩
    · rw [if_neg (by omega)]
      refine ⟨h1, fun x => ?_⟩
      rw [h6]
      constructor
      · rintro ⟨p, q, e⟩; exact ⟨p, by omega, e⟩
      · rintro ⟨p, q, e⟩; exact ⟨p, by omega, e⟩
end
def lev : List Ch → Int → Int
  | [], _ => 0
  | c :: t, x => (if c.f0 ≤ x then c.f1 else 0) + lev t x
theorem lev_perm {l l' : List Ch} (h : l.Perm l') (x : Int) : lev l x = lev l' x := by
  induction h with
  | nil => rfl
  | cons c _ ih => rw [lev, lev, ih]
  | swap c d l => rw [lev, lev, lev, lev]; omega
  | trans _ _ ih1 ih2 => exact ih1.trans ih2
theorem lev_append (l l' : List Ch) (x : Int) : lev (l ++ l') x = lev l x + lev l' x := by
  induction l with
  | nil => rw [List.nil_append, lev]; omega
  | cons c t ih => rw [List.cons_append, lev, lev, ih]; omega
theorem lev_big : ∀ (l : List Ch) (x : Int), (∀ c ∈ l, x < c.f0) → lev l x = 0
  | [], _, _ => rfl
  | c :: t, x, h => by rw [lev, if_neg (by have := h c List.mem_cons_self; omega), lev_big t x (fun d hd => h d (List.mem_cons_of_mem _ hd))]; rfl
def sumb : List Ch → Int
  | [] => 0
  | c :: t => c.f1 + sumb t
theorem lev_all : ∀ (l : List Ch) (x : Int), (∀ c ∈ l, c.f0 ≤ x) → lev l x = sumb l
  | [], _, _ => rfl
  | c :: t, x, h => by rw [lev, if_pos (h c List.mem_cons_self), lev_all t x (fun d hd => h d (List.mem_cons_of_mem _ hd)), sumb]
theorem sumb_snoc (l : List Ch) (c : Ch) : sumb (l ++ [c]) = sumb l + c.f1 := by
  induction l with
  | nil => simp [sumb]
  | cons d t ih => rw [List.cons_append, sumb, sumb, ih]; omega
theorem sumb_bound : ∀ (l : List Ch), (∀ c ∈ l, -2 ≤ c.f1 ∧ c.f1 ≤ 2) → -2 * (l.length : Int) ≤ sumb l ∧ sumb l ≤ 2 * (l.length : Int)
  | [], _ => by simp [sumb]
  | c :: t, h => by
    have h1 := h c List.mem_cons_self
    have h2 := sumb_bound t (fun d hd => h d (List.mem_cons_of_mem _ hd))
    rw [sumb, List.length_cons]
    omega
def sweep (p : Int → Bool) : List Ch → Int → Int → List St → Int × List St
  | [], _, fr, out => (fr, out)
  | c :: t, lv, fr, out =>
    if t.head?.map (·.f0) = some c.f0 then sweep p t (wrap64 (lv + c.f1)) fr out
    else if p (wrap64 (lv + c.f1)) = true then (if fr < 0 then sweep p t (wrap64 (lv + c.f1)) c.f0 out else sweep p t (wrap64 (lv + c.f1)) fr out)
    else (if fr < 0 then sweep p t (wrap64 (lv + c.f1)) fr out else sweep p t (wrap64 (lv + c.f1)) (-1) (if c.f0 > fr then out ++ [⟨fr, c.f0⟩] else out))
def swept (p : Int → Bool) (ys : List Ch) : List St :=
  let r := sweep p ys 0 (if p 0 = true then 0 else -1) []
  if 0 ≤ r.1 ∧ r.1 < 100000 then r.2 ++ [⟨r.1, 100000⟩] else r.2
def Sorted (ys : List Ch) : Prop := ys.Pairwise (fun a b => a.f0 ≤ b.f0)
def Good (ys : List Ch) : Prop := ys.length ≤ 1000 ∧ ∀ c ∈ ys, 0 ≤ c.f0 ∧ c.f0 ≤ 100000 ∧ -2 ≤ c.f1 ∧ c.f1 ≤ 2
theorem lev_split {pre t : List Ch} {x : Int} (h1 : ∀ c ∈ pre, c.f0 ≤ x) (h2 : ∀ c ∈ t, x < c.f0) : lev (pre ++ t) x = sumb pre := by
  rw [lev_append, lev_all pre x h1, lev_big t x h2]; omega
theorem head_eq {c : Ch} {t : List Ch} (h : t.head?.map (·.f0) = some c.f0) : ∃ d t', t = d :: t' ∧ d.f0 = c.f0 := by
  cases t with
  | nil => cases h
  | cons d t' => exact ⟨d, t', rfl, by simpa using h⟩
theorem Sorted.gt {pre t : List Ch} {c : Ch} (hs : Sorted (pre ++ c :: t)) (h : ¬ t.head?.map (·.f0) = some c.f0) : ∀ d ∈ t, c.f0 < d.f0 := by
  intro d hd
  have h1 := (List.pairwise_append.1 hs).2.1
  rw [List.pairwise_cons] at h1
  have h2 := h1.1 d hd
  cases t with
  | nil => cases hd
  | cons e t' =>
    have h3 := h1.1 e List.mem_cons_self
    have h4 : e.f0 ≠ c.f0 := fun e0 => h (by simp [e0])
    rcases List.mem_cons.1 hd with rfl | hd
    · omega
    · have := (List.pairwise_cons.1 h1.2).1 d hd
      omega
theorem Sorted.le {pre t : List Ch} {c : Ch} (hs : Sorted (pre ++ c :: t)) : ∀ d ∈ pre ++ [c], d.f0 ≤ c.f0 := by
  intro d hd
  rcases List.mem_append.1 hd with hd | hd
  · exact (List.pairwise_append.1 hs).2.2 d hd c List.mem_cons_self
  · rw [List.mem_singleton] at hd; subst hd; exact Int.le_refl _
theorem wrap_sum {ys pre t : List Ch} {c : Ch} (hg : Good ys) (e : ys = pre ++ c :: t) : wrap64 (sumb pre + c.f1) = sumb (pre ++ [c]) := by
  have h1 := sumb_bound (pre ++ [c]) (fun d hd => by
    have := hg.2 d (by rw [e]; simp only [List.mem_append, List.mem_cons] at hd ⊢; rcases hd with hd | hd | hd; exact .inl hd; exact .inr (.inl hd); cases hd)
    exact ⟨this.2.2.1, this.2.2.2⟩)
  have h2 : (pre ++ [c]).length ≤ 1000 := by have := hg.1; rw [e] at this; simp at this ⊢; omega
  rw [sumb_snoc] at h1 ⊢
  unfold wrap64; omega
theorem sweep_spec (p : Int → Bool) (ys : List Ch) (hs : Sorted ys) (hg : Good ys) : ∀ (t pre : List Ch) (a fr : Int) (out : List St), ys = pre ++ t → a ≤ 100000 → Sw (fun x => p (lev ys x) = true) a fr out →
    ((∀ d ∈ t, a < d.f0) ∨ (a = 0 ∧ out = [])) → (∀ x, a ≤ x → (∀ d ∈ t, x < d.f0) → (p (lev ys x) = true ↔ 0 ≤ fr)) →
    ∃ b, b ≤ 100000 ∧ Sw (fun x => p (lev ys x) = true) b (sweep p t (sumb pre) fr out).1 (sweep p t (sumb pre) fr out).2 ∧ ∀ x, b ≤ x → (p (lev ys x) = true ↔ 0 ≤ (sweep p t (sumb pre) fr out).1)
  | [], pre, a, fr, out, _, ha, hw, _, hc => ⟨a, ha, hw, fun x hx => hc x hx (fun _ h => by cases h)⟩
  | c :: t, pre, a, fr, out, e, ha, hw, h3, hc => by
    have e2 : ys = (pre ++ [c]) ++ t := by rw [e]; simp
    have hw0 := wrap_sum hg e
    have hcb : 0 ≤ c.f0 ∧ c.f0 ≤ 100000 := by have := hg.2 c (by rw [e]; simp); exact ⟨this.1, this.2.1⟩
    rw [sweep, hw0]
    by_cases hh : t.head?.map (·.f0) = some c.f0
    · rw [if_pos hh]
      obtain ⟨d, t', rfl, hd⟩ := head_eq hh
      refine sweep_spec p ys hs hg (d :: t') (pre ++ [c]) a fr out e2 ha hw ?_ ?_
      · rcases h3 with h3 | h3
        · exact .inl fun d hd => h3 d (List.mem_cons_of_mem _ hd)
        · exact .inr h3
      · intro x hx hb
        refine hc x hx (fun z hz => ?_)
        rcases List.mem_cons.1 hz with rfl | hz
        · rw [← hd]; exact hb d List.mem_cons_self
        · exact hb z hz
    · rw [if_neg hh]
      have hgt := Sorted.gt (e ▸ hs) hh
      have hle := Sorted.le (e ▸ hs)
      have hab : a < c.f0 ∨ a = c.f0 ∧ out = [] := by
        rcases h3 with h3 | ⟨h4, h5⟩
        · exact .inl (h3 c List.mem_cons_self)
        · rcases Int.lt_or_le a c.f0 with hx | hx
          · exact .inl hx
          · exact .inr ⟨by omega, h5⟩
      have hq : ∀ x, a ≤ x → x < c.f0 → (p (lev ys x) = true ↔ 0 ≤ fr) := fun x hx hb => hc x hx (fun d hd => by
        rcases List.mem_cons.1 hd with rfl | hd
        · exact hb
        · have := hgt d hd; omega)
      have hlev : ∀ x, c.f0 ≤ x → (∀ d ∈ t, x < d.f0) → lev ys x = sumb (pre ++ [c]) := fun x hx hb => by
        rw [e2]
        exact lev_split (fun d hd => by have := hle d hd; omega) hb
      by_cases hp : p (sumb (pre ++ [c])) = true
      · rw [if_pos hp]
        by_cases hf : fr < 0
        · rw [if_pos hf]
          exact sweep_spec p ys hs hg t (pre ++ [c]) c.f0 c.f0 out e2 hcb.2 (hw.on hab hq hcb.2 hf) (.inl hgt) (fun x hx hb => by rw [hlev x hx hb]; exact ⟨fun _ => hcb.1, fun _ => hp⟩)
        · rw [if_neg hf]
          exact sweep_spec p ys hs hg t (pre ++ [c]) c.f0 fr out e2 hcb.2 (hw.same hab hq) (.inl hgt) (fun x hx hb => by rw [hlev x hx hb]; exact ⟨fun _ => by omega, fun _ => hp⟩)
      · rw [if_neg hp]
        by_cases hf : fr < 0
        · rw [if_pos hf]
          exact sweep_spec p ys hs hg t (pre ++ [c]) c.f0 fr out e2 hcb.2 (hw.same hab hq) (.inl hgt) (fun x hx hb => by rw [hlev x hx hb]; exact ⟨fun h => absurd h hp, fun _ => by omega⟩)
        · rw [if_neg hf]
          exact sweep_spec p ys hs hg t (pre ++ [c]) c.f0 (-1) _ e2 hcb.2 (hw.off hab hq hcb.2 (by omega)) (.inl hgt) (fun x hx hb => by rw [hlev x hx hb]; exact ⟨fun h => absurd h hp, fun _ => by omega⟩)
theorem swept_spec (p : Int → Bool) (ys : List Ch) (hs : Sorted ys) (hg : Good ys) : Norm (swept p ys) ∧ ∀ x, cov (swept p ys) x ↔ (0 ≤ x ∧ x < 100000 ∧ p (lev ys x) = true) := by
  have hfr : (if p 0 = true then (0 : Int) else -1) = -1 ∨ (if p 0 = true then (0 : Int) else -1) = 0 := by
    by_cases h : p 0 = true
    · rw [if_pos h]; exact .inr rfl
    · rw [if_neg h]; exact .inl rfl
  obtain ⟨b, h1, h2, h3⟩ := sweep_spec p ys hs hg ys [] 0 _ [] rfl (by omega) (Sw.start _ _ hfr) (.inr ⟨rfl, rfl⟩) (fun x hx hb => by
    rw [lev_big ys x hb]
    by_cases h : p 0 = true
    · rw [if_pos h]; exact ⟨fun _ => Int.le_refl _, fun _ => h⟩
    · rw [if_neg h]; exact ⟨fun h' => absurd h' h, fun h' => by omega⟩)
  exact h2.fin h1 (fun x hx _ => h3 x hx)
theorem swept_perm (p : Int → Bool) {ys zs : List Ch} (hp : ys.Perm zs) (hs : Sorted ys) (hz : Sorted zs) (hg : Good ys) : swept p ys = swept p zs := by
  have hg' : Good zs := ⟨by rw [← hp.length_eq]; exact hg.1, fun c hc => hg.2 c (hp.mem_iff.2 hc)⟩
  have h1 := swept_spec p ys hs hg
  have h2 := swept_spec p zs hz hg'
  exact Norm.unique h1.1 h2.1 fun x => by rw [h1.2, h2.2, lev_perm hp]
/-! ### where the most are -/
def deep : List Ch → Int → Int → Int → Int × Int
  | [], _, m, d => (m, d)
  | c :: t, lv, m, d => if ¬ t.head?.map (·.f0) = some c.f0 ∧ d < wrap64 (lv + c.f1) then deep t (wrap64 (lv + c.f1)) c.f0 (wrap64 (lv + c.f1)) else deep t (wrap64 (lv + c.f1)) m d
def Top (B : Int → Prop) (f : Int → Int) (m d : Int) : Prop := (d = 0 ∧ m = 0 ∧ ∀ x, B x → f x ≤ 0) ∨ (0 < d ∧ B m ∧ f m = d ∧ (∀ x, B x → f x ≤ d) ∧ ∀ x, B x → x < m → f x < d)
theorem Top.unique {B : Int → Prop} {f : Int → Int} {m d m' d' : Int} (h : Top B f m d) (h' : Top B f m' d') : m = m' ∧ d = d' := by
  rcases h with ⟨a, b, c⟩ | ⟨a, b, c, e, g⟩ <;> rcases h' with ⟨a', b', c'⟩ | ⟨a', b', c', e', g'⟩
  · omega
  · have := c m' b'; omega
  · have := c' m b; omega
  · have h1 := e m' b'
    have h2 := e' m b
    have h3 : d = d' := by omega
    rcases Int.lt_trichotomy m m' with h | h | h
    · have := g' m b h; omega
    · exact ⟨h, h3⟩
    · have := g m' b' h; omega
theorem deep_spec (ys : List Ch) (hs : Sorted ys) (hg : Good ys) : ∀ (t pre : List Ch) (m d : Int), ys = pre ++ t → 0 ≤ d → Top (fun x => ∀ c ∈ t, x < c.f0) (lev ys) m d → Top (fun _ => True) (lev ys) (deep t (sumb pre) m d).1 (deep t (sumb pre) m d).2
  | [], pre, m, d, _, _, h => by
    rw [deep]
    rcases h with ⟨a, b, c⟩ | ⟨a, b, c, e, g⟩
    · exact .inl ⟨a, b, fun x _ => c x (fun _ h => by cases h)⟩
    · exact .inr ⟨a, trivial, c, fun x _ => e x (fun _ h => by cases h), fun x _ hx => g x (fun _ h => by cases h) hx⟩
  | c :: t, pre, m, d, e, hd0, h => by
    have e2 : ys = (pre ++ [c]) ++ t := by rw [e]; simp
    have hw0 := wrap_sum hg e
    rw [deep, hw0]
    by_cases hh : t.head?.map (·.f0) = some c.f0
    · rw [if_neg (fun h => h.1 hh)]
      obtain ⟨d', t', rfl, hd⟩ := head_eq hh
      have hB : ∀ x, (∀ z ∈ d' :: t', x < z.f0) → ∀ z ∈ c :: d' :: t', x < z.f0 := fun x hx z hz => by
        rcases List.mem_cons.1 hz with rfl | hz
        · rw [← hd]; exact hx d' List.mem_cons_self
        · exact hx z hz
      refine deep_spec ys hs hg (d' :: t') (pre ++ [c]) m d e2 hd0 ?_
      rcases h with ⟨a, b, c⟩ | ⟨a, b, c, e, g⟩
      · exact .inl ⟨a, b, fun x hx => c x (hB x hx)⟩
      · exact .inr ⟨a, fun z hz => b z (List.mem_cons_of_mem _ hz), c, fun x hx => e x (hB x hx), fun x hx => g x (hB x hx)⟩
    · have hgt := Sorted.gt (e ▸ hs) hh
      have hle := Sorted.le (e ▸ hs)
      have hlev : ∀ x, c.f0 ≤ x → (∀ d ∈ t, x < d.f0) → lev ys x = sumb (pre ++ [c]) := fun x hx hb => by
        rw [e2]
        exact lev_split (fun d hd => by have := hle d hd; omega) hb
      have hold : ∀ x, x < c.f0 → ∀ z ∈ c :: t, x < z.f0 := fun x hx z hz => by
        rcases List.mem_cons.1 hz with rfl | hz
        · exact hx
        · have := hgt z hz; omega
      by_cases hdl : d < sumb (pre ++ [c])
      · rw [if_pos ⟨hh, hdl⟩]
        refine deep_spec ys hs hg t (pre ++ [c]) c.f0 (sumb (pre ++ [c])) e2 (by omega) ?_
        have hmax : ∀ x, (∀ z ∈ c :: t, x < z.f0) → lev ys x ≤ d := by
          rcases h with ⟨a, b, k⟩ | ⟨a, b, k, e', g⟩
          · intro x hx; have := k x hx; omega
          · exact e'
        refine .inr ⟨by omega, hgt, hlev c.f0 (Int.le_refl _) hgt, fun x hx => ?_, fun x hx hl => ?_⟩
        · rcases Int.lt_or_le x c.f0 with hl | hl
          · have := hmax x (hold x hl); omega
          · rw [hlev x hl hx]; exact Int.le_refl _
        · have := hmax x (hold x hl); omega
      · rw [if_neg (fun h => hdl h.2)]
        refine deep_spec ys hs hg t (pre ++ [c]) m d e2 hd0 ?_
        have hb2 : ∀ x, (∀ z ∈ t, x < z.f0) → (x < c.f0 → lev ys x ≤ d) → lev ys x ≤ d := fun x hx k => by
          rcases Int.lt_or_le x c.f0 with hl | hl
          · exact k hl
          · rw [hlev x hl hx]; omega
        rcases h with ⟨a, b, k⟩ | ⟨a, b, k, e', g⟩
        · subst a
          exact .inl ⟨rfl, b, fun x hx => hb2 x hx (fun hl => k x (hold x hl))⟩
        · refine .inr ⟨a, fun z hz => b z (List.mem_cons_of_mem _ hz), k, fun x hx => hb2 x hx (fun hl => e' x (hold x hl)), fun x hx hl => ?_⟩
          have hm := b c List.mem_cons_self
          exact g x (hold x (by omega)) hl
theorem deepest_spec (ys : List Ch) (hs : Sorted ys) (hg : Good ys) : Top (fun _ => True) (lev ys) (deep ys 0 0 0).1 (deep ys 0 0 0).2 :=
  deep_spec ys hs hg ys [] 0 0 rfl (Int.le_refl _) (.inl ⟨rfl, rfl, fun x hx => by rw [lev_big ys x hx]; exact Int.le_refl _⟩)
theorem deep_perm {ys zs : List Ch} (hp : ys.Perm zs) (hs : Sorted ys) (hz : Sorted zs) (hg : Good ys) : deep ys 0 0 0 = deep zs 0 0 0 := by
  have hg' : Good zs := ⟨by rw [← hp.length_eq]; exact hg.1, fun c hc => hg.2 c (hp.mem_iff.2 hc)⟩
  have h1 := deepest_spec ys hs hg
  have h2 := deepest_spec zs hz hg'
  have e : lev ys = lev zs := funext (lev_perm hp)
  rw [e] at h1
  have := h1.unique h2
  exact Prod.ext this.1 this.2
/-! ### the changes of stretches -/
def chg (n : Int) (l : List St) : List Ch := l.flatMap fun s => [⟨s.f0, n⟩, ⟨s.f1, -n⟩]
theorem chg_nil (n : Int) : chg n [] = [] := rfl
theorem chg_cons (n : Int) (s : St) (l : List St) : chg n (s :: l) = ⟨s.f0, n⟩ :: ⟨s.f1, -n⟩ :: chg n l := rfl
theorem chg_snoc (n : Int) (s : St) (l : List St) : chg n (l ++ [s]) = chg n l ++ [⟨s.f0, n⟩, ⟨s.f1, -n⟩] := by simp [chg]
theorem chg_length (n : Int) : ∀ l : List St, (chg n l).length = 2 * l.length
  | [] => rfl
  | s :: l => by rw [chg_cons, List.length_cons, List.length_cons, List.length_cons, chg_length n l]; omega
def isSt (s : St) : Prop := 0 ≤ s.f0 ∧ s.f0 ≤ 100000 ∧ 0 ≤ s.f1 ∧ s.f1 ≤ 100000 ∧ s.f0 < s.f1
theorem chg_mem {n : Int} (hn : n = 1 ∨ n = 2) : ∀ {l : List St}, (∀ s ∈ l, isSt s) → ∀ c ∈ chg n l, 0 ≤ c.f0 ∧ c.f0 ≤ 100000 ∧ -2 ≤ c.f1 ∧ c.f1 ≤ 2
  | [], _, c, h => by cases h
  | s :: l, hl, c, h => by
    rw [chg_cons] at h
    have hs := hl s List.mem_cons_self
    rcases List.mem_cons.1 h with rfl | h
    · exact ⟨hs.1, hs.2.1, show -2 ≤ n by omega, show n ≤ 2 by omega⟩
    · rcases List.mem_cons.1 h with rfl | h
      · exact ⟨hs.2.2.1, hs.2.2.2.1, show -2 ≤ -n by omega, show -n ≤ 2 by omega⟩
      · exact chg_mem hn (fun u hu => hl u (List.mem_cons_of_mem _ hu)) c h
def cnt : List St → Int → Int
  | [], _ => 0
  | s :: t, x => (if s.f0 ≤ x ∧ x < s.f1 then 1 else 0) + cnt t x
theorem cnt_nonneg : ∀ (l : List St) (x : Int), 0 ≤ cnt l x ∧ cnt l x ≤ l.length
  | [], _ => by simp [cnt]
  | s :: t, x => by
    have := cnt_nonneg t x
    rw [cnt, List.length_cons]
    split <;> omega
theorem cnt_pos {l : List St} {x : Int} : 0 < cnt l x ↔ cov l x := by
  induction l with
  | nil => simp [cnt, cov]
  | cons s t ih =>
    have := cnt_nonneg t x
    rw [cnt, cov_cons, ← ih]
    split <;> rename_i h
    · exact ⟨fun _ => .inl h, fun _ => by omega⟩
    · exact ⟨fun k => .inr (by omega), fun k => by rcases k with k | k; exact absurd k h; omega⟩
theorem lev_chg (n : Int) : ∀ (l : List St) (x : Int), (∀ s ∈ l, isSt s) → lev (chg n l) x = n * cnt l x
  | [], x, _ => by simp [chg, lev, cnt]
  | s :: l, x, h => by
    have hs := h s List.mem_cons_self
    have ih := lev_chg n l x (fun u hu => h u (List.mem_cons_of_mem _ hu))
    rw [chg_cons, lev, lev, ih, cnt, Int.mul_add]
    by_cases h1 : s.f0 ≤ x
    · by_cases h2 : s.f1 ≤ x
      · rw [if_pos h1, if_pos h2, if_neg (by omega)]; simp; omega
      · rw [if_pos h1, if_neg h2, if_pos (by omega)]; simp
    · rw [if_neg h1, if_neg (show ¬ s.f1 ≤ x by have := hs.2.2.2.2; omega), if_neg (by omega)]; simp
theorem Norm.cnt_le : ∀ {l : List St}, Norm l → ∀ x, cnt l x ≤ 1
  | [], _, x => by simp [cnt]
  | s :: t, h, x => by
    obtain ⟨n1, g1, _⟩ := Norm.cons.1 h
    have ih := Norm.cnt_le n1 x
    rw [cnt]
    split <;> rename_i hx
    · have : ¬ 0 < cnt t x := fun hp => by
        obtain ⟨u, hu, h2⟩ := cnt_pos.1 hp
        have := g1 u hu; omega
      omega
    · omega
theorem Norm.isSt {l : List St} (h : Norm l) : ∀ s ∈ l, isSt s := fun s hs => by
  have := h.2 s hs
  exact ⟨this.1, by omega, by omega, this.2.2, this.2.1⟩
def srt (ys : List Ch) : List Ch := ys.mergeSort fun a b => decide (a.f0 ≤ b.f0)
theorem srt_perm (ys : List Ch) : (srt ys).Perm ys := List.mergeSort_perm _ _
theorem srt_sorted (ys : List Ch) : Sorted (srt ys) := by
  have h := List.pairwise_mergeSort (le := fun a b : Ch => decide (a.f0 ≤ b.f0)) (fun a b c h1 h2 => by simp only [decide_eq_true_eq] at *; omega) (fun a b => by simp only [Bool.or_eq_true, decide_eq_true_eq]; omega) ys
  exact h.imp (fun h => by simpa using h)
end Go.Proofs.YtcmdcgghpkcchaaGreatDoor.Lay


/- Both sorts of changes: the row holds a sorted permutation. -/
namespace Go.Proofs.YtcmdcgghpkcchaaGreatDoor.Lay
set_option linter.unusedVariables false
set_option linter.unusedSimpArgs false
open Go.RowKit Go.Proofs.YtcmdcgghpkcchaaGreatDoorW.PrintWords Go.Proofs.YtcmdcgghpkcchaaGreatDoorW.PrintLast Go.Proofs.YtcmdcgghpkcchaaGreatDoorW.PrintMore Go.Shelf Go.Lib Go.Sort Go.Proofs.YtcmdcgghpkcchaaGreatDoor.Stable
def kCh : Kd Ch := Kd.iso (Kd.pair (Kd.int .i64) (Kd.int .i64)) (fun x : Ch => (x.f0, x.f1))
def encCh (x : Ch) : List Value := [.int .i64 x.f0, .int .i64 x.f1]
theorem kCh_open {w : World} {x : Ch} {cs : List Value} (h : kCh.K w x cs) : cs = encCh x := by
 obtain ⟨_, _, rfl, rfl, rfl⟩ := h
 exact rfl
theorem flatCh : Flat kCh encCh 2 where
 sz := rfl
 k0 := by omega
 one := fun x u hu => by simp [encCh] at hu; rcases hu with rfl | rfl <;> rfl
 len := fun _ => rfl
 open_ := fun h => by obtain ⟨_, _, rfl, rfl, rfl⟩ := h; rfl
 mk_ := fun w base ok x => ⟨[.int .i64 x.f0], [.int .i64 x.f1], rfl, rfl, rfl⟩
def rdCh (xs : List Ch) (i : Int) : Ch := xs.getD i.toNat default
theorem atCh {w : World} {A : Option Addr} {n : Nat} {xs : List Ch} (h : Kd.C kCh w A n xs) (i : Int) (h0 : 0 ≤ i) (h1 : i < n) : ∃ ad , A = some ad ∧ w.cell? (ad.add (i.toNat * 2)) = some (.int .i64 (rdCh xs i).f0) ∧ w.cell? ⟨(ad.add (i.toNat * 2)).block, (ad.add (i.toNat * 2)).off + 1, none⟩ = some (.int .i64 (rdCh xs i).f1) := by
 obtain ⟨ad, c, e, _, hK, hc0⟩ := Kd.C_get h default i h0 h1
 have hc : ∀ j u, c[j]? = some u → w.cell? (ad.add (i.toNat * 2 + j)) = some u := hc0
 obtain rfl := kCh_open hK
 exact ⟨ad, e, hc 0 _ rfl, by rw [← add_field _ _ 1 (by omega)]; exact hc 1 _ rfl⟩
def cfCh (x y : Ch) : Int := Lib.compareInt x.f0 y.f0
theorem ltCh (x y : Ch) : ltOf cfCh x y = decide (x.f0 < y.f0) := by
 unfold ltOf cfCh Lib.compareInt
 by_cases h1 : x.f0 < y.f0
 ·
  simp [h1]
 ·
  by_cases h2 : y.f0 < x.f0 <;> simp [h1, h2]
theorem swoCh : SWO (ltOf cfCh) where
 irrefl x := by rw [ltCh]; simp
 trans x y z h1 h2 := by rw [ltCh] at *; simp at *; omega
 ntrans x y z h1 h2 := by rw [ltCh] at *; simp at *; omega
theorem sorted_list {d : Array Ch} (h : SortedIn (ltOf cfCh) 0 d.size d) : Sorted d.toList := by
 refine List.pairwise_iff_getElem.2 fun i j hi hj hij => ?_
 rw [Array.length_toList] at hi hj
 have := h i j (Nat.zero_le _) hij hj
 rw [ltCh, getElem!_pos d i hi, getElem!_pos d j hj] at this
 simp only [decide_eq_false_iff_not] at this
 simp only [Array.getElem_toList]
 omega
theorem perm_list {d d' : Array Ch} (h : PermIn 0 d.size d d') : d'.toList.Perm d.toList := by
 have h1 := h.2.2
 rwa [Array.extract_size, ← h.1, Array.extract_size] at h1
theorem isAggCh : ∀ w, (isAgg 86).run Tryz.prog w = .ok true w := fun _ => by kernel_rfl
theorem sizeCh : ∀ w, (Go.sizeOf 86).run Tryz.prog w = .ok 2 w := fun _ => by kernel_rfl
set_option maxHeartbeats 1000000 in
theorem clos1 (x y : Ch) (W : World) : Calls Tryz.prog 65 #[.agg #[.int .i64 x.f0, .int .i64 x.f1], .agg #[.int .i64 y.f0, .int .i64 y.f1]] W fun e w' => e = .returned (.int .i64 (cfCh x y)) ∧ ∃ q os', w' = grow (W.drewN q) os' := by
 have hcon := fun W' => Tryz.cmp_Compare_int x.f0 y.f0 W'
 have hu := Tryz.underlying86
 unfold cfCh
 generalize Lib.compareInt x.f0 y.f0 = r at hcon ⊢
 go_enter Tryz.func65, Tryz.ntmps65
 go_wp2_with (go_at_call 66; refine (hcon _).mono ?_; rintro e w' ⟨rfl, rfl⟩)
 go_ret
 exact ⟨rfl, 0, _, by rw [alloc_eq_grow, alloc_eq_grow, grow_grow]; rfl⟩
set_option maxHeartbeats 1000000 in
theorem clos2 (x y : Ch) (W : World) : Calls Tryz.prog 68 #[.agg #[.int .i64 x.f0, .int .i64 x.f1], .agg #[.int .i64 y.f0, .int .i64 y.f1]] W fun e w' => e = .returned (.int .i64 (cfCh x y)) ∧ ∃ q os', w' = grow (W.drewN q) os' := by
 have hcon := fun W' => Tryz.cmp_Compare_int x.f0 y.f0 W'
 have hu := Tryz.underlying86
 unfold cfCh
 generalize Lib.compareInt x.f0 y.f0 = r at hcon ⊢
 go_enter Tryz.func68, Tryz.ntmps68
 go_wp2_with (go_at_call 66; refine (hcon _).mono ?_; rintro e w' ⟨rfl, rfl⟩)
 go_ret
 exact ⟨rfl, 0, _, by rw [alloc_eq_grow, alloc_eq_grow, grow_grow]; rfl⟩
theorem enter1 (args : Array Value) (w : World) : (callFunc 65 args).run Tryz.prog w = .ok (.enter 65 args) w := enters_of Tryz.func65 (by kernel_rfl) rfl _ _
theorem enter2 (args : Array Value) (w : World) : (callFunc 68 args).run Tryz.prog w = .ok (.enter 68 args) w := enters_of Tryz.func68 (by kernel_rfl) rfl _ _
def Laid (w : World) (base : Nat) (ok : Nat → Prop) (v : Value) (l : List Ch) (w' : World) : Prop := ∃ l', l'.Perm l ∧ Sorted l' ∧ kCh.R 86 w' base ok v l' ∧ w.grownBy w' v.ownBlock
theorem sortFunc {w : World} {base : Nat} {ok : Nat → Prop} {v : Value} {l : List Ch} (h : kCh.R 86 w base ok v l) (hl : l.length ≤ 1000000) :
  Calls Tryz.prog 67 #[v, .func (.func 68) #[] #[]] w fun e w' => e = .returned (.tuple #[]) ∧ Laid w base ok v l w' := by
 by_cases hx : l = []
 ·
  subst hx
  obtain ⟨A, c, rfl⟩ := Kd.R_slice h
  refine Calls.mono (AnyF.slices_SortFunc_none (P := Tryz.prog) (ρ := Tryz.sortCh_ren) Tryz.sortCh A c (.func (.func 68) #[] #[]) w) ?_
  rintro e w' ⟨rfl, rfl⟩
  exact ⟨rfl, [], .refl _, .nil, h, World.grownBy.refl _ _⟩
 ·
  obtain ⟨g, cap, rfl, hg, hb, hok, hH, hback⟩ := flatCh.row h hx
  refine Calls.mono (AnyQ.slices_SortFunc (P := Tryz.prog) (ρ := Tryz.sortCh_ren) Tryz.sortCh 2 isAggCh sizeCh encCh (fun _ => rfl) flatCh.one cfCh swoCh 68 #[] g 0 cap l.toArray w enter2 (fun _ _ _ _ x y => clos2 x y _) hH hg (by simp; omega)) ?_
  rintro e w' ⟨rfl, d', n, os, hp, hs, rfl⟩
  have hz : d'.size = l.length := hp.1
  obtain ⟨h1, h2⟩ := hback _ d' hz ⟨n, os, rfl⟩
  refine ⟨rfl, d'.toList, by simpa using perm_list hp, sorted_list (by rw [hz]; exact hs), h1, h2⟩
theorem stable_nil (A : Option Addr) (c : Nat) (w : World) : Calls Tryz.prog 81 #[.slice A 0 c, .int .i64 0, .func (.func 65) #[] #[]] w fun e w' => e = .returned (.tuple #[]) ∧ w' = w := by
 have mixed : Tryz.prog.follows .mixedOrders = true := by kernel_rfl
 have hp := fun W => AnyF.insertionSortCmpFunc_none (P := Tryz.prog) (ρ := Tryz.sortCh_ren) { Tryz.sortCh with } A c (.func (.func 65) #[] #[]) W
 go_enter Tryz.func81, Tryz.ntmps81
 go_wp2
 go_loopg [7, 8] 0 (fun kx s7 s8 wr => s7 = .int .i64 0 ∧ s8 = .int .i64 20 ∧ wr = w)
 case atStart => exact ⟨rfl, rfl, rfl⟩
 case round =>
  obtain ⟨rfl, rfl, rfl⟩ := hrel
  go_wp2_with (go_at_call 93; refine (hp _).mono ?_; rintro e w' ⟨rfl, rfl⟩)
  go_loopg [6] 0 (fun kx s6 wz => s6 = .int .i64 20 ∧ wz = w')
  case atStart => exact ⟨rfl, rfl⟩
  case round =>
   obtain ⟨rfl, rfl⟩ := hrel
   go_wp2
   first | go_end0 | go_ret | ((try simp only [Exit.inBlock, Exit.then]); refine bodyPost_ret (results_none rfl _ _ _) rfl ?_)
   exact ⟨rfl, rfl⟩
set_option maxHeartbeats 1000000 in
theorem stableTop (A : Option Addr) (n c : Nat) (w : World) (Q : Ending → World → Prop) (h : Calls Tryz.prog 81 #[.slice A n c, .int .i64 n, .func (.func 65) #[] #[]] w fun e w' => e = .returned (.tuple #[]) ∧ Q e w') :
  Calls Tryz.prog 64 #[.slice A n c, .func (.func 65) #[] #[]] w Q := by
 have H := Aside0.mk h
 clear h
 go_enter Tryz.func64, Tryz.ntmps64
 go_wp2_with (go_at_call 81; refine H.out.mono ?_; rintro e w' ⟨rfl, hq⟩; have HQ := Aside0.mk hq; clear hq)
 go_end0
 exact HQ.out
theorem sortStable {w : World} {base : Nat} {ok : Nat → Prop} {v : Value} {l : List Ch} (h : kCh.R 86 w base ok v l) (hl : l.length ≤ 1000000) :
  Calls Tryz.prog 64 #[v, .func (.func 65) #[] #[]] w fun e w' => e = .returned (.tuple #[]) ∧ Laid w base ok v l w' := by
 by_cases hx : l = []
 ·
  subst hx
  obtain ⟨A, c, rfl⟩ := Kd.R_slice h
  refine stableTop A 0 c w _ ((stable_nil A c w).mono ?_)
  rintro e w' ⟨rfl, rfl⟩
  exact ⟨rfl, rfl, [], .refl _, .nil, h, World.grownBy.refl _ _⟩
 ·
  obtain ⟨g, cap, rfl, hg, hb, hok, hH, hback⟩ := flatCh.row h hx
  refine stableTop _ l.length cap w _ ((stable 2 isAggCh sizeCh encCh cfCh 65 #[] g 0 cap l.length l.length l.toArray l.toArray w w rfl enter1 (fun _ _ _ _ x y => clos1 x y _) ⟨fun _ => rfl, flatCh.one, hH, hg⟩ (by simp) (by simp) (SWK.start hH) swoCh hl).mono ?_)
  rintro e w' ⟨rfl, d', hp, hs, hS⟩
  have hp' : PermIn 0 l.toArray.size l.toArray d' := by simpa using hp
  have hz : d'.size = l.length := by simpa using hp.1
  obtain ⟨h1, h2⟩ := hback _ d' hz hS
  exact ⟨rfl, rfl, d'.toList, by simpa using perm_list hp', sorted_list (by rw [hz]; exact hs), h1, h2⟩
end Go.Proofs.YtcmdcgghpkcchaaGreatDoor.Lay


/- changes and swept, walked: over whatever sorted permutation the sorts lay. -/
namespace Go.Proofs.YtcmdcgghpkcchaaGreatDoor.Lay
set_option linter.unusedVariables false
set_option linter.unusedSimpArgs false
open Go.RowKit Go.Proofs.YtcmdcgghpkcchaaGreatDoor.XMast Go.Proofs.YtcmdcgghpkcchaaGreatDoorW.PrintWords Go.Proofs.YtcmdcgghpkcchaaGreatDoorW.PrintLast Go.Proofs.YtcmdcgghpkcchaaGreatDoorW.PrintMore
section
variable {P : Program} {ops : Array Oper} {rest : List Oper} {o : Oper} {a : Act} {Q : Exit → Act → World → Prop}
theorem append_two {w0 W : World} (base : Nat) (hgd : o.guard = none) (s x : Operand) (t e : TypeId) (z : Value) (size bytes : Nat)
  (ho : o.op = .call { callee := .builtin .append, args := #[s, x], argTypes := #[t, t] })
  (ht : P.underlying t = some (.slice e)) (hinfo : (P.info? e).map (fun i => (i.zero, i.size, i.bytes)) = some (some z, size, bytes)) (hz : z.cells.size = size) (hs0 : 0 < size) (hb0 : 0 < bytes)
  (v : Value) (n : Nat) (xs ys : List Value) (hs : a.eval s = v) (hx : a.eval x = .slice (some ⟨W.heap.size, 0, none⟩) 2 2) (hys : ys.length = 2 * size) (h1 : ∀ u ∈ ys, u.oneCell' = true)
  (HO : W.ownsRow base e size v n xs) (HB : Below base w0 W) (hbase : base ≤ W.heap.size) (hl : (n + 2) * bytes ≤ 140737488355328)
  (h : ∀ v1 w1, w1.ownsRow base e size v1 (n + 2) (xs ++ ys) → Below base w0 w1 → wpList P ops Q rest (a.put o.dst v1) w1) :
  wpList P ops Q (o :: rest) a (W.alloc (.cells ys.toArray e)) := by
 obtain ⟨i0, hi, hzz⟩ := Option.map_eq_some_iff.1 hinfo
 simp only [Prod.mk.injEq] at hzz
 obtain ⟨hz0, hz1, hz2⟩ := hzz
 have hlen : n + 2 ≤ 140737488355328 := Nat.le_trans (Nat.le_mul_of_pos_right _ hb0) hl
 refine wpList_append_own_at (W.alloc (.cells ys.toArray e)) hgd s x t ho base e i0 z size bytes ht hi hz0 hz1 hz2 hz hs0 v n xs hs (HO.alloc _) ⟨W.heap.size, 0, none⟩ 2 2 ys hx hys
  (by simpa using World.news_of_block (cs := ys.toArray) (t := e) (fr := (0, 0)) (heap_alloc_new W (.cells ys.toArray e))) h1 (by simp only [maxLen]; omega) hl (by simp; omega) ?_
 intro v1 w1 hown hg _ hat
 exact h v1 w1 hown ((HB.alloc hbase _).grown hg (by simp; omega) (own_base HO))
end
theorem infoCh : (Tryz.prog.info? 86).map (fun i => (i.zero, i.size, i.bytes)) = some (some (.agg #[(.int .i64 0), (.int .i64 0)]), 2, 16) := by kernel_rfl
theorem rd_take {l : List St} {x : Int} (h0 : 0 ≤ x) (h1 : x < (l.length : Int)) : l.take (x + 1).toNat = l.take x.toNat ++ [rd_T38 l x] := by
 have e : (x + 1).toNat = x.toNat + 1 := by omega
 have h : x.toNat < l.length := by omega
 rw [e, List.take_succ_eq_append_getElem h]
 simp [rd_T38, List.getD_eq_getElem?_getD, h]
def Chd (l : List St) (n : Int) (w : World) (e : Ending) (w' : World) : Prop := ∃ v ys, e = .returned v ∧ ys.Perm (chg n l) ∧ Sorted ys ∧ kCh.R 86 w' w.heap.size (fun _ => True) v ys ∧ Below w.heap.size w w'
set_option maxHeartbeats 4000000 in
set_option maxRecDepth 100000 in
theorem changes (A0 : Option Addr) (c0 : Nat) (l : List St) (n : Int) (w : World) (hr0 : Kd.C k38 w A0 l.length l) (hc0 : l.length ≤ c0) (hl : l.length ≤ 1000) (hn : n = 1 ∨ n = 2) :
  Calls Tryz.prog 46 #[.slice A0 l.length c0, .int .i64 n] w (Chd l n w) := by
 have HR := Aside0.mk hr0
 have hu := Tryz.underlying38
 have hu2 := Tryz.underlying86
 clear hr0
 have hnb : -2 ≤ n ∧ n ≤ 2 := by omega
 have HN := Aside0.mk hn
 clear hn
 have hown0 : Aside0 (w.ownsRow w.heap.size 86 2 (.slice none 0 0) 0 []) := ⟨own_nil _ _ _ _⟩
 go_enter Tryz.func46, Tryz.ntmps46
 go_wp2
 go_loopg [5, 10] l.length (fun kq v5 v10 w' => ∃ x : Int, v10 = .int .i64 x ∧ Aside0 (0 ≤ x ∧ x ≤ l.length) ∧ Aside0 (kq = l.length - x.toNat) ∧ Aside0 (w'.ownsRow w.heap.size 86 2 v5 (2 * x.toNat) ((chg n (l.take x.toNat)).flatMap encCh)) ∧ Aside0 (Below w.heap.size w w'))
 case atStart => exact ⟨0, rfl, ⟨by omega, by omega⟩, ⟨rfl⟩, hown0, ⟨Below.refl _ _⟩⟩
 case round =>
  clear hown0
  obtain ⟨x, rfl, HI, HK, HO, HB⟩ := hrel
  obtain ⟨A5, c5, rfl⟩ := own_slice HO.out
  by_cases hlt : x < (l.length : Int)
  ·
   have h1 : decide (x < (l.length : Int)) = true := decide_eq_true hlt
   have p1 : 0 ≤ x := HI.out.1
   have HR0 := Aside0.mk (Kd.C_below HR.out HB.out)
   obtain ⟨ad, e1, hx0, hx1⟩ := at_T38 HR0.out x p1 hlt
   cases e1
   have HX := Aside0.mk (And.intro p1 hlt)
   have HT := Aside0.mk (rd_take (l := l) p1 hlt)
   replace p1 := eq_true p1
   replace hlt := eq_true hlt
   generalize rd_T38 l x = X at *
   have e2 : Aside0 (2 * (x + 1).toNat = 2 * x.toNat + 2) := ⟨by have := HX.out; omega⟩
   have e3 : Aside0 (2 * x.toNat ≤ 2000) := ⟨by have := HX.out; omega⟩
   go_wp2_with ((at_builtin; refine append_two (w0 := w) w.heap.size rfl (.tmp 14) (.tmp 24) 68 86 (.agg #[.int .i64 0, .int .i64 0]) 2 16 rfl Tryz.underlying68 infoCh rfl (by decide) (by omega) (.slice A5 (2 * x.toNat) c5) (2 * x.toNat) _ [.int .i64 X.f0, .int .i64 n, .int .i64 X.f1, .int .i64 (-n)] rfl ?hx rfl ?h1 (HO.out.alloc _) ?hb ?hs ?hl ?_; (case hx => first | (go_simp; done) | (go_simp; rfl)); (case h1 => (intro u hu; simp at hu; rcases hu with rfl | rfl | rfl | rfl <;> rfl)); (case hb => exact below_alloc HB.out _); (case hs => exact below_size (below_alloc HB.out _)); (case hl => have := e3.out; omega); intro v1 w1 hown hb1; have HO2 := Aside0.mk hown; have HB2 := Aside0.mk hb1; clear hown hb1))
   go_roundg (l.length - (x + 1).toNat)
   case measure => have := HX.out; have := HK.out; omega
   case rel =>
    have hw : wrap64 (x + 1) = x + 1 := by unfold wrap64; have := HX.out; omega
    refine ⟨x + 1, by first | rfl | rw [hw], ⟨by have := HX.out; omega, by have := HX.out; omega⟩, ⟨rfl⟩, ⟨?_⟩, HB2⟩
    rw [e2.out, HT.out, chg_snoc, List.flatMap_append]
    exact HO2.out
  ·
   have h1 : decide (x < (l.length : Int)) = false := decide_eq_false hlt
   have ex : x.toNat = l.length := by have := HI.out; omega
   have hR : Aside0 (kCh.R 86 wr w.heap.size (fun _ => True) (.slice A5 (2 * x.toNat) c5) (chg n l)) := ⟨by
    refine ⟨fun _ _ => trivial, (chg n l).flatMap encCh, ?_, flatCh.reps_mk _ _ _ _⟩
    have := HO.out
    rw [ex, List.take_length] at this
    rw [chg_length, ex]
    exact this⟩
   have hln : Aside0 ((chg n l).length ≤ 1000000) := ⟨by rw [chg_length]; omega⟩
   clear ex
   go_wp2_with (go_at_call 67; refine (sortFunc hR.out hln.out).mono ?_; rintro e w' ⟨rfl, hLd⟩; have HL := Aside0.mk hLd; clear hLd)
   go_ret
   obtain ⟨ys, hp, hs, hr, hg⟩ := HL.out
   exact ⟨_, ys, rfl, hp, hs, hr, HB.out.grown hg (below_size HB.out) (fun j hj => own_base HO.out j hj)⟩
def fin (o : List St) : List St × Int := if o.length > 60 then ([], 4) else (o, 0)
def Swd (r : List St × Int) (v : Value) (w : World) (e : Ending) (w' : World) : Prop := ∃ v0, e = .returned (.tuple #[v0, .int .i64 r.2]) ∧ k38.R 38 w' w.heap.size (fun _ => True) v0 r.1 ∧ w.grownBy w' v.ownBlock
theorem Flat.reok {α : Type} [Inhabited α] {enc : α → List Value} {k : Nat} {d : Kd α} (F : Flat d enc k) {e : Nat} {w : World} {base : Nat} {ok ok' : Nat → Prop} {v : Value} {xs : List α} (h : d.R e w base ok v xs) (hok : ∀ k, v.ownBlock = some k → ok' k) : d.R e w base ok' v xs := by
 obtain ⟨_, inner, ho, hr⟩ := h
 rw [F.sz] at hr
 obtain rfl := F.reps hr
 exact ⟨hok, _, ho, by rw [F.sz]; exact F.reps_mk _ _ _ _⟩
theorem rdCh_get {l : List Ch} {x : Int} (h0 : 0 ≤ x) (h1 : x < (l.length : Int)) : l.drop x.toNat = rdCh l x :: l.drop (x + 1).toNat ∧ (l.drop x.toNat).head? = some (rdCh l x) := by
 have e : (x + 1).toNat = x.toNat + 1 := by omega
 have h : x.toNat < l.length := by omega
 have e2 : rdCh l x = l[x.toNat] := by simp [rdCh, List.getD_eq_getElem?_getD, h]
 rw [e, List.drop_eq_getElem_cons h, e2]
 exact ⟨rfl, rfl⟩
end Go.Proofs.YtcmdcgghpkcchaaGreatDoor.Lay


/- swept, walked. -/
namespace Go.Proofs.YtcmdcgghpkcchaaGreatDoor.Lay
set_option linter.unusedVariables false
set_option linter.unusedSimpArgs false
open Go.RowKit Go.Proofs.YtcmdcgghpkcchaaGreatDoor.XMast Go.Proofs.YtcmdcgghpkcchaaGreatDoorW.PrintWords Go.Proofs.YtcmdcgghpkcchaaGreatDoorW.PrintLast Go.Proofs.YtcmdcgghpkcchaaGreatDoorW.PrintMore
def SwdP (p : Int → Bool) (l : List Ch) (v : Value) (w : World) (e : Ending) (w' : World) : Prop := ∃ ys, ys.Perm l ∧ Sorted ys ∧ Swd (fin (swept p ys)) v w e w'
theorem grown_below {w W W1 : World} {row : Option Nat} (h : w.grownBy W row) (hb : Below W.heap.size W W1) : w.grownBy W1 row := h.trans (grown_of_below hb row)
theorem grown_drew {w W : World} {row : Option Nat} (h : w.grownBy W row) (n : Nat) : w.grownBy (W.drewN n) row := ⟨h.os, h.tape, h.output, h.size, h.block⟩
theorem grown_new {w W W1 : World} {row r2 : Option Nat} (h : w.grownBy W row) (hg : W.grownBy W1 r2) (hr : ∀ k, r2 = some k → w.heap.size ≤ k) : w.grownBy W1 row :=
 ⟨hg.os.trans h.os, hg.tape.trans h.tape, hg.output.trans h.output, Nat.le_trans h.size hg.size, fun i hi hne => (hg.block i (Nat.lt_of_lt_of_le hi h.size) (fun e => by have := hr i e.symm; omega)).trans (h.block i hi hne)⟩
theorem swept_of {p : Int → Bool} {ys : List Ch} {fr0 fr : Int} {out : List St} (h : sweep p ys 0 fr0 [] = (fr, out)) (h0 : fr0 = if p 0 = true then 0 else -1) : swept p ys = if 0 ≤ fr ∧ fr < 100000 then out ++ [⟨fr, 100000⟩] else out := by
 unfold swept
 rw [← h0, h]
set_option maxHeartbeats 16000000 in
set_option maxRecDepth 100000 in
theorem sweptW (c : Nat) (cs : Array Value) (p : Int → Bool) (v : Value) (l : List Ch) (base : Nat) (ok : Nat → Prop) (w : World) (hv : kCh.R 86 w base ok v l) (hl : l.length ≤ 1000) (hlt_ : ∀ k, v.ownBlock = some k → k < w.heap.size)
  (he : ∀ (vs : Array Value) (W : World), (callFunc c vs).run Tryz.prog W = .ok (.enter c vs) W)
  (hf : ∀ (lv : Int) (W : World), w.grownBy W v.ownBlock → Calls Tryz.prog c (#[.int .i64 lv] ++ cs) W fun e w' => e = .returned (.bool (p lv)) ∧ Below W.heap.size W w') :
  Calls Tryz.prog 45 #[v, .func (.func c) #[] cs] w (SwdP p l v w) := by
 have hu := Tryz.underlying38
 have hu2 := Tryz.underlying86
 obtain ⟨A, cc, hvs⟩ := Kd.R_slice hv
 have HVS := Aside0.mk hvs
 have HV := Aside0.mk hv
 have HF := Aside0.mk hf
 have HLT := Aside0.mk hlt_
 subst hvs
 clear hv hf hlt_
 cases hp0 : p 0
 all_goals
  have HP0 := Aside0.mk hp0
  clear hp0
  go_enter Tryz.func45, Tryz.ntmps45
  go_wp2_with (first
   | (go_at_call 64; refine (sortStable HV.out (by omega)).mono ?_; rintro e w1 ⟨rfl, hLd⟩; obtain ⟨ys, hpy, hsy, hry, hgy⟩ := hLd; have HPY := Aside0.mk hpy; have HSY := Aside0.mk hsy; have HRY := Aside0.mk (Flat.reok flatCh hry (ok' := fun j => Value.ownBlock (.slice A l.length cc) = some j) (fun _ h => h)); have HG1 := Aside0.mk hgy; clear hpy hsy hry hgy)
   | (go_simp; with_reducible refine (HF.out 0 _ HG1.out).mono ?_; rintro e w2 ⟨rfl, hb⟩; have HG2 := Aside0.mk (grown_below HG1.out hb); have HRY2 := Aside0.mk (Kd.R_below HRY.out hb); rw [HP0.out]; clear hb HG1 HRY))
  obtain ⟨fr0, hfr0⟩ : ∃ fr0 : Int, fr0 = if p 0 = true then 0 else -1 := ⟨_, rfl⟩
  have hfr1 := hfr0
  rw [HP0.out] at hfr1
  simp only [if_true, Bool.false_eq_true, if_false] at hfr1
  have HFR := Aside0.mk hfr0
  have HFR1 := Aside0.mk hfr1
  clear hfr0 hfr1
  obtain ⟨RES, hRES⟩ : ∃ RES, RES = sweep p ys 0 fr0 [] := ⟨_, rfl⟩
  have HRES := Aside0.mk hRES
  clear hRES
  have HN : Aside0 (ys.length = l.length) := ⟨HPY.out.length_eq⟩
  go_loopg [6, 7, 8, 18] l.length (fun kq v6 v7 v8 v18 w' => ∃ (x lv fr : Int) (out : List St), v7 = .int .i64 lv ∧ v8 = .int .i64 fr ∧ v18 = .int .i64 x ∧ Aside0 (0 ≤ x ∧ x ≤ l.length) ∧ Aside0 (kq = l.length - x.toNat) ∧ Aside0 (sweep p (ys.drop x.toNat) lv fr out = RES) ∧ Aside0 (out.length ≤ x.toNat) ∧ Aside0 (k38.R 38 w' w.heap.size (fun _ => True) v6 out) ∧ Aside0 (kCh.R 86 w' base (fun j => Value.ownBlock (.slice A l.length cc) = some j) (.slice A l.length cc) ys) ∧ Aside0 (w.grownBy w' (Value.ownBlock (.slice A l.length cc))))
  case atStart => exact ⟨0, 0, fr0, [], rfl, by rw [HFR1.out], rfl, ⟨by omega, by omega⟩, ⟨rfl⟩, ⟨HRES.out.symm⟩, ⟨by simp⟩, ⟨Kd.R_nil _ _ _ _ _⟩, HRY2, HG2⟩
  case round =>
   clear HRY2 HG2
   obtain ⟨x, lv, fr, out, rfl, rfl, rfl, HI, HK, HS, HOL, HO, HRY, HG⟩ := hrel
   by_cases hlt : x < (l.length : Int)
   ·
    have h1 : decide (x < (l.length : Int)) = true := decide_eq_true hlt
    have p1 : 0 ≤ x := HI.out.1
    obtain ⟨A', c', e2, hc2, hread⟩ := Kd.R_reads HRY.out
    have e2' : A = A' := by injection e2
    subst e2'
    rw [HN.out] at hread
    have HRD := Aside0.mk hread
    clear hread hc2 e2
    obtain ⟨ad, e1, hx0, hx1⟩ := atCh HRD.out x p1 hlt
    cases e1
    obtain ⟨hd1, hd2⟩ := rdCh_get (l := ys) p1 (by rw [HN.out]; exact hlt)
    have p2 : (x : Int) ≤ 1000 := by omega
    have hs := HS.out
    rw [hd1, sweep] at hs
    obtain ⟨X, hX⟩ : ∃ X, X = rdCh ys x := ⟨_, rfl⟩
    rw [← hX] at hx0 hx1 hs
    clear hX hd1 hd2
    obtain ⟨A6, c6, e6⟩ := Kd.R_slice HO.out
    subst e6
    have HSS := Aside0.mk hs
    clear hs HS
    go_wp2_with (fail)
    obtain ⟨w1, hw1⟩ : ∃ w1, w1 = wr.alloc (.cells #[.int .i64 X.f0, .int .i64 X.f1] 86) := ⟨_, rfl⟩
    have B1 : Aside0 (w1.heap[wr.heap.size]? = some (.cells #[.int .i64 X.f0, .int .i64 X.f1] 86 (0, 0))) := ⟨by rw [hw1]; exact blk_new _ _⟩
    have HO1 : Aside0 (k38.R 38 w1 w.heap.size (fun _ => True) (.slice A6 out.length c6) out) := ⟨by rw [hw1]; exact Kd.R_below HO.out (below_alloc (Below.refl _ _) _)⟩
    have HRY1 : Aside0 (kCh.R 86 w1 base (fun j => Value.ownBlock (.slice (some ad) l.length cc) = some j) (.slice (some ad) l.length cc) ys) := ⟨by rw [hw1]; exact Kd.R_below HRY.out (below_alloc (Below.refl _ _) _)⟩
    have HRD1 : Aside0 (Kd.C kCh w1 (some ad) l.length ys) := ⟨by rw [hw1]; exact Kd.C_below HRD.out (below_alloc (Below.refl _ _) _)⟩
    have HG1 : Aside0 (w.grownBy w1 (Value.ownBlock (.slice (some ad) l.length cc))) := ⟨by rw [hw1]; exact grown_below HG.out (below_alloc (Below.refl _ _) _)⟩
    rw [← hw1]
    clear hw1 HO HRY HG HRD hx0 hx1
    generalize wr.heap.size = gb at B1 ⊢
    have hss := HSS.out
    generalize wrap64 (lv + X.f1) = lz at hss ⊢
    clear HSS
    have k0 := blkc B1.out 0 (.int .i64 X.f0) rfl
    have rw1 : IntKind.i64.wrap (x + 1) = x + 1 := by rw [IntKind.wrap_i64]; omega
    by_cases hn : x + 1 < (l.length : Int)
    ·
     have hn1 : decide (x + 1 < (l.length : Int)) = true := decide_eq_true hn
     have q1 : (0 : Int) ≤ x + 1 := by omega
     obtain ⟨ad', e1, hy0, hy1⟩ := atCh HRD1.out (x + 1) q1 hn
     have e1' : ad = ad' := by injection e1
     subst e1'
     clear e1
     obtain ⟨hd1, hd2⟩ := rdCh_get (l := ys) q1 (by rw [HN.out]; exact hn)
     obtain ⟨Y, hY⟩ : ∃ Y, Y = rdCh ys (x + 1) := ⟨_, rfl⟩
     rw [← hY] at hy0 hy1 hd2
     clear hY hd1
     by_cases heq : Y.f0 = X.f0
     ·
      have b2 : (Y.f0 == X.f0) = true := by simp [heq]
      rw [if_pos (by rw [hd2]; simp [heq])] at hss
      have HS2 := Aside0.mk hss
      clear hss heq hd2
      go_quiet (fail)
      have B2 := Aside0.mk (blk_drewN B1.out nq)
      have HO2 := Aside0.mk (Kd.R_drewN HO1.out nq)
      have HRY2 := Aside0.mk (Kd.R_drewN HRY1.out nq)
      have HG2 := Aside0.mk (grown_drew HG1.out nq)
      clear B1 HO1 HRY1 HG1 HRD1 k0
      generalize w1.drewN nq = w2 at B2 HO2 HRY2 HG2 ⊢
      go_wp2
      go_roundg (l.length - (x + 1).toNat)
      case measure => have := HI.out; have := HK.out; omega
      case rel => exact ⟨x + 1, lz, fr, out, rfl, rfl, by first | rfl | (rw [show wrap64 (x + 1) = x + 1 by unfold wrap64; omega]), ⟨by omega, by omega⟩, ⟨rfl⟩, HS2, ⟨by have := HOL.out; omega⟩, HO2, HRY2, HG2⟩
     ·
      have b2 : (Y.f0 == X.f0) = false := by simp [heq]
      rw [if_neg (by rw [hd2]; simp [heq])] at hss
      clear heq hd2
      have HSS := Aside0.mk hss
      clear hss
      go_quiet (fail)
      have B2 := Aside0.mk (blk_drewN B1.out nq)
      have HO2 := Aside0.mk (Kd.R_drewN HO1.out nq)
      have HRY2 := Aside0.mk (Kd.R_drewN HRY1.out nq)
      have HG2 := Aside0.mk (grown_drew HG1.out nq)
      clear B1 HO1 HRY1 HG1 HRD1 k0
      generalize w1.drewN nq = w2 at B2 HO2 HRY2 HG2 ⊢
      clear b2 hy0 hy1 rw1
      have HPLL : ∃ b, p lz = b := ⟨_, rfl⟩
      cases hpl : p lz with
      | true =>
       have HPL := Aside0.mk hpl
       clear hpl
       have hs := HSS.out
       rw [if_pos HPL.out] at hs
       by_cases hfr : fr < 0
       ·
        rw [if_pos hfr] at hs
        have HS2 := Aside0.mk hs
        clear hs
        go_wp2_with ((go_simp; with_reducible refine (HF.out lz _ HG2.out).mono ?_; rintro e w3 ⟨rfl, hb⟩; have HG3 := Aside0.mk (grown_below HG2.out hb); have HO3 := Aside0.mk (Kd.R_below HO2.out hb); have HRY3 := Aside0.mk (Kd.R_below HRY2.out hb); have B3 := Aside0.mk ((hb.block gb (blk_lt B2.out)).trans B2.out); have k0 := blkc B3.out 0 (.int .i64 X.f0) rfl; rw [HPL.out]; clear hb HG2 HO2 HRY2 B2))
        go_roundg (l.length - (x + 1).toNat)
        case measure => have := HI.out; have := HK.out; omega
        case rel => exact ⟨x + 1, lz, X.f0, out, rfl, rfl, by first | rfl | (rw [show wrap64 (x + 1) = x + 1 by unfold wrap64; omega]), ⟨by omega, by omega⟩, ⟨rfl⟩, HS2, ⟨by have := HOL.out; omega⟩, HO3, HRY3, HG3⟩
       ·
        rw [if_neg hfr] at hs
        have HS2 := Aside0.mk hs
        clear hs
        go_wp2_with ((go_simp; with_reducible refine (HF.out lz _ HG2.out).mono ?_; rintro e w3 ⟨rfl, hb⟩; have HG3 := Aside0.mk (grown_below HG2.out hb); have HO3 := Aside0.mk (Kd.R_below HO2.out hb); have HRY3 := Aside0.mk (Kd.R_below HRY2.out hb); have B3 := Aside0.mk ((hb.block gb (blk_lt B2.out)).trans B2.out); have k0 := blkc B3.out 0 (.int .i64 X.f0) rfl; rw [HPL.out]; clear hb HG2 HO2 HRY2 B2))
        go_roundg (l.length - (x + 1).toNat)
        case measure => have := HI.out; have := HK.out; omega
        case rel => exact ⟨x + 1, lz, fr, out, rfl, rfl, by first | rfl | (rw [show wrap64 (x + 1) = x + 1 by unfold wrap64; omega]), ⟨by omega, by omega⟩, ⟨rfl⟩, HS2, ⟨by have := HOL.out; omega⟩, HO3, HRY3, HG3⟩
      | false =>
       have HPL := Aside0.mk hpl
       have hs := HSS.out
       rw [if_neg (by rw [hpl]; decide)] at hs
       clear hpl
       by_cases hfr : fr < 0
       ·
        rw [if_pos hfr] at hs
        have HS2 := Aside0.mk hs
        clear hs
        go_wp2_with ((go_simp; with_reducible refine (HF.out lz _ HG2.out).mono ?_; rintro e w3 ⟨rfl, hb⟩; have HG3 := Aside0.mk (grown_below HG2.out hb); have HO3 := Aside0.mk (Kd.R_below HO2.out hb); have HRY3 := Aside0.mk (Kd.R_below HRY2.out hb); have B3 := Aside0.mk ((hb.block gb (blk_lt B2.out)).trans B2.out); have k0 := blkc B3.out 0 (.int .i64 X.f0) rfl; rw [HPL.out]; clear hb HG2 HO2 HRY2 B2))
        go_roundg (l.length - (x + 1).toNat)
        case measure => have := HI.out; have := HK.out; omega
        case rel => exact ⟨x + 1, lz, fr, out, rfl, rfl, by first | rfl | (rw [show wrap64 (x + 1) = x + 1 by unfold wrap64; omega]), ⟨by omega, by omega⟩, ⟨rfl⟩, HS2, ⟨by have := HOL.out; omega⟩, HO3, HRY3, HG3⟩
       ·
        rw [if_neg hfr] at hs
        have hfr' : 0 ≤ fr := by omega
        by_cases hgt : X.f0 > fr
        ·
         rw [if_pos hgt] at hs
         have HS2 := Aside0.mk hs
         clear hs
         have hol : (out.length + 1) * 16 ≤ 140737488355328 := by have := HOL.out; have := HI.out; omega
         have HLL := Aside0.mk hol
         clear hol
         have HGB : Aside0 (∀ k, Value.ownBlock (.slice A6 out.length c6) = some k → w.heap.size ≤ k) := ⟨fun k hk => by obtain ⟨inner, ho⟩ := Kd.R_own HO2.out; exact own_base ho k hk⟩
         go_wp2_with (first | (go_simp; with_reducible refine (HF.out lz _ HG2.out).mono ?_; rintro e w3 ⟨rfl, hb⟩; have HG3 := Aside0.mk (grown_below HG2.out hb); have HO3 := Aside0.mk (Kd.R_below HO2.out hb); have HRY3 := Aside0.mk (Kd.R_below HRY2.out hb); have B3 := Aside0.mk ((hb.block gb (blk_lt B2.out)).trans B2.out); have k0 := blkc B3.out 0 (.int .i64 X.f0) rfl; rw [HPL.out]; clear hb HG2 HO2 HRY2 B2) | (at_builtin; refine Kd.R_append k38 (w0 := w3) w.heap.size rfl (.tmp 65) (.tmp 70) 29 38 (.agg #[.int .i64 0, .int .i64 0]) 16 rfl Tryz.underlying29 info38 rfl (by decide) (by omega) (.slice A6 out.length c6) out (⟨fr, X.f0⟩ : St) [.int .i64 fr, .int .i64 X.f0] (fun _ => True) (fun _ => False) rfl ?hx (k38_mkM _ _ _ _) (fun _ h => h.elim) (fun _ _ => trivial) HO3.out (Below.refl _ _) HG3.out.size HLL.out ?_; (case hx => first | (go_simp; done) | (go_simp; rfl)); intro v1 w4 ho1 hb1 hg1 hat1; have HO4 := Aside0.mk ho1; have HG4 := Aside0.mk (grown_new HG3.out hg1 HGB.out); have HRY4 := Aside0.mk (Kd.R_grown HRY3.out hg1 (fun k hk e => by have h1_ := HGB.out k e.symm; have h2_ := HLT.out k hk; omega)); clear ho1 hb1 hg1 hat1))
         go_roundg (l.length - (x + 1).toNat)
         case measure => have := HI.out; have := HK.out; omega
         case rel => exact ⟨x + 1, lz, -1, out ++ [⟨fr, X.f0⟩], rfl, rfl, by first | rfl | (rw [show wrap64 (x + 1) = x + 1 by unfold wrap64; omega]), ⟨by omega, by omega⟩, ⟨rfl⟩, HS2, ⟨by have := HOL.out; simp; omega⟩, HO4, HRY4, HG4⟩
        ·
         rw [if_neg hgt] at hs
         have HS2 := Aside0.mk hs
         clear hs
         go_wp2_with ((go_simp; with_reducible refine (HF.out lz _ HG2.out).mono ?_; rintro e w3 ⟨rfl, hb⟩; have HG3 := Aside0.mk (grown_below HG2.out hb); have HO3 := Aside0.mk (Kd.R_below HO2.out hb); have HRY3 := Aside0.mk (Kd.R_below HRY2.out hb); have B3 := Aside0.mk ((hb.block gb (blk_lt B2.out)).trans B2.out); have k0 := blkc B3.out 0 (.int .i64 X.f0) rfl; rw [HPL.out]; clear hb HG2 HO2 HRY2 B2))
         go_roundg (l.length - (x + 1).toNat)
         case measure => have := HI.out; have := HK.out; omega
         case rel => exact ⟨x + 1, lz, -1, out, rfl, rfl, by first | rfl | (rw [show wrap64 (x + 1) = x + 1 by unfold wrap64; omega]), ⟨by omega, by omega⟩, ⟨rfl⟩, HS2, ⟨by have := HOL.out; omega⟩, HO3, HRY3, HG3⟩
    ·
     have hn1 : decide (x + 1 < (l.length : Int)) = false := decide_eq_false hn
     have hd2 : (ys.drop (x + 1).toNat).head? = none := by
      have h2 : ys.length ≤ (x + 1).toNat := by have := HN.out; omega
      rw [List.drop_eq_nil_of_le h2]; rfl
     rw [if_neg (by rw [hd2]; simp)] at hss
     clear hd2
     have HSS := Aside0.mk hss
     clear hss
     go_quiet (fail)
     have B2 := Aside0.mk (blk_drewN B1.out nq)
     have HO2 := Aside0.mk (Kd.R_drewN HO1.out nq)
     have HRY2 := Aside0.mk (Kd.R_drewN HRY1.out nq)
     have HG2 := Aside0.mk (grown_drew HG1.out nq)
     clear B1 HO1 HRY1 HG1 HRD1 k0
     generalize w1.drewN nq = w2 at B2 HO2 HRY2 HG2 ⊢
     clear rw1
     have HPLL : ∃ b, p lz = b := ⟨_, rfl⟩
     cases hpl : p lz with
     | true =>
      have HPL := Aside0.mk hpl
      clear hpl
      have hs := HSS.out
      rw [if_pos HPL.out] at hs
      by_cases hfr : fr < 0
      ·
       rw [if_pos hfr] at hs
       have HS2 := Aside0.mk hs
       clear hs
       go_wp2_with ((go_simp; with_reducible refine (HF.out lz _ HG2.out).mono ?_; rintro e w3 ⟨rfl, hb⟩; have HG3 := Aside0.mk (grown_below HG2.out hb); have HO3 := Aside0.mk (Kd.R_below HO2.out hb); have HRY3 := Aside0.mk (Kd.R_below HRY2.out hb); have B3 := Aside0.mk ((hb.block gb (blk_lt B2.out)).trans B2.out); have k0 := blkc B3.out 0 (.int .i64 X.f0) rfl; rw [HPL.out]; clear hb HG2 HO2 HRY2 B2))
       go_roundg (l.length - (x + 1).toNat)
       case measure => have := HI.out; have := HK.out; omega
       case rel => exact ⟨x + 1, lz, X.f0, out, rfl, rfl, by first | rfl | (rw [show wrap64 (x + 1) = x + 1 by unfold wrap64; omega]), ⟨by omega, by omega⟩, ⟨rfl⟩, HS2, ⟨by have := HOL.out; omega⟩, HO3, HRY3, HG3⟩
      ·
       rw [if_neg hfr] at hs
       have HS2 := Aside0.mk hs
       clear hs
       go_wp2_with ((go_simp; with_reducible refine (HF.out lz _ HG2.out).mono ?_; rintro e w3 ⟨rfl, hb⟩; have HG3 := Aside0.mk (grown_below HG2.out hb); have HO3 := Aside0.mk (Kd.R_below HO2.out hb); have HRY3 := Aside0.mk (Kd.R_below HRY2.out hb); have B3 := Aside0.mk ((hb.block gb (blk_lt B2.out)).trans B2.out); have k0 := blkc B3.out 0 (.int .i64 X.f0) rfl; rw [HPL.out]; clear hb HG2 HO2 HRY2 B2))
       go_roundg (l.length - (x + 1).toNat)
       case measure => have := HI.out; have := HK.out; omega
       case rel => exact ⟨x + 1, lz, fr, out, rfl, rfl, by first | rfl | (rw [show wrap64 (x + 1) = x + 1 by unfold wrap64; omega]), ⟨by omega, by omega⟩, ⟨rfl⟩, HS2, ⟨by have := HOL.out; omega⟩, HO3, HRY3, HG3⟩
     | false =>
      have HPL := Aside0.mk hpl
      have hs := HSS.out
      rw [if_neg (by rw [hpl]; decide)] at hs
      clear hpl
      by_cases hfr : fr < 0
      ·
       rw [if_pos hfr] at hs
       have HS2 := Aside0.mk hs
       clear hs
       go_wp2_with ((go_simp; with_reducible refine (HF.out lz _ HG2.out).mono ?_; rintro e w3 ⟨rfl, hb⟩; have HG3 := Aside0.mk (grown_below HG2.out hb); have HO3 := Aside0.mk (Kd.R_below HO2.out hb); have HRY3 := Aside0.mk (Kd.R_below HRY2.out hb); have B3 := Aside0.mk ((hb.block gb (blk_lt B2.out)).trans B2.out); have k0 := blkc B3.out 0 (.int .i64 X.f0) rfl; rw [HPL.out]; clear hb HG2 HO2 HRY2 B2))
       go_roundg (l.length - (x + 1).toNat)
       case measure => have := HI.out; have := HK.out; omega
       case rel => exact ⟨x + 1, lz, fr, out, rfl, rfl, by first | rfl | (rw [show wrap64 (x + 1) = x + 1 by unfold wrap64; omega]), ⟨by omega, by omega⟩, ⟨rfl⟩, HS2, ⟨by have := HOL.out; omega⟩, HO3, HRY3, HG3⟩
      ·
       rw [if_neg hfr] at hs
       have hfr' : 0 ≤ fr := by omega
       by_cases hgt : X.f0 > fr
       ·
        rw [if_pos hgt] at hs
        have HS2 := Aside0.mk hs
        clear hs
        have hol : (out.length + 1) * 16 ≤ 140737488355328 := by have := HOL.out; have := HI.out; omega
        have HLL := Aside0.mk hol
        clear hol
        have HGB : Aside0 (∀ k, Value.ownBlock (.slice A6 out.length c6) = some k → w.heap.size ≤ k) := ⟨fun k hk => by obtain ⟨inner, ho⟩ := Kd.R_own HO2.out; exact own_base ho k hk⟩
        go_wp2_with (first | (go_simp; with_reducible refine (HF.out lz _ HG2.out).mono ?_; rintro e w3 ⟨rfl, hb⟩; have HG3 := Aside0.mk (grown_below HG2.out hb); have HO3 := Aside0.mk (Kd.R_below HO2.out hb); have HRY3 := Aside0.mk (Kd.R_below HRY2.out hb); have B3 := Aside0.mk ((hb.block gb (blk_lt B2.out)).trans B2.out); have k0 := blkc B3.out 0 (.int .i64 X.f0) rfl; rw [HPL.out]; clear hb HG2 HO2 HRY2 B2) | (at_builtin; refine Kd.R_append k38 (w0 := w3) w.heap.size rfl (.tmp 65) (.tmp 70) 29 38 (.agg #[.int .i64 0, .int .i64 0]) 16 rfl Tryz.underlying29 info38 rfl (by decide) (by omega) (.slice A6 out.length c6) out (⟨fr, X.f0⟩ : St) [.int .i64 fr, .int .i64 X.f0] (fun _ => True) (fun _ => False) rfl ?hx (k38_mkM _ _ _ _) (fun _ h => h.elim) (fun _ _ => trivial) HO3.out (Below.refl _ _) HG3.out.size HLL.out ?_; (case hx => first | (go_simp; done) | (go_simp; rfl)); intro v1 w4 ho1 hb1 hg1 hat1; have HO4 := Aside0.mk ho1; have HG4 := Aside0.mk (grown_new HG3.out hg1 HGB.out); have HRY4 := Aside0.mk (Kd.R_grown HRY3.out hg1 (fun k hk e => by have h1_ := HGB.out k e.symm; have h2_ := HLT.out k hk; omega)); clear ho1 hb1 hg1 hat1))
        go_roundg (l.length - (x + 1).toNat)
        case measure => have := HI.out; have := HK.out; omega
        case rel => exact ⟨x + 1, lz, -1, out ++ [⟨fr, X.f0⟩], rfl, rfl, by first | rfl | (rw [show wrap64 (x + 1) = x + 1 by unfold wrap64; omega]), ⟨by omega, by omega⟩, ⟨rfl⟩, HS2, ⟨by have := HOL.out; simp; omega⟩, HO4, HRY4, HG4⟩
       ·
        rw [if_neg hgt] at hs
        have HS2 := Aside0.mk hs
        clear hs
        go_wp2_with ((go_simp; with_reducible refine (HF.out lz _ HG2.out).mono ?_; rintro e w3 ⟨rfl, hb⟩; have HG3 := Aside0.mk (grown_below HG2.out hb); have HO3 := Aside0.mk (Kd.R_below HO2.out hb); have HRY3 := Aside0.mk (Kd.R_below HRY2.out hb); have B3 := Aside0.mk ((hb.block gb (blk_lt B2.out)).trans B2.out); have k0 := blkc B3.out 0 (.int .i64 X.f0) rfl; rw [HPL.out]; clear hb HG2 HO2 HRY2 B2))
        go_roundg (l.length - (x + 1).toNat)
        case measure => have := HI.out; have := HK.out; omega
        case rel => exact ⟨x + 1, lz, -1, out, rfl, rfl, by first | rfl | (rw [show wrap64 (x + 1) = x + 1 by unfold wrap64; omega]), ⟨by omega, by omega⟩, ⟨rfl⟩, HS2, ⟨by have := HOL.out; omega⟩, HO3, HRY3, HG3⟩
   ·
    have h1 : decide (x < (l.length : Int)) = false := decide_eq_false hlt
    have hs := HS.out
    rw [List.drop_eq_nil_of_le (by have := HN.out; omega), sweep] at hs
    have HE := Aside0.mk (swept_of (HRES.out.symm.trans hs.symm) HFR.out)
    clear hs HS
    obtain ⟨A6, c6, e6⟩ := Kd.R_slice HO.out
    subst e6
    have HGB : Aside0 (∀ k, Value.ownBlock (.slice A6 out.length c6) = some k → w.heap.size ≤ k) := ⟨fun k hk => by obtain ⟨inner, ho⟩ := Kd.R_own HO.out; exact own_base ho k hk⟩
    by_cases hf0 : 0 ≤ fr
    ·
     by_cases hf1 : fr < 100000
     ·
      have HE2 := HE.out
      rw [if_pos ⟨hf0, hf1⟩] at HE2
      have HE3 := Aside0.mk HE2
      clear HE HE2
      have hol : (out.length + 1) * 16 ≤ 140737488355328 := by have := HOL.out; have := HI.out; omega
      have HLL := Aside0.mk hol
      clear hol
      by_cases h60 : out.length + 1 > 60
      all_goals
       have h60' : Aside0 (List.length (out ++ [(⟨fr, 100000⟩ : St)]) = out.length + 1) := ⟨by simp⟩
       have hfin := congrArg fin HE3.out
       unfold fin at hfin
       rw [h60'.out] at hfin
       first | rw [if_pos h60] at hfin | rw [if_neg h60] at hfin
       have HFIN := Aside0.mk hfin
       clear hfin
       go_wp2_with ((at_builtin; refine Kd.R_append k38 (w0 := wr) w.heap.size rfl (.tmp 79) (.tmp 82) 29 38 (.agg #[.int .i64 0, .int .i64 0]) 16 rfl Tryz.underlying29 info38 rfl (by decide) (by omega) (.slice A6 out.length c6) out (⟨fr, 100000⟩ : St) [.int .i64 fr, .int .i64 100000] (fun _ => True) (fun _ => False) rfl ?hx (k38_mkM _ _ _ _) (fun _ h => h.elim) (fun _ _ => trivial) HO.out (Below.refl _ _) HG.out.size HLL.out ?_; (case hx => first | (go_simp; done) | (go_simp; rfl)); intro v1 wz ho1 hb1 hg1 hat1; obtain ⟨A7, c7, e7⟩ := Kd.R_slice ho1; subst e7; rw [h60'.out] at ho1; have HO4 := Aside0.mk ho1; have HG4 := Aside0.mk (grown_new HG.out hg1 HGB.out); have h60n := h60; (try rw [h60'.out]); clear ho1 hb1 hg1 hat1))
       go_ret2
       refine ⟨ys, HPY.out, HSY.out, ?_⟩
       rw [show fin (swept p ys) = _ from HFIN.out]
       first | exact ⟨_, rfl, HO4.out, HG4.out⟩ | exact ⟨_, rfl, Kd.R_nil _ _ _ _ _, HG4.out⟩
     ·
      have HE2 := HE.out
      rw [if_neg (by omega)] at HE2
      have HE3 := Aside0.mk HE2
      clear HE HE2
      by_cases h60 : out.length > 60
      all_goals
       have hfin := congrArg fin HE3.out
       unfold fin at hfin
       first | rw [if_pos h60] at hfin | rw [if_neg h60] at hfin
       have HFIN := Aside0.mk hfin
       clear hfin
       go_wp2
       go_ret2
       refine ⟨ys, HPY.out, HSY.out, ?_⟩
       rw [show fin (swept p ys) = _ from HFIN.out]
       first | exact ⟨_, rfl, HO.out, HG.out⟩ | exact ⟨_, rfl, Kd.R_nil _ _ _ _ _, HG.out⟩
    ·
     have HE2 := HE.out
     rw [if_neg (by omega)] at HE2
     have HE3 := Aside0.mk HE2
     clear HE HE2
     by_cases h60 : out.length > 60
     all_goals
      have hfin := congrArg fin HE3.out
      unfold fin at hfin
      first | rw [if_pos h60] at hfin | rw [if_neg h60] at hfin
      have HFIN := Aside0.mk hfin
      clear hfin
      go_wp2
      go_ret2
      refine ⟨ys, HPY.out, HSY.out, ?_⟩
      rw [show fin (swept p ys) = _ from HFIN.out]
      first | exact ⟨_, rfl, HO.out, HG.out⟩ | exact ⟨_, rfl, Kd.R_nil _ _ _ _ _, HG.out⟩
end Go.Proofs.YtcmdcgghpkcchaaGreatDoor.Lay

namespace Go.Proofs.YtcmdcgghpkcchaaGreatDoor.XMast
open Go.RowKit Go.Proofs.YtcmdcgghpkcchaaGreatDoorW.PrintWords Go.Proofs.YtcmdcgghpkcchaaGreatDoorW.PrintLast Go.Proofs.YtcmdcgghpkcchaaGreatDoorW.PrintMore
attribute [local go_sem] max2_int min2_int max_two min_two max_three min_three max_four min_four   -- for this text's walks alone
set_option linter.unusedVariables false
set_option linter.unusedSimpArgs false
/-! ### slices_ContainsFunc_api_Stretch_api_Stretch: function 62 -/
theorem slices_ContainsFunc_api_Stretch_api_Stretch.rd_get (l : List S38) (x : Int) (h0 : 0 ≤ x) (h1 : x < (l.length : Int)) : ∃ h : x.toNat < l.length, rd_T38 l x = l[x.toNat] := by
 have h : x.toNat < l.length := by omega
 exact ⟨h, by simp [rd_T38, List.getD_eq_getElem?_getD, h]⟩
set_option maxHeartbeats 2000000 in
set_option maxRecDepth 100000 in
theorem slices_ContainsFunc_api_Stretch_api_Stretch.index (c : Nat) (cs : Array Value) (p : S38 → Bool) (A0 : Option Addr) (c0 : Nat) (l0 : List S38) (w : World) (hr0 : Kd.C k38 w A0 l0.length l0) (hc0 : l0.length ≤ c0)
  (he : ∀ (vs : Array Value) (W : World), (callFunc c vs).run Tryz.prog W = .ok (.enter c vs) W)
  (hf : ∀ (x : S38), x ∈ l0 → ∀ (W : World), Below w.heap.size w W → Calls Tryz.prog c (#[.agg #[.int .i64 x.f0, .int .i64 x.f1]] ++ cs) W fun e w' => e = .returned (.bool (p x)) ∧ Below W.heap.size W w') :
  Calls Tryz.prog 80 #[.slice A0 l0.length c0, .func (.func c) #[] cs] w fun e w' => e = .returned (.int .i64 (Idx.idxFrom p l0)) ∧ Below w.heap.size w w' := by
 have hl : l0.length ≤ 9223372036854775807 := hr0.2.1
 have HR := Aside0.mk hr0
 have HF := Aside0.mk hf
 clear hr0 hf
 have hu := Tryz.underlying38
 go_enter Tryz.func80, Tryz.ntmps80
 go_wp2
 go_loopg [5, 8] l0.length (fun kq v5 v8 w' => ∃ x : Int, v8 = .int .i64 x ∧ Aside0 (0 ≤ x ∧ x ≤ l0.length ∧ ∀ j (h : j < l0.length), (j : Int) < x → p l0[j] = false) ∧ Aside0 (kq = l0.length - x.toNat) ∧ Aside0 (Below w.heap.size w w'))
 case atStart => exact ⟨0, rfl, ⟨by omega, by omega, fun _ _ h => by omega⟩, ⟨rfl⟩, ⟨Below.refl _ _⟩⟩
 case round =>
  obtain ⟨x, rfl, HI, HK, HB⟩ := hrel
  by_cases hlt : x < (l0.length : Int)
  ·
   have h1 : decide (x < (l0.length : Int)) = true := decide_eq_true hlt
   have p1 : 0 ≤ x := HI.out.1
   have HR0 := Aside0.mk (Kd.C_below HR.out HB.out)
   obtain ⟨ad, e1, hx0, hx1⟩ := at_T38 HR0.out x p1 hlt
   cases e1
   have HX := Aside0.mk (And.intro p1 hlt)
   have HM : Aside0 ((rd_T38 l0 x) ∈ l0) := ⟨by obtain ⟨h2, h3⟩ := slices_ContainsFunc_api_Stretch_api_Stretch.rd_get l0 x p1 hlt; rw [h3]; exact List.getElem_mem h2⟩
   replace p1 := eq_true p1
   replace hlt := eq_true hlt
   by_cases hp : p (rd_T38 l0 x) = true
   ·
    go_wp2_with (go_simp; with_reducible refine (HF.out (rd_T38 l0 x) HM.out _ HB.out).mono ?_; rintro e w' ⟨rfl, hb⟩; have HB2 := Aside0.mk hb; clear hb)
    go_ret
    obtain ⟨h2, h3⟩ := slices_ContainsFunc_api_Stretch_api_Stretch.rd_get l0 x HX.out.1 HX.out.2
    rw [h3] at hp
    refine ⟨?_, below_step HB.out HB2.out⟩
    rw [Idx.idxFrom_at h2 hp (fun j hj hl => HI.out.2.2 j hj (by omega)), Int.toNat_of_nonneg HX.out.1]; rfl
   ·
    replace hp := Bool.eq_false_iff.mpr hp
    go_wp2_with (go_simp; with_reducible refine (HF.out (rd_T38 l0 x) HM.out _ HB.out).mono ?_; rintro e w' ⟨rfl, hb⟩; have HB2 := Aside0.mk hb; clear hb)
    go_roundg (l0.length - (x + 1).toNat)
    case measure => have := HX.out; have := HK.out; omega
    case rel =>
     obtain ⟨h2, h3⟩ := slices_ContainsFunc_api_Stretch_api_Stretch.rd_get l0 x HX.out.1 HX.out.2
     have hw : wrap64 (x + 1) = x + 1 := by unfold wrap64; have := HX.out; omega
     refine ⟨x + 1, by first | rfl | rw [hw], ⟨by have := HX.out; omega, by have := HX.out; omega, fun j hj hl => ?_⟩, ⟨rfl⟩, ⟨below_step HB.out HB2.out⟩⟩
     by_cases hjx : (j : Int) < x
     ·
      exact HI.out.2.2 j hj hjx
     ·
      have : j = x.toNat := by omega
      subst this
      rw [← h3]; exact hp
  ·
   have h1 : decide (x < (l0.length : Int)) = false := decide_eq_false hlt
   go_wp2
   go_ret
   refine ⟨?_, HB.out⟩
   rw [Idx.idxFrom_none (fun j hj hl => HI.out.2.2 j hj (by omega))]; rfl
theorem slices_ContainsFunc_api_Stretch_api_Stretch.contains (c : Nat) (cs : Array Value) (p : S38 → Bool) (A0 : Option Addr) (c0 : Nat) (l0 : List S38) (w : World) (hr0 : Kd.C k38 w A0 l0.length l0) (hc0 : l0.length ≤ c0)
  (he : ∀ (vs : Array Value) (W : World), (callFunc c vs).run Tryz.prog W = .ok (.enter c vs) W)
  (hf : ∀ (x : S38), x ∈ l0 → ∀ (W : World), Below w.heap.size w W → Calls Tryz.prog c (#[.agg #[.int .i64 x.f0, .int .i64 x.f1]] ++ cs) W fun e w' => e = .returned (.bool (p x)) ∧ Below W.heap.size W w') :
  Calls Tryz.prog 62 #[.slice A0 l0.length c0, .func (.func c) #[] cs] w fun e w' => e = .returned (.bool (l0.any p)) ∧ Below w.heap.size w w' := by
 have HR0 := Aside0.mk hr0
 have HF := Aside0.mk hf
 clear hr0 hf
 have hz := Aside0.mk (Idx.idx_ge p l0)
 go_enter Tryz.func62, Tryz.ntmps62
 go_wp2_with (go_at_call 80; refine (slices_ContainsFunc_api_Stretch_api_Stretch.index c cs p _ _ l0 _ HR0.out hc0 he HF.out).mono ?_; rintro e w' ⟨rfl, hb⟩; have HB := Aside0.mk hb; clear hb)
 go_ret
 exact ⟨by rw [← hz.out]; rfl, HB.out⟩

/-! ### mast_raw: function 44 -/
theorem mast_raw.total (a b : Int) : ∃ r, mast_isStretch.f a b = some r := by
 unfold mast_isStretch.f mast_isAt.f
 repeat' first | exact ⟨_, rfl⟩ | split | (simp only [Option.bind_some])
def mast_raw.bad (x : S38) : Bool := !(mast_isStretch.f x.f0 x.f1 == some true)
set_option maxHeartbeats 2000000 in
set_option maxRecDepth 100000 in
theorem mast_raw.clos (x : S38) (w : World) :
  Calls Tryz.prog 63 #[.agg #[.int .i64 x.f0, .int .i64 x.f1]] w fun e w' => e = .returned (.bool (mast_raw.bad x)) ∧ Below w.heap.size w w' := by
 obtain ⟨b, hb⟩ := mast_raw.total x.f0 x.f1
 have H := Aside0.mk hb
 have e : mast_raw.bad x = !b := by unfold mast_raw.bad; rw [hb]; cases b <;> rfl
 rw [e]
 clear e hb
 have hu := Tryz.underlying38
 have hB := Aside0.mk (below_alloc (Below.refl w.heap.size w) (.cells #[.int .i64 x.f0, .int .i64 x.f1] 38))
 go_enter Tryz.func63, Tryz.ntmps63
 go_wp2_with (first | (go_at_call 29; (with_reducible refine (mast_isStretch.calls x.f0 x.f1 b _ H.out).mono ?_); rintro e w1 ⟨rfl, hb⟩; have HB := Aside0.mk (below_step hB.out hb); clear hb))
 go_ret
 exact ⟨rfl, HB.out⟩
theorem mast_raw.enter (vs : Array Value) (W : World) : (callFunc 63 vs).run Tryz.prog W = .ok (.enter 63 vs) W := enters_ Tryz.func63 (by kernel_rfl) (by kernel_rfl) vs W
def mast_raw.f (l0 : List S38) : Option Int := some (if (l0.length : Int) > 200 then 2 else if l0.any mast_raw.bad = true then 2 else 0)
set_option maxHeartbeats 4000000 in
set_option maxRecDepth 100000 in
theorem mast_raw.calls (A0 : Option Addr) (c0 : Nat) (l0 : List S38) (r : Int) (w : World) (hr0 : Kd.C k38 w A0 l0.length l0) (hc0 : l0.length ≤ c0) (h : mast_raw.f l0 = some r) :
  Calls Tryz.prog 44 #[.slice A0 l0.length c0] w fun e w' => e = .returned (.int .i64 r) ∧ Below w.heap.size w w' := by
 have HR := Aside0.mk hr0
 clear hr0
 obtain rfl := Option.some.inj h
 clear h
 by_cases h1 : (l0.length : Int) > 200
 ·
  rw [if_pos h1]
  have b1 : decide ((l0.length : Int) > 200) = true := decide_eq_true h1
  clear h1
  go_enter Tryz.func44, Tryz.ntmps44
  go_wp2
  go_ret
  exact ⟨rfl, Below.refl _ _⟩
 ·
  rw [if_neg h1]
  have b1 : decide ((l0.length : Int) > 200) = false := decide_eq_false h1
  clear h1
  cases h2 : l0.any mast_raw.bad with
  | true =>
   rw [if_pos rfl]
   have H2 := Aside0.mk h2
   clear h2
   go_enter Tryz.func44, Tryz.ntmps44
   go_wp2_with (go_at_call 62; (refine (slices_ContainsFunc_api_Stretch_api_Stretch.contains 63 #[] mast_raw.bad A0 c0 l0 _ HR.out hc0 mast_raw.enter (fun x _ W _ => mast_raw.clos x W)).mono ?_); rintro e w' ⟨rfl, hb⟩; have HB := Aside0.mk hb; clear hb; rw [H2.out])
   go_ret
   exact ⟨rfl, HB.out⟩
  | false =>
   rw [if_neg (by simp)]
   have H2 := Aside0.mk h2
   clear h2
   go_enter Tryz.func44, Tryz.ntmps44
   go_wp2_with (go_at_call 62; (refine (slices_ContainsFunc_api_Stretch_api_Stretch.contains 63 #[] mast_raw.bad A0 c0 l0 _ HR.out hc0 mast_raw.enter (fun x _ W _ => mast_raw.clos x W)).mono ?_); rintro e w' ⟨rfl, hb⟩; have HB := Aside0.mk hb; clear hb; rw [H2.out])
   go_ret
   exact ⟨rfl, HB.out⟩

/-! ### mast_Often: function 32 -/
theorem mast_Often.st {x : S38} (h : mast_raw.bad x = false) : Lay.isSt x := by
 unfold mast_raw.bad at h
 rw [Bool.not_eq_false'] at h
 have h1 := eq_of_beq h
 unfold mast_isStretch.f mast_isAt.f at h1
 unfold Lay.isSt
 by_cases c1 : x.f0 ≥ 0 <;> by_cases c2 : x.f0 ≤ 100000 <;> by_cases c3 : x.f1 ≥ 0 <;> by_cases c4 : x.f1 ≤ 100000 <;> simp [c1, c2, c3, c4] at h1 <;> omega
theorem mast_Often.raw0 {l : List S38} (h : mast_raw.f l = some 0) : l.length ≤ 200 ∧ ∀ x ∈ l, Lay.isSt x := by
 unfold mast_raw.f at h
 by_cases h1 : (l.length : Int) > 200
 ·
  rw [if_pos h1] at h; cases h
 ·
  rw [if_neg h1] at h
  by_cases h2 : l.any mast_raw.bad = true
  ·
   rw [if_pos h2] at h; cases h
  ·
   refine ⟨by omega, fun x hx => mast_Often.st ?_⟩
   cases h3 : mast_raw.bad x with
   | false => rfl
   | true => exact absurd (List.any_eq_true.2 ⟨x, hx, h3⟩) h2
theorem mast_Often.good {l : List S38} (h : l.length ≤ 200 ∧ ∀ x ∈ l, Lay.isSt x) : Lay.Good (Lay.chg 1 l) := ⟨by rw [Lay.chg_length]; omega, Lay.chg_mem (.inl rfl) h.2⟩
theorem mast_Often.clos (b : Nat) (d lv : Int) (w : World) (hc : w.cell? ⟨b, 0, none⟩ = some (.int .i64 d)) :
  Calls Tryz.prog 47 #[.int .i64 lv, .pointer (some ⟨b, 0, none⟩)] w fun e w' => e = .returned (.bool (decide (d ≤ lv))) ∧ w' = w := by
 go_enter Tryz.func47, Tryz.ntmps47
 go_wp2
 go_ret
 exact ⟨rfl, rfl⟩
theorem mast_Often.enter (vs : Array Value) (W : World) : (callFunc 47 vs).run Tryz.prog W = .ok (.enter 47 vs) W := enters_ Tryz.func47 (by kernel_rfl) (by kernel_rfl) vs W
def mast_Often.f (l0 : List S38) (a1 : Int) : Option (List S38 × Int) := (mast_raw.f l0).bind fun e => if e = 0 then (if a1 < 1 then some ([], 2) else if a1 > 200 then some ([], 2) else some (Lay.fin (Lay.swept (fun lv => decide (a1 ≤ lv)) (Lay.srt (Lay.chg 1 l0))))) else some ([], e)
set_option maxHeartbeats 4000000 in
set_option maxRecDepth 100000 in
theorem mast_Often.calls (A0 : Option Addr) (c0 : Nat) (l0 : List S38) (a1 : Int) (r1 : List S38) (r2 : Int) (w : World) (hr0 : Kd.C k38 w A0 l0.length l0) (hc0 : l0.length ≤ c0) (h : mast_Often.f l0 a1 = some (r1, r2)) :
  Calls Tryz.prog 32 #[.slice A0 l0.length c0, .int .i64 a1] w fun e w' => ∃ v0_ : Value, e = .returned (.tuple #[v0_, .int .i64 r2]) ∧ Kd.R k38 38 w' w.heap.size (fun _ => True) v0_ r1 ∧ Below w.heap.size w w' := by
 have HR := Aside0.mk hr0
 have HC := Aside0.mk hc0
 clear hr0 hc0
 unfold mast_Often.f at h
 obtain ⟨e0, he0, h1⟩ := Option.bind_eq_some_iff.1 h
 have HE := Aside0.mk he0
 clear h he0
 have B0 : Below w.heap.size w (w.alloc (.cells #[.int .i64 a1] 3)) := below_alloc (Below.refl _ _) _
 have HB0 := Aside0.mk B0
 have BX := Aside0.mk (blk_new w (.cells #[.int .i64 a1] 3))
 clear B0
 by_cases hz : e0 = 0
 ·
  subst hz
  rw [if_pos rfl] at h1
  have HRW := Aside0.mk (mast_Often.raw0 HE.out)
  by_cases h2 : a1 < 1
  ·
   rw [if_pos h2] at h1
   have h1' := Option.some.inj h1
   injection h1' with h3 h4
   subst h3 h4
   clear h1
   go_enter Tryz.func32, Tryz.ntmps32
   go_wp2_with (go_at_call 44; refine (mast_raw.calls _ _ l0 0 _ (Kd.C_below HR.out HB0.out) HC.out HE.out).mono ?_; rintro e w1 ⟨rfl, hb⟩; have HB1 := Aside0.mk hb; have BX1 := Aside0.mk ((hb.block w.heap.size (blk_lt BX.out)).trans BX.out); have k0 := blkc BX1.out 0 (.int .i64 a1) rfl; clear hb)
   go_ret2
   exact ⟨_, rfl, Kd.R_nil _ _ _ _ _, below_step HB0.out HB1.out⟩
  ·
   rw [if_neg h2] at h1
   have h2' : 1 ≤ a1 := by omega
   by_cases h5 : a1 > 200
   ·
    rw [if_pos h5] at h1
    have h1' := Option.some.inj h1
    injection h1' with h3 h4
    subst h3 h4
    clear h1
    go_enter Tryz.func32, Tryz.ntmps32
    go_wp2_with (go_at_call 44; refine (mast_raw.calls _ _ l0 0 _ (Kd.C_below HR.out HB0.out) HC.out HE.out).mono ?_; rintro e w1 ⟨rfl, hb⟩; have HB1 := Aside0.mk hb; have BX1 := Aside0.mk ((hb.block w.heap.size (blk_lt BX.out)).trans BX.out); have k0 := blkc BX1.out 0 (.int .i64 a1) rfl; clear hb)
    go_ret2
    exact ⟨_, rfl, Kd.R_nil _ _ _ _ _, below_step HB0.out HB1.out⟩
   ·
    rw [if_neg h5] at h1
    have H1 := Aside0.mk (Option.some.inj h1)
    clear h1
    go_enter Tryz.func32, Tryz.ntmps32
    go_wp2_with (first | (go_at_call 44; refine (mast_raw.calls _ _ l0 0 _ (Kd.C_below HR.out HB0.out) HC.out HE.out).mono ?_; rintro e w1 ⟨rfl, hb⟩; have HB1 := Aside0.mk hb; have BX1 := Aside0.mk ((hb.block w.heap.size (blk_lt BX.out)).trans BX.out); have k0 := blkc BX1.out 0 (.int .i64 a1) rfl; clear hb) | (go_at_call 46; refine (Lay.changes _ _ l0 1 _ (Kd.C_below HR.out (below_step HB0.out HB1.out)) HC.out (by have := HRW.out.1; omega) (.inl rfl)).mono ?_; rintro e w2 hch; obtain ⟨v, ys, rfl, hp, hs, hr, hb⟩ := hch; have HP := Aside0.mk hp; have HS := Aside0.mk hs; have HRY := Aside0.mk hr; have HB2 := Aside0.mk hb; have BX2 := Aside0.mk ((hb.block w.heap.size (Nat.lt_of_lt_of_le (blk_lt BX.out) (below_size HB1.out))).trans BX1.out); clear hp hs hr hb k0) | (go_at_call 45; refine (Lay.sweptW 47 #[.pointer (some ⟨w.heap.size, 0, none⟩)] (fun lv => decide (a1 ≤ lv)) v ys _ _ _ HRY.out ?hl ?hk mast_Often.enter ?hf).mono ?_; (case hl => rw [HP.out.length_eq, Lay.chg_length]; have := HRW.out.1; omega); (case hk => obtain ⟨inner, ho⟩ := Kd.R_own HRY.out; exact own_lt ho); (case hf => intro lv W hg; have hc : W.cell? ⟨w.heap.size, 0, none⟩ = some (.int .i64 a1) := (by refine blkc ((hg.block w.heap.size (blk_lt BX2.out) (fun e => ?_)).trans BX2.out) 0 (.int .i64 a1) rfl; (obtain ⟨inner, ho⟩ := Kd.R_own HRY.out; have h1_ := own_base ho _ e.symm; have h2_ := blk_lt BX1.out; omega)); exact (mast_Often.clos _ _ _ _ hc).mono fun e w' ⟨he, hw⟩ => ⟨he, by rw [hw]; exact Below.refl _ _⟩); rintro e w3 ⟨zs, hpz, hsz, v0, rfl, ho, hg⟩; have HPZ := Aside0.mk hpz; have HSZ := Aside0.mk hsz; have HO := Aside0.mk ho; have HG := Aside0.mk hg; clear hpz hsz ho hg))
    go_ret2
    have hq : Lay.swept (fun lv => decide (a1 ≤ lv)) zs = Lay.swept (fun lv => decide (a1 ≤ lv)) (Lay.srt (Lay.chg 1 l0)) :=
     Lay.swept_perm _ ((HPZ.out.trans HP.out).trans (Lay.srt_perm _).symm) HSZ.out (Lay.srt_sorted _) ⟨by rw [(HPZ.out.trans HP.out).length_eq]; exact (mast_Often.good HRW.out).1, fun c hc => (mast_Often.good HRW.out).2 c ((HPZ.out.trans HP.out).mem_iff.1 hc)⟩
    have ho := HO.out
    rw [hq, H1.out] at ho
    have hs2 : w.heap.size ≤ w2.heap.size := Nat.le_trans (below_size (below_step HB0.out HB1.out)) (below_size HB2.out)
    rw [hq, H1.out]
    refine ⟨_, rfl, Kd.R_lower ho hs2, (below_step (below_step HB0.out HB1.out) HB2.out).grown HG.out hs2 (fun k hk => ?_)⟩
    obtain ⟨inner, hi⟩ := Kd.R_own HRY.out
    exact Nat.le_trans (below_size (below_step HB0.out HB1.out)) (own_base hi k hk)
 ·
  rw [if_neg hz] at h1
  have h1' := Option.some.inj h1
  injection h1' with h3 h4
  subst h3 h4
  clear h1
  have hz1 : (e0 == 0) = false := by simp [hz]
  have hz2 : (e0 != 0) = true := by simp [hz]
  go_enter Tryz.func32, Tryz.ntmps32
  go_wp2_with (go_at_call 44; refine (mast_raw.calls _ _ l0 e0 _ (Kd.C_below HR.out HB0.out) HC.out HE.out).mono ?_; rintro e w1 ⟨rfl, hb⟩; have HB1 := Aside0.mk hb; clear hb)
  go_ret2
  exact ⟨_, rfl, Kd.R_nil _ _ _ _ _, below_step HB0.out HB1.out⟩

/-! ### mast_Clean: function 19 -/
def mast_Clean.f (l0 : List (S38)) : Option ((List (S38)) × Int) := (mast_Often.f l0 1).bind fun bt119 => (some (bt119.1, bt119.2))
set_option maxHeartbeats 8000000 in
set_option maxRecDepth 100000 in
theorem mast_Clean.calls (A0 : Option Addr) (c0 : Nat) (l0 : List (S38)) (r1 : List (S38)) (r2 : Int) (w : World) (hr0 : Kd.C k38 w A0 l0.length l0) (hc0 : l0.length ≤ c0) (h : mast_Clean.f l0 = some (r1, r2)) :
  Calls Tryz.prog 19 #[.slice A0 l0.length c0] w fun e w' => ∃ v0_ : Value, e = .returned (.tuple #[v0_, .int .i64 r2]) ∧ Kd.R k38 38 w' w.heap.size (fun _ => True) v0_ r1 ∧ Below w.heap.size w w' := by
 have HR0 := Aside0.mk hr0
 have HC0 := Aside0.mk hc0
 clear hr0 hc0
 have HB := Aside0.mk (Below.refl w.heap.size w)
 have H : ((mast_Often.f l0 1).bind fun bt119 => (some (bt119.1, bt119.2))) = some (r1, r2) := h
 clear h
 replace H := Option.bind_eq_some_iff.mp H
 obtain ⟨⟨t119, t120⟩, A20, H⟩ := H
 try dsimp only at H
 have A2 := Aside0.mk A20
 clear A20
 simp only [Option.some.injEq, Prod.mk.injEq] at H
 obtain ⟨rfl, rfl⟩ := H
 go_enter Tryz.func19, Tryz.ntmps19
 go_wp2_with (first | ((with_reducible refine gate_callee (f := 32) rfl ?_); refine goesL_ (some 5) rfl rfl Tryz.func32 (by kernel_rfl) rfl #[.slice A0 l0.length c0, .int .i64 1] rfl mapz ?_; (with_reducible refine (mast_Often.calls _ _ l0 1 t119 t120 _ ?side1 HC0.out A2.out).mono ?_); (case side1 => repeat (first | exact HR0.out | (with_reducible refine Kd.C_alloc ?_ _) | (with_reducible refine Kd.C_drewN ?_ _) | (with_reducible refine Kd.C_drew ?_))); rintro e w3 ⟨v121, rfl, ho0, hb⟩; refine ⟨_, rfl, ?_⟩; have HO122 := Aside0.mk (Kd.R_lower ho0 (below_size bel)); replace HB := Aside0.mk (below_step bel hb); (try clear hb); (try clear hb2); (try clear hk); (try clear hi); (try clear ho0)))
 go_ret2
 exact ⟨_, ezz, by (with_reducible repeat (first | apply Kd.R_alloc | apply Kd.R_drewN | apply Kd.R_drew)); exact HO122.out, bel⟩

/-! ### mast_find: function 34 -/
def mast_find.bs (l : List S38) (m : Int) : Nat → Nat → Nat → Option Nat
 | 0, _, _ => none
 | k + 1, i, j => if i < j then (if (rd_T38 l (((i + j) / 2 : Nat) : Int)).f1 ≤ m then mast_find.bs l m k ((i + j) / 2 + 1) j else mast_find.bs l m k i ((i + j) / 2)) else some i
set_option maxHeartbeats 2000000 in
set_option maxRecDepth 100000 in
theorem mast_find.clos (x : S38) (m : Int) (w : World) :
  Calls Tryz.prog 49 #[.agg #[.int .i64 x.f0, .int .i64 x.f1], .int .i64 m] w fun e w' => e = .returned (.int .i64 (if x.f1 ≤ m then -1 else 1)) ∧ Below w.heap.size w w' := by
 have hu := Tryz.underlying38
 have hB := Aside0.mk (below_alloc (Below.refl w.heap.size w) (.cells #[.int .i64 x.f0, .int .i64 x.f1] 38))
 by_cases h : x.f1 ≤ m
 ·
  have b : decide (x.f1 ≤ m) = true := decide_eq_true h
  rw [if_pos h]
  clear h
  go_enter Tryz.func49, Tryz.ntmps49
  go_wp2
  go_ret
  exact ⟨rfl, hB.out⟩
 ·
  have b : decide (x.f1 ≤ m) = false := decide_eq_false h
  rw [if_neg h]
  clear h
  go_enter Tryz.func49, Tryz.ntmps49
  go_wp2
  go_ret
  exact ⟨rfl, hB.out⟩
theorem mast_find.enter (vs : Array Value) (W : World) : (callFunc 49 vs).run Tryz.prog W = .ok (.enter 49 vs) W := enters_ Tryz.func49 (by kernel_rfl) (by kernel_rfl) vs W
def mast_find.f (l0 : List S38) (a1 : Int) : Option Int := if l0.length ≤ 1000000 then (mast_find.bs l0 a1 (l0.length + 1) 0 l0.length).map fun n : Nat => (n : Int) else none
set_option maxHeartbeats 4000000 in
set_option maxRecDepth 100000 in
theorem mast_find.search (A0 : Option Addr) (c0 : Nat) (l0 : List S38) (m : Int) (r : Nat) (w : World) (hr0 : Kd.C k38 w A0 l0.length l0) (hc0 : l0.length ≤ c0) (hl : l0.length ≤ 1000000) (h : mast_find.bs l0 m (l0.length + 1) 0 l0.length = some r) :
  Calls Tryz.prog 48 #[.slice A0 l0.length c0, .int .i64 m, .func (.func 49) #[] #[]] w fun e w' => e = .returned (.tuple #[.int .i64 r, .bool false]) ∧ Below w.heap.size w w' := by
 have HR := Aside0.mk hr0
 have H := Aside0.mk h
 have HL := Aside0.mk hl
 clear hr0 h hl
 go_enter Tryz.func48, Tryz.ntmps48
 go_wp2
 go_loopg [9, 10] (l0.length + 1) (fun kq v9 v10 w' => ∃ (i j : Nat), v9 = .int .i64 i ∧ v10 = .int .i64 j ∧ Aside0 (i ≤ j ∧ j ≤ l0.length) ∧ Aside0 (mast_find.bs l0 m kq i j = some r) ∧ Aside0 (Below w.heap.size w w'))
 case atStart => exact ⟨0, l0.length, rfl, rfl, ⟨by omega, by omega⟩, H, ⟨Below.refl _ _⟩⟩
 case round =>
  obtain ⟨i, j, rfl, rfl, HI, HS, HB⟩ := hrel
  have hs := HS.out
  obtain ⟨gn, hgn⟩ : ∃ gn, gk = gn + 1 := by
   cases gk with
   | zero => rw [mast_find.bs] at hs; cases hs
   | succ n => exact ⟨n, rfl⟩
  rw [hgn, mast_find.bs] at hs
  have HG := Aside0.mk hgn
  clear hgn HS
  by_cases hlt : i < j
  ·
   have b1 : (i < j) = True := eq_true hlt
   rw [if_pos hlt] at hs
   obtain ⟨hh, ehh⟩ : ∃ hh : Nat, hh = (i + j) / 2 := ⟨_, rfl⟩
   rw [← ehh] at hs
   have hij : i ≤ hh ∧ hh < j := by omega
   have hjl : j ≤ l0.length ∧ l0.length ≤ 1000000 := ⟨HI.out.2, HL.out⟩
   have e : wrap64 (IntKind.u64.wrap (wrap64 ((i : Int) + (j : Int))) / 2) = (hh : Int) := by
    have h1 : wrap64 ((i : Int) + (j : Int)) = (i : Int) + j := by unfold wrap64; omega
    have h2 : IntKind.u64.wrap ((i : Int) + (j : Int)) = (i : Int) + j := by rw [IntKind.wrap_u64]; omega
    rw [h1, h2]
    unfold wrap64
    omega
   have e3 : wrap64 ((hh : Int) + 1) = ((hh + 1 : Nat) : Int) := by unfold wrap64; omega
   obtain ⟨ad, e1, hx0, hx1⟩ := at_T38 (Kd.C_below HR.out HB.out) (hh : Int) (by omega) (by omega)
   cases e1
   simp only [Int.toNat_natCast] at hx0 hx1
   have p2 : (hh < l0.length) = True := eq_true (by omega)
   have HIJ := Aside0.mk hij
   clear hlt ehh hij hjl
   by_cases hm : (rd_T38 l0 (hh : Int)).f1 ≤ m
   ·
    rw [if_pos hm] at hs
    have HS := Aside0.mk hs
    have HM := Aside0.mk hm
    clear hs hm
    go_wp2_with (first | (go_simp; with_reducible refine (mast_find.clos (rd_T38 l0 (hh : Int)) m _).mono ?_; rintro e w1 ⟨rfl, hb⟩; have HB2 := Aside0.mk (below_step HB.out hb); clear hb; rw [if_pos HM.out]))
    go_roundg gn
    case measure => have := HG.out; omega
    case rel => exact ⟨hh + 1, j, by first | rfl | rw [e3], rfl, ⟨by have := HIJ.out; omega, HI.out.2⟩, HS, HB2⟩
   ·
    rw [if_neg hm] at hs
    have HS := Aside0.mk hs
    have HM := Aside0.mk hm
    clear hs hm
    go_wp2_with (first | (go_simp; with_reducible refine (mast_find.clos (rd_T38 l0 (hh : Int)) m _).mono ?_; rintro e w1 ⟨rfl, hb⟩; have HB2 := Aside0.mk (below_step HB.out hb); clear hb; rw [if_neg HM.out]))
    go_roundg gn
    case measure => have := HG.out; omega
    case rel => exact ⟨i, hh, rfl, rfl, ⟨by have := HIJ.out; omega, by have := HIJ.out; have := HI.out; omega⟩, HS, HB2⟩
  ·
   rw [if_neg hlt] at hs
   obtain rfl := Option.some.inj hs
   have b1 : (i < j) = False := eq_false hlt
   have hjl : j ≤ l0.length ∧ l0.length ≤ 1000000 := ⟨HI.out.2, HL.out⟩
   by_cases hin : i < l0.length
   ·
    have b2 : (i < l0.length) = True := eq_true hin
    obtain ⟨ad, e1, hx0, hx1⟩ := at_T38 (Kd.C_below HR.out HB.out) (i : Int) (by omega) (by omega)
    cases e1
    simp only [Int.toNat_natCast] at hx0 hx1
    clear hlt hjl hs hin
    by_cases hm : (rd_T38 l0 (i : Int)).f1 ≤ m
    ·
     have HM := Aside0.mk hm
     clear hm
     go_wp2_with (first | (go_simp; with_reducible refine (mast_find.clos (rd_T38 l0 (i : Int)) m _).mono ?_; rintro e w1 ⟨rfl, hb⟩; have HB2 := Aside0.mk (below_step HB.out hb); clear hb; rw [if_pos HM.out]))
     go_ret2
     exact ⟨rfl, HB2.out⟩
    ·
     have HM := Aside0.mk hm
     clear hm
     go_wp2_with (first | (go_simp; with_reducible refine (mast_find.clos (rd_T38 l0 (i : Int)) m _).mono ?_; rintro e w1 ⟨rfl, hb⟩; have HB2 := Aside0.mk (below_step HB.out hb); clear hb; rw [if_neg HM.out]))
     go_ret2
     exact ⟨rfl, HB2.out⟩
   ·
    have b2 : (i < l0.length) = False := eq_false hin
    clear hlt hjl hs hin
    go_wp2
    go_ret2
    exact ⟨rfl, HB.out⟩
set_option maxHeartbeats 2000000 in
set_option maxRecDepth 100000 in
theorem mast_find.calls (A0 : Option Addr) (c0 : Nat) (l0 : List S38) (a1 : Int) (r : Int) (w : World) (hr0 : Kd.C k38 w A0 l0.length l0) (hc0 : l0.length ≤ c0) (h : mast_find.f l0 a1 = some r) :
  Calls Tryz.prog 34 #[.slice A0 l0.length c0, .int .i64 a1] w fun e w' => e = .returned (.int .i64 r) ∧ Below w.heap.size w w' := by
 unfold mast_find.f at h
 by_cases hl : ¬ l0.length ≤ 1000000
 ·
  rw [if_neg hl] at h; cases h
 replace hl := Decidable.not_not.1 hl
 rw [if_pos hl] at h
 obtain ⟨n, hn, rfl⟩ := Option.map_eq_some_iff.1 h
 have HC := Aside0.mk (mast_find.search A0 c0 l0 a1 n w hr0 hc0 hl hn)
 clear hr0 h hn
 go_enter Tryz.func34, Tryz.ntmps34
 go_wp2_with (first | (go_at_call 48; refine HC.out.mono ?_; rintro e w1 ⟨rfl, hb⟩; have HB := Aside0.mk hb; clear hb))
 go_ret
 exact ⟨rfl, HB.out⟩

/-! ### mast_has: function 33 -/
def mast_has.f (l0 : List (S38)) (a1 : Int) : Option (Bool) := (mast_find.f l0 a1).bind fun t123 => (if t123 < (l0.length : Int) then (if 0 ≤ t123 then (some (decide (((rd_T38 l0 t123).f0) ≤ a1))) else (none)) else (some false))
set_option maxHeartbeats 8000000 in
set_option maxRecDepth 100000 in
theorem mast_has.calls (A0 : Option Addr) (c0 : Nat) (l0 : List (S38)) (a1 : Int) (r : Bool) (w : World) (hr0 : Kd.C k38 w A0 l0.length l0) (hc0 : l0.length ≤ c0) (h : mast_has.f l0 a1 = some r) :
  Calls Tryz.prog 33 #[.slice A0 l0.length c0, .int .i64 a1] w fun e w' => e = .returned (.bool r) ∧ Below w.heap.size w w' := by
 have HR0 := Aside0.mk hr0
 have HC0 := Aside0.mk hc0
 clear hr0 hc0
 have HB := Aside0.mk (Below.refl w.heap.size w)
 have H : ((mast_find.f l0 a1).bind fun t123 => (if t123 < (l0.length : Int) then (if 0 ≤ t123 then (some (decide (((rd_T38 l0 t123).f0) ≤ a1))) else (none)) else (some false))) = some r := h
 clear h
 replace H := Option.bind_eq_some_iff.mp H
 obtain ⟨t123, A30, H⟩ := H
 try dsimp only at H
 have A3 := Aside0.mk A30
 clear A30
 by_cases c4 : t123 < (l0.length : Int)
 ·
  rw [if_pos c4] at H
  have c4b0 : decide (t123 < (l0.length : Int)) = true := decide_eq_true c4
  clear c4
  by_cases c5 : 0 ≤ t123
  ·
   rw [if_pos c5] at H
   have c5b0 : decide (0 ≤ t123) = true := decide_eq_true c5
   clear c5
   obtain rfl := Option.some.inj H
   go_enter Tryz.func33, Tryz.ntmps33
   go_wp2_with (first | ((with_reducible refine gate_callee (f := 34) rfl ?_); refine goesL_ (some 8) rfl rfl Tryz.func34 (by kernel_rfl) rfl #[.slice A0 l0.length c0, .int .i64 a1] rfl mapz ?_; (with_reducible refine (mast_find.calls _ _ l0 a1 t123 _ ?side1 HC0.out A3.out).mono ?_); (case side1 => repeat (first | exact HR0.out | (with_reducible refine Kd.C_alloc ?_ _) | (with_reducible refine Kd.C_drewN ?_ _) | (with_reducible refine Kd.C_drew ?_))); rintro e w6 ⟨rfl, hb⟩; refine ⟨_, rfl, ?_⟩; replace HB := Aside0.mk (below_step bel hb); clear hb; have p124 : 0 ≤ (t123 : Int) := of_decide_eq_true asz; have q124 : t123 < (l0.length : Int) := of_decide_eq_true asz; obtain ⟨ad124, e124, hx124_0, hx124_1⟩ := at_T38 HR0.out t123 p124 q124; cases e124; replace hx124_0 := (HB.out.cell (World.block_lt_of_cell? w _ hx124_0)).trans hx124_0; replace hx124_1 := (HB.out.cell (World.block_lt_of_cell? w _ hx124_1)).trans hx124_1; replace p124 := eq_true p124; replace q124 := eq_true q124))
   go_ret
   exact ⟨ezz, bel⟩
  ·
   rw [if_neg c5] at H
   exact absurd H (by simp)
 ·
  rw [if_neg c4] at H
  have c4b0 : decide (t123 < (l0.length : Int)) = false := decide_eq_false c4
  clear c4
  obtain rfl := Option.some.inj H
  go_enter Tryz.func33, Tryz.ntmps33
  go_wp2_with (first | ((with_reducible refine gate_callee (f := 34) rfl ?_); refine goesL_ (some 8) rfl rfl Tryz.func34 (by kernel_rfl) rfl #[.slice A0 l0.length c0, .int .i64 a1] rfl mapz ?_; (with_reducible refine (mast_find.calls _ _ l0 a1 t123 _ ?side1 HC0.out A3.out).mono ?_); (case side1 => repeat (first | exact HR0.out | (with_reducible refine Kd.C_alloc ?_ _) | (with_reducible refine Kd.C_drewN ?_ _) | (with_reducible refine Kd.C_drew ?_))); rintro e w7 ⟨rfl, hb⟩; refine ⟨_, rfl, ?_⟩; replace HB := Aside0.mk (below_step bel hb); clear hb))
  go_ret
  exact ⟨ezz, bel⟩

end Go.Proofs.YtcmdcgghpkcchaaGreatDoor.XMast