/- Sizes that grow and shrink, over numbers and lists alone. -/
import Derived.Test.YtabdcfobdehhiaaFix
namespace Go.Proofs.Ytabdcfobdehhiaa
open Go.RowKit

/-- A weight within its limits. -/
def wgt (x : Int) : Int := max 0 (min x 1073741824)
/-- The sum of the first k weights. -/
def psum (w : List Int) (k : Nat) : Int := ((w.take k).map wgt).sum
/-- The sums after k rounds. -/
def psums (w : List Int) (k : Nat) : List Int := (List.range (w.length + 1)).map fun j => if j ≤ k then psum w j else 0

theorem psum_zero (w : List Int) : psum w 0 = 0 := by simp [psum]
theorem psum_succ (w : List Int) (k : Nat) (x : Int) (h : w[k]? = some x) : psum w (k + 1) = psum w k + wgt x := by
  have hk : k < w.length := (List.getElem?_eq_some_iff.1 h).1
  have e : w[k] = x := by simpa [List.getElem?_eq_getElem hk] using h
  unfold psum
  rw [List.take_succ_eq_append_getElem hk, e]
  simp
theorem wgt_bd (x : Int) : 0 ≤ wgt x ∧ wgt x ≤ 1073741824 := by unfold wgt; omega
theorem psum_bd (w : List Int) (k : Nat) : 0 ≤ psum w k ∧ psum w k ≤ k * 1073741824 := by
  unfold psum
  induction w generalizing k with
  | nil => simp; omega
  | cons x w ih =>
    cases k with
    | zero => simp
    | succ k => have := ih k; have := wgt_bd x; simp only [List.take_succ_cons, List.map_cons, List.sum_cons]; omega
theorem psums_length (w : List Int) (k : Nat) : (psums w k).length = w.length + 1 := by simp [psums]
theorem psums_get (w : List Int) (k j : Nat) (hj : j ≤ w.length) : (psums w k)[j]? = some (if j ≤ k then psum w j else 0) := by
  simp [psums, show j < w.length + 1 by omega]
theorem psums_zero (w : List Int) : psums w 0 = List.replicate (w.length + 1) 0 := by
  apply List.ext_getElem?
  intro j
  by_cases hj : j ≤ w.length
  · rw [psums_get w 0 j hj, List.getElem?_replicate, if_pos (show j < w.length + 1 by omega)]
    by_cases h0 : j = 0
    · subst h0; simp [psum_zero]
    · rw [if_neg (by omega)]
  · rw [List.getElem?_eq_none (by rw [psums_length]; omega), List.getElem?_eq_none (by simp; omega)]
theorem psums_succ (w : List Int) (k : Nat) (x : Int) (h : w[k]? = some x) : (psums w k).set (k + 1) (psum w k + wgt x) = psums w (k + 1) := by
  have hk : k < w.length := (List.getElem?_eq_some_iff.1 h).1
  apply List.ext_getElem?
  intro j
  rw [List.getElem?_set]
  by_cases hj : j ≤ w.length
  · rw [psums_get w (k + 1) j hj, psums_length]
    by_cases e : k + 1 = j
    · subst e; rw [if_pos rfl, if_pos (by omega), if_pos (by omega), psum_succ w k x h]
    · rw [if_neg e, psums_get w k j hj]
      by_cases h2 : j ≤ k
      · rw [if_pos h2, if_pos (by omega)]
      · rw [if_neg h2, if_neg (by omega)]
  · have hn : ∀ q, (psums w q)[j]? = none := fun q => List.getElem?_eq_none (by rw [psums_length]; omega)
    rw [hn, hn, psums_length]
    by_cases e : k + 1 = j
    · rw [if_pos e, if_neg (by omega)]
    · rw [if_neg e]

/-- The number that is shared. -/
def lot (n : Int) : Int := max 0 (min n 67108864)
theorem lot_bd (n : Int) : 0 ≤ lot n ∧ lot n ≤ 67108864 := by unfold lot; omega
/-- All weights, or 1. -/
def whole (w : List Int) : Int := max (psum w w.length) 1
/-- The end of the k-th part. -/
def pmark (n : Int) (w : List Int) (k : Nat) : Int := lot n * psum w k / whole w
/-- The parts. -/
def share (n : Int) (w : List Int) : List Int := (List.range w.length).map fun k => pmark n w (k + 1) - pmark n w k
/-- The parts after k rounds. -/
def shares (n : Int) (w : List Int) (k : Nat) : List Int := (List.range w.length).map fun j => if j < k then pmark n w (j + 1) - pmark n w j else 0
theorem psums_at (w : List Int) (k j : Nat) (hj : j ≤ w.length) (hk : j ≤ k) : ((psums w k).map (Value.int .i64))[j]? = some (.int .i64 (psum w j)) := by
  rw [List.getElem?_map, psums_get w k j hj, if_pos hk]; rfl
theorem clamp_lot (n : Int) : clamp n 0 67108864 = lot n := by rw [clamp_in (by omega) (by omega) (by omega)]; rfl
theorem clamp_wgt (n : Int) : clamp n 0 1073741824 = wgt n := by rw [clamp_in (by omega) (by omega) (by omega)]; rfl
theorem shares_length (n : Int) (w : List Int) (k : Nat) : (shares n w k).length = w.length := by simp [shares]
theorem share_length (n : Int) (w : List Int) : (share n w).length = w.length := by simp [share]
theorem shares_zero (n : Int) (w : List Int) : shares n w 0 = List.replicate w.length 0 := by
  apply List.ext_getElem?
  intro j
  by_cases hj : j < w.length
  · simp [shares, hj]
  · simp [shares, hj]
theorem shares_all (n : Int) (w : List Int) : shares n w w.length = share n w := by
  unfold shares share
  apply List.map_congr_left
  intro j hj
  rw [if_pos (by simpa using hj)]
theorem shares_succ (n : Int) (w : List Int) (k : Nat) (h : k < w.length) : (shares n w k).set k (pmark n w (k + 1) - pmark n w k) = shares n w (k + 1) := by
  apply List.ext_getElem?
  intro j
  rw [List.getElem?_set]
  by_cases hj : j < w.length
  · simp only [shares, List.length_map, List.length_range, List.getElem?_map, List.getElem?_range hj, Option.map_some]
    by_cases e : k = j
    · subst e; simp [h]
    · rw [if_neg e]
      by_cases h2 : j < k
      · simp [h2, show j < k + 1 by omega]
      · simp [h2, show ¬ j < k + 1 by omega]
  · simp [shares, hj]
    omega
theorem lot_mul (n : Int) (w : List Int) (k : Nat) (hl : w.length ≤ 64) (hk : k ≤ w.length) : 0 ≤ lot n * psum w k ∧ lot n * psum w k ≤ 4611686018427387904 := by
  have h1 := lot_bd n
  have h2 := psum_bd w k
  have h3 : psum w k ≤ 68719476736 := by omega
  refine ⟨Int.mul_nonneg h1.1 h2.1, ?_⟩
  have := Int.mul_le_mul h1.2 h3 h2.1 (by omega)
  omega
theorem pmark_bd (n : Int) (w : List Int) (k : Nat) (hl : w.length ≤ 64) (hk : k ≤ w.length) : 0 ≤ pmark n w k ∧ pmark n w k ≤ 4611686018427387904 := by
  have h1 := lot_mul n w k hl hk
  have h2 : 0 ≤ whole w := by unfold whole; omega
  exact ⟨Int.ediv_nonneg h1.1 h2, Int.le_trans (Int.ediv_le_self _ h1.1) h1.2⟩
theorem pmark_zero (n : Int) (w : List Int) : pmark n w 0 = 0 := by simp [pmark, psum_zero]
theorem pmark_eq (n : Int) (w : List Int) (k : Nat) (h : 1 ≤ psum w w.length) : pmark n w k = lot n * psum w k / psum w w.length := by
  unfold pmark whole; congr 1; omega
theorem psum_mono (w : List Int) (k : Nat) : psum w k ≤ psum w (k + 1) := by
  by_cases hk : k < w.length
  · rw [psum_succ w k _ (List.getElem?_eq_getElem hk)]; have := wgt_bd w[k]; omega
  · unfold psum; rw [List.take_of_length_le (by omega), List.take_of_length_le (by omega)]; exact Int.le_refl _
theorem psum_le (w : List Int) (k d : Nat) : psum w k ≤ psum w (k + d) := by
  induction d with
  | zero => exact Int.le_refl _
  | succ d ih => have := psum_mono w (k + d); rw [← Nat.add_assoc]; omega
theorem psum_all (w : List Int) (k : Nat) : psum w k ≤ psum w w.length := by
  by_cases hk : k ≤ w.length
  · have := psum_le w k (w.length - k); rwa [show k + (w.length - k) = w.length by omega] at this
  · unfold psum; rw [List.take_of_length_le (by omega), List.take_of_length_le (Nat.le_refl _)]; exact Int.le_refl _
theorem shares_none (n : Int) (w : List Int) (k : Nat) (h : psum w w.length = 0) : shares n w k = share n w := by
  have hz : ∀ j, pmark n w j = 0 := fun j => by
    have h1 := psum_bd w j
    have h2 := psum_all w j
    have h3 : psum w j = 0 := by omega
    simp [pmark, h3]
  simp [shares, share, hz]
theorem take_more {α : Type} {a b : List α} {k : Nat} {x : α} (h : a.take k = b.take k) (ha : a[k]? = some x) (hb : b[k]? = some x) : a.take (k + 1) = b.take (k + 1) := by
  rw [List.take_add_one, List.take_add_one, h, ha, hb]
theorem take_all {α : Type} {a b : List α} {k : Nat} (h : a.take k = b.take k) (ha : a.length ≤ k) (hl : a.length = b.length) : a = b := by
  rwa [List.take_of_length_le ha, List.take_of_length_le (by omega)] at h
end Go.Proofs.Ytabdcfobdehhiaa
