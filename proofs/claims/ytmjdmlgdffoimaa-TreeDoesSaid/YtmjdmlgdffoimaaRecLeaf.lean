/- Styles, cell by cell: their leaves. -/
import Derived.Test.YtmjdmlgdffoimaaRecSty
import Derived.Test.YtmjdmlgdffoimaaEqF
namespace Go.Proofs.Ytmjdmlgdffoimaa
open Go.RowKit

def leafS : List Bool := List.replicate 45 true ++ [false, true, false, true, true, true, false, false, true, true]
theorem leafS_at : ∀ j, j < 55 → leafS[j]? = some (!isBit j) := by decide
theorem SOk.leaves {cs : List Value} (hs : SOk cs) : leavesB leafS cs = true := by
  refine leavesB_of (by rw [hs.len]; rfl) fun i k v hk hv => ?_
  have hi := (List.getElem?_eq_some_iff.1 hv).1
  rw [hs.len] at hi
  rw [leafS_at i hi] at hk
  cases hk
  cases hb : isBit i with
  | false => rw [hs.int i hi hb] at hv; cases hv; rfl
  | true => rw [hs.bit i hi hb] at hv; cases hv; rfl
theorem SOk.of_leaves {cs : List Value} (h : leavesB leafS cs = true) : SOk cs := by
  have hl := leavesB_len h
  have hget : ∀ (ks : List Bool) (cs : List Value), leavesB ks cs = true → ∀ (i : Nat) (k : Bool), ks[i]? = some k → ∃ v, cs[i]? = some v ∧ leafB k v = true := by
    intro ks
    induction ks with
    | nil => intro cs _ i k hk; simp at hk
    | cons k0 ks ih =>
      intro cs h i k hk
      cases cs with
      | nil => simp [leavesB] at h
      | cons v vs =>
        simp only [leavesB, Bool.and_eq_true] at h
        cases i with
        | zero => cases hk; exact ⟨v, rfl, h.1⟩
        | succ i => exact ih vs h.2 i k (by simpa using hk)
  refine ⟨hl, fun j hj hb => ?_, fun j hj hb => ?_⟩
  · obtain ⟨v, hv, hv2⟩ := hget _ _ h j _ (leafS_at j hj)
    rw [hb] at hv2
    unfold leafB at hv2
    split at hv2 <;> simp_all [val, num01, List.getD_eq_getElem?_getD]
  · obtain ⟨v, hv, hv2⟩ := hget _ _ h j _ (leafS_at j hj)
    rw [hb] at hv2
    unfold leafB at hv2
    split at hv2 <;> simp_all [bval, List.getD_eq_getElem?_getD]
end Go.Proofs.Ytmjdmlgdffoimaa
