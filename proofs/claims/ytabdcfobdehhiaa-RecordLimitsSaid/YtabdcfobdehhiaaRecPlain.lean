/- Plain laws of styles as numbers. -/
import Derived.Test.YtabdcfobdehhiaaRecRGet
import Derived.Test.YtabdcfobdehhiaaEqF
namespace Go.Proofs.Ytabdcfobdehhiaa
open Go.RowKit

theorem lv_nums {cs : List Value} (hs : SOk cs) {j : Nat} (hj : j < 55) : lv (nums cs) j = val cs j := by
  unfold lv
  rw [List.getD_eq_getElem?_getD, nums_at hs hj]
  rfl
theorem dec_nums {cs : List Value} (hs : SOk cs) {j : Nat} (hj : j < 55) : some (dec (nums cs) j) = cs[j]? := by
  unfold dec
  rw [lv_nums hs hj]
  cases hb : isBit j with
  | false => rw [hs.int j hj hb]; rfl
  | true =>
    rw [hs.bit j hj hb, ← val_bit hs j hj hb]
    cases bval cs j <;> rfl
theorem decS_nums {cs : List Value} (hs : SOk cs) : decS (nums cs) = cs := by
  apply List.ext_getElem?
  intro i
  by_cases hi : i < 55
  · rw [decS_at _ i hi, dec_nums hs hi]
  · rw [List.getElem?_eq_none (by rw [decS_len]; omega), List.getElem?_eq_none (by rw [hs.len]; omega)]
theorem bit_within (b : Bool) : within (bit01 b) 0 1 = true := by cases b <;> rfl
theorem bads_nums {cs : List Value} (hs : SOk cs) : bads (nums cs) 55 = false := by
  rw [bads55, lv_nums hs (by decide), lv_nums hs (by decide), lv_nums hs (by decide), lv_nums hs (by decide), ← val_bit hs 45 (by decide) rfl, ← val_bit hs 47 (by decide) rfl, ← val_bit hs 51 (by decide) rfl, ← val_bit hs 52 (by decide) rfl]
  simp only [bit_within]; rfl
theorem nums_inj {cs ds : List Value} (h1 : SOk cs) (h2 : SOk ds) : nums cs = nums ds ↔ cs = ds := ⟨fun h => by rw [← decS_nums h1, h, decS_nums h2], fun h => by rw [h]⟩
theorem getS_nums {cs : List Value} (hs : SOk cs) : getS (nums cs) = if validB cs then (cs, 0) else (zeroS, 11) := by
  unfold getS
  rw [nums_len hs, bads_nums hs, decS_nums hs]
  cases validB cs <;> rfl
theorem getS_short (ls : List Int) : (getS ls).2 = 10 ↔ ls.length < 55 := by
  unfold getS
  split
  · simp [*]
  · split
    · simp [*]
    · split <;> simp [*]
theorem getS_ok {ls : List Int} (h : (getS ls).2 = 0) : ls.length = 55 ∧ bads ls 55 = false ∧ validB (decS ls) = true ∧ getS ls = (decS ls, 0) := by
  unfold getS at h ⊢
  split at h
  · cases h
  · split at h
    · cases h
    · split at h
      · cases h
      · rename_i h1 h2 h3
        simp only [Bool.or_eq_true, Bool.not_eq_true', not_or, Bool.not_eq_true, Bool.not_eq_false] at h3
        refine ⟨by omega, h3.1, h3.2, ?_⟩
        rw [if_neg h1, if_neg h2, if_neg (by simp [h3])]
theorem getS_bad {ls : List Int} (h : (getS ls).2 ≠ 0) : (getS ls).1 = zeroS := by
  unfold getS at h ⊢
  split
  · rfl
  · split
    · rfl
    · split
      · rfl
      · rename_i h1 h2 h3
        rw [if_neg h1, if_neg h2, if_neg h3] at h
        exact absurd rfl h
theorem nums_dec {ls : List Int} (hl : ls.length = 55) (hb : bads ls 55 = false) : nums (decS ls) = ls := by
  apply List.ext_getElem?
  intro i
  by_cases hi : i < 55
  · unfold nums
    rw [List.getElem?_map, decS_at ls i hi, lv_at hl i hi]
    show some (num01 (dec ls i)) = _
    congr 1
    unfold dec
    cases hbit : isBit i with
    | false => rfl
    | true =>
      rw [bads55] at hb
      simp only [Bool.or_eq_false_iff, Bool.not_eq_false', within, decide_eq_true_eq] at hb
      have h1 : 0 ≤ lv ls i ∧ lv ls i ≤ 1 := by
        simp only [isBit, Bool.or_eq_true, beq_iff_eq] at hbit
        rcases hbit with ((rfl | rfl) | rfl) | rfl
        · exact hb.1.1.1
        · exact hb.1.1.2
        · exact hb.1.2
        · exact hb.2
      by_cases e : lv ls i = 1
      · simp [e, num01, bit01]
      · simp [e, num01, bit01]; omega
  · rw [List.getElem?_eq_none (by rw [nums_len (decS_ok ls)]; omega), List.getElem?_eq_none (by omega)]
theorem nums_decS {ls : List Int} (h : (getS ls).2 = 0) : nums (getS ls).1 = ls := by
  obtain ⟨h1, h2, _, h4⟩ := getS_ok h
  simp only [h4]; exact nums_dec h1 h2
theorem getS_SOk (ls : List Int) : SOk (getS ls).1 := by
  by_cases h : (getS ls).2 = 0
  · simp only [(getS_ok h).2.2.2]; exact decS_ok ls
  · rw [getS_bad h]; exact zeroS_ok
theorem lenOk_val {k n : Int} (h : lenOk k n = true) : (-1099511627776 ≤ k ∧ k ≤ 1099511627776) ∧ (-1099511627776 ≤ n ∧ n ≤ 1099511627776) := by
  unfold lenOk at h
  have := of_decide_eq_true h
  omega
theorem within_val {n lo hi : Int} (h : within n lo hi = true) : lo ≤ n ∧ n ≤ hi := of_decide_eq_true h
/-- The numbers of a style that may be are within the limit. -/
theorem valid_bd {cs : List Value} (hs : SOk cs) (h : validB cs = true) : ∀ j, j < 55 → -1099511627776 ≤ val cs j ∧ val cs j ≤ 1099511627776 := by
  unfold validB kindsB waysB at h
  simp only [Bool.and_eq_true] at h
  obtain ⟨⟨⟨⟨⟨⟨⟨⟨k0, k1⟩, k2⟩, ⟨⟨w43, w44⟩, w49⟩, w50⟩, hlen⟩, hsiz⟩, h39⟩, h40⟩, h48⟩ := h
  have hlen' : ∀ j ∈ lenPos, lenOk (val cs j) (val cs (j + 1)) = true := by
    intro j hj
    unfold lensB lensOf at hlen
    rw [← all_any (fun p : Int × Int => lenOk p.1 p.2), List.all_eq_true] at hlen
    exact hlen _ (List.mem_map.2 ⟨j, hj, rfl⟩)
  have hsiz' : ∀ j ∈ sizPos, within (val cs j) 0 1048576 = true := by
    intro j hj
    unfold sizesB sizesOf at hsiz
    rw [← all_any (fun n : Int => within n 0 1048576), List.all_eq_true] at hsiz
    exact hsiz _ (List.mem_map.2 ⟨j, hj, rfl⟩)
  have key : ∀ j, j < 55 → (lenPos.any (fun i => i == j || i + 1 == j) || sizPos.contains j || [0, 1, 2, 43, 44, 49, 50, 39, 40, 48].contains j || isBit j) = true := by decide
  intro j hj
  have hk := key j hj
  simp only [Bool.or_eq_true] at hk
  rcases hk with ((hk | hk) | hk) | hk
  · obtain ⟨i, hi, he⟩ := List.any_eq_true.1 hk
    have h1 := lenOk_val (hlen' i hi)
    simp only [Bool.or_eq_true, beq_iff_eq] at he
    rcases he with rfl | rfl
    · exact h1.1
    · exact h1.2
  · have h1 := within_val (hsiz' j (by simpa using hk))
    omega
  · simp only [List.contains_eq_mem, decide_eq_true_eq, List.mem_cons, List.not_mem_nil, or_false] at hk
    rcases hk with rfl | rfl | rfl | rfl | rfl | rfl | rfl | rfl | rfl | rfl
    · have := within_val k0; omega
    · have := within_val k1; omega
    · have := within_val k2; omega
    · have := within_val w43; omega
    · have := within_val w44; omega
    · have := within_val w49; omega
    · have := within_val w50; omega
    · have := within_val h39; omega
    · have := within_val h40; omega
    · have := within_val h48; omega
  · rw [← val_bit hs j hj hk]
    cases bval cs j <;> simp [bit01]
def leafS : List Bool := List.replicate 45 true ++ [false, true, false, true, true, true, false, false, true, true]
theorem leafS_at : ∀ j, j < 55 → leafS[j]? = some (!isBit j) := by decide
theorem SOk.leaves {cs : List Value} (hs : SOk cs) : leavesB leafS cs = true := by
  refine leavesB_of (by rw [hs.len]; rfl) fun i k v hk hv => ?_
  have hi := (List.getElem?_eq_some_iff.1 hv).1
  rw [hs.len] at hi
  rw [leafS_at i hi] at hk
  cases hk
  cases hb : isBit i with
  | false => rw [hs.int i hi hb] at hv; cases hv; rfl
  | true => rw [hs.bit i hi hb] at hv; cases hv; rfl
theorem SOk.of_leaves {cs : List Value} (h : leavesB leafS cs = true) : SOk cs := by
  have hl := leavesB_len h
  have hget : ∀ (ks : List Bool) (cs : List Value), leavesB ks cs = true → ∀ (i : Nat) (k : Bool), ks[i]? = some k → ∃ v, cs[i]? = some v ∧ leafB k v = true := by
    intro ks
    induction ks with
    | nil => intro cs _ i k hk; simp at hk
    | cons k0 ks ih =>
      intro cs h i k hk
      cases cs with
      | nil => simp [leavesB] at h
      | cons v vs =>
        simp only [leavesB, Bool.and_eq_true] at h
        cases i with
        | zero => cases hk; exact ⟨v, rfl, h.1⟩
        | succ i => exact ih vs h.2 i k (by simpa using hk)
  refine ⟨hl, fun j hj hb => ?_, fun j hj hb => ?_⟩
  · obtain ⟨v, hv, hv2⟩ := hget _ _ h j _ (leafS_at j hj)
    rw [hb] at hv2
    unfold leafB at hv2
    split at hv2 <;> simp_all [val, num01, List.getD_eq_getElem?_getD]
  · obtain ⟨v, hv, hv2⟩ := hget _ _ h j _ (leafS_at j hj)
    rw [hb] at hv2
    unfold leafB at hv2
    split at hv2 <;> simp_all [bval, List.getD_eq_getElem?_getD]
end Go.Proofs.Ytabdcfobdehhiaa
