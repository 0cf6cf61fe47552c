/- The law FlexAlike: the plain law, the walk. -/
import Derived.Test.YtabdcfobdehhiaaFlexLawE
namespace Go.Proofs.Ytabdcfobdehhiaa
open Go.RowKit

theorem one_le_mul {a b : Int} (ha : 1 ≤ a) (hb : 1 ≤ b) : 1 ≤ a * b := by
  have := Int.mul_le_mul ha hb (by omega) (by omega)
  omega
section
variable {g : Bool} {room : Int} {es : List FE} {X : FItem} {W : Int}
theorem wts_all (h : ∀ (i : Nat) (e : FE), es[i]? = some e → wt g e = W) : ∀ (n j : Nat) (v : Int), (wts g es n)[j]? = some v → v = W
  | 0, j, v, hv => by simp [wts] at hv
  | n + 1, j, v, hv => by
    cases he : es[n]? with
    | none => rw [wts, he] at hv; exact wts_all h n j v (by simpa using hv)
    | some e =>
      cases hf : e.fr with
      | true => rw [wts_shut he hf] at hv; exact wts_all h n j v hv
      | false =>
        rw [wts_open he hf] at hv
        by_cases hj : j < (wts g es n).length
        · rw [List.getElem?_append_left hj] at hv; exact wts_all h n j v hv
        · rw [List.getElem?_append_right (by omega)] at hv
          have h5 : j - (wts g es n).length = 0 := by
            have := (List.getElem?_eq_some_iff.1 hv).1
            simp at this; omega
          rw [h5] at hv
          have : wt g e = v := by simpa using hv
          rw [← this]; exact h n e he
theorem psum_all_same {w : List Int} (hW : 0 ≤ W ∧ W ≤ 1073741824) (h : ∀ (j : Nat) (v : Int), w[j]? = some v → v = W) : ∀ j : Nat, j ≤ w.length → psum w j = j * W
  | 0, _ => by rw [psum_zero]; simp
  | j + 1, hj => by
    obtain ⟨v, hv⟩ : ∃ v, w[j]? = some v := ⟨_, List.getElem?_eq_getElem (by omega)⟩
    rw [psum_succ w j v hv, psum_all_same hW h j (by omega), h j v hv]
    have : wgt W = W := by unfold wgt; omega
    rw [this, Int.natCast_add, Int.add_mul]; simp
theorem pmark_same {w : List Int} {F : Int} (hW : 1 ≤ W ∧ W ≤ 1073741824) (h : ∀ (j : Nat) (v : Int), w[j]? = some v → v = W) (h1 : 1 ≤ w.length) {j : Nat} (hj : j ≤ w.length) : pmark F w j = lot F * j / w.length := by
  have e1 := psum_all_same ⟨by omega, hW.2⟩ h j hj
  have e2 := psum_all_same ⟨by omega, hW.2⟩ h w.length (Nat.le_refl _)
  have h3 : (1 : Int) ≤ w.length * W := one_le_mul (by omega) (by omega)
  unfold pmark whole
  rw [e1, e2, show max ((w.length : Int) * W) 1 = w.length * W by omega, ← Int.mul_assoc]
  exact Int.mul_ediv_mul_of_pos_left _ _ (by omega)
theorem part_bounds {w : List Int} {F : Int} (hW : 1 ≤ W ∧ W ≤ 1073741824) (h : ∀ (j : Nat) (v : Int), w[j]? = some v → v = W) {j : Nat} (hj : j < w.length) (m : Int) :
    (lot F ≤ w.length * m → pmark F w (j + 1) - pmark F w j ≤ m) ∧ (w.length * m ≤ lot F → m ≤ pmark F w (j + 1) - pmark F w j) := by
  rw [pmark_same hW h (by omega) (Nat.le_of_lt hj), pmark_same hW h (by omega) (show j + 1 ≤ w.length by omega)]
  have hr : (w.length : Int) ≠ 0 := by omega
  have e : lot F * ((j + 1 : Nat) : Int) = lot F * j + lot F := by rw [Int.natCast_add, Int.mul_add]; simp
  have e2 : (lot F * j + w.length * m) / (w.length : Int) = lot F * j / w.length + m := Int.add_mul_ediv_left _ _ hr
  rw [e]
  constructor
  · intro hle
    have := Int.ediv_le_ediv (a := lot F * j + lot F) (b := lot F * j + w.length * m) (c := (w.length : Int)) (by omega) (by omega)
    omega
  · intro hle
    have := Int.ediv_le_ediv (a := lot F * j + w.length * m) (b := lot F * j + lot F) (c := (w.length : Int)) (by omega) (by omega)
    omega
theorem took_same {B c : Int} (hB : ∀ (i : Nat) (e : FE), es[i]? = some e → e.it.base = B ∧ e.size = c) : ∀ n : Nat, n ≤ es.length → took es n = kth es n * B + (n - kth es n : Int) * c
  | 0, _ => by simp [took, kth, ats]
  | n + 1, hn => by
    obtain ⟨e, he⟩ : ∃ e, es[n]? = some e := ⟨_, List.getElem?_eq_getElem (by omega)⟩
    have ih := took_same hB n (by omega)
    obtain ⟨h1, h2⟩ := hB n e he
    cases hf : e.fr with
    | true =>
      rw [took_shut he hf, kth_shut he hf, ih, h2, show (((n + 1 : Nat) : Int) - (kth es n : Int)) = ((n : Int) - kth es n) + 1 by omega, Int.add_mul]
      omega
    | false =>
      rw [took_open he hf, kth_open he hf, ih, h1, show (((n + 1 : Nat) : Int) - ((kth es n + 1 : Nat) : Int)) = ((n : Int) - kth es n) by omega, Int.natCast_add, Int.add_mul]
      omega
theorem more_le (h : ∀ (i : Nat) (e : FE), es[i]? = some e → e.fr = false → gap g room es i e ≤ 0) : ∀ n, moreTo g room es n ≤ 0
  | 0 => by simp [moreTo]
  | n + 1 => by
    have ih := more_le h n
    cases he : es[n]? with
    | none => simp [moreTo, he]; exact ih
    | some e =>
      cases hf : e.fr with
      | true => rw [more_shut he hf]; exact ih
      | false => rw [more_open he hf]; have := h n e he hf; omega
theorem more_ge (h : ∀ (i : Nat) (e : FE), es[i]? = some e → e.fr = false → 0 ≤ gap g room es i e) : ∀ n, 0 ≤ moreTo g room es n
  | 0 => by simp [moreTo]
  | n + 1 => by
    have ih := more_ge h n
    cases he : es[n]? with
    | none => simp [moreTo, he]; exact ih
    | some e =>
      cases hf : e.fr with
      | true => rw [more_shut he hf]; exact ih
      | false => rw [more_open he hf]; have := h n e he hf; omega

/-- All alike, all of size c: it stays so, as long as what is wanted is on c's other side. -/
structure Phase (g : Bool) (room : Int) (X : FItem) (c : Int) (n : Nat) (es : List FE) : Prop where
  len : es.length = n
  all : ∀ (i : Nat) (e : FE), es[i]? = some e → e.it = X ∧ e.size = c
theorem phase_final {c : Int} {n : Nat} (step : ∀ es, Phase g room X c n es → ∀ (i : Nat) (e : FE), es[i]? = some e → e.fr = false → X.fit (want g room es i e) = c) : ∀ (k : Nat) (es : List FE), Phase g room X c n es → Phase g room X c n (rounds g room k es)
  | 0, _, h => h
  | k + 1, es, h => by
    unfold rounds
    split
    · exact h
    · refine phase_final step k _ ⟨by rw [round_length]; exact h.len, fun i e he => ?_⟩
      obtain ⟨e0, h0, rfl⟩ := round_at he
      obtain ⟨h1, h2⟩ := h.all i e0 h0
      cases hf : e0.fr with
      | true => simp only [froze, hf, if_true]; exact ⟨h1, h2⟩
      | false =>
        rw [froze_size hf]
        refine ⟨by simp only [froze, hf, Bool.false_eq_true, if_false]; exact h1, ?_⟩
        rw [h1]; exact step es h i e0 h0 hf
end
theorem alike_go {g : Bool} {room : Int} {X : FItem} {n : Nat} (hn : 1 ≤ n ∧ n ≤ 64) (hr : 0 ≤ room ∧ room ≤ 67108864) (hX : (0 ≤ X.base ∧ X.base ≤ 1048576) ∧ (0 ≤ X.low ∧ X.low ≤ 1048576) ∧ (0 ≤ X.high ∧ X.high ≤ 1048576) ∧ (0 ≤ X.grow ∧ X.grow ≤ 1000) ∧ (0 ≤ X.shrink ∧ X.shrink ≤ 1000))
    {c0 : Int} (hc0 : c0 = X.fit X.base) (hg : if g then n * c0 < room ∧ X.base ≤ c0 ∧ 1 ≤ X.grow else room ≤ n * c0 ∧ c0 ≤ X.base ∧ 1 ≤ X.shrink) :
    ∃ c : Int, ∀ (i : Nat) (e : FE), (final g room (List.replicate n ⟨X, c0, false⟩))[i]? = some e → c ≤ e.size ∧ e.size ≤ c + 1 := by
  obtain ⟨W, hWd⟩ : ∃ W, (if g then X.grow else X.shrink * X.base) = W := ⟨_, rfl⟩
  have hfit : ∀ v, X.fit v = max X.low (min v X.high) := fun v => by
    unfold FItem.fit
    have e1 : cl20 X.low = X.low := by unfold cl20; omega
    have e2 : cl20 X.high = X.high := by unfold cl20; omega
    rw [e1, e2]
  have hWb : 0 ≤ W ∧ W ≤ 1073741824 := by
    rw [← hWd]
    cases g with
    | true => simp only [if_true]; omega
    | false =>
      simp only [Bool.false_eq_true, if_false]
      have h1 : 0 ≤ X.shrink * X.base := Int.mul_nonneg (by omega) (by omega)
      have h2 : X.shrink * X.base ≤ 1000 * 1048576 := Int.mul_le_mul (by omega) (by omega) (by omega) (by omega)
      omega
  have hwt : ∀ e : FE, e.it = X → wt g e = W := fun e h => by unfold wt; rw [h]; exact hWd
  have hpw : ∀ (es : List FE) (i : Nat) (e : FE), (∀ (i : Nat) (e : FE), es[i]? = some e → e.it = X) → es[i]? = some e → e.fr = false → ∃ p : Int, want g room es i e = X.base + sg g * p ∧ 0 ≤ p ∧ (W = 0 → p = 0) ∧
      (∀ m : Int, 1 ≤ W → lot (fre g room es) ≤ kth es es.length * m → p ≤ m) ∧ (∀ m : Int, 1 ≤ W → kth es es.length * m ≤ lot (fre g room es) → m ≤ p) ∧ (lot (fre g room es) = 0 → p = 0) ∧
      p = pmark (fre g room es) (wts g es es.length) (kth es i + 1) - pmark (fre g room es) (wts g es es.length) (kth es i) := by
    intro es i e hall he hf
    have hk := kth_lt he hf
    have hl := kth_wts g es es.length
    have hsame := wts_all (g := g) (W := W) (fun i e h => hwt e (hall i e h)) es.length
    refine ⟨_, by unfold want parts; rw [hall i e he, List.getD_eq_getElem?_getD, share_get _ _ _ (by omega)]; rfl, ?_, ?_, ?_, ?_, ?_, rfl⟩
    · have := pmark_mono (fre g room es) (wts g es es.length) (kth es i); omega
    · intro h0
      have h1 : ∀ j : Nat, j ≤ (wts g es es.length).length → psum (wts g es es.length) j = 0 := fun j hj => by rw [psum_all_same hWb hsame j hj, h0]; simp
      rw [pmark_none _ _ _ (h1 _ (by omega)), pmark_none _ _ _ (h1 _ (by omega))]; rfl
    · intro m h1 h2
      exact (part_bounds ⟨h1, hWb.2⟩ hsame (j := kth es i) (by omega) m).1 (by rw [hl]; exact h2)
    · intro m h1 h2
      exact (part_bounds ⟨h1, hWb.2⟩ hsame (j := kth es i) (by omega) m).2 (by rw [hl]; exact h2)
    · intro h0
      have h1 : ∀ k, pmark (fre g room es) (wts g es es.length) k = 0 := fun k => by unfold pmark; rw [h0, Int.zero_mul, Int.zero_ediv]
      rw [h1, h1]; rfl
  -- the first round
  generalize hes : List.replicate n (⟨X, c0, false⟩ : FE) = es
  have hlen : es.length = n := by rw [← hes]; simp
  have hat : ∀ (i : Nat) (e : FE), es[i]? = some e → e = ⟨X, c0, false⟩ := by
    intro i e he
    rw [← hes] at he
    have := List.mem_of_getElem? he
    exact List.eq_of_mem_replicate this
  have hopen : ∀ (i : Nat) (e : FE), es[i]? = some e → e.fr = false := fun i e he => by rw [hat i e he]
  have hkth := kth_all hopen
  have hkn : kth es es.length = n := by rw [hkth _ (Nat.le_refl _), hlen]
  have hk0 : kth es es.length ≠ 0 := by omega
  have htook : took es es.length = n * X.base := by
    have h1 := took_same (es := es) (B := X.base) (c := c0) (fun i e he => by rw [hat i e he]; exact ⟨rfl, rfl⟩) es.length (Nat.le_refl _)
    rw [hkn, hlen] at h1
    rw [hlen, h1]; simp
  obtain ⟨F, hF⟩ : ∃ F, fre g room es = F := ⟨_, rfl⟩
  have hFv : F = sg g * (room - n * X.base) := by rw [← hF]; unfold fre; rw [htook]
  have hnb : (n : Int) * X.base ≤ 64 * 1048576 := Int.mul_le_mul (by omega) (by omega) (by omega) (by omega)
  have hnb0 : 0 ≤ (n : Int) * X.base := Int.mul_nonneg (by omega) (by omega)
  have hF0 : 0 ≤ F ∧ F ≤ 67108864 := by
    rw [hFv]
    cases g with
    | true =>
      simp only [if_true] at hg
      have h1 : (n : Int) * X.base ≤ n * c0 := Int.mul_le_mul_of_nonneg_left hg.2.1 (by omega)
      simp only [sg, if_true]; omega
    | false =>
      simp only [Bool.false_eq_true, if_false] at hg
      have h1 : (n : Int) * c0 ≤ n * X.base := Int.mul_le_mul_of_nonneg_left hg.2.1 (by omega)
      simp only [sg, Bool.false_eq_true, if_false]; omega
  have hlF : lot F = F := by unfold lot; omega
  have hfin : final g room es = final g room (round g room es) := (final_step hk0).symm
  rw [hfin]
  have hw1 := fun (i : Nat) (e : FE) (he : es[i]? = some e) => hpw es i e (fun i e h => by rw [hat i e h]) he (hopen i e he)
  have hrit : ∀ (i : Nat) (e : FE), (round g room es)[i]? = some e → ∃ e0, es[i]? = some e0 ∧ e.it = X ∧ e.size = X.fit (want g room es i e0) ∧ e.fr = judge (moreTo g room es es.length) (gap g room es i e0) := by
    intro i e he
    obtain ⟨e0, h0, rfl⟩ := round_at he
    refine ⟨e0, h0, ?_⟩
    have := hat i e0 h0
    subst this
    simp [froze]
  by_cases hall : ∀ (i : Nat) (e : FE), (round g room es)[i]? = some e → e.fr = true
  · -- all are frozen at once
    rw [final_done (kth_none hall _)]
    by_cases hW : W = 0
    · refine ⟨X.fit X.base, fun i e he => ?_⟩
      obtain ⟨e0, h0, _, h1, _⟩ := hrit i e he
      obtain ⟨p, hp, _, h3, _⟩ := hw1 i e0 h0
      rw [h1, hp, h3 hW, Int.mul_zero, Int.add_zero]; omega
    · have hn0 : (n : Int) ≠ 0 := by omega
      have hd1 := Int.mul_ediv_add_emod F n
      have hd2 := Int.emod_nonneg F hn0
      have hd3 := Int.emod_lt_of_pos F (show (0 : Int) < n by omega)
      obtain ⟨q, hq⟩ : ∃ q, F / (n : Int) = q := ⟨_, rfl⟩
      rw [hq] at hd1
      refine ⟨X.fit (if g then X.base + q else X.base - q - 1), fun i e he => ?_⟩
      obtain ⟨e0, h0, _, h1, _⟩ := hrit i e he
      obtain ⟨p, hp, _, _, h4, h5, _⟩ := hw1 i e0 h0
      have h6 := h4 (q + 1) (by omega) (by rw [hF, hlF, hkn, Int.mul_add]; omega)
      have h7 := h5 q (by omega) (by rw [hF, hlF, hkn]; omega)
      rw [h1, hp, hfit, hfit]
      cases g <;> simp only [sg, Bool.false_eq_true, if_true, if_false] <;> omega
  · -- some are open still
    have hex : ∃ (i : Nat) (e0 : FE), es[i]? = some e0 ∧ judge (moreTo g room es es.length) (gap g room es i e0) = false := by
      refine Classical.byContradiction fun hno => hall fun i e he => ?_
      obtain ⟨e0, h0, _, _, h3⟩ := hrit i e he
      rw [h3]
      cases hj : judge (moreTo g room es es.length) (gap g room es i e0) with
      | true => rfl
      | false => exact absurd ⟨i, e0, h0, hj⟩ hno
    obtain ⟨i1, e1, hi1, hj1⟩ := hex
    have hm0 : moreTo g room es es.length ≠ 0 := fun h => by rw [h] at hj1; simp [judge] at hj1
    have hW : W ≠ 0 := by
      intro hW
      -- all gaps are the same
      have hgap : ∀ (i : Nat) (e : FE), es[i]? = some e → gap g room es i e = X.fit X.base - X.base := by
        intro i e he
        obtain ⟨p, hp, _, h3, _⟩ := hw1 i e he
        unfold gap
        rw [hp, h3 hW, hat i e he]; simp
      have h1 := hgap i1 e1 hi1
      rcases Int.lt_trichotomy (X.fit X.base - X.base) 0 with h2 | h2 | h2
      · have h3 := more_le (g := g) (room := room) (es := es) (fun i e he _ => by rw [hgap i e he]; omega) es.length
        rw [h1] at hj1
        have : judge (moreTo g room es es.length) (X.fit X.base - X.base) = true := by simp [judge]; omega
        rw [this] at hj1; cases hj1
      · have h3 := more_le (g := g) (room := room) (es := es) (fun i e he _ => by rw [hgap i e he]; omega) es.length
        have h4 := more_ge (g := g) (room := room) (es := es) (fun i e he _ => by rw [hgap i e he]; omega) es.length
        omega
      · have h4 := more_ge (g := g) (room := room) (es := es) (fun i e he _ => by rw [hgap i e he]; omega) es.length
        rw [h1] at hj1
        have : judge (moreTo g room es es.length) (X.fit X.base - X.base) = true := by simp [judge]; omega
        rw [this] at hj1; cases hj1
    have hW1 : 1 ≤ W := by omega
    have hn0 : (n : Int) ≠ 0 := by omega
    have hd1 := Int.mul_ediv_add_emod F n
    have hd2 := Int.emod_nonneg F hn0
    have hd3 := Int.emod_lt_of_pos F (show (0 : Int) < n by omega)
    obtain ⟨q, hq⟩ : ∃ q, F / (n : Int) = q := ⟨_, rfl⟩
    rw [hq] at hd1
    obtain ⟨m, hm⟩ : ∃ m, (if g then X.base + q else X.base - q - 1) = m := ⟨_, rfl⟩
    have hwm : ∀ (i : Nat) (e : FE), es[i]? = some e → m ≤ want g room es i e ∧ want g room es i e ≤ m + 1 ∧ (g = true → X.base ≤ want g room es i e) ∧ (g = false → want g room es i e ≤ X.base) := by
      intro i e he
      obtain ⟨p, hp, hp0, _, h4, h5, _⟩ := hw1 i e he
      have h6 := h4 (q + 1) hW1 (by rw [hF, hlF, hkn, Int.mul_add]; omega)
      have h7 := h5 q hW1 (by rw [hF, hlF, hkn]; omega)
      rcases sg_or g with ⟨hgt, hs⟩ | ⟨hgt, hs⟩
      · rw [hs] at hp
        rw [hgt, if_pos rfl] at hm
        exact ⟨by omega, by omega, fun _ => by omega, fun h => by rw [hgt] at h; cases h⟩
      · rw [hs] at hp
        rw [hgt, if_neg (by simp)] at hm
        exact ⟨by omega, by omega, fun h => by (rw [hgt] at h; cases h), fun _ => by omega⟩
    -- the sum of what is wanted is the room
    have hws : (wts g es es.length).length = n := by rw [kth_wts, hkn]
    have hsame := wts_all (g := g) (W := W) (fun i e h => hwt e (by rw [hat i e h])) es.length
    have hend : pmark F (wts g es es.length) n = F := by
      have := pmark_whole F (wts g es es.length) (by rw [psum_all_same hWb hsame _ (Nat.le_refl _), hws]; have := one_le_mul (a := (n : Int)) (b := W) (by omega) hW1; omega)
      rw [hws] at this
      rw [this, hlF]
    have hS : ∀ (b : Int), (∀ (i : Nat) (e : FE), es[i]? = some e → want g room es i e ≤ b) → (∃ (i : Nat) (e : FE), es[i]? = some e ∧ want g room es i e < b) → room < n * b := by
      intro b hle ⟨i2, e2, hi2, hlt⟩
      have key : ∀ k : Nat, k ≤ n → k * X.base + sg g * pmark F (wts g es es.length) k ≤ k * b ∧ (i2 < k → k * X.base + sg g * pmark F (wts g es es.length) k < k * b) := by
        intro k
        induction k with
        | zero => intro _; rw [pmark_zero]; simp
        | succ k ih =>
          intro hk
          obtain ⟨ih1, ih2⟩ := ih (by omega)
          obtain ⟨e, he⟩ : ∃ e, es[k]? = some e := ⟨_, List.getElem?_eq_getElem (by omega)⟩
          obtain ⟨p, hp, _, _, _, _, _, hpe⟩ := hw1 k e he
          rw [hF, hkth k (by omega)] at hpe
          have h8 := hle k e he
          rw [hp, hpe, Int.mul_sub] at h8
          rw [Int.natCast_add, Int.add_mul, Int.add_mul]
          refine ⟨by simp; omega, fun hi => ?_⟩
          by_cases hik : i2 = k
          · subst hik
            rw [he] at hi2
            cases hi2
            rw [hp, hpe, Int.mul_sub] at hlt
            simp; omega
          · have := ih2 (by omega)
            simp; omega
      have h9 := (key n (Nat.le_refl _)).2 (by have := (List.getElem?_eq_some_iff.1 hi2).1; omega)
      rw [hend, hFv] at h9
      cases g <;> simp [sg] at h9 <;> omega
    have hS2 : ∀ (b : Int), (∀ (i : Nat) (e : FE), es[i]? = some e → b ≤ want g room es i e) → (∃ (i : Nat) (e : FE), es[i]? = some e ∧ b < want g room es i e) → n * b < room := by
      intro b hle ⟨i2, e2, hi2, hlt⟩
      have key : ∀ k : Nat, k ≤ n → k * b ≤ k * X.base + sg g * pmark F (wts g es es.length) k ∧ (i2 < k → k * b < k * X.base + sg g * pmark F (wts g es es.length) k) := by
        intro k
        induction k with
        | zero => intro _; rw [pmark_zero]; simp
        | succ k ih =>
          intro hk
          obtain ⟨ih1, ih2⟩ := ih (by omega)
          obtain ⟨e, he⟩ : ∃ e, es[k]? = some e := ⟨_, List.getElem?_eq_getElem (by omega)⟩
          obtain ⟨p, hp, _, _, _, _, _, hpe⟩ := hw1 k e he
          rw [hF, hkth k (by omega)] at hpe
          have h8 := hle k e he
          rw [hp, hpe, Int.mul_sub] at h8
          rw [Int.natCast_add, Int.add_mul, Int.add_mul]
          refine ⟨by simp; omega, fun hi => ?_⟩
          by_cases hik : i2 = k
          · subst hik
            rw [he] at hi2
            cases hi2
            rw [hp, hpe, Int.mul_sub] at hlt
            simp; omega
          · have := ih2 (by omega)
            simp; omega
      have h9 := (key n (Nat.le_refl _)).2 (by have := (List.getElem?_eq_some_iff.1 hi2).1; omega)
      rw [hend, hFv] at h9
      cases g <;> simp [sg] at h9 <;> omega
    have hgapv : ∀ (i : Nat) (e : FE), es[i]? = some e → gap g room es i e = max X.low (min (want g room es i e) X.high) - want g room es i e := by
      intro i e he
      unfold gap
      rw [show e.it.fit (want g room es i e) = X.fit (want g room es i e) by rw [hat i e he], hfit]
    rcases Int.lt_trichotomy (moreTo g room es es.length) 0 with hmm | hmm | hmm
    · -- too large: all are at their most
      have hex2 : ∃ (i : Nat) (e : FE), es[i]? = some e ∧ gap g room es i e < 0 := by
        refine Classical.byContradiction fun hno => ?_
        have := more_ge (g := g) (room := room) (es := es) (fun i e he _ => Int.not_lt.1 fun h => hno ⟨i, e, he, h⟩) es.length
        omega
      obtain ⟨i2, e2, hi2, hg2⟩ := hex2
      rw [hgapv i2 e2 hi2] at hg2
      have h2 := hwm i2 e2 hi2
      obtain ⟨Hh, hHh⟩ : ∃ Hh, max X.low X.high = Hh := ⟨_, rfl⟩
      have hmH : Hh ≤ m := by omega
      have hroom := hS2 Hh (fun i e he => by have := hwm i e he; omega) ⟨i2, e2, hi2, by omega⟩
      have hph : Phase g room X Hh n (round g room es) := ⟨by rw [round_length]; exact hlen, fun i e he => by
        obtain ⟨e0, h0, h3, h4, _⟩ := hrit i e he
        have := hwm i e0 h0
        exact ⟨h3, by rw [h4, hfit]; omega⟩⟩
      refine ⟨Hh, fun i e he => ?_⟩
      have hend2 := (phase_final (fun es' h' i e he hf => ?_) _ _ hph).all i e he
      · rw [hend2.2]; omega
      · obtain ⟨p, hp, hp0, _, h4, h5, h6, _⟩ := hpw es' i e (fun i e h => (h'.all i e h).1) he hf
        have ht := took_same (es := es') (B := X.base) (c := Hh) (fun i e he => by obtain ⟨a, b⟩ := h'.all i e he; exact ⟨by rw [a], b⟩) es'.length (Nat.le_refl _)
        have hkl := kth_lt he hf
        have hkle := kth_le es' es'.length
        obtain ⟨r, hr'⟩ : ∃ r, kth es' es'.length = r := ⟨_, rfl⟩
        rw [hr'] at ht hkl hkle h4 h5
        rw [h'.len] at ht hkle
        have hFe : fre g room es' = sg g * (room - took es' n) := by unfold fre; rw [h'.len]
        rw [ht] at hFe
        rw [hp, hfit]
        have hsplit : ((n : Int) - r) * Hh = n * Hh - r * Hh := Int.sub_mul _ _ _
        have hrH : (r : Int) * (Hh - X.base) = r * Hh - r * X.base := Int.mul_sub _ _ _
        have hrH2 : (r : Int) * (X.base - Hh) = r * X.base - r * Hh := Int.mul_sub _ _ _
        have hpos1 : 0 ≤ ((n : Int) - r) * Hh := Int.mul_nonneg (by omega) (by omega)
        have hpos2 : 0 ≤ (r : Int) * X.base := Int.mul_nonneg (by omega) (by omega)
        cases hgc : g with
        | true =>
          rw [hgc] at hg hFe h4 h5
          simp only [if_true, sg] at hg hFe ⊢
          have h10 : c0 ≤ Hh := by rw [hc0, hfit]; omega
          have hnn : 0 ≤ (r : Int) * (Hh - X.base) := Int.mul_nonneg (by omega) (by omega)
          have hl : lot (fre true room es') = fre true room es' := by unfold lot; omega
          have := h5 (Hh - X.base) hW1 (by omega)
          omega
        | false =>
          rw [hgc] at hg hFe h4 h5 h2
          simp only [Bool.false_eq_true, if_false, sg] at hg hFe ⊢
          have hBH : Hh ≤ X.base := by have := h2.2.2.2 rfl; omega
          have hnn : 0 ≤ (r : Int) * (X.base - Hh) := Int.mul_nonneg (by omega) (by omega)
          have := h4 (X.base - Hh) hW1 (by unfold lot; omega)
          omega
    · exact absurd hmm hm0
    · -- too small: all are at their least
      have hex2 : ∃ (i : Nat) (e : FE), es[i]? = some e ∧ 0 < gap g room es i e := by
        refine Classical.byContradiction fun hno => ?_
        have := more_le (g := g) (room := room) (es := es) (fun i e he _ => Int.not_lt.1 fun h => hno ⟨i, e, he, h⟩) es.length
        omega
      obtain ⟨i2, e2, hi2, hg2⟩ := hex2
      rw [hgapv i2 e2 hi2] at hg2
      have h2 := hwm i2 e2 hi2
      have hroom := hS X.low (fun i e he => by have := hwm i e he; omega) ⟨i2, e2, hi2, by omega⟩
      have hph : Phase g room X X.low n (round g room es) := ⟨by rw [round_length]; exact hlen, fun i e he => by
        obtain ⟨e0, h0, h3, h4, _⟩ := hrit i e he
        have := hwm i e0 h0
        exact ⟨h3, by rw [h4, hfit]; omega⟩⟩
      refine ⟨X.low, fun i e he => ?_⟩
      have hend2 := (phase_final (fun es' h' i e he hf => ?_) _ _ hph).all i e he
      · rw [hend2.2]; omega
      · obtain ⟨p, hp, hp0, _, h4, h5, h6, _⟩ := hpw es' i e (fun i e h => (h'.all i e h).1) he hf
        have ht := took_same (es := es') (B := X.base) (c := X.low) (fun i e he => by obtain ⟨a, b⟩ := h'.all i e he; exact ⟨by rw [a], b⟩) es'.length (Nat.le_refl _)
        have hkl := kth_lt he hf
        have hkle := kth_le es' es'.length
        obtain ⟨r, hr'⟩ : ∃ r, kth es' es'.length = r := ⟨_, rfl⟩
        rw [hr'] at ht hkl hkle h4 h5
        rw [h'.len] at ht hkle
        have hFe : fre g room es' = sg g * (room - took es' n) := by unfold fre; rw [h'.len]
        rw [ht] at hFe
        rw [hp, hfit]
        have hsplit : ((n : Int) - r) * X.low = n * X.low - r * X.low := Int.sub_mul _ _ _
        have hrH : (r : Int) * (X.low - X.base) = r * X.low - r * X.base := Int.mul_sub _ _ _
        have hrH2 : (r : Int) * (X.base - X.low) = r * X.base - r * X.low := Int.mul_sub _ _ _
        have hpos1 : 0 ≤ ((n : Int) - r) * X.low := Int.mul_nonneg (by omega) (by omega)
        have hpos2 : 0 ≤ (r : Int) * X.base := Int.mul_nonneg (by omega) (by omega)
        have hup1 : ((n : Int) - r) * X.low ≤ (n - r) * 1048576 := Int.mul_le_mul_of_nonneg_left (by omega) (by omega)
        have hup2 : (r : Int) * X.base ≤ r * 1048576 := Int.mul_le_mul_of_nonneg_left (by omega) (by omega)
        cases hgc : g with
        | true =>
          have hBl : X.base ≤ X.low := by have := h2.2.2.1 hgc; omega
          rw [hgc] at hg hFe h4 h5
          simp only [if_true, sg] at hg hFe ⊢
          have hnn : 0 ≤ (r : Int) * (X.low - X.base) := Int.mul_nonneg (by omega) (by omega)
          have := h4 (X.low - X.base) hW1 (by unfold lot; omega)
          omega
        | false =>
          rw [hgc] at hg hFe h4 h5
          simp only [Bool.false_eq_true, if_false, sg] at hg hFe ⊢
          have h10 : X.low ≤ c0 := by rw [hc0, hfit]; omega
          have hnn : 0 ≤ (r : Int) * (X.base - X.low) := Int.mul_nonneg (by omega) (by omega)
          have hl : lot (fre false room es') = fre false room es' := by unfold lot; omega
          have := h5 (X.base - X.low) hW1 (by omega)
          omega
end Go.Proofs.Ytabdcfobdehhiaa
