/- The rounds: bounds, and that they end. -/
import Derived.Test.YtabdcfobdehhiaaFlexTab
namespace Go.Proofs.Ytabdcfobdehhiaa
open Go.RowKit

theorem pmark_mono (n : Int) (w : List Int) (k : Nat) : pmark n w k ≤ pmark n w (k + 1) := by
  unfold pmark
  have h1 := psum_mono w k
  have h2 := lot_bd n
  have h3 : 1 ≤ whole w := by unfold whole; omega
  exact Int.ediv_le_ediv (by omega) (Int.mul_le_mul_of_nonneg_left h1 h2.1)
theorem pmark_top (n : Int) (w : List Int) (k : Nat) : 0 ≤ pmark n w k ∧ pmark n w k ≤ lot n := by
  unfold pmark
  have h1 := psum_all w k
  have h0 := (psum_bd w k).1
  have h2 := lot_bd n
  have h3 : 1 ≤ whole w := by unfold whole; omega
  have h4 : psum w k ≤ whole w := by unfold whole; omega
  refine ⟨Int.ediv_nonneg (Int.mul_nonneg h2.1 h0) (by omega), ?_⟩
  have h5 : lot n * psum w k ≤ lot n * whole w := Int.mul_le_mul_of_nonneg_left h4 h2.1
  calc lot n * psum w k / whole w ≤ lot n * whole w / whole w := Int.ediv_le_ediv (by omega) h5
    _ = lot n := Int.mul_ediv_cancel _ (by omega)
theorem share_get (n : Int) (w : List Int) (k : Nat) (hk : k < w.length) : (share n w)[k]? = some (pmark n w (k + 1) - pmark n w k) := by simp [share, hk]
theorem share_bd (n : Int) (w : List Int) (k : Nat) : 0 ≤ (share n w).getD k 0 ∧ (share n w).getD k 0 ≤ 67108864 := by
  by_cases hk : k < w.length
  · rw [List.getD_eq_getElem?_getD, share_get n w k hk]
    have h1 := pmark_mono n w k
    have h2 := pmark_top n w k
    have h3 := pmark_top n w (k + 1)
    have h4 := lot_bd n
    simp only [Option.getD_some]
    omega
  · rw [List.getD_eq_getElem?_getD, List.getElem?_eq_none (by rw [share_length]; omega)]
    simp

section
variable {g : Bool} {room : Int} {es : List FE}
def oks (es : List FE) : Prop := ∀ (i : Nat) (e : FE), es[i]? = some e → e.ok
theorem took_bd (h : oks es) : ∀ i : Nat, 0 ≤ took es i ∧ took es i ≤ i * 1048576
  | 0 => by simp [took]
  | i + 1 => by
    have h1 := took_bd h i
    simp only [took]
    cases he : es[i]? with
    | none => simp only; omega
    | some e =>
      have h2 := h i e he
      unfold FE.ok at h2
      simp only
      split <;> omega
theorem sg_or (g : Bool) : (g = true ∧ sg g = 1) ∨ (g = false ∧ sg g = -1) := by cases g <;> simp [sg]
theorem want_bd (h : oks es) {i : Nat} {e : FE} (he : es[i]? = some e) : -67108864 ≤ want g room es i e ∧ want g room es i e ≤ 68157440 := by
  have h1 := h i e he
  unfold FE.ok at h1
  have h2 := share_bd (fre g room es) (wts g es es.length) (kth es i)
  unfold want parts
  rcases sg_or g with ⟨_, e⟩ | ⟨_, e⟩ <;> rw [e] <;> omega
theorem gap_bd (h : oks es) {i : Nat} {e : FE} (he : es[i]? = some e) : -68157440 ≤ gap g room es i e ∧ gap g room es i e ≤ 68157440 := by
  have h1 := want_bd (g := g) (room := room) h he
  have h2 := fit_bd e.it (want g room es i e)
  unfold gap
  have h3 : e.it.fit (want g room es i e) = max (cl20 e.it.low) (min (want g room es i e) (cl20 e.it.high)) := rfl
  have h4 := cl20_bd e.it.low; have h5 := cl20_bd e.it.high
  omega
theorem more_bd (h : oks es) : ∀ i : Nat, -(i * 68157440 : Int) ≤ moreTo g room es i ∧ moreTo g room es i ≤ i * 68157440
  | 0 => by simp [moreTo]
  | i + 1 => by
    have h1 := more_bd h i
    simp only [moreTo]
    cases he : es[i]? with
    | none => simp only; omega
    | some e =>
      have h2 := gap_bd (g := g) (room := room) h he
      simp only
      split <;> omega
theorem wt_bd {e : FE} (h : e.ok) (g : Bool) : 0 ≤ wt g e ∧ wt g e ≤ 1048576000 := by
  unfold FE.ok at h
  unfold wt
  cases g
  · simp only [Bool.false_eq_true, if_false]
    refine ⟨Int.mul_nonneg (by omega) (by omega), ?_⟩
    calc e.it.shrink * e.it.base ≤ 1000 * 1048576 := Int.mul_le_mul (by omega) (by omega) (by omega) (by omega)
      _ = 1048576000 := by decide
  · simp only [if_true]; omega
theorem mul_bd {e : FE} (h : e.ok) : 0 ≤ e.it.shrink * e.it.base ∧ e.it.shrink * e.it.base ≤ 1048576000 := by simpa [wt] using wt_bd h false

theorem round_length (g : Bool) (room : Int) (es : List FE) : (round g room es).length = es.length := by simp [round]
theorem round_get {i : Nat} {e : FE} (he : es[i]? = some e) : (round g room es)[i]? = some (froze g room es i e) := by simp [round, List.getElem?_mapIdx, he]
theorem round_oks (h : oks es) : oks (round g room es) := by
  intro i e' he'
  cases he : es[i]? with
  | none => simp [round, List.getElem?_mapIdx, he] at he'
  | some e =>
    rw [round_get he] at he'
    have h1 := h i e he
    have h2 := fit_bd e.it (want g room es i e)
    cases he'
    unfold FE.ok at *
    unfold froze
    split
    · exact h1
    · simp only; omega
theorem froze_open {i : Nat} {e : FE} (h : (froze g room es i e).fr = false) : e.fr = false := by
  unfold froze at h
  split at h
  · rename_i h1; rw [h1] at h; cases h
  · rename_i h1; simpa using h1
/-- One that is open is shut by the round. -/
theorem round_shuts (h0 : kth es es.length ≠ 0) : ∃ i e, es[i]? = some e ∧ e.fr = false ∧ (froze g room es i e).fr = true := by
  have hmono : ∀ s : Int, (s = 1 ∨ s = -1) → (∀ i e, es[i]? = some e → e.fr = false → s * gap g room es i e ≤ 0) → ∀ n, s * moreTo g room es n ≤ 0 := by
    intro s hs hall n
    induction n with
    | zero => simp [moreTo]
    | succ n ih =>
      simp only [moreTo]
      cases he : es[n]? with
      | none => simp only; rw [Int.mul_add]; omega
      | some e =>
        simp only
        cases hf : e.fr with
        | true => simp only [if_true]; rw [Int.mul_add]; omega
        | false => have := hall n e he hf; simp only [Bool.false_eq_true, if_false]; rw [Int.mul_add]; omega
  obtain ⟨k, hk⟩ : ∃ k, kth es es.length = k + 1 := ⟨kth es es.length - 1, by omega⟩
  obtain ⟨j, hj⟩ : ∃ j, (ats es es.length)[k]? = some j := ⟨_, List.getElem?_eq_getElem (by unfold kth at hk; omega)⟩
  obtain ⟨e, he, hf, _, _⟩ := ats_find es _ hj
  rcases Int.lt_trichotomy (moreTo g room es es.length) 0 with hm | hm | hm
  · by_cases hx : ∃ i e, es[i]? = some e ∧ e.fr = false ∧ gap g room es i e < 0
    · obtain ⟨i, e, he, hf, hg⟩ := hx
      exact ⟨i, e, he, hf, by simp [froze, hf, judge, hm, hg]⟩
    · have := hmono (-1) (.inr rfl) (fun i e he hf => by
        have : ¬ gap g room es i e < 0 := fun h => hx ⟨i, e, he, hf, h⟩
        omega) es.length
      omega
  · exact ⟨j, e, he, hf, by simp [froze, hf, judge, hm]⟩
  · by_cases hx : ∃ i e, es[i]? = some e ∧ e.fr = false ∧ gap g room es i e > 0
    · obtain ⟨i, e, he, hf, hg⟩ := hx
      exact ⟨i, e, he, hf, by simp [froze, hf, judge, hm, hg]⟩
    · have := hmono 1 (.inl rfl) (fun i e he hf => by
        have : ¬ gap g room es i e > 0 := fun h => hx ⟨i, e, he, hf, h⟩
        omega) es.length
      omega
theorem kth_sub {es es' : List FE} (hl : es'.length = es.length) (h : ∀ (i : Nat) (e e' : FE), es[i]? = some e → es'[i]? = some e' → e'.fr = false → e.fr = false) : ∀ i, kth es' i ≤ kth es i
  | 0 => by simp [kth, ats]
  | i + 1 => by
    have ih := kth_sub hl h i
    cases he : es[i]? with
    | none =>
      have he' : es'[i]? = none := by rw [List.getElem?_eq_none_iff] at he ⊢; omega
      simp only [kth, ats, he, he'] at ih ⊢; simpa using ih
    | some e =>
      obtain ⟨e', he'⟩ : ∃ e', es'[i]? = some e' := ⟨_, List.getElem?_eq_getElem (by have := (List.getElem?_eq_some_iff.1 he).1; omega)⟩
      cases hf' : e'.fr with
      | true => rw [kth_shut he' hf']; have := (kth_step es i).1; omega
      | false => rw [kth_open he' hf', kth_open he (h i e e' he he' hf')]; omega
theorem kth_sub_lt {es es' : List FE} (hl : es'.length = es.length) (h : ∀ (i : Nat) (e e' : FE), es[i]? = some e → es'[i]? = some e' → e'.fr = false → e.fr = false)
    {j : Nat} {e e' : FE} (he : es[j]? = some e) (he' : es'[j]? = some e') (hf : e.fr = false) (hf' : e'.fr = true) : ∀ i, j < i → kth es' i < kth es i
  | 0, h0 => by omega
  | i + 1, h0 => by
    by_cases hj : j = i
    · subst hj
      rw [kth_shut he' hf', kth_open he hf]
      have := kth_sub hl h j; omega
    · have ih := kth_sub_lt hl h he he' hf hf' i (by omega)
      cases hx : es[i]? with
      | none =>
        have hx' : es'[i]? = none := by rw [List.getElem?_eq_none_iff] at hx ⊢; omega
        simp only [kth, ats, hx, hx'] at ih ⊢; simpa using ih
      | some x =>
        obtain ⟨x', hx'⟩ : ∃ x', es'[i]? = some x' := ⟨_, List.getElem?_eq_getElem (by have := (List.getElem?_eq_some_iff.1 hx).1; omega)⟩
        cases hg' : x'.fr with
        | true => rw [kth_shut hx' hg']; have := (kth_step es i).1; omega
        | false => rw [kth_open hx' hg', kth_open hx (h i x x' hx hx' hg')]; omega
theorem round_less (h0 : kth es es.length ≠ 0) : kth (round g room es) (round g room es).length < kth es es.length := by
  obtain ⟨i, e, he, hf, hs⟩ := round_shuts (g := g) (room := room) h0
  rw [round_length]
  refine kth_sub_lt (round_length g room es) (fun i e e' he he' hf' => ?_) he (round_get he) hf hs _ (List.getElem?_eq_some_iff.1 he).1
  rw [round_get he] at he'
  cases he'
  exact froze_open hf'
end

def rounds (g : Bool) (room : Int) : Nat → List FE → List FE
  | 0, es => es
  | n + 1, es => if kth es es.length = 0 then es else rounds g room n (round g room es)
def final (g : Bool) (room : Int) (es : List FE) : List FE := rounds g room (kth es es.length) es
theorem rounds_enough (g : Bool) (room : Int) : ∀ (n m : Nat) (es : List FE), kth es es.length ≤ n → kth es es.length ≤ m → rounds g room n es = rounds g room m es
  | 0, 0, _, _, _ => rfl
  | 0, m + 1, es, h, _ => by simp [rounds, show kth es es.length = 0 by omega]
  | n + 1, 0, es, _, h => by simp [rounds, show kth es es.length = 0 by omega]
  | n + 1, m + 1, es, h1, h2 => by
    unfold rounds
    split
    · rfl
    · rename_i h0
      have := round_less (g := g) (room := room) h0
      exact rounds_enough g room n m _ (by omega) (by omega)
theorem final_step {g : Bool} {room : Int} {es : List FE} (h0 : kth es es.length ≠ 0) : final g room (round g room es) = final g room es := by
  unfold final
  obtain ⟨k, hk⟩ : ∃ k, kth es es.length = k + 1 := ⟨kth es es.length - 1, by omega⟩
  rw [hk]
  show _ = rounds g room (k + 1) es
  rw [rounds, if_neg h0]
  have := round_less (g := g) (room := room) h0
  exact rounds_enough g room _ _ _ (Nat.le_refl _) (by omega)
theorem final_done {g : Bool} {room : Int} {es : List FE} (h0 : kth es es.length = 0) : final g room es = es := by
  unfold final
  rw [h0]; rfl
theorem rounds_oks {g : Bool} {room : Int} : ∀ (n : Nat) {es : List FE}, oks es → oks (rounds g room n es)
  | 0, _, h => h
  | n + 1, es, h => by
    unfold rounds
    split
    · exact h
    · exact rounds_oks n (round_oks h)
theorem rounds_length {g : Bool} {room : Int} : ∀ (n : Nat) {es : List FE}, (rounds g room n es).length = es.length
  | 0, _ => rfl
  | n + 1, es => by
    unfold rounds
    split
    · rfl
    · rw [rounds_length n, round_length]
theorem final_length (g : Bool) (room : Int) (es : List FE) : (final g room es).length = es.length := rounds_length _

/-! ### The beginning -/
def basic (x : FItem) : Int := x.fit x.sound.base
def tot (l : List FItem) (k : Nat) : Int := ((l.take k).map basic).sum
def start (g : Bool) (x : FItem) : FE := ⟨x.sound, basic x, if g then (decide (x.sound.grow = 0) || decide (x.sound.base > basic x)) else (decide (x.sound.shrink = 0) || decide (x.sound.base < basic x))⟩
def grows (l : List FItem) (room : Int) : Bool := decide (tot l l.length < lot room)
def sizes (l : List FItem) (room : Int) : List Int := (final (grows l room) (lot room) (l.map (start (grows l room)))).map FE.size
theorem tot_zero (l : List FItem) : tot l 0 = 0 := by simp [tot]
theorem tot_succ (l : List FItem) (k : Nat) (x : FItem) (h : l[k]? = some x) : tot l (k + 1) = tot l k + basic x := by
  unfold tot; rw [take_snoc h]; simp
theorem basic_bd (x : FItem) : 0 ≤ basic x ∧ basic x ≤ 1048576 := fit_bd _ _
theorem tot_bd (l : List FItem) (k : Nat) : 0 ≤ tot l k ∧ tot l k ≤ k * 1048576 := by
  induction k with
  | zero => simp [tot]
  | succ k ih =>
    cases h : l[k]? with
    | none =>
      have : l.take (k + 1) = l.take k := by rw [List.take_add_one, h]; simp
      unfold tot at *; rw [this]; omega
    | some x => rw [tot_succ l k x h]; have := basic_bd x; omega
theorem start_ok (g : Bool) (x : FItem) : (start g x).ok := by
  have h1 := cl20_bd x.base; have h2 := cl20_bd x.low; have h3 := cl20_bd x.high; have h4 := cl1k_bd x.grow; have h5 := cl1k_bd x.shrink; have h6 := basic_bd x
  exact ⟨h1, h2, h3, h4, h5, h6⟩
theorem start_oks (g : Bool) (l : List FItem) : oks (l.map (start g)) := by
  intro i e he
  rw [List.getElem?_map] at he
  cases h : l[i]? with
  | none => simp [h] at he
  | some x => rw [h] at he; simp at he; subst he; exact start_ok g x
theorem sizes_length (l : List FItem) (room : Int) : (sizes l room).length = l.length := by simp [sizes, final_length]
end Go.Proofs.Ytabdcfobdehhiaa
