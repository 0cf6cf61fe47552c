/- The rounds in which items grow and shrink, in plain Lean. -/
import Derived.Test.YtabdcfobdehhiaaFlexItem
import Derived.Test.YtabdcfobdehhiaaRange
namespace Go.Proofs.Ytabdcfobdehhiaa
open Go.RowKit

structure FE where
  it : FItem
  size : Int
  fr : Bool
abbrev FE.enc (e : FE) : List Value := [.int .i64 e.it.base, .int .i64 e.it.low, .int .i64 e.it.high, .int .i64 e.it.grow, .int .i64 e.it.shrink, .int .i64 e.size, .bool e.fr]
def FE.ok (e : FE) : Prop := (0 ≤ e.it.base ∧ e.it.base ≤ 1048576) ∧ (0 ≤ e.it.low ∧ e.it.low ≤ 1048576) ∧ (0 ≤ e.it.high ∧ e.it.high ≤ 1048576) ∧ (0 ≤ e.it.grow ∧ e.it.grow ≤ 1000) ∧ (0 ≤ e.it.shrink ∧ e.it.shrink ≤ 1000) ∧ 0 ≤ e.size ∧ e.size ≤ 1048576
theorem fit_bd (x : FItem) (n : Int) : 0 ≤ x.fit n ∧ x.fit n ≤ 1048576 := by
  have h1 := cl20_bd x.low; have h2 := cl20_bd x.high
  unfold FItem.fit; omega
theorem sound_fit (x : FItem) (n : Int) : x.sound.fit n = x.fit n := by
  have e : ∀ m, cl20 (cl20 m) = cl20 m := fun m => by unfold cl20; omega
  simp [FItem.fit, FItem.sound, e]

/-! ### Lists that are gone through from the front -/
def upto {α : Type} (f : Nat → α → α) (l : List α) (i : Nat) : List α := l.mapIdx fun j e => if j < i then f j e else e
theorem upto_length {α : Type} (f : Nat → α → α) (l : List α) (i : Nat) : (upto f l i).length = l.length := by simp [upto]
theorem upto_zero {α : Type} (f : Nat → α → α) (l : List α) : upto f l 0 = l := by
  apply List.ext_getElem?; intro j; simp [upto]
theorem upto_get {α : Type} (f : Nat → α → α) (l : List α) (i : Nat) {j : Nat} {e : α} (h : l[j]? = some e) : (upto f l i)[j]? = some (if j < i then f j e else e) := by
  simp [upto, List.getElem?_mapIdx, h]
theorem upto_succ {α : Type} (f : Nat → α → α) (l : List α) (i : Nat) {e : α} (h : l[i]? = some e) : (upto f l i).set i (f i e) = upto f l (i + 1) := by
  apply List.ext_getElem?
  intro j
  by_cases hj : j = i
  · subst hj
    rw [upto_get f l _ h, if_pos (by omega)]
    simp [upto_length, (List.getElem?_eq_some_iff.1 h).1]
  · rw [List.getElem?_set_ne (Ne.symm hj)]
    simp only [upto, List.getElem?_mapIdx]
    cases l[j]? with
    | none => rfl
    | some x => simp only [Option.map_some]; congr 1; by_cases h1 : j < i <;> by_cases h2 : j < i + 1 <;> simp [h1, h2] <;> omega
theorem upto_skip {α : Type} (f : Nat → α → α) (l : List α) (i : Nat) {e : α} (h : l[i]? = some e) (hf : f i e = e) : upto f l (i + 1) = upto f l i := by
  rw [← upto_succ f l i h, hf]
  apply List.ext_getElem?
  intro j
  by_cases hj : j = i
  · subst hj
    rw [upto_get f l _ h, if_neg (by omega)]
    simp [upto_length, (List.getElem?_eq_some_iff.1 h).1]
  · rw [List.getElem?_set_ne (Ne.symm hj)]
theorem upto_all {α : Type} (f : Nat → α → α) (l : List α) {i : Nat} (h : l.length ≤ i) : upto f l i = l.mapIdx f := by
  apply List.ext_getElem?
  intro j
  simp only [upto, List.getElem?_mapIdx]
  cases hx : l[j]? with
  | none => rfl
  | some x => have := (List.getElem?_eq_some_iff.1 hx).1; simp [show j < i by omega]
theorem take_snoc {α : Type} {l : List α} {i : Nat} {e : α} (h : l[i]? = some e) : l.take (i + 1) = l.take i ++ [e] := by
  rw [List.take_add_one, h]; rfl

/-! ### Cells of a row of entries -/
theorem flat_set {α : Type} (g : α → List Value) (n : Nat) (hg : ∀ a, (g a).length = n) : ∀ (l : List α) (i o : Nat) (a a' : α) (v : Value), l[i]? = some a → o < n → (g a).set o v = g a' → (l.flatMap g).set (i * n + o) v = (l.set i a').flatMap g
  | [], _, _, _, _, _, h, _, _ => by simp at h
  | x :: l, 0, o, a, a', v, h, ho, he => by
    obtain rfl : x = a := by simpa using h
    simp only [List.flatMap_cons, List.set_cons_zero, Nat.zero_mul, Nat.zero_add]
    rw [List.set_append_left _ _ (by rw [hg]; exact ho), he]
  | x :: l, i + 1, o, a, a', v, h, ho, he => by
    simp only [List.flatMap_cons, List.set_cons_succ]
    rw [List.set_append_right _ _ (by rw [hg, Nat.succ_mul]; omega), hg, show (i + 1) * n + o - n = i * n + o by rw [Nat.succ_mul]; omega,
      flat_set g n hg l i o a a' v (by simpa using h) ho he]
theorem flat_at {α : Type} (g : α → List Value) (n : Nat) (hg : ∀ a, (g a).length = n) : ∀ (l : List α) (i o : Nat) (a : α) (v : Value), l[i]? = some a → (g a)[o]? = some v → (l.flatMap g)[i * n + o]? = some v
  | [], _, _, _, _, h, _ => by simp at h
  | x :: l, 0, o, a, v, h, hv => by
    obtain rfl : x = a := by simpa using h
    have ho := (List.getElem?_eq_some_iff.1 hv).1
    simp only [List.flatMap_cons, Nat.zero_mul, Nat.zero_add]
    rw [List.getElem?_append_left ho, hv]
  | x :: l, i + 1, o, a, v, h, hv => by
    have ho := (List.getElem?_eq_some_iff.1 hv).1
    rw [hg] at ho
    simp only [List.flatMap_cons]
    rw [List.getElem?_append_right (by rw [hg, Nat.succ_mul]; omega), hg, show (i + 1) * n + o - n = i * n + o by rw [Nat.succ_mul]; omega]
    exact flat_at g n hg l i o a v (by simpa using h) hv

/-! ### A round -/
section
variable (g : Bool) (room : Int) (es : List FE)
def ats : Nat → List Nat
  | 0 => []
  | i + 1 => ats i ++ (match es[i]? with | some e => if e.fr then [] else [i] | none => [])
def kth (i : Nat) : Nat := (ats es i).length
def wt (e : FE) : Int := if g then e.it.grow else e.it.shrink * e.it.base
def wts : Nat → List Int
  | 0 => []
  | i + 1 => wts i ++ (match es[i]? with | some e => if e.fr then [] else [wt g e] | none => [])
def took : Nat → Int
  | 0 => 0
  | i + 1 => took i + (match es[i]? with | some e => if e.fr then e.size else e.it.base | none => 0)
def sg : Int := if g then 1 else -1
def fre : Int := sg g * (room - took es es.length)
def parts : List Int := share (fre g room es) (wts g es es.length)
def want (i : Nat) (e : FE) : Int := e.it.base + sg g * (parts g room es).getD (kth es i) 0
def gap (i : Nat) (e : FE) : Int := e.it.fit (want g room es i e) - want g room es i e
def wtd : Nat → List Int
  | 0 => []
  | i + 1 => wtd i ++ (match es[i]? with | some e => if e.fr then [] else [want g room es i e] | none => [])
def moreTo : Nat → Int
  | 0 => 0
  | i + 1 => moreTo i + (match es[i]? with | some e => if e.fr then 0 else gap g room es i e | none => 0)
def judge (m b : Int) : Bool := decide (m = 0) || (decide (m > 0) && decide (b > 0)) || (decide (m < 0) && decide (b < 0))
def sized (i : Nat) (e : FE) : FE := if e.fr then e else { e with size := e.it.fit (want g room es i e) }
def froze (i : Nat) (e : FE) : FE := if e.fr then e else { e with size := e.it.fit (want g room es i e), fr := judge (moreTo g room es es.length) (gap g room es i e) }
def round : List FE := es.mapIdx (froze g room es)

theorem kth_wts : ∀ i, (wts g es i).length = kth es i
  | 0 => rfl
  | i + 1 => by
    simp only [wts, ats, kth, List.length_append]
    rw [kth_wts i, show kth es i = (ats es i).length from rfl]
    congr 1
    cases es[i]? with
    | none => rfl
    | some e => simp only; split <;> rfl
theorem kth_wtd : ∀ i, (wtd g room es i).length = kth es i
  | 0 => rfl
  | i + 1 => by
    simp only [wtd, ats, kth, List.length_append]
    rw [kth_wtd i, show kth es i = (ats es i).length from rfl]
    congr 1
    cases es[i]? with
    | none => rfl
    | some e => simp only; split <;> rfl
theorem parts_length : (parts g room es).length = kth es es.length := by rw [parts, share_length, kth_wts]
end
section
variable {g : Bool} {room : Int} {es : List FE} {i : Nat} {e : FE}
theorem ats_open (h : es[i]? = some e) (hf : e.fr = false) : ats es (i + 1) = ats es i ++ [i] := by simp [ats, h, hf]
theorem ats_shut (h : es[i]? = some e) (hf : e.fr = true) : ats es (i + 1) = ats es i := by simp [ats, h, hf]
theorem kth_open (h : es[i]? = some e) (hf : e.fr = false) : kth es (i + 1) = kth es i + 1 := by simp [kth, ats_open h hf]
theorem kth_shut (h : es[i]? = some e) (hf : e.fr = true) : kth es (i + 1) = kth es i := by simp [kth, ats_shut h hf]
theorem wts_open (h : es[i]? = some e) (hf : e.fr = false) : wts g es (i + 1) = wts g es i ++ [wt g e] := by simp [wts, h, hf]
theorem wts_shut (h : es[i]? = some e) (hf : e.fr = true) : wts g es (i + 1) = wts g es i := by simp [wts, h, hf]
theorem took_open (h : es[i]? = some e) (hf : e.fr = false) : took es (i + 1) = took es i + e.it.base := by simp [took, h, hf]
theorem took_shut (h : es[i]? = some e) (hf : e.fr = true) : took es (i + 1) = took es i + e.size := by simp [took, h, hf]
theorem wtd_open (h : es[i]? = some e) (hf : e.fr = false) : wtd g room es (i + 1) = wtd g room es i ++ [want g room es i e] := by simp [wtd, h, hf]
theorem wtd_shut (h : es[i]? = some e) (hf : e.fr = true) : wtd g room es (i + 1) = wtd g room es i := by simp [wtd, h, hf]
theorem more_open (h : es[i]? = some e) (hf : e.fr = false) : moreTo g room es (i + 1) = moreTo g room es i + gap g room es i e := by simp [moreTo, h, hf]
theorem more_shut (h : es[i]? = some e) (hf : e.fr = true) : moreTo g room es (i + 1) = moreTo g room es i := by simp [moreTo, h, hf]
theorem kth_step (es : List FE) (i : Nat) : kth es i ≤ kth es (i + 1) ∧ kth es (i + 1) ≤ kth es i + 1 := by
  simp only [kth, ats, List.length_append]
  cases es[i]? with
  | none => simp
  | some e => simp only; split <;> simp
theorem kth_mono (es : List FE) {i j : Nat} (h : i ≤ j) : kth es i ≤ kth es j := by
  induction j with
  | zero => obtain rfl : i = 0 := by omega
            exact Nat.le_refl _
  | succ j ih =>
    by_cases e : i = j + 1
    · subst e; exact Nat.le_refl _
    · exact Nat.le_trans (ih (by omega)) (kth_step es j).1
theorem kth_le (es : List FE) (i : Nat) : kth es i ≤ i := by
  induction i with
  | zero => simp [kth, ats]
  | succ i ih => have := (kth_step es i).2; omega
theorem kth_lt (h : es[i]? = some e) (hf : e.fr = false) : kth es i < kth es es.length := by
  have h1 := kth_open h hf
  have h2 := kth_mono es (i := i + 1) (j := es.length) (by have := (List.getElem?_eq_some_iff.1 h).1; omega)
  omega
theorem ats_prefix (es : List FE) {i j : Nat} (h : i ≤ j) : ats es i <+: ats es j := by
  induction j with
  | zero => obtain rfl : i = 0 := by omega
            exact List.prefix_rfl
  | succ j ih =>
    by_cases e : i = j + 1
    · subst e; exact List.prefix_rfl
    · exact (ih (by omega)).trans (List.prefix_append _ _)
theorem wtd_prefix (g : Bool) (room : Int) (es : List FE) {i j : Nat} (h : i ≤ j) : wtd g room es i <+: wtd g room es j := by
  induction j with
  | zero => obtain rfl : i = 0 := by omega
            exact List.prefix_rfl
  | succ j ih =>
    by_cases e : i = j + 1
    · subst e; exact List.prefix_rfl
    · exact (ih (by omega)).trans (List.prefix_append _ _)
theorem prefix_get {α : Type} {a b : List α} (h : a <+: b) {k : Nat} {x : α} (hx : a[k]? = some x) : b[k]? = some x := by
  obtain ⟨t, rfl⟩ := h
  rw [List.getElem?_append_left (List.getElem?_eq_some_iff.1 hx).1, hx]
theorem ats_get (h : es[i]? = some e) (hf : e.fr = false) : (ats es es.length)[kth es i]? = some i := by
  refine prefix_get (ats_prefix es (i := i + 1) (by have := (List.getElem?_eq_some_iff.1 h).1; omega)) ?_
  rw [ats_open h hf]; simp [kth]
theorem wtd_get (h : es[i]? = some e) (hf : e.fr = false) : (wtd g room es es.length)[kth es i]? = some (want g room es i e) := by
  refine prefix_get (wtd_prefix g room es (i := i + 1) (by have := (List.getElem?_eq_some_iff.1 h).1; omega)) ?_
  rw [wtd_open h hf, ← kth_wtd g room]; simp
theorem parts_get (h : es[i]? = some e) (hf : e.fr = false) : (parts g room es)[kth es i]? = some ((parts g room es).getD (kth es i) 0) := by
  have hk : kth es i < (parts g room es).length := by rw [parts_length]; exact kth_lt h hf
  simp [List.getD_eq_getElem?_getD, hk]
/-- Whichever is the k-th that is open. -/
theorem ats_find (es : List FE) : ∀ (n : Nat) {k j : Nat}, (ats es n)[k]? = some j → ∃ e, es[j]? = some e ∧ e.fr = false ∧ kth es j = k ∧ j < n
  | 0, k, j, h => by simp [ats] at h
  | n + 1, k, j, h => by
    cases he : es[n]? with
    | none => rw [ats, he] at h; obtain ⟨e, h1, h2, h3, h4⟩ := ats_find es n (k := k) (j := j) (by simpa using h); exact ⟨e, h1, h2, h3, by omega⟩
    | some e =>
      cases hf : e.fr with
      | true => rw [ats_shut he hf] at h; obtain ⟨e, h1, h2, h3, h4⟩ := ats_find es n h; exact ⟨e, h1, h2, h3, by omega⟩
      | false =>
        rw [ats_open he hf] at h
        by_cases hk : k < (ats es n).length
        · rw [List.getElem?_append_left hk] at h; obtain ⟨e, h1, h2, h3, h4⟩ := ats_find es n h; exact ⟨e, h1, h2, h3, by omega⟩
        · rw [List.getElem?_append_right (by omega)] at h
          have h5 : k - (ats es n).length = 0 := by
            have := (List.getElem?_eq_some_iff.1 h).1
            simp at this; omega
          rw [h5] at h
          obtain rfl : n = j := by simpa using h
          exact ⟨e, he, hf, by unfold kth; omega, by omega⟩
end
end Go.Proofs.Ytabdcfobdehhiaa
