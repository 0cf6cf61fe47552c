/- Nodes that are painted: validity, layers, the order; plain Lean. -/
import Derived.Test.YtmjdmlgdffoimabBase
namespace Go.Proofs.Ytmjdmlgdffoimab

structure PN where
  up : Int
  lay : Bool
  z : Int
def upP (L : List PN) (x : Int) : Int := if x < 0 then -1 else match L[x.toNat]? with | some n => n.up | none => -1
def layP (L : List PN) (x : Int) : Bool := if x < 0 then false else match L[x.toNat]? with | some n => n.lay | none => false
def zP (L : List PN) (x : Int) : Int := if x < 0 then 0 else match L[x.toNat]? with | some n => n.z | none => 0
theorem upP_at {L : List PN} {i : Nat} {n : PN} (h : L[i]? = some n) : upP L i = n.up ∧ layP L i = n.lay ∧ zP L i = n.z := by
  unfold upP layP zP
  rw [if_neg (by omega), if_neg (by omega), if_neg (by omega), Int.toNat_natCast, h]
  exact ⟨rfl, rfl, rfl⟩

/-! ### In order -/
def Ch (L : List PN) : Int → List Int → Prop
  | x, [] => x = -1
  | x, y :: st => x = y ∧ 0 ≤ y ∧ Ch L (upP L y) st
def pop (u : Int) (st : List Int) : List Int := st.dropWhile (fun y => decide (y ≠ u))
theorem pop_cons_eq (u : Int) (st : List Int) : pop u (u :: st) = u :: st := by simp [pop]
theorem pop_cons_ne {u y : Int} (h : y ≠ u) (st : List Int) : pop u (y :: st) = pop u st := by simp [pop, h]
theorem pop_ch {L : List PN} {u : Int} : ∀ {st : List Int} {x : Int}, Ch L x st → (pop u st = [] ∧ u ∉ st) ∨ (∃ t, pop u st = u :: t ∧ Ch L u (u :: t) ∧ ∀ y ∈ u :: t, y ∈ st)
  | [], _, _ => .inl ⟨rfl, by simp⟩
  | y :: st, x, h => by
    by_cases e : y = u
    · subst e
      refine .inr ⟨st, pop_cons_eq _ _, ⟨rfl, h.2.1, h.2.2⟩, fun _ hy => hy⟩
    · rw [pop_cons_ne e]
      rcases pop_ch (u := u) h.2.2 with ⟨h1, h2⟩ | ⟨t, h1, h2, h3⟩
      · exact .inl ⟨h1, by simp [h2, Ne.symm e]⟩
      · exact .inr ⟨t, h1, h2, fun z hz => List.mem_cons_of_mem _ (h3 z hz)⟩
def stk (L : List PN) : Nat → Option (List Int)
  | 0 => some []
  | i + 1 => match stk L i with
    | none => none
    | some st => if i = 0 then (if upP L 0 = -1 then some [0] else none) else if pop (upP L i) st = [] then none else some ((i : Int) :: pop (upP L i) st)
def okP (L : List PN) : Bool := (stk L L.length).isSome
theorem stk_ch {L : List PN} : ∀ {i : Nat} {st : List Int}, stk L i = some st → Ch L ((i : Int) - 1) st ∧ ∀ y ∈ st, 0 ≤ y ∧ y < i
  | 0, st, h => by
    obtain rfl : [] = st := by simpa [stk] using h
    exact ⟨rfl, by simp⟩
  | i + 1, st, h => by
    rw [stk] at h
    cases e : stk L i with
    | none => rw [e] at h; cases h
    | some s =>
      rw [e] at h
      simp only at h
      obtain ⟨h1, h2⟩ := stk_ch e
      by_cases h0 : i = 0
      · subst h0
        rw [if_pos rfl] at h
        split at h
        · rename_i hu
          obtain rfl : [0] = st := by simpa using h
          exact ⟨⟨rfl, by omega, hu⟩, by simp⟩
        · cases h
      · rw [if_neg h0] at h
        rcases pop_ch (u := upP L i) h1 with ⟨p1, _⟩ | ⟨t, p1, p2, p3⟩
        · rw [p1, if_pos rfl] at h; cases h
        · rw [p1, if_neg (by simp)] at h
          obtain rfl := Option.some.inj h
          refine ⟨⟨by omega, by omega, p2⟩, fun y hy => ?_⟩
          rcases List.mem_cons.1 hy with rfl | hy
          · omega
          · have := h2 y (p3 y hy); omega
theorem stk_succ {L : List PN} {i : Nat} {st : List Int} (h : stk L i = some st) : (∃ st', stk L (i + 1) = some st') ↔ (if i = 0 then upP L 0 = -1 else upP L i ∈ st) := by
  obtain ⟨h1, h2⟩ := stk_ch h
  rw [stk, h]
  simp only
  by_cases h0 : i = 0
  · subst h0
    by_cases hu : upP L 0 = -1 <;> simp [hu]
  · rw [if_neg h0, if_neg h0]
    rcases pop_ch (u := upP L i) h1 with ⟨p1, p2⟩ | ⟨t, p1, p2, p3⟩
    · rw [p1, if_pos rfl]; simp [p2]
    · rw [p1, if_neg (by simp)]
      exact ⟨fun _ => p3 _ (by simp), fun _ => ⟨_, rfl⟩⟩
theorem stk_mono {L : List PN} : ∀ {k i : Nat}, i ≤ k → stk L i = none → stk L k = none
  | 0, i, h, hn => by obtain rfl : i = 0 := by omega
                      exact hn
  | k + 1, i, h, hn => by
    by_cases e : i = k + 1
    · subst e; exact hn
    · rw [stk, stk_mono (by omega : i ≤ k) hn]
theorem okP_at {L : List PN} (h : okP L = true) {i : Nat} (hi : i ≤ L.length) : ∃ st, stk L i = some st := by
  cases e : stk L i with
  | some st => exact ⟨st, rfl⟩
  | none => rw [okP, stk_mono hi e] at h; cases h
theorem okP_no {L : List PN} {i : Nat} (hi : i ≤ L.length) (h : stk L i = none) : okP L = false := by rw [okP, stk_mono hi h]; rfl
structure PV (L : List PN) : Prop where
  root : L ≠ [] → upP L 0 = -1
  up : ∀ x : Int, 0 < x → x < L.length → 0 ≤ upP L x ∧ upP L x < x
theorem okP_pv {L : List PN} (h : okP L = true) : PV L where
  root hn := by
    have hl : 0 < L.length := List.length_pos_iff.2 hn
    obtain ⟨s1, e1⟩ := okP_at h (i := 1) (by omega)
    have := (stk_succ (L := L) (i := 0) (st := []) rfl).1 ⟨s1, e1⟩
    simpa using this
  up x h1 h2 := by
    obtain ⟨i, rfl⟩ : ∃ i : Nat, x = i := ⟨x.toNat, by omega⟩
    obtain ⟨st, e⟩ := okP_at h (i := i) (by omega)
    obtain ⟨s1, e1⟩ := okP_at h (i := i + 1) (by omega)
    have h3 := (stk_succ e).1 ⟨s1, e1⟩
    rw [if_neg (by omega)] at h3
    exact (stk_ch e).2 _ h3

/-! ### Layers -/
def layS (L : List PN) : Nat → Int → Int
  | 0, x => x
  | k + 1, x => if 0 < x ∧ layP L x = false then layS L k (upP L x) else x
def layG (L : List PN) (x : Int) : Int := layS L x.toNat x
def layF (L : List PN) (x : Int) : Int := layG L (upP L x)
section
variable {L : List PN}
theorem layS_eq (h : PV L) : ∀ (k j : Nat) (x : Int), x < L.length → x.toNat ≤ k → x.toNat ≤ j → layS L k x = layS L j x
  | 0, j, x, hx, h1, h2 => by
    cases j with
    | zero => rfl
    | succ j => rw [layS, layS, if_neg (by omega)]
  | k + 1, 0, x, hx, h1, h2 => by rw [layS, layS, if_neg (by omega)]
  | k + 1, j + 1, x, hx, h1, h2 => by
    rw [layS, layS]
    split
    · rename_i hp
      have := h.up x hp.1 hx
      exact layS_eq h k j _ (by omega) (by omega) (by omega)
    · rfl
theorem layG_eq (h : PV L) {x : Int} (hx : x < L.length) : layG L x = if 0 < x ∧ layP L x = false then layG L (upP L x) else x := by
  unfold layG
  cases e : x.toNat with
  | zero => rw [layS, if_neg (by omega)]
  | succ k =>
    rw [layS]
    split
    · rename_i hp
      have := h.up x hp.1 hx
      exact layS_eq h k _ _ (by omega) (by omega) (by omega)
    · rfl
theorem layG_ok (h : PV L) : ∀ (k : Nat) (x : Int), x.toNat ≤ k → 0 ≤ x → x < L.length → 0 ≤ layG L x ∧ layG L x ≤ x ∧ (layG L x = 0 ∨ layP L (layG L x) = true)
  | 0, x, hk, h0, hx => by
    rw [layG_eq h hx, if_neg (by omega)]
    exact ⟨h0, Int.le_refl _, .inl (by omega)⟩
  | k + 1, x, hk, h0, hx => by
    rw [layG_eq h hx]
    split
    · rename_i hp
      have h1 := h.up x hp.1 hx
      have := layG_ok h k (upP L x) (by omega) h1.1 (by omega)
      exact ⟨this.1, by omega, this.2.2⟩
    · rename_i hp
      refine ⟨h0, Int.le_refl _, ?_⟩
      by_cases hz : x = 0
      · exact .inl hz
      · refine .inr ?_
        cases e : layP L x with
        | true => rfl
        | false => exact absurd ⟨by omega, e⟩ hp
theorem layF_ok (h : PV L) {x : Int} (h0 : 0 < x) (hx : x < L.length) : 0 ≤ layF L x ∧ layF L x < x ∧ (layF L x = 0 ∨ layP L (layF L x) = true) := by
  have h1 := h.up x h0 hx
  have := layG_ok h _ (upP L x) (Nat.le_refl _) h1.1 (by omega)
  unfold layF
  exact ⟨this.1, by omega, this.2.2⟩
def memK (L : List PN) (a : Int) (k : Nat) : List Int := (((List.range k).map fun i : Nat => (i : Int) + 1)).filter fun x => decide (layF L x = a)
def memF (L : List PN) (a : Int) : List Int := memK L a (L.length - 1)
theorem memK_succ (a : Int) (k : Nat) : memK L a (k + 1) = memK L a k ++ (if layF L ((k : Int) + 1) = a then [(k : Int) + 1] else []) := by
  unfold memK
  rw [List.range_succ, List.map_append, List.filter_append]
  simp only [List.map_cons, List.map_nil]
  by_cases e : layF L ((k : Int) + 1) = a <;> simp [e]
theorem mem_memK {a x : Int} {k : Nat} : x ∈ memK L a k ↔ 0 < x ∧ x ≤ k ∧ layF L x = a := by
  unfold memK
  rw [List.mem_filter, List.mem_map]
  constructor
  · rintro ⟨⟨i, hi, rfl⟩, h⟩
    rw [List.mem_range] at hi
    exact ⟨by omega, by omega, by simpa using h⟩
  · rintro ⟨h1, h2, h3⟩
    exact ⟨⟨(x - 1).toNat, by rw [List.mem_range]; omega, by omega⟩, by simpa using h3⟩
theorem mem_memF {a x : Int} : x ∈ memF L a ↔ 0 < x ∧ x < L.length ∧ layF L x = a := by
  unfold memF
  rw [mem_memK]
  constructor
  · rintro ⟨h1, h2, h3⟩; exact ⟨h1, by omega, h3⟩
  · rintro ⟨h1, h2, h3⟩; exact ⟨h1, by omega, h3⟩
theorem memK_pair (a : Int) : ∀ k : Nat, (memK L a k).Pairwise (· < ·)
  | 0 => by simp [memK]
  | k + 1 => by
    rw [memK_succ]
    refine List.pairwise_append.2 ⟨memK_pair a k, by split <;> simp, fun x hx y hy => ?_⟩
    have h1 := mem_memK.1 hx
    split at hy
    · obtain rfl : y = _ := by simpa using hy
      omega
    · cases hy
theorem memK_len (a : Int) (k : Nat) : (memK L a k).length ≤ k := by
  unfold memK
  refine Nat.le_trans (List.length_filter_le _ _) ?_
  simp

/-! ### Their order in a layer -/
def rankP (L : List PN) (x : Int) : Int := if layP L x = false then 0 else if zP L x < 0 then -1 else 1
def ltP (L : List PN) (a b : Int) : Prop := rankP L a < rankP L b ∨ (rankP L a = rankP L b ∧ ((rankP L a ≠ 0 ∧ (zP L a < zP L b ∨ (zP L a = zP L b ∧ a < b))) ∨ (rankP L a = 0 ∧ a < b)))
instance (L : List PN) (a b : Int) : Decidable (ltP L a b) := by unfold ltP; infer_instance
theorem ltP_irr (a : Int) : ¬ ltP L a a := by unfold ltP; omega
theorem ltP_trans {a b c : Int} (h1 : ltP L a b) (h2 : ltP L b c) : ltP L a c := by unfold ltP at *; omega
theorem ltP_tri (a b : Int) : ltP L a b ∨ a = b ∨ ltP L b a := by unfold ltP; omega
theorem ltP_asym {a b : Int} (h1 : ltP L a b) : ¬ ltP L b a := fun h2 => ltP_irr a (ltP_trans h1 h2)
theorem srt_uniq {l m : List Int} (hp : l.Perm m) (hl : l.Pairwise (ltP L)) (hm : m.Pairwise (ltP L)) : l = m :=
  List.Perm.eq_of_pairwise (le := ltP L) (fun a b _ _ h1 h2 => absurd h2 (ltP_asym h1)) hl hm hp
def soF (L : List PN) (l : List Int) : List Int := l.mergeSort fun a b => decide (¬ ltP L b a)
theorem soF_perm (l : List Int) : (soF L l).Perm l := List.mergeSort_perm _ _
theorem soF_pair {l : List Int} (hn : l.Nodup) : (soF L l).Pairwise (ltP L) := by
  have h1 : (soF L l).Pairwise fun a b => decide (¬ ltP L b a) = true := List.pairwise_mergeSort (fun a b c h1 h2 => by
      have h1 : ¬ ltP L b a := by simpa using h1
      have h2 : ¬ ltP L c b := by simpa using h2
      have : ¬ ltP L c a := fun h3 => by
        rcases ltP_tri (L := L) a b with h | h | h
        · exact h2 (ltP_trans h3 h)
        · subst h; exact h2 h3
        · exact h1 h
      simpa using this) (fun a b => by
      by_cases h : ltP L b a
      · simp [h, ltP_asym h]
      · simp [h]) l
  have h2 : (soF L l).Nodup := (soF_perm l).nodup_iff.2 hn
  refine (List.pairwise_and_iff.2 ⟨h1, h2⟩).imp fun {a b} h => ?_
  rcases ltP_tri (L := L) a b with h3 | h3 | h3
  · exact h3
  · exact absurd h3 h.2
  · have := h.1; simp [h3] at this
theorem soF_is {l m : List Int} (hn : l.Nodup) (hp : m.Perm l) (hm : m.Pairwise (ltP L)) : m = soF L l := srt_uniq (hp.trans (soF_perm l).symm) hm (soF_pair hn)
theorem memF_nodup (a : Int) : (memF L a).Nodup := (memK_pair a _).imp fun h => by omega
def kidP (L : List PN) (a : Int) : List Int := soF L (memF L a)
theorem mem_kidP {a x : Int} : x ∈ kidP L a ↔ 0 < x ∧ x < L.length ∧ layF L x = a := by rw [kidP, (soF_perm _).mem_iff, mem_memF]
theorem kidP_pair (a : Int) : (kidP L a).Pairwise (ltP L) := soF_pair (memF_nodup a)
theorem kidP_plain (h : PV L) {a : Int} (ha : 0 < a) (hl : layP L a = false) : kidP L a = [] := by
  refine List.eq_nil_iff_forall_not_mem.2 fun x hx => ?_
  obtain ⟨h1, h2, h3⟩ := mem_kidP.1 hx
  rcases (layF_ok h h1 h2).2.2 with h4 | h4
  · omega
  · rw [h3, hl] at h4; cases h4

/-! ### A layer as a whole -/
def ptS (L : List PN) : Nat → Int → List Int
  | 0, a => [a]
  | k + 1, a => a :: (kidP L a).flatMap (ptS L k)
def PT (L : List PN) (a : Int) : List Int := ptS L (L.length - a.toNat) a
theorem kidP_gt (h : PV L) {a x : Int} (hx : x ∈ kidP L a) : 0 ≤ a ∧ a < x ∧ x < L.length := by
  obtain ⟨h1, h2, h3⟩ := mem_kidP.1 hx
  have := layF_ok h h1 h2
  omega
theorem flatMap_congr' {α β : Type} {l : List α} {f g : α → List β} (h : ∀ x ∈ l, f x = g x) : l.flatMap f = l.flatMap g := by
  induction l with
  | nil => rfl
  | cons a l ih => rw [List.flatMap_cons, List.flatMap_cons, h a (by simp), ih fun x hx => h x (by simp [hx])]
theorem ptS_eq (h : PV L) : ∀ (k j : Nat) (a : Int), L.length - a.toNat ≤ k → L.length - a.toNat ≤ j → ptS L k a = ptS L j a
  | 0, 0, a, _, _ => rfl
  | 0, j + 1, a, h1, h2 => by
    rw [ptS, ptS, show kidP L a = [] from List.eq_nil_iff_forall_not_mem.2 fun x hx => by have := kidP_gt h hx; omega]; rfl
  | k + 1, 0, a, h1, h2 => by
    rw [ptS, ptS, show kidP L a = [] from List.eq_nil_iff_forall_not_mem.2 fun x hx => by have := kidP_gt h hx; omega]; rfl
  | k + 1, j + 1, a, h1, h2 => by
    rw [ptS, ptS]
    congr 1
    refine flatMap_congr' fun x hx => ?_
    have := kidP_gt h hx
    exact ptS_eq h k j x (by omega) (by omega)
theorem PT_eq (h : PV L) (a : Int) : PT L a = a :: (kidP L a).flatMap (PT L) := by
  unfold PT
  rw [ptS_eq h (L.length - a.toNat) (L.length - a.toNat + 1) a (Nat.le_refl _) (by omega), ptS]
  congr 1
  refine flatMap_congr' fun x hx => ?_
  have := kidP_gt h hx
  exact ptS_eq h _ _ x (by omega) (Nat.le_refl _)
theorem PT_plain (h : PV L) {a : Int} (ha : 0 < a) (hl : layP L a = false) : PT L a = [a] := by rw [PT_eq h, kidP_plain h ha hl]; rfl
inductive LA (L : List PN) (a : Int) : Int → Prop
  | refl : LA L a a
  | step {y : Int} : 0 < y → y < L.length → LA L a (layF L y) → LA L a y
theorem LA.le (h : PV L) {a y : Int} (hl : LA L a y) : a ≤ y := by
  induction hl with
  | refl => exact Int.le_refl _
  | step h1 h2 _ ih => have := layF_ok h h1 h2; omega
theorem LA.cons {a b y : Int} (h1 : 0 < b) (h2 : b < L.length) (h3 : layF L b = a) (hl : LA L b y) : LA L a y := by
  induction hl with
  | refl => exact .step h1 h2 (h3 ▸ .refl)
  | step g1 g2 _ ih => exact .step g1 g2 ih
theorem LA.kid {a y : Int} (hl : LA L a y) : y = a ∨ ∃ b, b ∈ kidP L a ∧ LA L b y := by
  induction hl with
  | refl => exact .inl rfl
  | step g1 g2 g3 ih =>
    rename_i y
    rcases ih with e | ⟨b, hb, h1⟩
    · exact .inr ⟨y, mem_kidP.2 ⟨g1, g2, e⟩, .refl⟩
    · exact .inr ⟨b, hb, .step g1 g2 h1⟩
theorem LA.up (h : PV L) {a y : Int} (hl : LA L a y) (hne : y ≠ a) : 0 < y ∧ y < L.length ∧ LA L a (layF L y) := by
  cases hl with
  | refl => exact absurd rfl hne
  | step g1 g2 g3 => exact ⟨g1, g2, g3⟩
theorem mem_PT (h : PV L) : ∀ (k : Nat) {a y : Int}, L.length - a.toNat ≤ k → (y ∈ PT L a ↔ LA L a y)
  | 0, a, y, hk => by
    rw [PT_eq h, show kidP L a = [] from List.eq_nil_iff_forall_not_mem.2 fun x hx => by have := kidP_gt h hx; omega]
    constructor
    · intro hy
      obtain rfl : y = a := by simpa using hy
      exact .refl
    · intro hl
      rcases hl.kid with e | ⟨b, hb, _⟩
      · simp [e]
      · have := kidP_gt h hb; omega
  | k + 1, a, y, hk => by
    rw [PT_eq h, List.mem_cons, List.mem_flatMap]
    constructor
    · rintro (rfl | ⟨b, hb, hy⟩)
      · exact .refl
      · have h1 := kidP_gt h hb
        obtain ⟨g1, g2, g3⟩ := mem_kidP.1 hb
        exact ((mem_PT h k (by omega)).1 hy).cons g1 g2 g3
    · intro hl
      rcases hl.kid with e | ⟨b, hb, h2⟩
      · exact .inl e
      · have h1 := kidP_gt h hb
        exact .inr ⟨b, hb, (mem_PT h k (by omega)).2 h2⟩
theorem LA.lin (h : PV L) {a b y : Int} (h1 : LA L a y) (h2 : LA L b y) : LA L a b ∨ LA L b a := by
  induction h1 with
  | refl => exact .inr h2
  | step g1 g2 g3 ih =>
    rename_i y
    by_cases e : y = b
    · subst e; exact .inl (.step g1 g2 g3)
    · exact ih (h2.up h e).2.2
theorem kid_apart (h : PV L) {a b c y : Int} (hb : b ∈ kidP L a) (hc : c ∈ kidP L a) (hne : b ≠ c) (h1 : LA L b y) (h2 : LA L c y) : False := by
  have hbg := kidP_gt h hb
  have hcg := kidP_gt h hc
  rcases h1.lin h h2 with h3 | h3
  · have h4 := (h3.up h (Ne.symm hne)).2.2
    rw [(mem_kidP.1 hc).2.2] at h4
    have := h4.le h; omega
  · have h4 := (h3.up h hne).2.2
    rw [(mem_kidP.1 hb).2.2] at h4
    have := h4.le h; omega
theorem kidP_nodup (a : Int) : (kidP L a).Nodup := (soF_perm _).nodup_iff.2 (memF_nodup a)
theorem flatMap_nodup {f : Int → List Int} : ∀ {l : List Int}, l.Nodup → (∀ x ∈ l, (f x).Nodup) → (∀ x ∈ l, ∀ y ∈ l, x ≠ y → ∀ z, z ∈ f x → z ∈ f y → False) → (l.flatMap f).Nodup
  | [], _, _, _ => by simp
  | a :: l, h1, h2, h3 => by
    rw [List.flatMap_cons, List.nodup_append]
    rw [List.nodup_cons] at h1
    refine ⟨h2 a (by simp), flatMap_nodup h1.2 (fun x hx => h2 x (by simp [hx])) (fun x hx y hy => h3 x (by simp [hx]) y (by simp [hy])), fun z hz y hy e => ?_⟩
    subst e
    obtain ⟨b, hb, hzb⟩ := List.mem_flatMap.1 hy
    exact h3 a (by simp) b (by simp [hb]) (fun e => h1.1 (e ▸ hb)) z hz hzb
theorem PT_nodup (h : PV L) : ∀ (k : Nat) (a : Int), L.length - a.toNat ≤ k → (PT L a).Nodup
  | 0, a, hk => by
    rw [PT_eq h, show kidP L a = [] from List.eq_nil_iff_forall_not_mem.2 fun x hx => by have := kidP_gt h hx; omega]
    simp
  | k + 1, a, hk => by
    rw [PT_eq h, List.nodup_cons]
    refine ⟨fun hm => ?_, flatMap_nodup (kidP_nodup a) (fun x hx => ?_) (fun x hx y hy hne z hz1 hz2 => ?_)⟩
    · obtain ⟨b, hb, hm⟩ := List.mem_flatMap.1 hm
      have h1 := kidP_gt h hb
      have := ((mem_PT h _ (Nat.le_refl _)).1 hm).le h
      omega
    · have h1 := kidP_gt h hx
      exact PT_nodup h k x (by omega)
    · exact kid_apart h hx hy hne ((mem_PT h _ (Nat.le_refl _)).1 hz1) ((mem_PT h _ (Nat.le_refl _)).1 hz2)
theorem LA.root (h : PV L) : ∀ (k : Nat) (y : Int), y.toNat ≤ k → 0 ≤ y → y < L.length → LA L 0 y
  | 0, y, hk, h0, hy => by obtain rfl : y = 0 := by omega
                           exact .refl
  | k + 1, y, hk, h0, hy => by
    by_cases e : y = 0
    · subst e; exact .refl
    · have := layF_ok h (by omega : 0 < y) hy
      exact .step (by omega) hy (LA.root h k _ (by omega) this.1 (by omega))
theorem LA.range (h : PV L) {a y : Int} (h0 : 0 ≤ a) (ha : a < L.length) (hl : LA L a y) : 0 ≤ y ∧ y < L.length := by
  cases hl with
  | refl => exact ⟨h0, ha⟩
  | step g1 g2 _ => exact ⟨by omega, g2⟩
theorem mem_PT0 (h : PV L) (hn : L ≠ []) {y : Int} : y ∈ PT L 0 ↔ 0 ≤ y ∧ y < L.length := by
  rw [mem_PT h _ (Nat.le_refl _)]
  have := List.length_pos_iff.2 hn
  exact ⟨fun hl => hl.range h (Int.le_refl _) (by omega), fun ⟨h1, h2⟩ => LA.root h _ y (Nat.le_refl _) h1 h2⟩
theorem PT0_perm (h : PV L) (hn : L ≠ []) : (PT L 0).Perm ((List.range L.length).map fun i : Nat => (i : Int)) := by
  refine (List.perm_ext_iff_of_nodup (PT_nodup h _ _ (Nat.le_refl _)) ?_).2 fun y => ?_
  · refine List.Pairwise.map _ (fun a b (hab : a ≠ b) => ?_) List.nodup_range
    intro e; exact hab (by omega)
  · rw [mem_PT0 h hn, List.mem_map]
    constructor
    · rintro ⟨h1, h2⟩
      exact ⟨y.toNat, by rw [List.mem_range]; omega, by omega⟩
    · rintro ⟨i, hi, rfl⟩
      rw [List.mem_range] at hi; omega
theorem PT0_len (h : PV L) (hn : L ≠ []) : (PT L 0).length = L.length := by rw [(PT0_perm h hn).length_eq]; simp

/-! ### Which is first -/
theorem flat_infix {f : Int → List Int} : ∀ {l : List Int} {x : Int}, x ∈ l → f x <:+: l.flatMap f
  | a :: l, x, hx => by
    rw [List.flatMap_cons]
    rcases List.mem_cons.1 hx with rfl | hx
    · exact ⟨[], l.flatMap f, by simp⟩
    · obtain ⟨s, t, e⟩ := flat_infix (f := f) hx
      exact ⟨f a ++ s, t, by rw [← e]; simp⟩
theorem PT_infix (h : PV L) {a x : Int} (hl : LA L a x) : PT L x <:+: PT L a := by
  induction hl with
  | refl => exact ⟨[], [], by simp⟩
  | step g1 g2 g3 ih =>
    rename_i y
    refine List.IsInfix.trans ?_ ih
    rw [PT_eq h (layF L y)]
    obtain ⟨s, t, e⟩ := flat_infix (f := PT L) (mem_kidP.2 ⟨g1, g2, rfl⟩ : y ∈ kidP L (layF L y))
    exact ⟨layF L y :: s, t, by rw [← e]; rfl⟩
theorem pair_sub {l : List Int} (hp : l.Pairwise (ltP L)) {a b : Int} (ha : a ∈ l) (hb : b ∈ l) (h : ltP L a b) : [a, b].Sublist l := by
  induction l with
  | nil => cases ha
  | cons c l ih =>
    rw [List.pairwise_cons] at hp
    rcases List.mem_cons.1 ha with rfl | ha
    · rcases List.mem_cons.1 hb with rfl | hb
      · exact absurd h (ltP_irr _)
      · exact List.Sublist.cons_cons _ (List.singleton_sublist.2 hb)
    · rename_i ha'
      rcases List.mem_cons.1 hb with e | hb'
      · rw [e] at h
        exact absurd h (ltP_asym (hp.1 a ha))
      · exact (ih hp.2 ha hb').cons _
theorem flat_sub {f : Int → List Int} (hf : ∀ x, x ∈ f x) : ∀ {l m : List Int}, m.Sublist l → m.Sublist (l.flatMap f)
  | _, _, .slnil => List.Sublist.refl _
  | _, _, .cons a h => by rw [List.flatMap_cons]; exact (flat_sub hf h).trans (List.sublist_append_right _ _)
  | _, _, .cons_cons a h => by
    rw [List.flatMap_cons]
    exact List.Sublist.append (l₁ := [a]) (List.singleton_sublist.2 (hf a)) (flat_sub hf h)
theorem self_PT (h : PV L) (a : Int) : a ∈ PT L a := by rw [PT_eq h]; simp
theorem bef_kids (h : PV L) {a b : Int} (ha : 0 < a) (han : a < L.length) (hb : 0 < b) (hbn : b < L.length) (he : layF L a = layF L b) (hlt : ltP L a b) : [a, b].Sublist (PT L 0) := by
  have h1 := layF_ok h ha han
  have h2 : [a, b].Sublist (PT L (layF L a)) := by
    rw [PT_eq h]
    exact (flat_sub (self_PT h) (pair_sub (kidP_pair _) (mem_kidP.2 ⟨ha, han, rfl⟩) (mem_kidP.2 ⟨hb, hbn, he.symm⟩) hlt)).cons _
  exact h2.trans (PT_infix h (LA.root h _ _ (Nat.le_refl _) h1.1 (by omega))).sublist
theorem bef_layer (h : PV L) {a : Int} (ha : 0 < a) (han : a < L.length) : [layF L a, a].Sublist (PT L 0) := by
  have h1 := layF_ok h ha han
  have h2 : [layF L a, a].Sublist (PT L (layF L a)) := by
    rw [PT_eq h]
    exact List.Sublist.cons_cons _ (List.singleton_sublist.2 (List.mem_flatMap.2 ⟨a, mem_kidP.2 ⟨ha, han, rfl⟩, self_PT h a⟩))
  exact h2.trans (PT_infix h (LA.root h _ _ (Nat.le_refl _) h1.1 (by omega))).sublist
end
def idxP : List Int → Int → Int
  | [], _ => -1
  | y :: l, x => if y = x then 0 else if idxP l x < 0 then -1 else idxP l x + 1
theorem idxP_ge : ∀ (l : List Int) (x : Int), -1 ≤ idxP l x ∧ (0 ≤ idxP l x ↔ x ∈ l)
  | [], x => by simp [idxP]
  | y :: l, x => by
    obtain ⟨h1, h2⟩ := idxP_ge l x
    rw [idxP, List.mem_cons]
    by_cases e : y = x
    · simp [e]
    · rw [if_neg e]
      split
      · refine ⟨by omega, ⟨fun h => absurd h (by omega), fun h => ?_⟩⟩
        rcases h with h | h
        · exact absurd h.symm e
        · have := h2.2 h; omega
      · refine ⟨by omega, ⟨fun _ => .inr (h2.1 (by omega)), fun _ => by omega⟩⟩
def befP (o : List Int) (a b : Int) : Bool := decide (0 ≤ idxP o a ∧ idxP o a < idxP o b)
theorem bef_sub : ∀ {o : List Int} {a b : Int}, o.Nodup → [a, b].Sublist o → befP o a b = true
  | [], a, b, _, h => by cases h
  | c :: o, a, b, hn, h => by
    rw [List.nodup_cons] at hn
    unfold befP
    rw [decide_eq_true_iff]
    cases h with
    | cons _ h =>
      have h1 := bef_sub hn.2 h
      unfold befP at h1
      rw [decide_eq_true_iff] at h1
      have ha : a ∈ o := h.subset (by simp)
      have hb : b ∈ o := h.subset (by simp)
      rw [idxP, if_neg (show ¬ c = a from fun e => hn.1 (e ▸ ha)), if_neg (by omega), idxP, if_neg (show ¬ c = b from fun e => hn.1 (e ▸ hb)), if_neg (by omega)]
      omega
    | cons_cons _ h =>
      have hb : b ∈ o := h.subset (by simp)
      have h2 := ((idxP_ge o b).2).2 hb
      rw [idxP, if_pos rfl, idxP, if_neg (show ¬ c = b from fun e => hn.1 (e ▸ hb)), if_neg (by omega)]
      omega
theorem bef_asym {o : List Int} {a b : Int} (h : befP o a b = true) : befP o b a = false := by
  unfold befP at *
  rw [decide_eq_true_iff] at h
  rw [decide_eq_false_iff_not]
  omega
end Go.Proofs.Ytmjdmlgdffoimab
