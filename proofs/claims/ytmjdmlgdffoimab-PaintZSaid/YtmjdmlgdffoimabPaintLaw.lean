/- Nodes that are painted: what the statements say of the order; plain Lean. -/
import Derived.Test.YtmjdmlgdffoimabPaintPure
namespace Go.Proofs.Ytmjdmlgdffoimab

section
variable {L : List PN}
/-! ### Inside -/
inductive UA (L : List PN) (a : Int) : Int → Prop
  | refl : UA L a a
  | step {y : Int} : 0 < y → y < L.length → UA L a (upP L y) → UA L a y
theorem UA.up {a y : Int} (hl : UA L a y) (hne : y ≠ a) : 0 < y ∧ y < L.length ∧ UA L a (upP L y) := by
  cases hl with
  | refl => exact absurd rfl hne
  | step g1 g2 g3 => exact ⟨g1, g2, g3⟩
theorem UA_LA (h : PV L) {a : Int} (ha : a = 0 ∨ layP L a = true) : ∀ (k : Nat) (y : Int), y.toNat ≤ k → 0 ≤ y → y < L.length → (UA L a y ↔ LA L a y)
  | 0, y, hk, h0, hy => by
    obtain rfl : y = 0 := by omega
    constructor
    · intro h1
      by_cases e : (0 : Int) = a
      · subst e; exact .refl
      · exact absurd (h1.up e).1 (by omega)
    · intro h1
      by_cases e : (0 : Int) = a
      · subst e; exact .refl
      · exact absurd (h1.up h e).1 (by omega)
  | k + 1, y, hk, h0, hy => by
    by_cases e : y = a
    · subst e; exact ⟨fun _ => .refl, fun _ => .refl⟩
    · by_cases hz : y = 0
      · subst hz
        exact ⟨fun h1 => absurd (h1.up e).1 (by omega), fun h1 => absurd (h1.up h e).1 (by omega)⟩
      · have hu := h.up y (by omega) hy
        have ih := UA_LA h ha k (upP L y) (by omega) hu.1 (by omega)
        have hf : layF L y = if 0 < upP L y ∧ layP L (upP L y) = false then layF L (upP L y) else upP L y := by
          show layG L (upP L y) = _
          rw [layG_eq h (by omega)]; rfl
        have h1 : UA L a y ↔ UA L a (upP L y) := ⟨fun g => (g.up e).2.2, fun g => .step (by omega) hy g⟩
        have h2 : LA L a y ↔ LA L a (layF L y) := ⟨fun g => (g.up h e).2.2, fun g => .step (by omega) hy g⟩
        rw [h1, h2, ih, hf]
        split
        · rename_i hp
          have hne : upP L y ≠ a := fun e2 => by
            rcases ha with e3 | e3
            · omega
            · rw [← e2, hp.2] at e3; cases e3
          exact ⟨fun g => (g.up h hne).2.2, fun g => .step hp.1 (by omega) g⟩
        · exact Iff.rfl
/-! ### One more -/
def addN (L : List PN) (u : Int) : List PN := L ++ [⟨u, false, 0⟩]
theorem addN_old (u : Int) {x : Int} (hx : x < L.length) : upP (addN L u) x = upP L x ∧ layP (addN L u) x = layP L x ∧ zP (addN L u) x = zP L x := by
  unfold upP layP zP addN
  by_cases h0 : x < 0
  · simp [h0]
  · rw [List.getElem?_append_left (by omega)]; exact ⟨rfl, rfl, rfl⟩
theorem layS_add (h : PV L) (u : Int) : ∀ (k : Nat) (x : Int), x < L.length → layS (addN L u) k x = layS L k x
  | 0, _, _ => rfl
  | k + 1, x, hx => by
    rw [layS, layS, (addN_old u hx).2.1, (addN_old u hx).1]
    split
    · rename_i hp
      have := h.up x hp.1 hx
      exact layS_add h u k _ (by omega)
    · rfl
theorem layF_add (h : PV L) (u : Int) {x : Int} (h0 : 0 < x) (hx : x < L.length) : layF (addN L u) x = layF L x := by
  have := h.up x h0 hx
  unfold layF layG
  rw [(addN_old u hx).1, layS_add h u _ _ (by omega)]
theorem rank_add (u : Int) {x : Int} (hx : x < L.length) : rankP (addN L u) x = rankP L x := by
  unfold rankP; rw [(addN_old u hx).2.1, (addN_old u hx).2.2]
theorem lt_add (u : Int) {x y : Int} (hx : x < L.length) (hy : y < L.length) : ltP (addN L u) x y ↔ ltP L x y := by
  unfold ltP; rw [rank_add u hx, rank_add u hy, (addN_old u hx).2.2, (addN_old u hy).2.2]
theorem kid_add (h : PV L) (u a : Int) : (kidP (addN L u) a).filter (fun x : Int => decide (x ≠ (L.length : Int))) = kidP L a := by
  have hlen : (addN L u).length = L.length + 1 := by simp [addN]
  have hm : ∀ x, x ∈ (kidP (addN L u) a).filter (fun x : Int => decide (x ≠ (L.length : Int))) ↔ x ∈ kidP L a := fun x => by
    rw [List.mem_filter, mem_kidP, mem_kidP, hlen, decide_eq_true_iff]
    constructor
    · rintro ⟨⟨h1, h2, h3⟩, h4⟩
      have hx : x < L.length := by omega
      exact ⟨h1, hx, by rw [← layF_add h u h1 hx]; exact h3⟩
    · rintro ⟨h1, h2, h3⟩
      exact ⟨⟨h1, by omega, by rw [layF_add h u h1 h2]; exact h3⟩, by omega⟩
  refine srt_uniq (L := L) ((List.perm_ext_iff_of_nodup ((kidP_nodup a).filter _) (kidP_nodup a)).2 hm) ?_ (kidP_pair a)
  refine List.Pairwise.imp_of_mem (R := ltP (addN L u)) (fun {x y} hx hy hlt => ?_) ((kidP_pair (L := addN L u) a).filter _)
  exact (lt_add u (mem_kidP.1 ((hm x).1 hx)).2.1 (mem_kidP.1 ((hm y).1 hy)).2.1).1 hlt
theorem flat_if {f g : Int → List Int} {p : Int → Bool} : ∀ {l : List Int}, (∀ x ∈ l, f x = if p x then g x else []) → l.flatMap f = (l.filter p).flatMap g
  | [], _ => rfl
  | a :: l, h => by
    rw [List.flatMap_cons, h a (by simp), flat_if (l := l) fun x hx => h x (by simp [hx]), List.filter_cons]
    cases p a <;> simp
theorem PT_add (h : PV L) {u : Int} (h' : PV (addN L u)) : ∀ (k : Nat) (a : Int), L.length - a.toNat ≤ k → a < L.length → (PT (addN L u) a).filter (fun x : Int => decide (x ≠ (L.length : Int))) = PT L a
  | 0, a, hk, ha => by
    rw [PT_eq h', PT_eq h a, List.filter_cons, if_pos (by rw [decide_eq_true_iff]; omega)]
    congr 1
    have e1 : kidP L a = [] := List.eq_nil_iff_forall_not_mem.2 fun x hx => by have := kidP_gt h hx; omega
    have e2 : ∀ x ∈ kidP (addN L u) a, x = L.length := fun x hx => by
      by_cases e : x = L.length
      · exact e
      · have : x ∈ kidP L a := by rw [← kid_add h u a, List.mem_filter]; exact ⟨hx, by simpa using e⟩
        rw [e1] at this; cases this
    rw [e1, List.flatMap_nil, List.filter_eq_nil_iff]
    intro y hy
    obtain ⟨x, hx, hy⟩ := List.mem_flatMap.1 hy
    have h3 := kidP_gt h' hx
    rw [e2 x hx, PT_plain h' (by have := e2 x hx; omega) (by unfold layP addN; rw [if_neg (by omega)]; simp)] at hy
    simpa using hy
  | k + 1, a, hk, ha => by
    rw [PT_eq h', PT_eq h a, List.filter_cons, if_pos (by rw [decide_eq_true_iff]; omega)]
    congr 1
    rw [List.filter_flatMap, ← kid_add h u a]
    refine flat_if fun x hx => ?_
    have h3 := kidP_gt h' hx
    have hlen : (addN L u).length = L.length + 1 := by simp [addN]
    by_cases e : x = L.length
    · rw [if_neg (by simpa using e), e, PT_plain h' (by omega) (by unfold layP addN; rw [if_neg (by omega)]; simp)]
      simp
    · rw [if_pos (by simpa using e)]
      exact PT_add h h' k x (by omega) (by omega)
/-! ### Without layers -/
def plainN (L : List PN) : List PN := L.map fun n => ⟨n.up, false, n.z⟩
theorem plainN_up (x : Int) : upP (plainN L) x = upP L x ∧ layP (plainN L) x = false := by
  unfold upP layP plainN
  rw [List.getElem?_map]
  by_cases h0 : x < 0
  · simp [h0]
  · rw [if_neg h0, if_neg h0, if_neg h0]
    cases L[x.toNat]? <;> exact ⟨rfl, rfl⟩
theorem stk_plain : ∀ k : Nat, stk (plainN L) k = stk L k
  | 0 => rfl
  | k + 1 => by rw [stk, stk, stk_plain k, (plainN_up 0).1, (plainN_up (k : Int)).1]
theorem okP_plain : okP (plainN L) = okP L := by unfold okP; rw [stk_plain]; simp [plainN]
theorem PT_noLayers (h : PV L) (hp : ∀ x, layP L x = false) (hn : L ≠ []) : PT L 0 = (List.range L.length).map fun i : Nat => (i : Int) := by
  have hl := List.length_pos_iff.2 hn
  have h0 : ∀ x : Int, 0 < x → x < L.length → layF L x = 0 := fun x h1 h2 => by
    rcases (layF_ok h h1 h2).2.2 with h3 | h3
    · exact h3
    · rw [hp] at h3; cases h3
  have hk : kidP L 0 = (List.range (L.length - 1)).map fun i : Nat => (i : Int) + 1 := by
    refine (soF_is (memF_nodup 0) ?_ ?_).symm
    · unfold memF memK
      rw [List.filter_eq_self.2]
      intro x hx
      obtain ⟨i, hi, rfl⟩ := List.mem_map.1 hx
      rw [List.mem_range] at hi
      simpa using h0 _ (by omega) (by omega)
    · refine List.Pairwise.map (R := (· < ·)) _ (fun a b hab => ?_) List.pairwise_lt_range
      unfold ltP rankP
      rw [hp, hp]
      simp
      omega
  rw [PT_eq h, hk]
  have hf : ((List.range (L.length - 1)).map fun i : Nat => (i : Int) + 1).flatMap (PT L) = (List.range (L.length - 1)).map fun i : Nat => (i : Int) + 1 := by
    have : ∀ l : List Int, (∀ x ∈ l, 0 < x) → l.flatMap (PT L) = l := by
      intro l
      induction l with
      | nil => intro _; rfl
      | cons a l ih =>
        intro hg
        rw [List.flatMap_cons, PT_plain h (hg a (by simp)) (hp a), ih fun x hx => hg x (by simp [hx])]
        rfl
    exact this _ fun x hx => by obtain ⟨i, _, rfl⟩ := List.mem_map.1 hx; omega
  rw [hf]
  obtain ⟨m, hm⟩ : ∃ m, L.length = m + 1 := ⟨L.length - 1, by omega⟩
  rw [hm, List.range_succ_eq_map, List.map_cons, List.map_map, Nat.add_sub_cancel]
  rfl
/-! ### Two in one layer -/
theorem bef_total (h : PV L) {a b : Int} (ha : 0 < a) (han : a < L.length) (hb : 0 < b) (hbn : b < L.length) (he : layF L a = layF L b) : befP (PT L 0) a b = decide (ltP L a b) := by
  have hn := PT_nodup h _ 0 (Nat.le_refl _)
  by_cases h1 : ltP L a b
  · rw [bef_sub hn (bef_kids h ha han hb hbn he h1)]; simp [h1]
  · rcases ltP_tri (L := L) a b with h2 | h2 | h2
    · exact absurd h2 h1
    · subst h2
      simp [h1, befP]
    · rw [bef_asym (bef_sub hn (bef_kids h hb hbn ha han he.symm h2))]; simp [h1]
theorem rank_lay {x : Int} (h : layP L x = true) : rankP L x = if zP L x < 0 then -1 else 1 := by unfold rankP; rw [if_neg (by simp [h])]
theorem rank_no {x : Int} (h : layP L x = false) : rankP L x = 0 := by unfold rankP; rw [if_pos h]
theorem lt_two {a b : Int} (hab : a < b) (ha : layP L a = true) (hb : layP L b = true) : ltP L a b ↔ zP L a ≤ zP L b := by
  unfold ltP
  rw [rank_lay ha, rank_lay hb]
  split <;> split <;> omega
theorem lt_one {a b : Int} (ha : layP L a = true) (hb : layP L b = false) : ltP L a b ↔ zP L a < 0 := by
  unfold ltP
  rw [rank_lay ha, rank_no hb]
  split <;> omega
theorem lt_plain {a b : Int} (hab : a < b) (ha : layP L a = false) (hb : layP L b = false) : ltP L a b := by
  unfold ltP
  rw [rank_no ha, rank_no hb]
  omega
end
end Go.Proofs.Ytmjdmlgdffoimab
