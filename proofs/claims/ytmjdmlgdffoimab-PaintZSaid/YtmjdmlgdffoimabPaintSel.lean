/- The document's way to a layer's order: by ranks, each by picking the least one; plain Lean. -/
import Derived.Test.YtmjdmlgdffoimabPaintOrd
namespace Go.Proofs.Ytmjdmlgdffoimab
open Go.RowKit

theorem ints_one (l : List Int) : ∀ u ∈ l.map (Value.int .i64), u.oneCell' = true := by
  intro u hu
  obtain ⟨x, _, rfl⟩ := List.mem_map.1 hu
  rfl
def selR (L : List PN) (a r : Int) (k : Nat) : List Int := (memK L a k).filter fun x => decide (rankP L x = r)
section
variable {L : List PN}
theorem selR_no {a r : Int} {k : Nat} (h : ¬ (layF L ((k : Int) + 1) = a ∧ rankP L ((k : Int) + 1) = r)) : selR L a r (k + 1) = selR L a r k := by
  unfold selR
  rw [memK_succ, List.filter_append]
  by_cases h1 : layF L ((k : Int) + 1) = a
  · have h2 : ¬ rankP L ((k : Int) + 1) = r := fun e => h ⟨h1, e⟩
    simp [h1, h2]
  · simp [h1]
theorem selR_yes {a r : Int} {k : Nat} (h1 : layF L ((k : Int) + 1) = a) (h2 : rankP L ((k : Int) + 1) = r) : selR L a r (k + 1) = selR L a r k ++ [(k : Int) + 1] := by
  unfold selR
  rw [memK_succ, List.filter_append, if_pos h1]
  simp [h2]
theorem mem_selR {a r x : Int} {k : Nat} : x ∈ selR L a r k ↔ (0 < x ∧ x ≤ k ∧ layF L x = a) ∧ rankP L x = r := by
  unfold selR
  rw [List.mem_filter, mem_memK, decide_eq_true_iff]
theorem selR_pair (a r : Int) (k : Nat) : (selR L a r k).Pairwise (· < ·) := (memK_pair a k).filter _
theorem selR_nodup (a r : Int) (k : Nat) : (selR L a r k).Nodup := (selR_pair a r k).imp fun h => by omega
theorem selR_len (a r : Int) (k : Nat) : (selR L a r k).length ≤ k := Nat.le_trans (List.length_filter_le _ _) (memK_len a k)
theorem lt_rank {a b : Int} (h : rankP L a < rankP L b) : ltP L a b := .inl h
theorem lt_plain0 {a b : Int} (ha : rankP L a = 0) (hb : rankP L b = 0) (h : a < b) : ltP L a b := by unfold ltP; omega
theorem rank_lay0 {x : Int} (h : rankP L x = 0) : layP L x = false := by
  unfold rankP at h
  split at h
  · assumption
  · split at h <;> omega
theorem kid_split (a : Int) : kidP L a = soF L (selR L a (-1) (L.length - 1)) ++ selR L a 0 (L.length - 1) ++ soF L (selR L a 1 (L.length - 1)) := by
  have hm : ∀ x, x ∈ soF L (selR L a (-1) (L.length - 1)) → rankP L x = -1 := fun x hx => (mem_selR.1 ((soF_perm _).mem_iff.1 hx)).2
  have hh : ∀ x, x ∈ soF L (selR L a 1 (L.length - 1)) → rankP L x = 1 := fun x hx => (mem_selR.1 ((soF_perm _).mem_iff.1 hx)).2
  refine (soF_is (memF_nodup a) ?_ ?_).symm
  · refine ((((soF_perm _).append_right _).append (soF_perm _)).trans ?_)
    unfold memF selR
    generalize memK L a (L.length - 1) = l at *
    have key : ∀ m : List Int, ((m.filter fun x => decide (rankP L x = -1)) ++ (m.filter fun x => decide (rankP L x = 0)) ++ m.filter fun x => decide (rankP L x = 1)).Perm m := by
      intro m
      induction m with
      | nil => exact List.Perm.refl _
      | cons x m ih =>
        have hb := rank_bd L x
        by_cases h1 : rankP L x = -1
        · rw [List.filter_cons_of_pos (by simpa using h1), List.filter_cons_of_neg (by simp; omega), List.filter_cons_of_neg (by simp; omega)]
          exact List.Perm.cons x ih
        · by_cases h0 : rankP L x = 0
          · rw [List.filter_cons_of_neg (by simpa using h1), List.filter_cons_of_pos (by simpa using h0), List.filter_cons_of_neg (by simp; omega)]
            rw [List.append_assoc]
            refine List.perm_middle.trans (List.Perm.cons x ?_)
            have h3 := ih
            rw [List.append_assoc] at h3
            exact h3
          · rw [List.filter_cons_of_neg (by simpa using h1), List.filter_cons_of_neg (by simpa using h0), List.filter_cons_of_pos (by simp; omega)]
            exact List.perm_middle.trans (List.Perm.cons x ih)
    exact key _
  · refine List.pairwise_append.2 ⟨List.pairwise_append.2 ⟨soF_pair (selR_nodup _ _ _), ?_, fun x hx y hy => ?_⟩, soF_pair (selR_nodup _ _ _), fun x hx y hy => ?_⟩
    · exact List.Pairwise.imp_of_mem (fun {x y} hx hy h => lt_plain0 (mem_selR.1 hx).2 (mem_selR.1 hy).2 h) (selR_pair a 0 _)
    · exact lt_rank (by rw [hm x hx, (mem_selR.1 hy).2]; omega)
    · rcases List.mem_append.1 hx with hx | hx
      · exact lt_rank (by rw [hm x hx, hh y hy]; omega)
      · exact lt_rank (by rw [(mem_selR.1 hx).2, hh y hy]; omega)
theorem flat_plain (h : PV L) : ∀ {l : List Int}, (∀ x ∈ l, 0 < x ∧ rankP L x = 0) → l.flatMap (PT L) = l
  | [], _ => rfl
  | x :: l, hl => by
    have := hl x (by simp)
    rw [List.flatMap_cons, PT_plain h this.1 (rank_lay0 this.2), flat_plain h fun y hy => hl y (by simp [hy])]
    rfl
theorem PT_split (h : PV L) (a : Int) : PT L a = a :: ((soF L (selR L a (-1) (L.length - 1))).flatMap (PT L) ++ selR L a 0 (L.length - 1) ++ (soF L (selR L a 1 (L.length - 1))).flatMap (PT L)) := by
  rw [PT_eq h, kid_split, List.flatMap_append, List.flatMap_append, flat_plain h fun x hx => ⟨(mem_selR.1 hx).1.1, (mem_selR.1 hx).2⟩]
theorem PT_len_le (h : PV L) {x : Int} (h0 : 0 ≤ x) (hx : x < L.length) : (PT L x).length ≤ L.length :=
  memlen_le (fun y hy => ((mem_PT h _ (Nat.le_refl _)).1 hy).range h h0 hx) (PT_nodup h _ x (Nat.le_refl _))
theorem flat_len {f : Int → List Int} {B : Nat} : ∀ {l : List Int}, (∀ x ∈ l, (f x).length ≤ B) → (l.flatMap f).length ≤ l.length * B
  | [], _ => by simp
  | x :: l, h => by
    have h1 := h x (by simp)
    have h2 := flat_len (f := f) (l := l) fun y hy => h y (by simp [hy])
    rw [List.flatMap_cons, List.length_append, List.length_cons, Nat.add_mul]
    omega
/-! ### Picking -/
/-- ps were picked out of l: the least ones, in order. -/
structure Picks (L : List PN) (l ps : List Int) : Prop where
  sub : ∀ x ∈ ps, x ∈ l
  nodup : ps.Nodup
  pair : ps.Pairwise (ltP L)
  low : ∀ x ∈ ps, ∀ y ∈ l, y ∉ ps → ltP L x y
theorem Picks.nil (l : List Int) : Picks L l [] := ⟨by simp, by simp, by simp, by simp⟩
theorem Picks.step {l ps : List Int} (h : Picks L l ps) {x : Int} (hx : x ∈ l) (hn : x ∉ ps) (hl : ∀ y ∈ l, y ∉ ps → y ≠ x → ltP L x y) : Picks L l (ps ++ [x]) := by
  refine ⟨fun y hy => ?_, ?_, ?_, fun y hy z hz hnz => ?_⟩
  · rcases List.mem_append.1 hy with hy | hy
    · exact h.sub y hy
    · obtain rfl : y = x := by simpa using hy
      exact hx
  · rw [List.nodup_append]
    refine ⟨h.nodup, by simp, fun a ha b hb e => ?_⟩
    obtain rfl : b = x := by simpa using hb
    exact hn (e ▸ ha)
  · refine List.pairwise_append.2 ⟨h.pair, List.pairwise_singleton _ _, fun a ha b hb => ?_⟩
    obtain rfl : b = x := by simpa using hb
    exact h.low a ha b hx hn
  · have h1 : z ∉ ps := fun e => hnz (List.mem_append_left _ e)
    have h2 : z ≠ x := fun e => hnz (by simp [e])
    rcases List.mem_append.1 hy with hy | hy
    · exact h.low y hy z hz h1
    · obtain rfl : y = x := by simpa using hy
      exact hl z hz h1 h2
theorem Picks.all {l ps : List Int} (h : Picks L l ps) (hn : l.Nodup) (hl : ps.length = l.length) : ps = soF L l := by
  have hs : ∀ x ∈ l, x ∈ ps := fun x hx => by
    by_cases e : x ∈ ps
    · exact e
    · have := nodupLen (l := x :: ps) (m := l) (List.nodup_cons.2 ⟨e, h.nodup⟩) (fun y hy => by
        rcases List.mem_cons.1 hy with rfl | hy
        · exact hx
        · exact h.sub y hy)
      simp at this; omega
  exact soF_is hn ((List.perm_ext_iff_of_nodup h.nodup hn).2 fun x => ⟨h.sub x, hs x⟩) h.pair
/-- The best one among the first i: none of those that were not picked is less. -/
def Best (L : List PN) (l ps : List Int) (i : Nat) (at_ : Int) : Prop :=
  (at_ = -1 ∧ ∀ x ∈ l.take i, x ∈ ps) ∨ ∃ (j : Nat) (x : Int), at_ = j ∧ j < i ∧ l[j]? = some x ∧ x ∉ ps ∧ ∀ y ∈ l.take i, y ∉ ps → y ≠ x → ltP L x y
theorem Best.skip {l ps : List Int} {i : Nat} {at_ x : Int} (h : Best L l ps i at_) (hx : l[i]? = some x) (hp : x ∈ ps) : Best L l ps (i + 1) at_ := by
  rcases h with ⟨h1, h2⟩ | ⟨j, y, h1, h2, h3, h4, h5⟩
  · refine .inl ⟨h1, fun z hz => ?_⟩
    rw [take_snoc hx] at hz
    rcases List.mem_append.1 hz with hz | hz
    · exact h2 z hz
    · obtain rfl : z = x := by simpa using hz
      exact hp
  · refine .inr ⟨j, y, h1, by omega, h3, h4, fun z hz hnz hne => ?_⟩
    rw [take_snoc hx] at hz
    rcases List.mem_append.1 hz with hz | hz
    · exact h5 z hz hnz hne
    · obtain rfl : z = x := by simpa using hz
      exact absurd hp hnz
theorem Best.take {l ps : List Int} {i : Nat} {at_ x : Int} (h : Best L l ps i at_) (hx : l[i]? = some x) (hp : x ∉ ps) (hl : ∀ (j : Nat) (y : Int), at_ = j → l[j]? = some y → ltP L x y) : Best L l ps (i + 1) i := by
  refine .inr ⟨i, x, rfl, by omega, hx, hp, fun z hz hnz hne => ?_⟩
  rw [take_snoc hx] at hz
  rcases List.mem_append.1 hz with hz | hz
  · rcases h with ⟨h1, h2⟩ | ⟨j, y, h1, h2, h3, h4, h5⟩
    · exact absurd (h2 z hz) hnz
    · by_cases e : z = y
      · subst e; exact hl j z h1 h3
      · exact ltP_trans (hl j y h1 h3) (h5 z hz hnz e)
  · obtain rfl : z = x := by simpa using hz
    exact absurd rfl hne
theorem Best.keep {l ps : List Int} {i : Nat} {at_ x : Int} (h : Best L l ps i at_) (hx : l[i]? = some x) (h0 : 0 ≤ at_) (hl : ∀ (j : Nat) (y : Int), at_ = j → j < i → l[j]? = some y → ltP L y x) : Best L l ps (i + 1) at_ := by
  rcases h with ⟨h1, h2⟩ | ⟨j, y, h1, h2, h3, h4, h5⟩
  · omega
  · refine .inr ⟨j, y, h1, by omega, h3, h4, fun z hz hnz hne => ?_⟩
    rw [take_snoc hx] at hz
    rcases List.mem_append.1 hz with hz | hz
    · exact h5 z hz hnz hne
    · obtain rfl : z = x := by simpa using hz
      exact hl j y h1 h2 h3
theorem Best.done {l ps : List Int} {at_ : Int} (h : Best L l ps l.length at_) (hp : Picks L l ps) (hn : l.Nodup) (hl : ps.length < l.length) : ∃ (j : Nat) (x : Int), at_ = j ∧ l[j]? = some x ∧ x ∉ ps ∧ Picks L l (ps ++ [x]) := by
  rcases h with ⟨h1, h2⟩ | ⟨j, y, h1, h2, h3, h4, h5⟩
  · rw [List.take_of_length_le (Nat.le_refl _)] at h2
    have := nodupLen hn h2
    omega
  · rw [List.take_of_length_le (Nat.le_refl _)] at h5
    exact ⟨j, y, h1, h3, h4, hp.step (List.mem_of_getElem? h3) h4 h5⟩
theorem lt_sameR {a b : Int} (h : rankP L a = rankP L b) (h0 : rankP L a ≠ 0) (hz : zP L a < zP L b ∨ (zP L a = zP L b ∧ a < b)) : ltP L a b := .inr ⟨h, .inl ⟨h0, hz⟩⟩
end
def usedV (l ps : List Int) : List Value := l.map fun x => .bool (decide (x ∈ ps))
theorem usedV_set {l ps : List Int} (hn : l.Nodup) {j : Nat} {x : Int} (hx : l[j]? = some x) : (usedV l ps).set j (.bool true) = usedV l (ps ++ [x]) := by
  apply List.ext_getElem?
  intro k
  unfold usedV
  rw [List.getElem?_set, List.getElem?_map, List.getElem?_map, List.length_map]
  by_cases hk : j = k
  · subst hk
    rw [if_pos rfl, if_pos (List.getElem?_eq_some_iff.1 hx).1, hx]
    simp
  · rw [if_neg hk]
    cases e : l[k]? with
    | none => rfl
    | some y =>
      have hne : y ≠ x := fun h => by
        subst h
        have h1 := (List.getElem?_eq_some_iff.1 hx)
        have h2 := (List.getElem?_eq_some_iff.1 e)
        obtain ⟨l1, e1⟩ := h1
        obtain ⟨l2, e2⟩ := h2
        exact hk ((List.getElem_inj hn).1 (e1.trans e2.symm))
      simp [hne]
end Go.Proofs.Ytmjdmlgdffoimab
