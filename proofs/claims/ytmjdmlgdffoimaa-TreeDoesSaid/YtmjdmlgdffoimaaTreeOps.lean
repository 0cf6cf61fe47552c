/- What comes, goes, moves among boxes: plain laws. -/
import Derived.Test.YtmjdmlgdffoimaaTreePure
namespace Go.Proofs.Ytmjdmlgdffoimaa

section
variable {S : Type} {F : Forest S} {d : Int → Nat}
def insAt (l : List Int) (k : Nat) (x : Int) : List Int := l.take k ++ x :: l.drop k
def cutK (l : List Int) (x : Int) : List Int := l.filter fun y => decide (y ≠ x)
theorem mem_insAt {l : List Int} {k : Nat} {x y : Int} : y ∈ insAt l k x ↔ y = x ∨ y ∈ l := by
  unfold insAt
  have : y ∈ l ↔ y ∈ l.take k ∨ y ∈ l.drop k := by rw [← List.mem_append, List.take_append_drop]
  simp only [List.mem_append, List.mem_cons, this]
  constructor
  · rintro (h | h | h) <;> simp [h]
  · rintro (h | h | h) <;> simp [h]
theorem insAt_len {l : List Int} {k : Nat} {x : Int} (h : k ≤ l.length) : (insAt l k x).length = l.length + 1 := by
  simp [insAt]; omega
theorem insAt_nodup {l : List Int} {k : Nat} {x : Int} (h : l.Nodup) (hx : x ∉ l) : (insAt l k x).Nodup := by
  have h1 : (insAt l k x).Perm (x :: l) := by
    unfold insAt
    refine List.perm_middle.trans ?_
    rw [List.take_append_drop]
  exact h1.nodup_iff.2 (List.nodup_cons.2 ⟨hx, h⟩)
theorem mem_cutK {l : List Int} {x y : Int} : y ∈ cutK l x ↔ y ∈ l ∧ y ≠ x := by simp [cutK]
theorem cutK_nodup {l : List Int} {x : Int} (h : l.Nodup) : (cutK l x).Nodup := List.Pairwise.filter _ h
theorem cutK_of_not {l : List Int} {x : Int} (h : x ∉ l) : cutK l x = l := List.filter_eq_self.2 fun _ hy => decide_eq_true fun e => h (e ▸ hy)
theorem cut_insAt {l : List Int} {k : Nat} {x : Int} (h : x ∉ l) : cutK (insAt l k x) x = l := by
  have h1 : x ∉ l.take k := fun hm => h (List.mem_of_mem_take hm)
  have h2 : x ∉ l.drop k := fun hm => h (List.mem_of_mem_drop hm)
  unfold insAt
  have e : cutK (l.take k ++ x :: l.drop k) x = cutK (l.take k) x ++ cutK (l.drop k) x := by
    unfold cutK
    rw [List.filter_append, List.filter_cons_of_neg (by simp)]
  rw [e, cutK_of_not h1, cutK_of_not h2, List.take_append_drop]
theorem insAt_cut {l : List Int} {i : Nat} {x : Int} (h : l.Nodup) (hx : l[i]? = some x) : insAt (cutK l x) i x = l := by
  obtain ⟨hi, e⟩ := List.getElem?_eq_some_iff.1 hx
  have h1 : l = l.take i ++ x :: l.drop (i + 1) := by
    conv => lhs; rw [← List.take_append_drop i l]
    rw [List.drop_eq_getElem_cons hi, e]
  have h2 : x ∉ l.take i ∧ x ∉ l.drop (i + 1) := by
    rw [h1, List.nodup_append] at h
    refine ⟨fun hm => h.2.2 x hm x (by simp) rfl, fun hm => ?_⟩
    exact (List.nodup_cons.1 h.2.1).1 hm
  have h3 : cutK l x = l.take i ++ l.drop (i + 1) := by
    conv => lhs; rw [h1]
    unfold cutK
    rw [List.filter_append, List.filter_cons_of_neg (by simp)]
    show cutK _ x ++ cutK _ x = _
    rw [cutK_of_not h2.1, cutK_of_not h2.2]
  rw [h3]
  unfold insAt
  have hl : (l.take i).length = i := by rw [List.length_take]; omega
  rw [List.take_left' hl, List.drop_left' hl]
  exact h1.symm
theorem cutK_len {l : List Int} {x : Int} (h : l.Nodup) (hx : x ∈ l) : (cutK l x).length + 1 = l.length := by
  obtain ⟨i, hi⟩ := List.getElem?_of_mem hx
  have h1 := insAt_cut h hi
  have h2 : l.length = (insAt (cutK l x) i x).length := by rw [h1]
  have h3 : (insAt (cutK l x) i x).length = (cutK l x).length + 1 := by
    unfold insAt
    simp
    have : (List.take i (cutK l x)).length + (List.drop i (cutK l x)).length = (cutK l x).length := by
      rw [← List.length_append, List.take_append_drop]
    simp at this
    omega
  omega

/-! ### A box comes -/
def addG (F : Forest S) (up : Int) (k : Nat) (id : Int) (z : S) : Forest S := fun x => if x = up then (F up).map fun b => { b with kids := insAt b.kids k id } else if x = id then some ⟨up, [], z⟩ else F x
theorem WF.add (h : WF F d) {up id : Int} {b : TBox S} (hu : F up = some b) (hid : F id = none) (hr : 0 ≤ id ∧ id < 4096) (k : Nat) (hd : d up < 63) (z : S) :
    WF (addG F up k id z) (fun x => if x = id then d up + 1 else d x) := by
  have hne : up ≠ id := fun e => by rw [e, hid] at hu; cases hu
  have h0 : (0 : Int) ≠ id := fun e => by obtain ⟨r, hr, _⟩ := h.root; rw [e, hid] at hr; cases hr
  have hnk : ∀ x c, F x = some c → id ∉ c.kids := fun x c hx hm => by
    obtain ⟨_, e, he, _⟩ := h.kid x c hx id hm
    rw [hid] at he; cases he
  have hat : ∀ x, addG F up k id z x = if x = up then some { b with kids := insAt b.kids k id } else if x = id then some ⟨up, [], z⟩ else F x := fun x => by
    simp only [addG, hu, Option.map_some]
  have hget : ∀ x c, addG F up k id z x = some c → (x = up ∧ c = { b with kids := insAt b.kids k id }) ∨ (x ≠ up ∧ x = id ∧ c = ⟨up, [], z⟩) ∨ (x ≠ up ∧ x ≠ id ∧ F x = some c) := fun x c hx => by
    rw [hat] at hx
    split at hx
    · cases hx; exact .inl ⟨‹_›, rfl⟩
    · split at hx
      · cases hx; exact .inr (.inl ⟨‹_›, ‹_›, rfl⟩)
      · exact .inr (.inr ⟨‹_›, ‹_›, hx⟩)
  have hold : ∀ x c, F x = some c → ∃ c', addG F up k id z x = some c' ∧ c'.up = c.up ∧ ∀ y ∈ c.kids, y ∈ c'.kids := fun x c hx => by
    rw [hat]
    by_cases e : x = up
    · rw [if_pos e]
      subst e
      rw [hu] at hx; cases hx
      exact ⟨_, rfl, rfl, fun y hy => mem_insAt.2 (.inr hy)⟩
    · rw [if_neg e, if_neg (fun e' => by rw [e', hid] at hx; cases hx)]
      exact ⟨c, hx, rfl, fun y hy => hy⟩
  refine ⟨?_, ?_, ?_, ?_, ?_, ?_, ?_, ?_⟩
  · obtain ⟨r, hr, hru⟩ := h.root
    obtain ⟨r', hr', e, _⟩ := hold 0 r hr
    exact ⟨r', hr', e.trans hru⟩
  · intro x c hx hx0
    rcases hget x c hx with ⟨rfl, rfl⟩ | ⟨_, rfl, rfl⟩ | ⟨_, _, hx'⟩
    · obtain ⟨u, hu', hm⟩ := h.par x b hu hx0
      obtain ⟨u', h1, _, h2⟩ := hold _ u hu'
      exact ⟨u', h1, h2 x hm⟩
    · refine ⟨{ b with kids := insAt b.kids k x }, by rw [hat, if_pos rfl], mem_insAt.2 (.inl rfl)⟩
    · obtain ⟨u, hu', hm⟩ := h.par x c hx' hx0
      obtain ⟨u', h1, _, h2⟩ := hold _ u hu'
      exact ⟨u', h1, h2 x hm⟩
  · intro x c hx y hy
    have hk : ∀ c0, F x = some c0 → y ∈ c0.kids → y ≠ 0 ∧ ∃ c, addG F up k id z y = some c ∧ c.up = x := fun c0 h1 h2 => by
      obtain ⟨h3, e, he, hee⟩ := h.kid x c0 h1 y h2
      obtain ⟨e', h4, h5, _⟩ := hold y e he
      exact ⟨h3, e', h4, h5.trans hee⟩
    rcases hget x c hx with ⟨rfl, rfl⟩ | ⟨_, rfl, rfl⟩ | ⟨_, _, hx'⟩
    · rcases mem_insAt.1 hy with rfl | hy
      · exact ⟨fun e => h0 e.symm, ⟨x, [], z⟩, by rw [hat, if_neg (fun e => hne e.symm), if_pos rfl], rfl⟩
      · exact hk b hu hy
    · simp at hy
    · exact hk c hx' hy
  · intro x c hx
    rcases hget x c hx with ⟨rfl, rfl⟩ | ⟨_, rfl, rfl⟩ | ⟨_, _, hx'⟩
    · exact insAt_nodup (h.nodup x b hu) (hnk x b hu)
    · exact List.nodup_nil
    · exact h.nodup x c hx'
  · simp only [if_neg h0]; exact h.rank0
  · intro x c hx hx0
    have hr' : ∀ c0, F x = some c0 → (if x = id then d up + 1 else d x) = (if c0.up = id then d up + 1 else d c0.up) + 1 := fun c0 h1 => by
      rw [if_neg (fun e => by rw [e, hid] at h1; cases h1)]
      obtain ⟨u, hu', _⟩ := h.par x c0 h1 hx0
      rw [if_neg (fun e => by rw [e, hid] at hu'; cases hu')]
      exact h.rank x c0 h1 hx0
    rcases hget x c hx with ⟨rfl, rfl⟩ | ⟨_, rfl, rfl⟩ | ⟨_, _, hx'⟩
    · exact hr' b hu
    · simp only [if_true, if_neg hne]
    · exact hr' c hx'
  · intro x c hx
    rcases hget x c hx with ⟨rfl, rfl⟩ | ⟨_, rfl, rfl⟩ | ⟨_, h2, hx'⟩
    · simp only [if_neg hne]; exact h.deep x b hu
    · simp only [if_true]; omega
    · simp only [if_neg h2]; exact h.deep x c hx'
  · intro x c hx
    rcases hget x c hx with ⟨rfl, rfl⟩ | ⟨_, rfl, rfl⟩ | ⟨_, _, hx'⟩
    · exact h.range x b hu
    · exact hr
    · exact h.range x c hx'

/-! ### A box goes -/
def remG (F : Forest S) (id : Int) : Forest S := fun x => if x ∈ sub F id then none else (F x).map fun b => if x = upF F id then { b with kids := cutK b.kids id } else b
theorem WF.rem (h : WF F d) {id : Int} {b : TBox S} (hid : F id = some b) (h0 : id ≠ 0) : WF (remG F id) d := by
  have hup : upF F id = b.up := up_some hid
  have hself : id ∈ sub F id := h.mem_sub.2 (Anc.refl (has_some hid))
  have hget : ∀ x c, remG F id x = some c → x ∉ sub F id ∧ ∃ c0, F x = some c0 ∧ c.up = c0.up ∧ c.kids = if x = b.up then cutK c0.kids id else c0.kids := fun x c hx => by
    unfold remG at hx
    split at hx
    · cases hx
    · rename_i hn
      obtain ⟨c0, h1, h2⟩ := Option.map_eq_some_iff.1 hx
      rw [hup] at h2
      refine ⟨hn, c0, h1, ?_⟩
      split at h2
      · rename_i e; subst h2; rw [if_pos e]; exact ⟨rfl, rfl⟩
      · rename_i e; subst h2; rw [if_neg e]; exact ⟨rfl, rfl⟩
  have hold : ∀ x c0, F x = some c0 → x ∉ sub F id → ∃ c, remG F id x = some c ∧ c.up = c0.up ∧ c.kids = if x = b.up then cutK c0.kids id else c0.kids := fun x c0 h1 hn => by
    unfold remG
    rw [if_neg hn, h1, hup]
    refine ⟨_, rfl, ?_⟩
    split
    · exact ⟨rfl, rfl⟩
    · exact ⟨rfl, rfl⟩
  have hstep : ∀ x c0, F x = some c0 → x ≠ 0 → x ∉ sub F id → c0.up ∉ sub F id := fun x c0 h1 hx0 hn hm => hn (h.mem_sub.2 (Anc.step h1 hx0 (h.mem_sub.1 hm)))
  have hdown : ∀ x c0, F x = some c0 → x ∈ sub F id → x ≠ id → c0.up ∈ sub F id := fun x c0 h1 hm hne => by
    have ha := h.mem_sub.1 hm
    cases ha with
    | refl => exact absurd rfl hne
    | step hx _ ha => rw [h1] at hx; cases hx; exact h.mem_sub.2 ha
  refine ⟨?_, ?_, ?_, ?_, h.rank0, ?_, ?_, ?_⟩
  · obtain ⟨r, hr, hru⟩ := h.root
    have hn : (0 : Int) ∉ sub F id := fun hm => h0 (by
      have := h.anc_le (h.mem_sub.1 hm)
      have h2 := h.rank0
      by_cases e : id = 0
      · exact e
      · have := h.rank id b hid e; omega)
    obtain ⟨c, h1, h2, _⟩ := hold 0 r hr hn
    exact ⟨c, h1, h2.trans hru⟩
  · intro x c hx hx0
    obtain ⟨hn, c0, h1, h2, h3⟩ := hget x c hx
    obtain ⟨u, hu, hm⟩ := h.par x c0 h1 hx0
    obtain ⟨u', h4, _, h6⟩ := hold c0.up u hu (hstep x c0 h1 hx0 hn)
    refine ⟨u', by rw [h2]; exact h4, ?_⟩
    rw [h6]
    split
    · exact mem_cutK.2 ⟨hm, fun e => hn (e ▸ hself)⟩
    · exact hm
  · intro x c hx y hy
    obtain ⟨hn, c0, h1, h2, h3⟩ := hget x c hx
    have hy0 : y ∈ c0.kids ∧ (x = b.up → y ≠ id) := by
      rw [h3] at hy
      split at hy
      · exact ⟨(mem_cutK.1 hy).1, fun _ => (mem_cutK.1 hy).2⟩
      · exact ⟨hy, fun e => absurd e ‹_›⟩
    obtain ⟨h4, e, he, hee⟩ := h.kid x c0 h1 y hy0.1
    have hyn : y ∉ sub F id := fun hm => by
      by_cases e' : y = id
      · subst e'
        rw [hid] at he; cases he
        exact hy0.2 hee.symm rfl
      · have := hdown y e he hm e'
        rw [hee] at this
        exact hn this
    obtain ⟨c', h5, h6, _⟩ := hold y e he hyn
    exact ⟨h4, c', h5, h6.trans hee⟩
  · intro x c hx
    obtain ⟨_, c0, h1, _, h3⟩ := hget x c hx
    rw [h3]
    split
    · exact cutK_nodup (h.nodup x c0 h1)
    · exact h.nodup x c0 h1
  · intro x c hx hx0
    obtain ⟨_, c0, h1, h2, _⟩ := hget x c hx
    rw [h2]; exact h.rank x c0 h1 hx0
  · intro x c hx
    obtain ⟨_, c0, h1, _⟩ := hget x c hx
    exact h.deep x c0 h1
  · intro x c hx
    obtain ⟨_, c0, h1, _⟩ := hget x c hx
    exact h.range x c0 h1

/-! ### A box is moved -/
def movG (F : Forest S) (id up : Int) (k : Nat) : Forest S := fun x => (F x).map fun b =>
  ⟨if x = id then up else b.up, (if x = up then insAt (if x = upF F id then cutK b.kids id else b.kids) k id else if x = upF F id then cutK b.kids id else b.kids), b.sty⟩
open Classical in
noncomputable def movD (F : Forest S) (d : Int → Nat) (id up : Int) : Int → Nat := fun x => if x ∈ sub F id then d x - d id + d up + 1 else d x
theorem WF.mov (h : WF F d) {id up : Int} {bi bu : TBox S} (hid : F id = some bi) (h0 : id ≠ 0) (hup : F up = some bu) (hcy : up ∉ sub F id) (k : Nat) (hd : ∀ x ∈ sub F id, d x - d id + d up + 1 ≤ 63) :
    WF (movG F id up k) (movD F d id up) := by
  have hui : upF F id = bi.up := up_some hid
  have hself : id ∈ sub F id := h.mem_sub.2 (Anc.refl (has_some hid))
  have hne : up ≠ id := fun e => hcy (by rw [e]; exact hself)
  have hdle : ∀ x ∈ sub F id, d id ≤ d x := fun x hx => h.anc_le (h.mem_sub.1 hx)
  have h0n : (0 : Int) ∉ sub F id := fun hm => h0 (by
    have := hdle 0 hm
    have h2 := h.rank0
    by_cases e : id = 0
    · exact e
    · have := h.rank id bi hid e; omega)
  have hbn : bi.up ∉ sub F id := fun hm => by
    have := hdle _ hm
    have := h.rank id bi hid h0
    omega
  let K : Int → TBox S → List Int := fun x b => if x = up then insAt (if x = bi.up then cutK b.kids id else b.kids) k id else if x = bi.up then cutK b.kids id else b.kids
  have hat : ∀ x b, F x = some b → movG F id up k x = some ⟨if x = id then up else b.up, K x b, b.sty⟩ := fun x b hx => by
    simp only [movG, hx, Option.map_some, hui, K]
  have hget : ∀ x c, movG F id up k x = some c → ∃ b, F x = some b ∧ c = ⟨if x = id then up else b.up, K x b, b.sty⟩ := fun x c hx => by
    cases e : F x with
    | none => simp [movG, e] at hx
    | some b => rw [hat x b e] at hx; cases hx; exact ⟨b, rfl, rfl⟩
  have hpar : ∀ x b, F x = some b → id ∈ b.kids → x = bi.up := fun x b hx hm => by
    obtain ⟨_, c, hc, hcu⟩ := h.kid x b hx id hm
    rw [hid] at hc; cases hc; exact hcu.symm
  have hmem : ∀ x b, F x = some b → ∀ y, y ∈ K x b ↔ (y = id ∧ x = up) ∨ (y ≠ id ∧ y ∈ b.kids) := fun x b hx y => by
    have hc : ∀ y, (y ∈ if x = bi.up then cutK b.kids id else b.kids) ↔ (y ≠ id ∧ y ∈ b.kids) := fun y => by
      split
      · rw [mem_cutK]; exact And.comm
      · rename_i e
        refine ⟨fun hy => ⟨fun e' => e (hpar x b hx (e' ▸ hy)), hy⟩, fun hy => hy.2⟩
    show y ∈ (if x = up then insAt (if x = bi.up then cutK b.kids id else b.kids) k id else if x = bi.up then cutK b.kids id else b.kids) ↔ _
    by_cases e : x = up
    · rw [if_pos e, mem_insAt, hc]
      exact ⟨fun h => h.imp (fun h => ⟨h, e⟩) fun h => h, fun h => h.imp (fun h => h.1) fun h => h⟩
    · rw [if_neg e, hc]
      exact ⟨.inr, fun h => h.elim (fun h => absurd h.2 e) fun h => h⟩
  have hstep : ∀ x c0, F x = some c0 → x ≠ 0 → x ≠ id → (x ∈ sub F id ↔ c0.up ∈ sub F id) := fun x c0 h1 hx0 hne => by
    refine ⟨fun hm => ?_, fun hm => h.mem_sub.2 (Anc.step h1 hx0 (h.mem_sub.1 hm))⟩
    have ha := h.mem_sub.1 hm
    cases ha with
    | refl => exact absurd rfl hne
    | step hx _ ha => rw [h1] at hx; cases hx; exact h.mem_sub.2 ha
  refine ⟨?_, ?_, ?_, ?_, ?_, ?_, ?_, ?_⟩
  · obtain ⟨r, hr, hru⟩ := h.root
    exact ⟨_, hat 0 r hr, by simp only [if_neg (fun e => h0 (Eq.symm e))]; exact hru⟩
  · intro x c hx hx0
    obtain ⟨b, hb, rfl⟩ := hget x c hx
    by_cases e : x = id
    · subst e
      simp only [if_true]
      exact ⟨_, hat up bu hup, (hmem up bu hup x).2 (.inl ⟨rfl, rfl⟩)⟩
    · simp only [if_neg e]
      obtain ⟨u, hu, hm⟩ := h.par x b hb hx0
      exact ⟨_, hat b.up u hu, (hmem b.up u hu x).2 (.inr ⟨e, hm⟩)⟩
  · intro x c hx y hy
    obtain ⟨b, hb, rfl⟩ := hget x c hx
    rcases (hmem x b hb y).1 hy with ⟨rfl, rfl⟩ | ⟨hyi, hyk⟩
    · exact ⟨h0, _, hat y bi hid, by simp⟩
    · obtain ⟨h4, e, he, hee⟩ := h.kid x b hb y hyk
      exact ⟨h4, _, hat y e he, by simp only [if_neg hyi]; exact hee⟩
  · intro x c hx
    obtain ⟨b, hb, rfl⟩ := hget x c hx
    have hn := h.nodup x b hb
    have hc : (if x = bi.up then cutK b.kids id else b.kids).Nodup ∧ id ∉ (if x = bi.up then cutK b.kids id else b.kids) := by
      split
      · exact ⟨cutK_nodup hn, fun hm => (mem_cutK.1 hm).2 rfl⟩
      · rename_i e; exact ⟨hn, fun hm => e (hpar x b hb hm)⟩
    show (if x = up then insAt (if x = bi.up then cutK b.kids id else b.kids) k id else if x = bi.up then cutK b.kids id else b.kids).Nodup
    by_cases e : x = up
    · rw [if_pos e]; exact insAt_nodup hc.1 hc.2
    · rw [if_neg e]; exact hc.1
  · simp only [movD, if_neg h0n]; exact h.rank0
  · intro x c hx hx0
    obtain ⟨b, hb, rfl⟩ := hget x c hx
    by_cases e : x = id
    · subst e
      simp only [if_true, movD, if_pos hself, if_neg hcy]
      omega
    · simp only [if_neg e, movD]
      have hr := h.rank x b hb hx0
      by_cases hm : x ∈ sub F id
      · have hm' := (hstep x b hb hx0 e).1 hm
        rw [if_pos hm, if_pos hm']
        have := hdle _ hm'
        omega
      · rw [if_neg hm, if_neg (fun hm' => hm ((hstep x b hb hx0 e).2 hm'))]
        exact hr
  · intro x c hx
    obtain ⟨b, hb, rfl⟩ := hget x c hx
    unfold movD
    split
    · exact hd x ‹_›
    · exact h.deep x b hb
  · intro x c hx
    obtain ⟨b, hb, rfl⟩ := hget x c hx
    exact h.range x b hb

/-! ### A box has a style -/
def setG (F : Forest S) (id : Int) (s : S) : Forest S := fun x => if x = id then (F id).map fun b => { b with sty := s } else F x
theorem set_at (F : Forest S) (id : Int) (s : S) (x : Int) : (setG F id s x).map (fun b => (b.up, b.kids)) = (F x).map fun b => (b.up, b.kids) := by
  unfold setG
  split
  · rename_i e; subst e; cases F x <;> rfl
  · rfl
theorem WF.like (h : WF F d) {G : Forest S} (hG : ∀ x, (G x).map (fun b => (b.up, b.kids)) = (F x).map fun b => (b.up, b.kids)) : WF G d := by
  have hget : ∀ x c, G x = some c → ∃ b, F x = some b ∧ c.up = b.up ∧ c.kids = b.kids := fun x c hx => by
    have := hG x
    rw [hx] at this
    obtain ⟨b, hb, he⟩ := Option.map_eq_some_iff.1 this.symm
    simp only [Prod.mk.injEq] at he
    exact ⟨b, hb, he.1.symm, he.2.symm⟩
  have hold : ∀ x b, F x = some b → ∃ c, G x = some c ∧ c.up = b.up ∧ c.kids = b.kids := fun x b hx => by
    have := hG x
    rw [hx] at this
    obtain ⟨c, hc, he⟩ := Option.map_eq_some_iff.1 this
    simp only [Prod.mk.injEq] at he
    exact ⟨c, hc, he.1, he.2⟩
  refine ⟨?_, ?_, ?_, ?_, h.rank0, ?_, ?_, ?_⟩
  · obtain ⟨r, hr, hru⟩ := h.root
    obtain ⟨c, hc, e, _⟩ := hold 0 r hr
    exact ⟨c, hc, e.trans hru⟩
  · intro x c hx hx0
    obtain ⟨b, hb, e1, e2⟩ := hget x c hx
    obtain ⟨u, hu, hm⟩ := h.par x b hb hx0
    obtain ⟨u', hu', _, e4⟩ := hold _ u hu
    exact ⟨u', by rw [e1]; exact hu', by rw [e4]; exact hm⟩
  · intro x c hx y hy
    obtain ⟨b, hb, e1, e2⟩ := hget x c hx
    obtain ⟨h1, e, he, hee⟩ := h.kid x b hb y (by rw [← e2]; exact hy)
    obtain ⟨e', he', h3, _⟩ := hold y e he
    exact ⟨h1, e', he', h3.trans hee⟩
  · intro x c hx
    obtain ⟨b, hb, e1, e2⟩ := hget x c hx
    rw [e2]; exact h.nodup x b hb
  · intro x c hx hx0
    obtain ⟨b, hb, e1, e2⟩ := hget x c hx
    rw [e1]; exact h.rank x b hb hx0
  · intro x c hx
    obtain ⟨b, hb, e1, e2⟩ := hget x c hx
    exact h.deep x b hb
  · intro x c hx
    obtain ⟨b, hb, e1, e2⟩ := hget x c hx
    exact h.range x b hb
theorem WF.set (h : WF F d) (id : Int) (s : S) : WF (setG F id s) d := h.like (set_at F id s)
theorem inside_like {G : Forest S} (hG : ∀ x, (G x).map (fun b => (b.up, b.kids)) = (F x).map fun b => (b.up, b.kids)) : ∀ (n : Nat) (x : Int), insideF G n x = insideF F n x := by
  intro n
  induction n with
  | zero => intro x; rfl
  | succ n ih =>
    intro x
    have hx := hG x
    cases e : F x with
    | none =>
      rw [e] at hx
      have e' : G x = none := by cases h : G x <;> simp [h] at hx; rfl
      rw [inside_none _ e, inside_none _ e']
    | some b =>
      rw [e] at hx
      obtain ⟨c, hc, he⟩ := Option.map_eq_some_iff.1 hx
      simp only [Prod.mk.injEq] at he
      rw [inside_some n e, inside_some n hc, he.2]
      congr 1
      exact flatMap_congr' fun k _ => ih k
theorem set_order (F : Forest S) (id : Int) (s : S) : order (setG F id s) = order F := inside_like (set_at F id s) 64 0
end
end Go.Proofs.Ytmjdmlgdffoimaa
