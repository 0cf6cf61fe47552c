/- More of forests: an order, what goes, what is moved and moved back: plain laws. -/
import Derived.Test.YtmjdmlgdffoimaaTreeAct
namespace Go.Proofs.Ytmjdmlgdffoimaa

section
variable {S : Type} {F : Forest S} {d : Int → Nat}
/-! ### The order -/
theorem flat_before (g : Int → List Int) (x : Int) (P : Int → Int) : ∀ (ks : List Int), (∀ c ∈ ks, P c = x) → (∀ c ∈ ks, ∀ i y, (g c)[i]? = some y → y ≠ c → P y ∈ (g c).take i) → ∀ j y, (ks.flatMap g)[j]? = some y → P y = x ∨ P y ∈ (ks.flatMap g).take j
  | [], _, _, j, y, h => by simp at h
  | c :: ks, hp, hg, j, y, h => by
    rw [List.flatMap_cons] at h ⊢
    by_cases hj : j < (g c).length
    · rw [List.getElem?_append_left hj] at h
      by_cases hy : y = c
      · left; rw [hy]; exact hp c (by simp)
      · right
        have h1 := hg c (by simp) j y h hy
        rw [List.take_append_of_le_length (by omega)]
        exact h1
    · rw [List.getElem?_append_right (by omega)] at h
      rcases flat_before g x P ks (fun c hc => hp c (by simp [hc])) (fun c hc => hg c (by simp [hc])) _ y h with h1 | h1
      · exact .inl h1
      · right
        rw [List.take_append, List.mem_append]
        exact .inr h1
theorem WF.inside_before (h : WF F d) : ∀ (n : Nat) (x : Int) (i : Nat) (y : Int), (insideF F n x)[i]? = some y → y ≠ x → upF F y ∈ (insideF F n x).take i
  | 0, x, i, y, hi, _ => by simp [insideF] at hi
  | n + 1, x, i, y, hi, hy => by
    cases hx : F x with
    | none => rw [inside_none (n + 1) hx] at hi; simp at hi
    | some b =>
      rw [inside_some n hx] at hi ⊢
      cases i with
      | zero => simp at hi; exact absurd hi.symm hy
      | succ j =>
        rw [List.getElem?_cons_succ] at hi
        rw [List.take_succ_cons]
        rcases flat_before (insideF F n) x (upF F) b.kids (fun c hc => by obtain ⟨_, e, he, hu⟩ := h.kid x b hx c hc; rw [up_some he]; exact hu) (fun c _ i y => h.inside_before n c i y) j y hi with h1 | h1
        · rw [h1]; simp
        · exact List.mem_cons_of_mem _ h1
theorem WF.before (h : WF F d) {i : Nat} {y : Int} (hi : (order F)[i]? = some y) (h0 : y ≠ 0) : upF F y ∈ (order F).take i := h.inside_before 64 0 i y hi h0
theorem WF.order_head (h : WF F d) : (order F)[0]? = some 0 := by
  obtain ⟨b, hb, _⟩ := h.root
  unfold order
  rw [h.sub_eq hb]; rfl
theorem WF.up_has (h : WF F d) {y : Int} (hy : hasF F y = true) (h0 : y ≠ 0) : hasF F (upF F y) = true ∧ y ∈ kidsF F (upF F y) ∧ (kidsF F (upF F y)).Nodup ∧ d y = d (upF F y) + 1 := by
  obtain ⟨b, hb⟩ := some_has hy
  obtain ⟨u, hu, hm⟩ := h.par y b hb h0
  rw [up_some hb, kids_some hu]
  exact ⟨has_some hu, hm, h.nodup _ u hu, h.rank y b hb h0⟩
theorem WF.up_depth (h : WF F d) {y : Int} (hy : hasF F y = true) (h0 : y ≠ 0) : depthF F y = depthF F (upF F y) + 1 ∧ depthF F y ≤ 63 := by
  obtain ⟨h1, _, _, h2⟩ := h.up_has hy h0
  obtain ⟨b, hb⟩ := some_has hy
  have := h.deep y b hb
  rw [h.depth hy, h.depth h1, h2]
  omega
theorem count_one : ∀ {l : List Int} {x : Int}, l.Nodup → x ∈ l → l.count x = 1
  | [], _, _, h => by cases h
  | a :: l, x, hn, h => by
    rw [List.nodup_cons] at hn
    by_cases ha : a = x
    · subst ha
      rw [List.count_cons_self, List.count_eq_zero.2 hn.1]
    · rw [List.count_cons_of_ne ha]
      exact count_one hn.2 (by rcases List.mem_cons.1 h with rfl | h; exact absurd rfl ha; exact h)
/-! ### What goes -/
theorem WF.len_rem (h : WF F d) {id : Int} (hG : WF (remG F id) d) : lenF (remG F id) + (sub F id).length = lenF F := by
  have hh : ∀ x, hasF (remG F id) x = true ↔ hasF F x = true ∧ x ∉ sub F id := fun x => by
    unfold hasF remG
    by_cases hx : x ∈ sub F id
    · simp [hx]
    · simp [hx]
  have h1 := nodup_len (l := order (remG F id) ++ sub F id) (m := order F) (by
    rw [List.nodup_append]
    refine ⟨hG.order_nodup, h.sub_nodup id, fun a ha b hb e => ?_⟩
    subst e
    exact ((hh a).1 (hG.mem_order.1 ha)).2 hb) (fun x hx => by
    rcases List.mem_append.1 hx with hx | hx
    · exact h.mem_order.2 ((hh x).1 (hG.mem_order.1 hx)).1
    · exact h.mem_order.2 (sub_has hx))
  have h2 := nodup_len (l := order F) (m := order (remG F id) ++ sub F id) h.order_nodup (fun x hx => by
    by_cases hs : x ∈ sub F id
    · exact List.mem_append_right _ hs
    · exact List.mem_append_left _ (hG.mem_order.2 ((hh x).2 ⟨h.mem_order.1 hx, hs⟩)))
  rw [List.length_append] at h1 h2
  unfold lenF; omega
theorem remR_ne {id : Int} (h : (remR F id).2.2 ≠ 0) : (remR F id).1 = F ∧ (remR F id).2.1 = 0 := by
  unfold remR at h ⊢
  repeat' split
  all_goals first | exact ⟨rfl, rfl⟩ | (exfalso; simp_all; done)
theorem remR_eq {id : Int} (h : (remR F id).2.2 = 0) : hasF F id = true ∧ id ≠ 0 ∧ remR F id = (remG F id, ((sub F id).length : Int), 0) := by
  unfold remR at h ⊢
  split at h
  · cases h
  · rename_i h1
    split at h
    · cases h
    · rename_i h2
      exact ⟨by simpa using h1, h2, by rw [if_neg h1, if_neg h2]⟩
/-! ### Moved, and moved back -/
theorem movR_ne {id up at_ : Int} (h : (movR F id up at_).2 ≠ 0) : (movR F id up at_).1 = F := by
  unfold movR at h ⊢
  repeat' split
  all_goals first | rfl | (exfalso; simp_all; done)
theorem movR_eq {id up at_ : Int} (h : (movR F id up at_).2 = 0) : hasF F id = true ∧ hasF F up = true ∧ id ≠ 0 ∧ up ∉ sub F id ∧ 0 ≤ at_ ∧ at_ ≤ mostF F id up ∧ ¬ (64 ≤ depthF F up + 1 + deepF F id - depthF F id) ∧ movR F id up at_ = (movG F id up at_.toNat, 0) := by
  unfold movR at h ⊢
  split at h
  · cases h
  · rename_i h1
    split at h
    · cases h
    · rename_i h2
      split at h
      · cases h
      · rename_i h3
        split at h
        · cases h
        · rename_i h4
          split at h
          · cases h
          · rename_i h5
            rw [if_neg h1, if_neg h2, if_neg h3, if_neg h4, if_neg h5]
            simp only [not_or, Bool.not_eq_false] at h1
            exact ⟨h1.1, h1.2, h2, h3, by omega, by omega, h5, rfl⟩
theorem mov_anc {id up : Int} {k : Nat} {y : Int} (hid : hasF F id = true) (h : Anc (movG F id up k) id y) : Anc F id y := by
  induction h with
  | refl _ => exact Anc.refl hid
  | step hx h0 _ ih =>
    rename_i x b _
    unfold movG at hx
    obtain ⟨c, hc, rfl⟩ := Option.map_eq_some_iff.1 hx
    by_cases hxi : x = id
    · rw [hxi]; exact Anc.refl hid
    · simp only [if_neg hxi] at ih
      exact Anc.step hc h0 ih
theorem mov_up {id up : Int} {k : Nat} (hid : hasF F id = true) : upF (movG F id up k) id = up := by
  obtain ⟨b, hb⟩ := some_has hid
  simp [upF, movG, hb]
theorem mov_has (id up : Int) (k : Nat) (x : Int) : hasF (movG F id up k) x = hasF F x := by simp [hasF, movG]
theorem mov_kids {id up : Int} {k : Nat} {x : Int} {b : TBox S} (hx : F x = some b) : kidsF (movG F id up k) x = if x = up then insAt (if x = upF F id then cutK b.kids id else b.kids) k id else if x = upF F id then cutK b.kids id else b.kids := by
  simp [kidsF, movG, hx]
theorem WF.not_kid (h : WF F d) {id y : Int} {b : TBox S} (hy : F y = some b) (hne : y ≠ upF F id) : id ∉ b.kids := fun hm => by
  obtain ⟨_, c, hc, hu⟩ := h.kid y b hy id hm
  rw [up_some hc] at hne
  exact hne hu.symm
theorem not_cutK (l : List Int) (x : Int) : x ∉ cutK l x := fun h => (mem_cutK.1 h).2 rfl
theorem WF.mov_most (h : WF F d) {id up : Int} (hid : hasF F id = true) (h0 : id ≠ 0) (hup : hasF F up = true) {k : Nat} (hk : (k : Int) ≤ mostF F id up) : ((kidsF (movG F id up k) up).length : Int) = mostF F id up + 1 ∧ (kidsF (movG F id up k) up)[k]? = some id := by
  obtain ⟨b, hb⟩ := some_has hup
  have hL : (((if up = upF F id then cutK b.kids id else b.kids) : List Int).length : Int) = mostF F id up := by
    unfold mostF
    rw [kids_some hb]
    by_cases e : up = upF F id
    · obtain ⟨h1, h2, h3, _⟩ := h.up_has hid h0
      rw [if_pos e, if_pos e.symm]
      rw [← e, kids_some hb] at h2 h3
      have := cutK_len h3 h2
      omega
    · rw [if_neg e, if_neg (fun x => e x.symm)]; omega
  rw [mov_kids hb, if_pos rfl]
  generalize (if up = upF F id then cutK b.kids id else b.kids : List Int) = L at hL
  refine ⟨by rw [insAt_len (by omega)]; push_cast; omega, ?_⟩
  unfold insAt
  have h1 : (L.take k).length = k := by rw [List.length_take]; omega
  rw [List.getElem?_append_right (by omega), h1, Nat.sub_self]; rfl
theorem WF.mov_len (h : WF F d) {id up : Int} {k : Nat} {d' : Int → Nat} (hG : WF (movG F id up k) d') : lenF (movG F id up k) = lenF F := by
  have h1 := nodup_len (l := order (movG F id up k)) (m := order F) hG.order_nodup (fun x hx => h.mem_order.2 (by rw [← mov_has id up k]; exact hG.mem_order.1 hx))
  have h2 := nodup_len (l := order F) (m := order (movG F id up k)) h.order_nodup (fun x hx => hG.mem_order.2 (by rw [mov_has]; exact h.mem_order.1 hx))
  unfold lenF; omega
theorem WF.mov_back (h : WF F d) {id up : Int} (hid : hasF F id = true) (h0 : id ≠ 0) {k i : Nat} (hi : (kidsF F (upF F id))[i]? = some id) : movG (movG F id up k) id (upF F id) i = F := by
  obtain ⟨bi, hbi⟩ := some_has hid
  funext y
  show (movG F id up k y).map _ = F y
  rw [mov_up hid]
  cases hy : F y with
  | none => simp [movG, hy]
  | some b =>
    have hK : ∀ L : List Int, id ∉ L → cutK (insAt L k id) id = L := fun L hL => cut_insAt hL
    have hfrom : y = upF F id → insAt (cutK b.kids id) i id = b.kids := fun e => by
      rw [← e, kids_some hy] at hi
      exact insAt_cut (h.nodup y b hy) hi
    have hnot : y ≠ upF F id → id ∉ b.kids := fun e => h.not_kid hy e
    have hup : y = id → upF F id = b.up := fun e => by rw [← e, up_some hy]
    rcases b with ⟨bu, bk, bs⟩
    simp only at hfrom hnot hup
    simp only [movG, hy, Option.map_some, Option.some.injEq, TBox.mk.injEq, and_true]
    refine ⟨?_, ?_⟩
    · by_cases e3 : y = id
      · rw [if_pos e3]; exact hup e3
      · rw [if_neg e3, if_neg e3]
    · by_cases e2 : y = upF F id
      · rw [if_pos e2, if_pos e2]
        by_cases e1 : y = up
        · rw [if_pos e1, if_pos e1, hK _ (not_cutK bk id)]; exact hfrom e2
        · rw [if_neg e1, if_neg e1]; exact hfrom e2
      · rw [if_neg e2, if_neg e2]
        by_cases e1 : y = up
        · rw [if_pos e1, if_pos e1, hK _ (hnot e2)]
        · rw [if_neg e1, if_neg e1]
/-- The way back is open. -/
theorem WF.mov_backR (h : WF F d) {id up : Int} {k i : Nat} (hid : hasF F id = true) (h0 : id ≠ 0) (hup : hasF F up = true) (hcy : up ∉ sub F id) (hd : ¬ (64 ≤ depthF F up + 1 + deepF F id - depthF F id)) (hk : (k : Int) ≤ mostF F id up) (hi : (kidsF F (upF F id))[i]? = some id) :
    Go.Proofs.Ytmjdmlgdffoimaa.movR (movG F id up k) id (upF F id) i = (F, 0) := by
  obtain ⟨bi, hbi⟩ := some_has hid
  obtain ⟨bu, hbu⟩ := some_has hup
  have hd1 := (h.deep_iff hid hup).1 hd
  have hG := h.mov hbi h0 hbu hcy k hd1
  obtain ⟨hf, hfm, hfn, hfd⟩ := h.up_has hid h0
  obtain ⟨bf, hbf⟩ := some_has hf
  have hnf : upF F id ∉ sub F id := fun hm => by
    have := h.anc_le (h.mem_sub.1 hm)
    omega
  have hself : id ∈ sub F id := h.mem_sub.2 (Anc.refl hid)
  have hlen := (List.getElem?_eq_some_iff.1 hi).1
  have hG1 : hasF (movG F id up k) id = true := by rw [mov_has]; exact hid
  have hG2 : hasF (movG F id up k) (upF F id) = true := by rw [mov_has]; exact hf
  have hmost : (i : Int) ≤ mostF (movG F id up k) id (upF F id) := by
    unfold mostF
    rw [mov_up hid, mov_kids hbf, if_pos rfl]
    rw [kids_some hbf] at hlen hfm hfn
    have hc := cutK_len hfn hfm
    by_cases e : upF F id = up
    · rw [if_pos e, if_pos e.symm, insAt_len]
      · push_cast; omega
      · unfold mostF at hk
        rw [if_pos e, ← e, kids_some hbf] at hk
        omega
    · rw [if_neg e, if_neg (fun x => e x.symm)]; omega
  have hsub : ∀ x ∈ sub (movG F id up k) id, x ∈ sub F id := fun x hx => h.mem_sub.2 (mov_anc hid (hG.mem_sub.1 hx))
  have hdeep : ¬ (64 ≤ depthF (movG F id up k) (upF F id) + 1 + deepF (movG F id up k) id - depthF (movG F id up k) id) := by
    refine (hG.deep_iff hG1 hG2).2 fun x hx => ?_
    have hx1 := hsub x hx
    have hx2 := h.anc_le (h.mem_sub.1 hx1)
    obtain ⟨bx, hbx⟩ := some_has (sub_has hx1)
    have hx3 := h.deep x bx hbx
    unfold movD
    rw [if_pos hx1, if_pos hself, if_neg hnf]
    omega
  unfold Go.Proofs.Ytmjdmlgdffoimaa.movR
  rw [if_neg (by simp [hG1, hG2]), if_neg h0, if_neg (fun hm => hnf (hsub _ hm)), if_neg (by omega), if_neg hdeep, Int.toNat_natCast, h.mov_back hid h0 hi]
end
end Go.Proofs.Ytmjdmlgdffoimaa
