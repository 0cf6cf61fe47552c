/- Boxes one in the other: plain laws of forests, with no program in sight. -/
import Derived.Test.YtmjdmlgdffoimaaBase
namespace Go.Proofs.Ytmjdmlgdffoimaa

structure TBox (S : Type) where
  up : Int
  kids : List Int
  sty : S
abbrev Forest (S : Type) := Int → Option (TBox S)

section
variable {S : Type} {F : Forest S} {d : Int → Nat}
def updF (F : Forest S) (id : Int) (b : Option (TBox S)) : Forest S := fun x => if x = id then b else F x
def hasF (F : Forest S) (id : Int) : Bool := (F id).isSome
def upF (F : Forest S) (id : Int) : Int := match F id with | some b => b.up | none => -1
def kidsF (F : Forest S) (id : Int) : List Int := match F id with | some b => b.kids | none => []
def styF (z : S) (F : Forest S) (id : Int) : S := match F id with | some b => b.sty | none => z
structure WF (F : Forest S) (d : Int → Nat) : Prop where
  root : ∃ b, F 0 = some b ∧ b.up = -1
  par : ∀ x b, F x = some b → x ≠ 0 → ∃ u, F b.up = some u ∧ x ∈ u.kids
  kid : ∀ x b, F x = some b → ∀ k ∈ b.kids, k ≠ 0 ∧ ∃ c, F k = some c ∧ c.up = x
  nodup : ∀ x b, F x = some b → b.kids.Nodup
  rank0 : d 0 = 0
  rank : ∀ x b, F x = some b → x ≠ 0 → d x = d b.up + 1
  deep : ∀ x b, F x = some b → d x ≤ 63
  range : ∀ x b, F x = some b → 0 ≤ x ∧ x < 4096

def insideF (F : Forest S) : Nat → Int → List Int
  | 0, _ => []
  | n + 1, x => if hasF F x then x :: (kidsF F x).flatMap (insideF F n) else []
def sub (F : Forest S) (x : Int) : List Int := insideF F 64 x
def chainF (F : Forest S) : Nat → Int → Nat
  | 0, _ => 0
  | n + 1, x => if hasF F x then chainF F n (upF F x) + 1 else 0
def depthF (F : Forest S) (x : Int) : Int := (chainF F 64 x : Int) - 1
inductive Anc (F : Forest S) (a : Int) : Int → Prop
  | refl : hasF F a = true → Anc F a a
  | step {x : Int} {b : TBox S} : F x = some b → x ≠ 0 → Anc F a b.up → Anc F a x

theorem has_some {x : Int} {b : TBox S} (h : F x = some b) : hasF F x = true := by simp [hasF, h]
theorem some_has {x : Int} (h : hasF F x = true) : ∃ b, F x = some b := Option.isSome_iff_exists.1 h
theorem has_none {x : Int} (h : F x = none) : hasF F x = false := by simp [hasF, h]
theorem none_has {x : Int} (h : hasF F x = false) : F x = none := by simpa [hasF] using h
theorem kids_some {x : Int} {b : TBox S} (h : F x = some b) : kidsF F x = b.kids := by simp [kidsF, h]
theorem up_some {x : Int} {b : TBox S} (h : F x = some b) : upF F x = b.up := by simp [upF, h]

theorem WF.neg (h : WF F d) {x : Int} (hx : x < 0) : F x = none := by
  cases e : F x with
  | none => rfl
  | some b => have := (h.range x b e).1; omega
theorem WF.kid_rank (h : WF F d) {x : Int} {b : TBox S} (hx : F x = some b) {k : Int} (hk : k ∈ b.kids) : d k = d x + 1 := by
  obtain ⟨h0, c, hc, hu⟩ := h.kid x b hx k hk
  rw [h.rank k c hc h0, hu]
theorem inside_some (n : Nat) {x : Int} {b : TBox S} (hx : F x = some b) : insideF F (n + 1) x = x :: b.kids.flatMap (insideF F n) := by
  rw [insideF, if_pos (has_some hx), kids_some hx]
theorem inside_none (n : Nat) {x : Int} (hx : F x = none) : insideF F n x = [] := by
  cases n with
  | zero => rfl
  | succ n => rw [insideF, if_neg (by simp [has_none hx])]
theorem flatMap_congr' {α β : Type} {f g : α → List β} : ∀ {l : List α}, (∀ x ∈ l, f x = g x) → l.flatMap f = l.flatMap g
  | [], _ => rfl
  | x :: l, h => by rw [List.flatMap_cons, List.flatMap_cons, h x (by simp), flatMap_congr' fun y hy => h y (by simp [hy])]
theorem WF.inside_fuel (h : WF F d) : ∀ (n m : Nat) (x : Int), 64 ≤ n + d x → 64 ≤ m + d x → insideF F n x = insideF F m x := by
  intro n
  induction n with
  | zero =>
    intro m x hn hm
    cases e : F x with
    | none => rw [inside_none _ e, inside_none _ e]
    | some b => have := h.deep x b e; omega
  | succ n ih =>
    intro m x hn hm
    cases e : F x with
    | none => rw [inside_none _ e, inside_none _ e]
    | some b =>
      have := h.deep x b e
      cases m with
      | zero => omega
      | succ m =>
        rw [inside_some n e, inside_some m e]
        congr 1
        refine flatMap_congr' fun k hk => ?_
        have := h.kid_rank e hk
        exact ih m k (by omega) (by omega)
theorem WF.sub_eq (h : WF F d) {x : Int} {b : TBox S} (hx : F x = some b) : sub F x = x :: b.kids.flatMap (sub F) := by
  unfold sub
  rw [inside_some 63 hx]
  congr 1
  refine flatMap_congr' fun k hk => ?_
  have := h.kid_rank hx hk
  exact h.inside_fuel 63 64 k (by omega) (by omega)
theorem sub_none {x : Int} (hx : F x = none) : sub F x = [] := inside_none 64 hx
theorem inside_has : ∀ (n : Nat) (x y : Int), y ∈ insideF F n x → hasF F y = true := by
  intro n
  induction n with
  | zero => intro x y h; simp [insideF] at h
  | succ n ih =>
    intro x y h
    rw [insideF] at h
    split at h
    · rename_i hx
      rcases List.mem_cons.1 h with rfl | h
      · exact hx
      · obtain ⟨k, _, hk⟩ := List.mem_flatMap.1 h
        exact ih k y hk
    · simp at h
theorem sub_has {x y : Int} (h : y ∈ sub F x) : hasF F y = true := inside_has 64 x y h
theorem Anc.has {a x : Int} (h : Anc F a x) : hasF F a = true ∧ hasF F x = true := by
  induction h with
  | refl h => exact ⟨h, h⟩
  | step hx _ _ ih => exact ⟨ih.1, has_some hx⟩
theorem WF.anc_le (h : WF F d) {a x : Int} (ha : Anc F a x) : d a ≤ d x := by
  induction ha with
  | refl _ => exact Nat.le_refl _
  | step hx h0 _ ih => rw [h.rank _ _ hx h0]; omega
theorem WF.anc_uniq (h : WF F d) {a b x : Int} (ha : Anc F a x) (hb : Anc F b x) (e : d a = d b) : a = b := by
  induction ha with
  | refl hx =>
    cases hb with
    | refl => rfl
    | step hx' h0 hb' =>
      have h1 := h.anc_le hb'
      have h2 := h.rank _ _ hx' h0
      omega
  | @step x c hx h0 ha' ih =>
    cases hb with
    | refl =>
      have h1 := h.anc_le ha'
      have h2 := h.rank _ _ hx h0
      omega
    | step hx' h0' hb' =>
      rw [hx] at hx'
      cases hx'
      exact ih hb'
theorem Anc.trans {a b x : Int} (h1 : Anc F a b) (h2 : Anc F b x) : Anc F a x := by
  induction h2 with
  | refl => exact h1
  | step hx h0 _ ih => exact Anc.step hx h0 ih
theorem WF.anc_kid (h : WF F d) {x k : Int} {b : TBox S} (hx : F x = some b) (hk : k ∈ b.kids) : Anc F x k := by
  obtain ⟨h0, c, hc, hu⟩ := h.kid x b hx k hk
  refine Anc.step hc h0 ?_
  rw [hu]
  exact Anc.refl (has_some hx)
theorem WF.anc_antisymm (h : WF F d) {a x : Int} (h1 : Anc F a x) (h2 : Anc F x a) : a = x :=
  h.anc_uniq h1 (Anc.refl h1.has.2) (Nat.le_antisymm (h.anc_le h1) (h.anc_le h2))
theorem WF.inside_anc (h : WF F d) : ∀ (n : Nat) (x y : Int), y ∈ insideF F n x → Anc F x y := by
  intro n
  induction n with
  | zero => intro x y hy; simp [insideF] at hy
  | succ n ih =>
    intro x y hy
    cases e : F x with
    | none => rw [inside_none _ e] at hy; simp at hy
    | some b =>
      rw [inside_some n e] at hy
      rcases List.mem_cons.1 hy with rfl | hy
      · exact Anc.refl (has_some e)
      · obtain ⟨k, hk, hy⟩ := List.mem_flatMap.1 hy
        exact (h.anc_kid e hk).trans (ih k y hy)
theorem WF.anc_down (h : WF F d) {a y : Int} (ha : Anc F a y) {b : TBox S} (hb : F a = some b) : y = a ∨ ∃ k ∈ b.kids, Anc F k y := by
  induction ha with
  | refl => exact .inl rfl
  | @step x c hx h0 ha' ih =>
    rcases ih with e | ⟨k, hk, hky⟩
    · obtain ⟨u, hu, hmem⟩ := h.par x c hx h0
      rw [e, hb] at hu
      cases hu
      exact .inr ⟨x, hmem, Anc.refl (has_some hx)⟩
    · exact .inr ⟨k, hk, Anc.step hx h0 hky⟩
theorem WF.mem_sub (h : WF F d) {x y : Int} : y ∈ sub F x ↔ Anc F x y := by
  refine ⟨h.inside_anc 64 x y, fun ha => ?_⟩
  have key : ∀ (n : Nat) (x : Int), 64 ≤ n + d x → Anc F x y → y ∈ sub F x := by
    intro n
    induction n with
    | zero =>
      intro x hn ha
      obtain ⟨b, hb⟩ := some_has ha.has.1
      have := h.deep x b hb
      omega
    | succ n ih =>
      intro x hn ha
      obtain ⟨b, hb⟩ := some_has ha.has.1
      rw [h.sub_eq hb]
      rcases h.anc_down ha hb with rfl | ⟨k, hk, hky⟩
      · simp
      · refine List.mem_cons_of_mem _ (List.mem_flatMap.2 ⟨k, hk, ih k ?_ hky⟩)
        have := h.kid_rank hb hk
        omega
  exact key 64 x (by omega) ha
theorem nodup_flatMap {α β : Type} {f : α → List β} : ∀ {l : List α}, l.Nodup → (∀ x ∈ l, (f x).Nodup) → (∀ x ∈ l, ∀ y ∈ l, x ≠ y → ∀ z ∈ f x, z ∉ f y) → (l.flatMap f).Nodup
  | [], _, _, _ => by simp
  | x :: l, hn, h1, h2 => by
    rw [List.nodup_cons] at hn
    rw [List.flatMap_cons, List.nodup_append]
    refine ⟨h1 x (by simp), nodup_flatMap hn.2 (fun y hy => h1 y (by simp [hy])) fun y hy z hz => h2 y (by simp [hy]) z (by simp [hz]), fun a ha b hb e => ?_⟩
    obtain ⟨y, hy, hby⟩ := List.mem_flatMap.1 hb
    subst e
    exact h2 x (by simp) y (by simp [hy]) (fun e => hn.1 (by rw [e]; exact hy)) a ha hby
theorem WF.sub_nodup (h : WF F d) (x : Int) : (sub F x).Nodup := by
  have key : ∀ (n : Nat) (x : Int), 64 ≤ n + d x → (sub F x).Nodup := by
    intro n
    induction n with
    | zero =>
      intro x hn
      cases e : F x with
      | none => rw [sub_none e]; exact List.nodup_nil
      | some b => have := h.deep x b e; omega
    | succ n ih =>
      intro x hn
      cases e : F x with
      | none => rw [sub_none e]; exact List.nodup_nil
      | some b =>
        rw [h.sub_eq e, List.nodup_cons]
        refine ⟨fun hm => ?_, nodup_flatMap (h.nodup x b e) (fun k hk => ?_) fun k hk l hl hne z hz hz' => ?_⟩
        · obtain ⟨k, hk, hx⟩ := List.mem_flatMap.1 hm
          have h1 := h.anc_le (h.mem_sub.1 hx)
          have h2 := h.kid_rank e hk
          omega
        · have := h.kid_rank e hk
          exact ih k (by omega)
        · exact hne (h.anc_uniq (h.mem_sub.1 hz) (h.mem_sub.1 hz') (by rw [h.kid_rank e hk, h.kid_rank e hl]))
  exact key 64 x (by omega)
theorem WF.anc_root (h : WF F d) {x : Int} (hx : hasF F x = true) : Anc F 0 x := by
  have key : ∀ (n : Nat) (x : Int), d x ≤ n → hasF F x = true → Anc F 0 x := by
    intro n
    induction n with
    | zero =>
      intro x hn hx
      obtain ⟨b, hb⟩ := some_has hx
      by_cases h0 : x = 0
      · subst h0; exact Anc.refl hx
      · have := h.rank x b hb h0; omega
    | succ n ih =>
      intro x hn hx
      obtain ⟨b, hb⟩ := some_has hx
      by_cases h0 : x = 0
      · subst h0; exact Anc.refl hx
      · obtain ⟨u, hu, _⟩ := h.par x b hb h0
        have := h.rank x b hb h0
        exact Anc.step hb h0 (ih b.up (by omega) (has_some hu))
  exact key (d x) x (Nat.le_refl _) hx
/-- All boxes, in their order. -/
def order (F : Forest S) : List Int := sub F 0
theorem WF.mem_order (h : WF F d) {x : Int} : x ∈ order F ↔ hasF F x = true := ⟨sub_has, fun hx => h.mem_sub.2 (h.anc_root hx)⟩
theorem WF.order_nodup (h : WF F d) : (order F).Nodup := h.sub_nodup 0
theorem WF.chain (h : WF F d) : ∀ (n : Nat) (x : Int), hasF F x = true → d x < n → chainF F n x = d x + 1 := by
  intro n
  induction n with
  | zero => intro x _ hn; omega
  | succ n ih =>
    intro x hx hn
    obtain ⟨b, hb⟩ := some_has hx
    rw [chainF, if_pos hx, up_some hb]
    by_cases h0 : x = 0
    · subst h0
      obtain ⟨b', hb', hu⟩ := h.root
      rw [hb] at hb'
      cases hb'
      rw [hu, h.rank0]
      cases n with
      | zero => rfl
      | succ n => rw [chainF, if_neg (by simp [has_none (h.neg (show (-1 : Int) < 0 by omega))])]
    · obtain ⟨u, hu, _⟩ := h.par x b hb h0
      have := h.rank x b hb h0
      rw [ih b.up (has_some hu) (by omega)]
      omega
theorem WF.depth (h : WF F d) {x : Int} (hx : hasF F x = true) : depthF F x = d x := by
  obtain ⟨b, hb⟩ := some_has hx
  have := h.deep x b hb
  unfold depthF
  rw [h.chain 64 x hx (by omega)]
  omega
theorem depth_none {x : Int} (hx : hasF F x = false) : depthF F x = -1 := by
  unfold depthF
  rw [chainF, if_neg (by simp [hx])]
  rfl
theorem nodup_len : ∀ {l m : List Int}, l.Nodup → (∀ x ∈ l, x ∈ m) → l.length ≤ m.length
  | [], _, _, _ => by simp
  | x :: l, m, hn, hs => by
    rw [List.nodup_cons] at hn
    have hx := hs x (by simp)
    have h1 := nodup_len (l := l) (m := m.erase x) hn.2 fun y hy => (List.mem_erase_of_ne (fun (e : y = x) => hn.1 (by rw [← e]; exact hy))).2 (hs y (by simp [hy]))
    have h2 := List.length_erase_of_mem hx
    have h3 : 0 < m.length := List.length_pos_of_mem hx
    simp only [List.length_cons]
    omega
/-! ### The least number that no box has -/
def leastF (F : Forest S) : Nat → Int → Int
  | 0, i => i
  | n + 1, i => if hasF F i then leastF F n (i + 1) else i
theorem least_spec (F : Forest S) : ∀ (n : Nat) (i : Int), i ≤ leastF F n i ∧ leastF F n i ≤ i + n ∧ (∀ x, i ≤ x → x < leastF F n i → hasF F x = true) ∧ (leastF F n i < i + n → hasF F (leastF F n i) = false)
  | 0, i => ⟨by simp [leastF], by simp [leastF], fun x h1 h2 => by simp [leastF] at h2; omega, fun h => by simp [leastF] at h⟩
  | n + 1, i => by
    rw [leastF]
    split
    · rename_i hi
      obtain ⟨h1, h2, h3, h4⟩ := least_spec F n (i + 1)
      refine ⟨by omega, by omega, fun x hx hx' => ?_, fun h => h4 (by omega)⟩
      by_cases e : x = i
      · subst e; exact hi
      · exact h3 x (by omega) hx'
    · rename_i hi
      exact ⟨by omega, by omega, fun x h1 h2 => by omega, fun _ => by simpa using hi⟩
def least (F : Forest S) : Int := leastF F 4097 0
theorem WF.least_ok (h : WF F d) : 0 ≤ least F ∧ least F ≤ 4096 ∧ hasF F (least F) = false ∧ ∀ x, 0 ≤ x → x < least F → hasF F x = true := by
  obtain ⟨h1, h2, h3, h4⟩ := least_spec F 4097 0
  have h5 : least F ≤ 4096 := by
    rcases Int.lt_or_le 4096 (least F) with hl | hl
    · obtain ⟨b, hb⟩ := some_has (h3 4096 (by omega) hl)
      have := (h.range _ _ hb).2
      omega
    · exact hl
  exact ⟨h1, h5, h4 (by unfold least at h5; omega), h3⟩
theorem WF.least_lt (h : WF F d) (hc : (order F).length < 4096) : least F < 4096 := by
  obtain ⟨h1, h2, h3, h4⟩ := h.least_ok
  rcases Int.lt_or_le (least F) 4096 with hl | hl
  · exact hl
  · have h5 := nodup_len (l := (List.range 4096).map fun n : Nat => (n : Int)) (m := order F) (by
      rw [List.nodup_iff_pairwise_ne, List.pairwise_map]
      exact List.Pairwise.imp (fun h e => h (Int.ofNat_inj.1 e)) (List.nodup_iff_pairwise_ne.1 List.nodup_range)) (fun x hx => by
      obtain ⟨n, hn, rfl⟩ := List.mem_map.1 hx
      rw [List.mem_range] at hn
      exact h.mem_order.2 (h4 n (by omega) (by omega)))
    simp at h5
    omega
end
end Go.Proofs.Ytmjdmlgdffoimaa
