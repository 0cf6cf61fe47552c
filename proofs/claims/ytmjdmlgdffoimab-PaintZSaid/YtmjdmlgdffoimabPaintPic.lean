/- A picture in memory: a map of rows; nodes as a block; a block that is only read. -/
import Derived.Test.YtmjdmlgdffoimabPaintSort
namespace Go.Proofs.Ytmjdmlgdffoimab
open Go.RowKit

abbrev kidsI (A : Option Addr) (n c : Nat) (kids : List Int) : HI := .row 3 1 A n c (kids.map (Value.int .i64))
structure KE where
  key : Int
  A : Option Addr
  c : Nat
  l : List Int
def KE.ent (e : KE) : Int × Value := (e.key, .slice e.A e.l.length e.c)
abbrev KE.row (e : KE) : HI := kidsI e.A e.l.length e.c e.l
def lookK : List KE → Int → Option KE
  | [], _ => none
  | e :: es, k => if e.key = k then some e else lookK es k
def setK : List KE → KE → List KE
  | [], e => [e]
  | a :: es, e => if a.key = e.key then e :: es else a :: setK es e
def delK : List KE → Int → List KE
  | [], _ => []
  | a :: es, k => if a.key = k then es else a :: delK es k
def lstK (es : List KE) (k : Int) : List Int := match lookK es k with | some e => e.l | none => []
def kAK (es : List KE) (k : Int) : Option Addr := match lookK es k with | some e => e.A | none => none
def kCK (es : List KE) (k : Int) : Nat := match lookK es k with | some e => e.c | none => 0
abbrev rowsK (es : List KE) : HI := bundle (es.map KE.row)
abbrev picL (mb : Nat) (es : List KE) : List HI := mapI mb (es.map KE.ent) :: es.map KE.row
def picI (mb : Nat) (es : List KE) : HI := bundle (picL mb es)

theorem lookM_ent : ∀ (es : List KE) (k : Int), (lookM (es.map KE.ent) k).getD (.slice none 0 0) = .slice (kAK es k) (lstK es k).length (kCK es k)
  | [], k => rfl
  | e :: es, k => by
    have ih := lookM_ent es k
    unfold kAK lstK kCK at *
    simp only [List.map_cons, lookM, lookK, KE.ent]
    by_cases h : e.key = k
    · simp [h]
    · simp only [if_neg h]; exact ih
theorem ent_setK : ∀ (es : List KE) (e : KE), (setK es e).map KE.ent = putM (es.map KE.ent) e.key (.slice e.A e.l.length e.c)
  | [], e => rfl
  | a :: es, e => by
    simp only [setK, List.map_cons, putM]
    by_cases h : a.key = e.key
    · rw [if_pos h, if_pos (show (KE.ent a).1 = e.key from h)]; rfl
    · rw [if_neg h, if_neg (show ¬ (KE.ent a).1 = e.key from h), List.map_cons, ent_setK es e]
theorem lookK_set : ∀ (es : List KE) (e : KE) (k : Int), lookK (setK es e) k = if k = e.key then some e else lookK es k
  | [], e, k => by
    by_cases h : k = e.key
    · simp [setK, lookK, h]
    · simp [setK, lookK, h, Ne.symm h]
  | a :: es, e, k => by
    unfold setK
    by_cases h : a.key = e.key
    · rw [if_pos h]
      by_cases h2 : k = e.key
      · simp [lookK, h2]
      · simp [lookK, h2, Ne.symm h2, h]
    · rw [if_neg h]
      simp only [lookK]
      rw [lookK_set es e k]
      by_cases h2 : k = e.key
      · subst h2; simp [h]
      · simp [h2]
theorem setK_perm : ∀ (es : List KE) (e : KE), (setK es e).Perm (e :: delK es e.key)
  | [], e => List.Perm.refl _
  | a :: es, e => by
    unfold setK delK
    by_cases h : a.key = e.key
    · rw [if_pos h, if_pos h]
    · rw [if_neg h, if_neg h]
      exact (List.Perm.cons a (setK_perm es e)).trans (List.Perm.swap e a _)
theorem delK_perm : ∀ {es : List KE} {k : Int} {e : KE}, lookK es k = some e → es.Perm (e :: delK es k)
  | [], _, _, h => by cases h
  | a :: es, k, e, h => by
    unfold lookK at h
    unfold delK
    by_cases hk : a.key = k
    · rw [if_pos hk] at h ⊢; cases h; exact List.Perm.refl _
    · rw [if_neg hk] at h ⊢
      exact (List.Perm.cons a (delK_perm h)).trans (List.Perm.swap e a _)
theorem delK_none : ∀ {es : List KE} {k : Int}, lookK es k = none → delK es k = es
  | [], _, _ => rfl
  | a :: es, k, h => by
    unfold lookK at h
    unfold delK
    by_cases hk : a.key = k
    · rw [if_pos hk] at h; cases h
    · rw [if_neg hk] at h ⊢; rw [delK_none h]
theorem setK_keys : ∀ (es : List KE) (e : KE), (es.map KE.key).Nodup → ((setK es e).map KE.key).Nodup ∧ ∀ x, x ∈ (setK es e).map KE.key → x = e.key ∨ x ∈ es.map KE.key
  | [], e, _ => by simp [setK]
  | a :: es, e, h => by
    unfold setK
    rw [List.map_cons, List.nodup_cons] at h
    by_cases hk : a.key = e.key
    · rw [if_pos hk, List.map_cons, List.nodup_cons]
      refine ⟨⟨by rw [← hk]; exact h.1, h.2⟩, fun x hx => ?_⟩
      rcases List.mem_cons.1 hx with h1 | h1
      · exact .inl h1
      · exact .inr (List.mem_cons_of_mem _ h1)
    · rw [if_neg hk, List.map_cons, List.nodup_cons]
      obtain ⟨h1, h2⟩ := setK_keys es e h.2
      refine ⟨⟨fun hm => ?_, h1⟩, fun x hx => ?_⟩
      · rcases h2 _ hm with h3 | h3
        · exact hk h3
        · exact h.1 h3
      · rcases List.mem_cons.1 hx with h3 | h3
        · exact .inr (by simp [h3])
        · rcases h2 x h3 with h4 | h4
          · exact .inl h4
          · exact .inr (List.mem_cons_of_mem _ h4)
theorem lookK_mem : ∀ {es : List KE} {e : KE}, (es.map KE.key).Nodup → e ∈ es → lookK es e.key = some e
  | a :: es, e, h, he => by
    rw [List.map_cons, List.nodup_cons] at h
    rcases List.mem_cons.1 he with rfl | he
    · simp [lookK]
    · rw [lookK, if_neg (fun h1 => h.1 (by rw [h1]; exact List.mem_map.2 ⟨e, he, rfl⟩))]
      exact lookK_mem h.2 he
theorem lookK_some : ∀ {es : List KE} {k : Int} {e : KE}, lookK es k = some e → e ∈ es ∧ e.key = k
  | a :: es, k, e, h => by
    unfold lookK at h
    by_cases hk : a.key = k
    · rw [if_pos hk] at h; cases h; exact ⟨by simp, hk⟩
    · rw [if_neg hk] at h
      have := lookK_some h
      exact ⟨List.mem_cons_of_mem _ this.1, this.2⟩
def sortK (L : List PN) (e : KE) : KE := ⟨e.key, e.A, e.c, soF L e.l⟩
theorem sortK_ent (L : List PN) (e : KE) : (sortK L e).ent = e.ent := by
  show (e.key, Value.slice e.A (soF L e.l).length e.c) = _
  rw [(soF_perm e.l).length_eq]; rfl
def sortAt (L : List PN) (es : List KE) (done : List Nat) : List KE := es.mapIdx fun j e => if j ∈ done then sortK L e else e
theorem sortAt_get {L : List PN} {es : List KE} {done : List Nat} {j : Nat} {e : KE} (he : es[j]? = some e) (hj : j ∉ done) : (sortAt L es done)[j]? = some e := by
  unfold sortAt
  rw [List.getElem?_mapIdx, he, Option.map_some, if_neg hj]
theorem sortAt_step {L : List PN} {es : List KE} {done : List Nat} {j : Nat} {e : KE} (he : es[j]? = some e) : sortAt L es (done ++ [j]) = (sortAt L es done).set j (sortK L e) := by
  apply List.ext_getElem?
  intro k
  unfold sortAt
  rw [List.getElem?_mapIdx, List.getElem?_set, List.getElem?_mapIdx, List.length_mapIdx]
  by_cases hk : j = k
  · subst hk
    rw [if_pos rfl, if_pos (List.getElem?_eq_some_iff.1 he).1, he, Option.map_some, if_pos (by simp)]
  · rw [if_neg hk]
    congr 1
    funext a
    have : (k ∈ done ++ [j]) ↔ k ∈ done := by simp [Ne.symm hk]
    simp only [this]
theorem sortAt_all {L : List PN} {es : List KE} {done : List Nat} (h : ∀ j < es.length, j ∈ done) : sortAt L es done = es.map (sortK L) := by
  apply List.ext_getElem?
  intro k
  unfold sortAt
  rw [List.getElem?_mapIdx, List.getElem?_map]
  by_cases hk : k < es.length
  · rw [List.getElem?_eq_getElem hk, Option.map_some, Option.map_some, if_pos (h k hk)]
  · rw [List.getElem?_eq_none (by omega)]; rfl
theorem lookK_sort (L : List PN) : ∀ (es : List KE) (k : Int), lookK (es.map (sortK L)) k = (lookK es k).map (sortK L)
  | [], _ => rfl
  | e :: es, k => by
    simp only [List.map_cons, lookK]
    by_cases h : e.key = k
    · rw [if_pos (show (sortK L e).key = k from h), if_pos h]; rfl
    · rw [if_neg (show ¬ (sortK L e).key = k from h), if_neg h]; exact lookK_sort L es k
theorem soF_nil (L : List PN) : soF L [] = [] := List.Perm.eq_nil (soF_perm [])
theorem lstK_sort (L : List PN) (es : List KE) (k : Int) : lstK (es.map (sortK L)) k = soF L (lstK es k) := by
  unfold lstK
  rw [lookK_sort]
  cases lookK es k with
  | none => exact (soF_nil L).symm
  | some e => rfl
section
variable {w0 w : World} {M : Nat → Prop} {σ F : List HI} {i mb : Nat} {es : List KE}
/-- The row of a key, taken out; a new one if there is none. -/
theorem St.openK (h : St w0 M (rowsK es :: F) w) (k : Int) : St w0 M (kidsI (kAK es k) (lstK es k).length (kCK es k) (lstK es k) :: rowsK (delK es k) :: F) w := by
  cases e : lookK es k with
  | none =>
    rw [show kAK es k = none by simp [kAK, e], show lstK es k = [] by simp [lstK, e], show kCK es k = 0 by simp [kCK, e], delK_none e]
    exact (h.nilRow 3 1).perm (List.perm_append_comm (l₂ := [HI.row 3 1 none 0 0 []]))
  | some a =>
    rw [show kAK es k = a.A by simp [kAK, e], show lstK es k = a.l by simp [lstK, e], show kCK es k = a.c by simp [kCK, e]]
    have h1 := h.unpack
    have h2 : St w0 M (((delK es k).map KE.row) ++ (a.row :: F)) w := by
      refine h1.perm ?_
      exact (List.Perm.append_right F ((delK_perm e).map KE.row)).trans List.perm_middle.symm
    exact h2.pack.perm (List.Perm.swap _ _ _)
theorem St.shutK (e : KE) (h : St w0 M (e.row :: rowsK (delK es e.key) :: F) w) : St w0 M (rowsK (setK es e) :: F) w := by
  have h1 := (h.perm (List.Perm.swap _ _ _)).unpack
  refine St.pack (h1.perm ?_)
  exact List.perm_middle.trans (List.Perm.append_right F ((setK_perm es e).map KE.row).symm)
theorem perm_frontG {α : Type} : ∀ {l : List α} {i : Nat} {x : α}, l[i]? = some x → l.Perm (x :: l.eraseIdx i)
  | [], i, x, h => by simp at h
  | y :: l, 0, x, h => by
    obtain rfl : y = x := by simpa using h
    exact List.Perm.refl _
  | y :: l, i + 1, x, h => by
    have h1 := perm_frontG (l := l) (i := i) (x := x) (by simpa using h)
    exact (List.Perm.cons y h1).trans (List.Perm.swap x y _)
theorem perm_setG {α : Type} {l : List α} {i : Nat} {y : α} (hi : i < l.length) : (y :: l.eraseIdx i).Perm (l.set i y) := by
  have h := perm_frontG (l := l.set i y) (i := i) (x := y) (by simp [hi])
  rw [List.eraseIdx_set_eq] at h
  exact h.symm
theorem St.openJ {j : Nat} {e : KE} (he : es[j]? = some e) (h : St w0 M (rowsK es :: F) w) : St w0 M (e.row :: rowsK (es.eraseIdx j) :: F) w := by
  have h1 := h.unpack
  have h2 : St w0 M (((es.eraseIdx j).map KE.row) ++ (e.row :: F)) w := h1.perm ((List.Perm.append_right F ((perm_frontG he).map KE.row)).trans List.perm_middle.symm)
  exact h2.pack.perm (List.Perm.swap _ _ _)
theorem St.shutJ {j : Nat} {e' : KE} (hj : j < es.length) (h : St w0 M (e'.row :: rowsK (es.eraseIdx j) :: F) w) : St w0 M (rowsK (es.set j e') :: F) w := by
  have h1 := (h.perm (List.Perm.swap _ _ _)).unpack
  refine St.pack (h1.perm ?_)
  exact List.perm_middle.trans (List.Perm.append_right F ((perm_setG hj).map KE.row))
/-- The whole picture as one item. -/
theorem St.shutP (h : St w0 M (mapI mb (es.map KE.ent) :: rowsK es :: F) w) : St w0 M (picI mb es :: F) w := by
  have h1 := (h.perm (List.Perm.swap _ _ _)).unpack
  refine St.pack (τ := picL mb es) (h1.perm ?_)
  exact List.perm_middle
theorem St.pic (h : St w0 M σ w) (hi : σ[i]? = some (picI mb es)) : ∀ j ∈ picL mb es, j.holds w := (h.all _ (List.mem_of_getElem? hi)).2.1
theorem St.picMap (h : St w0 M σ w) (hi : σ[i]? = some (picI mb es)) : mapP mb (es.map KE.ent) w := (h.pic hi (mapI mb (es.map KE.ent)) (by simp [picL])).2
theorem St.picRd (h : St w0 M σ w) (hi : σ[i]? = some (picI mb es)) (k : Int) : RdI w (kAK es k) (lstK es k) := by
  cases e : lookK es k with
  | none =>
    rw [show lstK es k = [] by simp [lstK, e]]
    intro j y hy
    simp at hy
  | some a =>
    rw [show kAK es k = a.A by simp [kAK, e], show lstK es k = a.l by simp [lstK, e]]
    have h1 : a.row.holds w := h.pic hi a.row (by simp only [picL, List.mem_cons, List.mem_map]; exact .inr ⟨a, (lookK_some e).1, rfl⟩)
    have h2 : St w (foots [a.row]) [a.row] w := St.start (by simpa using h1) (List.pairwise_singleton _ _)
    exact h2.rd_row1 (i := 0) (f := Value.int .i64) rfl
end
/-! ### Nodes as a block -/
def obN (o : Obj) (ao : Nat) (L : List PN) : Prop := ∃ cur t fr, o = .cells cur t fr ∧ ∀ i n, L[i]? = some n → ∀ j u, (encN n)[j]? = some u → cur[ao + i * 3 + j]? = some u
theorem obN_of {w : World} {ab ao : Nat} {L : List PN} (h : RdN w (some ⟨ab, ao, none⟩) L) (hn : L ≠ []) : ∃ o, w.heap[ab]? = some o ∧ obN o ao L := by
  have hc : ∀ i n, L[i]? = some n → CellsAt w ab (ao + i * 3) (encN n) := fun i n hi => by
    obtain ⟨b, o, e, hc⟩ := h i n hi
    cases e; exact hc
  obtain ⟨n0, hn0⟩ : ∃ n0, L[0]? = some n0 := ⟨_, List.getElem?_eq_getElem (List.length_pos_iff.2 hn)⟩
  have h0 := hc 0 n0 hn0 0 _ rfl
  unfold World.cell? at h0
  cases e : w.heap[ab]? with
  | none => rw [e] at h0; cases h0
  | some o =>
    cases o with
    | cells cur t fr =>
      refine ⟨_, rfl, cur, t, fr, rfl, fun i n hi j u hu => ?_⟩
      have h1 := hc i n hi j u hu
      rw [cell_of_row w ab _ cur t fr e] at h1
      exact h1
    | _ => rw [e] at h0; cases h0
theorem obN_cells {w : World} {ab ao : Nat} {L : List PN} {o : Obj} (hh : w.heap[ab]? = some o) (h : obN o ao L) {i : Nat} {n : PN} (hi : L[i]? = some n) : CellsAt w ab (ao + i * 3) (encN n) := fun j u hu => by
  obtain ⟨cur, t, fr, rfl, hc⟩ := h
  rw [cell_of_row w ab _ cur t fr hh]
  exact hc i n hi j u hu
theorem St.obAt {w0 w : World} {M : Nat → Prop} {σ : List HI} {i ab ao : Nat} {L : List PN} {o : Obj} (h : St w0 M σ w) (hi : σ[i]? = some (.ob ab o)) (ho : obN o ao L) {k : Nat} {n : PN} (hk : L[k]? = some n) : CellsAt w ab (ao + k * 3) (encN n) :=
  obN_cells (h.all _ (List.mem_of_getElem? hi)) ho hk
/-- A block that is read alone need not be handed over. -/
theorem Ct.weaken {P : Program} {f : FuncId} {args : Array Value} {ab : Nat} {o : Obj} {pre : List HI} {X : Type} {v : X → Value} {facts : X → Prop} {post : X → List HI} (h : Ct P f args (.ob ab o :: pre) (fun _ => True) v facts (fun x => .ob ab o :: post x)) :
    Ct P f args pre (fun w => w.heap[ab]? = some o ∧ ¬ foots pre ab) v facts post := by
  intro w h1 h2 ⟨ho, hn⟩
  refine (h w (fun i hi => ?_) (List.pairwise_cons.2 ⟨fun j hj b hb hjb => ?_, h2⟩) trivial).mono ?_
  · rcases List.mem_cons.1 hi with rfl | hi
    · exact ho
    · exact h1 i hi
  · obtain rfl : b = ab := hb
    exact hn ⟨j, hj, hjb⟩
  · rintro e w' ⟨x, rfl, hf, hs⟩
    refine ⟨x, rfl, hf, hs.os, hs.tape, hs.output, hs.size, fun b hb hnb => ?_, fun i hi => hs.all i (List.mem_cons_of_mem _ hi), (List.pairwise_cons.1 hs.disj).2, fun i hi b hb => ?_⟩
    · by_cases e : b = ab
      · subst e
        rw [ho]; exact hs.all (.ob b o) (by simp)
      · refine hs.old b hb ?_
        rintro ⟨j, hj, hjb⟩
        rcases List.mem_cons.1 hj with rfl | hj
        · exact e hjb
        · exact hnb ⟨j, hj, hjb⟩
    · rcases hs.fresh i (List.mem_cons_of_mem _ hi) b hb with h3 | ⟨j, hj, hjb⟩
      · exact .inl h3
      · rcases List.mem_cons.1 hj with rfl | hj
        · exact absurd hb ((List.pairwise_cons.1 hs.disj).1 i hi b hjb)
        · exact .inr ⟨j, hj, hjb⟩
end Go.Proofs.Ytmjdmlgdffoimab
