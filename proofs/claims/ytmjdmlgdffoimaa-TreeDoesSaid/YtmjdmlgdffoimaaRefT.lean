/- The document's tree in memory: a row of boxes by numbers; as a forest. -/
import Derived.Test.YtmjdmlgdffoimaaRefRow
import Derived.Test.YtmjdmlgdffoimaaTree
namespace Go.Proofs.Ytmjdmlgdffoimaa
open Go.RowKit

structure RB where
  live : Bool
  up : Int
  A : Option Addr
  c : Nat
  kids : List Int
  sty : List Value
def RB.cells (b : RB) : List Value := .bool b.live :: .int .i64 b.up :: .slice b.A b.kids.length b.c :: b.sty
abbrev RB.row (b : RB) : HI := kidsI b.A b.kids.length b.c b.kids
def zeroRB : RB := ⟨false, 0, none, 0, [], zeroS⟩
def cellsB (bs : List RB) : List Value := bs.flatMap RB.cells
def ROk (bs : List RB) : Prop := ∀ b ∈ bs, SOk b.sty
abbrev rowsI (bs : List RB) : HI := bundle (bs.map RB.row)
abbrev refL (rp g bc : Nat) (bs : List RB) : List HI := .cl rp 77 [.slice (some ⟨g, 0, none⟩) bs.length bc] :: .row 74 58 (some ⟨g, 0, none⟩) bs.length bc (cellsB bs) :: bs.map RB.row
def refI (rp g bc : Nat) (bs : List RB) : HI := bundle (refL rp g bc bs)
def absR (bs : List RB) : Forest (List Value) := fun x => if x < 0 then none else (bs[x.toNat]?).bind fun b => if b.live then some ⟨b.up, b.kids, b.sty⟩ else none

theorem RB.cells_len {b : RB} (h : SOk b.sty) : b.cells.length = 58 := by simp [RB.cells, h.len]
theorem ROk.get {bs : List RB} (h : ROk bs) {i : Nat} {b : RB} (hb : bs[i]? = some b) : SOk b.sty := h b (List.mem_of_getElem? hb)
theorem cellsB_len : ∀ {bs : List RB}, ROk bs → (cellsB bs).length = bs.length * 58
  | [], _ => rfl
  | b :: bs, h => by
    have h1 := cellsB_len (bs := bs) fun c hc => h c (by simp [hc])
    have h2 := RB.cells_len (h b (by simp))
    rw [cellsB, List.flatMap_cons, List.length_append, h2, List.length_cons]
    unfold cellsB at h1
    omega
theorem cellsB_get : ∀ {bs : List RB} (_ : ROk bs) {i : Nat} {b : RB} (_ : bs[i]? = some b) {j : Nat} {u : Value}, b.cells[j]? = some u → (cellsB bs)[i * 58 + j]? = some u
  | [], _, _, _, hb, _, _, _ => by simp at hb
  | a :: bs, h, 0, b, hb, j, u, hj => by
    obtain rfl : a = b := by simpa using hb
    have h2 := (List.getElem?_eq_some_iff.1 hj).1
    rw [cellsB, List.flatMap_cons, Nat.zero_mul, Nat.zero_add, List.getElem?_append_left h2]
    exact hj
  | a :: bs, h, i + 1, b, hb, j, u, hj => by
    have h2 := RB.cells_len (h a (by simp))
    rw [cellsB, List.flatMap_cons, List.getElem?_append_right (by rw [h2]; omega), h2, show (i + 1) * 58 + j - 58 = i * 58 + j by omega]
    exact cellsB_get (fun c hc => h c (by simp [hc])) (by simpa using hb) hj
theorem setL_back (xs : List Value) : ∀ (us ys : List Value) (o : Nat), setL (xs ++ ys) (xs.length + o) us = xs ++ setL ys o us
  | [], ys, o => rfl
  | u :: us, ys, o => by
    rw [setL, setL, List.set_append_right _ _ (by omega), Nat.add_sub_cancel_left, Nat.add_assoc]
    exact setL_back xs us _ _
theorem cellsB_set : ∀ {bs : List RB} (_ : ROk bs) {i : Nat} {b b' : RB} (_ : bs[i]? = some b) {o : Nat} {us : List Value}, o + us.length ≤ 58 → setL b.cells o us = b'.cells → setL (cellsB bs) (i * 58 + o) us = cellsB (bs.set i b')
  | [], _, _, _, _, hb, _, _, _, _ => by simp at hb
  | a :: bs, h, 0, b, b', hb, o, us, ho, he => by
    obtain rfl : a = b := by simpa using hb
    have h2 := RB.cells_len (h a (by simp))
    rw [cellsB, List.flatMap_cons, Nat.zero_mul, Nat.zero_add, setL_front [] _ us _ o (by omega), he]
    rfl
  | a :: bs, h, i + 1, b, b', hb, o, us, ho, he => by
    have h2 := RB.cells_len (h a (by simp))
    rw [cellsB, List.flatMap_cons, show (i + 1) * 58 + o = a.cells.length + (i * 58 + o) by omega, setL_back, List.set_cons_succ, cellsB, List.flatMap_cons]
    rw [show setL (bs.flatMap RB.cells) (i * 58 + o) us = cellsB (bs.set i b') from cellsB_set (fun c hc => h c (by simp [hc])) (by simpa using hb) ho he]
    rfl
theorem ROk.set {bs : List RB} (h : ROk bs) (i : Nat) {b' : RB} (hs : SOk b'.sty) : ROk (bs.set i b') := fun c hc => by
  rcases List.mem_or_eq_of_mem_set hc with h1 | h1
  · exact h c h1
  · rw [h1]; exact hs
/-! ### As a forest -/
theorem absR_at {bs : List RB} {i : Nat} {b : RB} (hb : bs[i]? = some b) (hl : b.live = true) : absR bs i = some ⟨b.up, b.kids, b.sty⟩ := by
  unfold absR
  rw [if_neg (by omega), Int.toNat_natCast, hb]
  simp [hl]
theorem absR_dead {bs : List RB} {i : Nat} {b : RB} (hb : bs[i]? = some b) (hl : b.live = false) : absR bs i = none := by
  unfold absR
  rw [if_neg (by omega), Int.toNat_natCast, hb]
  simp [hl]
theorem absR_neg {bs : List RB} {x : Int} (h : x < 0) : absR bs x = none := by rw [absR, if_pos h]
theorem absR_out {bs : List RB} {x : Int} (h : (bs.length : Int) ≤ x) : absR bs x = none := by
  unfold absR
  rw [if_neg (by omega), List.getElem?_eq_none (by omega)]; rfl
theorem absR_has {bs : List RB} {x : Int} (h : hasF (absR bs) x = true) : ∃ (i : Nat) (b : RB), x = i ∧ bs[i]? = some b ∧ b.live = true := by
  unfold hasF absR at h
  split at h
  · cases h
  · rename_i hx
    cases e : bs[x.toNat]? with
    | none => rw [e] at h; cases h
    | some b =>
      rw [e] at h
      refine ⟨x.toNat, b, by omega, e, ?_⟩
      cases hl : b.live with
      | true => rfl
      | false => simp [hl] at h
theorem absR_set {bs : List RB} {i : Nat} (hi : i < bs.length) (b' : RB) (y : Int) : absR (bs.set i b') y = if y = i then (if b'.live then some ⟨b'.up, b'.kids, b'.sty⟩ else none) else absR bs y := by
  by_cases hy : y = i
  · subst hy
    rw [if_pos rfl, absR, if_neg (by omega), Int.toNat_natCast, List.getElem?_set_self hi]; rfl
  · rw [if_neg hy]
    unfold absR
    split
    · rfl
    · rw [List.getElem?_set_ne (by omega)]
theorem absR_app (bs : List RB) : absR (bs ++ [zeroRB]) = absR bs := by
  funext y
  by_cases hy : y < 0
  · rw [absR_neg hy, absR_neg hy]
  · obtain ⟨i, rfl⟩ : ∃ i : Nat, y = i := ⟨y.toNat, by omega⟩
    by_cases hi : i < bs.length
    · unfold absR
      rw [if_neg hy, if_neg hy, Int.toNat_natCast, List.getElem?_append_left hi]
    · rw [absR_out (bs := bs) (by omega)]
      by_cases h2 : i = bs.length
      · exact absR_dead (b := zeroRB) (by rw [h2]; simp) rfl
      · exact absR_out (by simp; omega)
theorem absR_live {bs : List RB} {i : Nat} {b : RB} (hb : bs[i]? = some b) : hasF (absR bs) i = b.live := by
  cases hl : b.live with
  | true => rw [hasF, absR_at hb hl]; rfl
  | false => rw [hasF, absR_dead hb hl]; rfl
def kAR (bs : List RB) (x : Int) : Option Addr := if hasF (absR bs) x then (bs[x.toNat]?).bind RB.A else none
def kCR (bs : List RB) (x : Int) : Nat := if hasF (absR bs) x then match bs[x.toNat]? with | some b => b.c | none => 0 else 0
theorem kR_at {bs : List RB} {i : Nat} {b : RB} (hb : bs[i]? = some b) (hl : b.live = true) : kAR bs i = b.A ∧ kCR bs i = b.c := by
  have h := absR_live hb
  rw [hl] at h
  unfold kAR kCR
  rw [if_pos h, if_pos h, Int.toNat_natCast, hb]
  exact ⟨rfl, rfl⟩
theorem kR_no {bs : List RB} {x : Int} (h : hasF (absR bs) x = false) : kAR bs x = none ∧ kCR bs x = 0 := by simp [kAR, kCR, h]
section
variable {w0 w : World} {M : Nat → Prop} {σ F : List HI} {i rp g bc : Nat} {bs : List RB}
theorem kids_rd {A : Option Addr} {c : Nat} {l : List Int} (h1 : (kidsI A l.length c l).holds w) : RdI w A l ∧ l.length ≤ c ∧ Src w A l.length (l.map (Value.int .i64)) := by
  have h2 : St w (foots [kidsI A l.length c l]) [kidsI A l.length c l] w := St.start (by simpa using h1) (List.pairwise_singleton _ _)
  refine ⟨?_, ?_, h2.src_row (i := 0) rfl⟩
  · exact h2.rd_row1 (i := 0) (f := Value.int .i64) rfl
  · rcases h1.2 with ⟨hv, hn⟩ | ⟨gb, cap, cur, hv, _, hh, hnc, _, hsz, htake⟩
    · omega
    · injection hv with e1 e2 e3; omega
theorem St.ref (h : St w0 M σ w) (hi : σ[i]? = some (refI rp g bc bs)) : ∀ j ∈ refL rp g bc bs, j.holds w := (h.all _ (List.mem_of_getElem? hi)).2.1
theorem St.refRoot (h : St w0 M σ w) (hi : σ[i]? = some (refI rp g bc bs)) : CellsAt w rp 0 [.slice (some ⟨g, 0, none⟩) bs.length bc] := cells_of_cl (h.ref hi (.cl rp 77 [.slice (some ⟨g, 0, none⟩) bs.length bc]) (by simp [refL])) 0 rfl
theorem St.refRow (h : St w0 M σ w) (hi : σ[i]? = some (refI rp g bc bs)) : (HI.row 74 58 (some ⟨g, 0, none⟩) bs.length bc (cellsB bs)).holds w := h.ref hi _ (by simp [refL])
theorem St.refAt (h : St w0 M σ w) (hi : σ[i]? = some (refI rp g bc bs)) (hk : ROk bs) {j : Nat} {b : RB} (hb : bs[j]? = some b) (o : Nat) {us : List Value} (hu : (b.cells.drop o).take us.length = us) : CellsAt w g (0 + j * 58 + o) us := by
  have h1 := h.refRow hi
  have h2 : St w (foots [HI.row 74 58 (some ⟨g, 0, none⟩) bs.length bc (cellsB bs)]) [HI.row 74 58 (some ⟨g, 0, none⟩) bs.length bc (cellsB bs)] w := St.start (by simpa using h1) (List.pairwise_singleton _ _)
  refine h2.row_at (i := 0) rfl _ fun k u hj => ?_
  rw [show 0 + j * 58 + o + k = j * 58 + (o + k) by omega]
  refine cellsB_get hk hb ?_
  have h3 := congrArg (·[k]?) hu
  simp only [hj] at h3
  rw [List.getElem?_take] at h3
  split at h3
  · rw [List.getElem?_drop] at h3; exact h3
  · cases h3
theorem St.refKids (h : St w0 M σ w) (hi : σ[i]? = some (refI rp g bc bs)) {j : Nat} {b : RB} (hb : bs[j]? = some b) : RdI w b.A b.kids ∧ b.kids.length ≤ b.c ∧ Src w b.A b.kids.length (b.kids.map (Value.int .i64)) :=
  kids_rd (h.ref hi b.row (by simp only [refL, List.mem_cons, List.mem_map]; exact .inr (.inr ⟨b, List.mem_of_getElem? hb, rfl⟩)))
/-- Opened, and shut. -/
theorem St.openF (h : St w0 M (refI rp g bc bs :: F) w) : St w0 M (.cl rp 77 [.slice (some ⟨g, 0, none⟩) bs.length bc] :: .row 74 58 (some ⟨g, 0, none⟩) bs.length bc (cellsB bs) :: rowsI bs :: F) w := by
  have h1 := h.unpack
  have h2 : St w0 M (bs.map RB.row ++ (.cl rp 77 [.slice (some ⟨g, 0, none⟩) bs.length bc] :: .row 74 58 (some ⟨g, 0, none⟩) bs.length bc (cellsB bs) :: F)) w := by
    refine h1.perm ?_
    show ([HI.cl rp 77 [.slice (some ⟨g, 0, none⟩) bs.length bc], HI.row 74 58 (some ⟨g, 0, none⟩) bs.length bc (cellsB bs)] ++ bs.map RB.row ++ F).Perm (bs.map RB.row ++ ([HI.cl rp 77 [.slice (some ⟨g, 0, none⟩) bs.length bc], HI.row 74 58 (some ⟨g, 0, none⟩) bs.length bc (cellsB bs)] ++ F))
    rw [← List.append_assoc]
    exact List.Perm.append_right _ List.perm_append_comm
  exact h2.pack.perm ((List.Perm.swap _ _ _).trans (List.Perm.cons _ (List.Perm.swap _ _ _)))
theorem St.shutF (h : St w0 M (.cl rp 77 [.slice (some ⟨g, 0, none⟩) bs.length bc] :: .row 74 58 (some ⟨g, 0, none⟩) bs.length bc (cellsB bs) :: rowsI bs :: F) w) : St w0 M (refI rp g bc bs :: F) w := by
  have h1 := (h.perm ((List.Perm.cons _ (List.Perm.swap _ _ _)).trans (List.Perm.swap _ _ _))).unpack
  have h2 : St w0 M (refL rp g bc bs ++ F) w := by
    refine h1.perm ?_
    show (bs.map RB.row ++ ([HI.cl rp 77 [.slice (some ⟨g, 0, none⟩) bs.length bc], HI.row 74 58 (some ⟨g, 0, none⟩) bs.length bc (cellsB bs)] ++ F)).Perm ([HI.cl rp 77 [.slice (some ⟨g, 0, none⟩) bs.length bc], HI.row 74 58 (some ⟨g, 0, none⟩) bs.length bc (cellsB bs)] ++ bs.map RB.row ++ F)
    rw [← List.append_assoc]
    exact List.Perm.append_right _ List.perm_append_comm
  exact h2.pack
theorem perm_frontG {α : Type} : ∀ {l : List α} {i : Nat} {x : α}, l[i]? = some x → l.Perm (x :: l.eraseIdx i)
  | [], i, x, h => by simp at h
  | y :: l, 0, x, h => by
    obtain rfl : y = x := by simpa using h
    exact List.Perm.refl _
  | y :: l, i + 1, x, h => by
    have h1 := perm_frontG (l := l) (i := i) (x := x) (by simpa using h)
    exact (List.Perm.cons y h1).trans (List.Perm.swap x y _)
theorem perm_setG {α : Type} {l : List α} {i : Nat} {y : α} (hi : i < l.length) : (y :: l.eraseIdx i).Perm (l.set i y) := by
  have h := perm_frontG (l := l.set i y) (i := i) (x := y) (by simp [hi])
  rw [List.eraseIdx_set_eq] at h
  exact h.symm
/-- Box j's row of kids is another one. -/
theorem St.rowSet {j : Nat} {b b' : RB} (hb : bs[j]? = some b) (h : St w0 M (rowsI bs :: b'.row :: F) w) : St w0 M (rowsI (bs.set j b') :: F) w := by
  have h1 := h.unpack
  have hp := (perm_frontG hb).map RB.row
  have hlt := (List.getElem?_eq_some_iff.1 hb).1
  have hq := (perm_setG (y := b') hlt).map RB.row
  have h2 : St w0 M (b.row :: ((bs.eraseIdx j).map RB.row ++ b'.row :: F)) w := h1.perm (List.Perm.append_right _ hp)
  have h3 := h2.sub (List.sublist_cons_self _ _)
  refine St.pack (τ := (bs.set j b').map RB.row) (h3.perm ?_)
  refine List.Perm.trans ?_ (List.Perm.append_right F hq)
  exact List.perm_middle
end
end Go.Proofs.Ytmjdmlgdffoimaa
