/- The document's Move and Add: plain facts. -/
import Derived.Test.YtmjdmlgdffoimaaRefMut
namespace Go.Proofs.Ytmjdmlgdffoimaa

def dpN (F : Forest (List Value)) (x : Int) (l : List Int) : Int := l.foldl (fun n y => max n (depthF F y - depthF F x)) 0
theorem dpN_snoc (F : Forest (List Value)) (x : Int) {l : List Int} {k : Nat} {y : Int} (h : l[k]? = some y) : dpN F x (l.take (k + 1)) = max (dpN F x (l.take k)) (depthF F y - depthF F x) := by
  rw [take_snoc h]; simp [dpN]
theorem dpN_bd (F : Forest (List Value)) (x : Int) (l : List Int) : 0 ≤ dpN F x l ∧ dpN F x l ≤ 64 :=
  ⟨(foldl_max_ge (fun y => depthF F y - depthF F x) l 0).1, foldl_max_le (fun y => depthF F y - depthF F x) 64 l 0 (by omega) fun y _ => by have := depth_bd F y; have := depth_bd F x; omega⟩
theorem WF.dpN_all {F : Forest (List Value)} {d : Int → Nat} (h : WF F d) {x : Int} (hx : hasF F x = true) : dpN F x (sub F x) = deepF F x - depthF F x := by
  have hself : x ∈ sub F x := h.mem_sub.2 (Anc.refl hx)
  have h0 : 0 ≤ depthF F x := by rw [h.depth hx]; omega
  have ha := foldl_max_ge (depthF F) (sub F x) 0
  have hb := foldl_max_ge (fun y => depthF F y - depthF F x) (sub F x) 0
  have h1 := foldl_max_le (fun y => depthF F y - depthF F x) (deepF F x - depthF F x) (sub F x) 0 (by have := ha.2 x hself; unfold deepF; omega) (fun y hy => by have := ha.2 y hy; unfold deepF; omega)
  have h2 := foldl_max_le (depthF F) (dpN F x (sub F x) + depthF F x) (sub F x) 0 (by have := hb.1; unfold dpN; omega) (fun y hy => by have := hb.2 y hy; unfold dpN; omega)
  unfold dpN at *
  unfold deepF at *
  omega
theorem WF.most_cut {F : Forest (List Value)} {d : Int → Nat} (h : WF F d) {id up : Int} (hid : hasF F id = true) (h0 : id ≠ 0) (hup : hasF F up = true) : ((cutK (kidsF F up) id).length : Int) = mostF F id up := by
  obtain ⟨b, hb⟩ := some_has hup
  unfold mostF
  rw [kids_some hb]
  by_cases e : up = upF F id
  · obtain ⟨h1, h2, h3, _⟩ := h.up_has hid h0
    rw [if_pos e.symm]
    rw [← e, kids_some hb] at h2 h3
    have := cutK_len h3 h2
    omega
  · rw [if_neg (fun x => e x.symm), cutK_of_not (h.not_kid hb e)]; omega
theorem WF.least_is {F : Forest (List Value)} {d : Int → Nat} (h : WF F d) {k : Nat} (hb : ∀ y : Int, 0 ≤ y → y < k → hasF F y = true) (hk : hasF F (k : Int) = false) : least F = k := by
  obtain ⟨l1, l2, l3, l4⟩ := h.least_ok
  rcases Int.lt_trichotomy (least F) k with h1 | h1 | h1
  · rw [hb _ l1 h1] at l3; cases l3
  · exact h1
  · rw [l4 k (by omega) h1] at hk; cases hk
def insB (q : RB) (A : Option Addr) (c : Nat) (k : Nat) (x : Int) : RB := ⟨q.live, q.up, A, c, insAt q.kids k x, q.sty⟩
def upB (b : RB) (w : Int) : RB := ⟨b.live, w, b.A, b.c, b.kids, b.sty⟩
theorem absR_mov {bs : List RB} {i u w : Nat} {b p q q1 : RB} (hb : bs[i]? = some b) (hl : b.live = true) (hu : b.up = u) (hp : bs[u]? = some p) (hpl : p.live = true) (hw : bs[w]? = some q) (hql : q.live = true) (hui : u ≠ i) (hwi : w ≠ i) {A1 A2 : Option Addr} {c1 c2 k : Nat} (hq1 : (bs.set u (cutB p A1 c1 i))[w]? = some q1) :
    ((bs.set u (cutB p A1 c1 i)).set w (insB q1 A2 c2 k i))[i]? = some b ∧ absR (((bs.set u (cutB p A1 c1 i)).set w (insB q1 A2 c2 k i)).set i (upB b w)) = movG (absR bs) i w k := by
  have hil := (List.getElem?_eq_some_iff.1 hb).1
  have hwl := (List.getElem?_eq_some_iff.1 hw).1
  refine ⟨by rw [List.getElem?_set_ne hwi, List.getElem?_set_ne hui, hb], ?_⟩
  have hlive : q1.live = true ∧ q1.up = q.up ∧ q1.sty = q.sty ∧ q1.kids = if w = u then cutK q.kids i else q.kids := by
    by_cases e : w = u
    · subst e
      rw [hp] at hw; cases hw
      rw [List.getElem?_set_self hwl] at hq1
      cases hq1
      simp [cutB, hpl]
    · rw [List.getElem?_set_ne (fun h => e h.symm), hw] at hq1
      cases hq1
      simp [hql, e]
  obtain ⟨g1, g2, g3, g4⟩ := hlive
  funext y
  rw [absR_set (by simp [hil]), absR_set (by simp [hwl]), absR_cut hp hpl, movG]
  show _ = Option.map (fun t : TBox (List Value) => (⟨if y = i then (w : Int) else t.up, if y = w then insAt (if y = upF (absR bs) i then cutK t.kids i else t.kids) k i else if y = upF (absR bs) i then cutK t.kids i else t.kids, t.sty⟩ : TBox (List Value))) _
  rw [up_some (absR_at hb hl)]
  show _ = Option.map (fun t : TBox (List Value) => (⟨if y = i then (w : Int) else t.up, if y = w then insAt (if y = b.up then cutK t.kids i else t.kids) k i else if y = b.up then cutK t.kids i else t.kids, t.sty⟩ : TBox (List Value))) _
  rw [hu]
  have n1 : ((i : Int) ≠ w) := by omega
  have n2 : ((i : Int) ≠ u) := by omega
  by_cases e1 : y = i
  · subst e1
    rw [absR_at hb hl]
    simp [upB, hl, n1, n2]
  · by_cases e2 : y = w
    · subst e2
      rw [absR_at hw hql]
      by_cases e3 : w = u
      · have e5 : ((u : Int) ≠ i) := by omega
        simp [insB, g1, g2, g3, g4, e3, e5]
      · have e4 : ((w : Int) ≠ u) := by omega
        simp [insB, g1, g2, g3, g4, e3, e1, e4]
        try (intro h; omega)
    · by_cases e3 : y = u
      · subst e3
        rw [absR_at hp hpl]
        simp [e1, e2]
      · simp only [e1, e2, e3, if_false]
        cases absR bs y <;> rfl
end Go.Proofs.Ytmjdmlgdffoimaa
