/- A tree, opened at one of its boxes, and shut again. -/
import Derived.Test.YtmjdmlgdffoimaaTreeLib
import Derived.Test.YtmjdmlgdffoimaaTreeInside
namespace Go.Proofs.Ytmjdmlgdffoimaa
open Go.RowKit

def delE : List PE → Int → List PE
  | [], _ => []
  | e :: es, x => if e.id = x then es else e :: delE es x
def setE : List PE → PE → List PE
  | [], _ => []
  | e :: es, e' => if e.id = e'.id then e' :: es else e :: setE es e'
abbrev restI (es : List PE) : HI := bundle (es.flatMap PE.items)
theorem ent_del : ∀ (es : List PE) (x : Int), (delE es x).map PE.ent = delM (es.map PE.ent) x
  | [], _ => rfl
  | e :: es, x => by
    simp only [delE, List.map_cons, delM, PE.ent]
    split
    · rfl
    · rw [List.map_cons, ent_del es x]; rfl
theorem ent_set : ∀ (es : List PE) (e e' : PE), lookE es e'.id = some e → e'.bb = e.bb → (setE es e').map PE.ent = es.map PE.ent
  | [], _, _, h, _ => by cases h
  | a :: es, e, e', h, hb => by
    unfold lookE at h
    unfold setE
    split at h
    · rename_i hi
      cases h
      rw [if_pos hi]
      simp [PE.ent, hi, hb]
    · rename_i hi
      rw [if_neg hi, List.map_cons, List.map_cons, ent_set es e e' h hb]
theorem del_perm : ∀ {es : List PE} {x : Int} {e : PE}, lookE es x = some e → es.Perm (e :: delE es x)
  | [], _, _, h => by cases h
  | a :: es, x, e, h => by
    unfold lookE at h
    unfold delE
    split at h
    · rename_i hi; cases h; rw [if_pos hi]
    · rename_i hi
      rw [if_neg hi]
      exact (List.Perm.cons a (del_perm h)).trans (List.Perm.swap e a _)
theorem set_perm : ∀ {es : List PE} {e e' : PE}, lookE es e'.id = some e → (setE es e').Perm (e' :: delE es e'.id)
  | [], _, _, h => by cases h
  | a :: es, e, e', h => by
    unfold lookE at h
    unfold setE delE
    split at h
    · rename_i hi; rw [if_pos hi, if_pos hi]
    · rename_i hi
      rw [if_neg hi, if_neg hi]
      exact (List.Perm.cons a (set_perm h)).trans (List.Perm.swap e' a _)
theorem look_set : ∀ {es : List PE} {e e' : PE}, lookE es e'.id = some e → ∀ y, lookE (setE es e') y = if y = e'.id then some e' else lookE es y
  | [], _, _, h, _ => by cases h
  | a :: es, e, e', h, y => by
    unfold lookE at h
    unfold setE
    split at h
    · rename_i hi
      rw [if_pos hi]
      by_cases hy : y = e'.id
      · rw [if_pos hy, lookE, if_pos hy.symm]
      · rw [if_neg hy, lookE, if_neg (fun e => hy e.symm), lookE, if_neg (fun e => hy (by rw [← e, hi]))]
    · rename_i hi
      rw [if_neg hi]
      by_cases ha : a.id = y
      · rw [lookE, if_pos ha, if_neg (fun e => hi (by rw [ha, e])), lookE, if_pos ha]
      · rw [lookE, if_neg ha, look_set h y, lookE, if_neg ha]
theorem look_del {es : List PE} (hn : (es.map PE.id).Nodup) (x y : Int) : lookE (delE es x) y = if y = x then none else lookE es y := by
  induction es with
  | nil => simp [delE, lookE]
  | cons a es ih =>
    rw [List.map_cons, List.nodup_cons] at hn
    unfold delE
    by_cases ha : a.id = x
    · rw [if_pos ha]
      by_cases hy : y = x
      · rw [if_pos hy, hy, ← ha]
        cases h : lookE es a.id with
        | none => rfl
        | some e => exact absurd (List.mem_map.2 ⟨e, (lookE_mem h).1, (lookE_mem h).2⟩) hn.1
      · rw [if_neg hy, lookE, if_neg (fun e => hy (by rw [← e, ha]))]
    · rw [if_neg ha]
      by_cases hay : a.id = y
      · rw [lookE, if_pos hay, if_neg (fun e => ha (by rw [hay, e])), lookE, if_pos hay]
      · rw [lookE, if_neg hay, ih hn.2, lookE, if_neg hay]
theorem look_app (es : List PE) (e : PE) (y : Int) : lookE (es ++ [e]) y = match lookE es y with | some a => some a | none => if e.id = y then some e else none := by
  induction es with
  | nil => simp [lookE]
  | cons a es ih =>
    simp only [List.cons_append, lookE]
    split
    · rfl
    · exact ih
theorem LOk.set {es : List PE} (h : LOk es) {e e' : PE} (hl : lookE es e'.id = some e) (hs : SOk e'.sty) : LOk (setE es e') := by
  have hp := set_perm hl
  have hq := del_perm hl
  refine ⟨fun a ha => ?_, ?_⟩
  · rcases List.mem_cons.1 (hp.mem_iff.1 ha) with rfl | ha
    · exact hs
    · exact h.sty a (hq.mem_iff.2 (List.mem_cons_of_mem _ ha))
  · have h1 := (hp.map PE.id).nodup_iff.2
    refine h1 ?_
    have h2 := (hq.map PE.id).nodup_iff.1 h.nodup
    rw [List.map_cons] at h2 ⊢
    rw [(lookE_mem hl).2] at h2
    exact h2
theorem LOk.del {es : List PE} (h : LOk es) (x : Int) : LOk (delE es x) := by
  cases hl : lookE es x with
  | none =>
    have : ∀ es : List PE, lookE es x = none → delE es x = es := by
      intro es
      induction es with
      | nil => intro _; rfl
      | cons a es ih =>
        intro h
        unfold lookE at h
        unfold delE
        split at h
        · cases h
        · rename_i hi; rw [if_neg hi, ih h]
    rw [this es hl]; exact h
  | some e =>
    have hq := del_perm hl
    refine ⟨fun a ha => h.sty a (hq.mem_iff.2 (List.mem_cons_of_mem _ ha)), ?_⟩
    have h2 := (hq.map PE.id).nodup_iff.1 h.nodup
    rw [List.map_cons, List.nodup_cons] at h2
    exact h2.2
section
variable {w0 w : World} {M : Nat → Prop} {tp mb : Nat} {es : List PE} {F : List HI}
theorem St.openT (h : St w0 M (treeI tp mb es :: F) w) : St w0 M (.cl tp 72 [.map (some mb)] :: mapI mb (es.map PE.ent) :: restI es :: F) w := by
  have h1 := h.unpack
  have h2 : St w0 M (es.flatMap PE.items ++ (.cl tp 72 [.map (some mb)] :: mapI mb (es.map PE.ent) :: F)) w := by
    refine h1.perm ?_
    show ((.cl tp 72 [.map (some mb)] :: mapI mb (es.map PE.ent) :: es.flatMap PE.items) ++ F).Perm _
    have e1 : ((HI.cl tp 72 [.map (some mb)] :: mapI mb (es.map PE.ent) :: es.flatMap PE.items) ++ F) = [HI.cl tp 72 [.map (some mb)], mapI mb (es.map PE.ent)] ++ (es.flatMap PE.items ++ F) := rfl
    have e2 : (es.flatMap PE.items ++ (HI.cl tp 72 [.map (some mb)] :: mapI mb (es.map PE.ent) :: F)) = es.flatMap PE.items ++ ([HI.cl tp 72 [.map (some mb)], mapI mb (es.map PE.ent)] ++ F) := rfl
    rw [e1, e2, ← List.append_assoc, ← List.append_assoc]
    exact List.Perm.append_right _ List.perm_append_comm
  exact h2.pack.perm ((List.Perm.swap _ _ _).trans (List.Perm.cons _ (List.Perm.swap _ _ _)))
theorem St.shutT (h : St w0 M (.cl tp 72 [.map (some mb)] :: mapI mb (es.map PE.ent) :: restI es :: F) w) : St w0 M (treeI tp mb es :: F) w := by
  have h1 := (h.perm ((List.Perm.cons _ (List.Perm.swap _ _ _)).trans (List.Perm.swap _ _ _))).unpack
  have h2 : St w0 M (ptree tp mb es ++ F) w := by
    refine h1.perm ?_
    show (es.flatMap PE.items ++ ([HI.cl tp 72 [.map (some mb)], mapI mb (es.map PE.ent)] ++ F)).Perm ([HI.cl tp 72 [.map (some mb)], mapI mb (es.map PE.ent)] ++ (es.flatMap PE.items ++ F))
    rw [← List.append_assoc, ← List.append_assoc]
    exact List.Perm.append_right _ List.perm_append_comm
  exact h2.pack
theorem flat_perm {a b : List PE} (h : a.Perm b) : (a.flatMap PE.items).Perm (b.flatMap PE.items) := h.flatMap_right _
theorem St.openR {e : PE} {x : Int} (hl : lookE es x = some e) (h : St w0 M (restI es :: F) w) : St w0 M (.cl e.bb 69 e.cells :: kidsI e.A e.kids.length e.c e.kids :: restI (delE es x) :: F) w := by
  have h1 := h.unpack
  have h2 : St w0 M ((delE es x).flatMap PE.items ++ (.cl e.bb 69 e.cells :: kidsI e.A e.kids.length e.c e.kids :: F)) w := by
    refine h1.perm ?_
    refine (List.Perm.append_right F (flat_perm (del_perm hl))).trans ?_
    show ([HI.cl e.bb 69 e.cells, kidsI e.A e.kids.length e.c e.kids] ++ (delE es x).flatMap PE.items ++ F).Perm ((delE es x).flatMap PE.items ++ ([HI.cl e.bb 69 e.cells, kidsI e.A e.kids.length e.c e.kids] ++ F))
    rw [← List.append_assoc]
    exact List.Perm.append_right _ List.perm_append_comm
  exact h2.pack.perm ((List.Perm.swap _ _ _).trans (List.Perm.cons _ (List.Perm.swap _ _ _)))
/-- An entry set anew, or one more. -/
theorem St.shutR {e : PE} {es' : List PE} (hp : es'.Perm (e :: es)) (h : St w0 M (.cl e.bb 69 e.cells :: kidsI e.A e.kids.length e.c e.kids :: restI es :: F) w) : St w0 M (restI es' :: F) w := by
  have h1 := (h.perm ((List.Perm.cons _ (List.Perm.swap _ _ _)).trans (List.Perm.swap _ _ _))).unpack
  have h2 : St w0 M (es'.flatMap PE.items ++ F) w := by
    refine h1.perm ?_
    refine List.Perm.trans ?_ (List.Perm.append_right F (flat_perm hp).symm)
    show ((es.flatMap PE.items) ++ ([HI.cl e.bb 69 e.cells, kidsI e.A e.kids.length e.c e.kids] ++ F)).Perm ([HI.cl e.bb 69 e.cells, kidsI e.A e.kids.length e.c e.kids] ++ es.flatMap PE.items ++ F)
    rw [← List.append_assoc]
    exact List.Perm.append_right _ List.perm_append_comm
  exact h2.pack
/-- Opened at box x. -/
theorem St.openB {e : PE} {x : Int} (hl : lookE es x = some e) (h : St w0 M (treeI tp mb es :: F) w) :
    St w0 M (.cl e.bb 69 e.cells :: kidsI e.A e.kids.length e.c e.kids :: .cl tp 72 [.map (some mb)] :: mapI mb (es.map PE.ent) :: restI (delE es x) :: F) w := by
  have h1 := h.openT
  have h2 := St.openR hl (h1.perm (σ' := restI es :: .cl tp 72 [.map (some mb)] :: mapI mb (es.map PE.ent) :: F) ((List.Perm.cons _ (List.Perm.swap _ _ _)).trans (List.Perm.swap _ _ _)))
  refine h2.perm (List.Perm.cons _ (List.Perm.cons _ ?_))
  exact (List.Perm.swap _ _ _).trans (List.Perm.cons _ (List.Perm.swap _ _ _))
theorem St.shutB {e e' : PE} (hl : lookE es e'.id = some e) (hb : e'.bb = e.bb)
    (h : St w0 M (.cl e'.bb 69 e'.cells :: kidsI e'.A e'.kids.length e'.c e'.kids :: .cl tp 72 [.map (some mb)] :: mapI mb (es.map PE.ent) :: restI (delE es e'.id) :: F) w) : St w0 M (treeI tp mb (setE es e') :: F) w := by
  have h1 : St w0 M (.cl e'.bb 69 e'.cells :: kidsI e'.A e'.kids.length e'.c e'.kids :: restI (delE es e'.id) :: .cl tp 72 [.map (some mb)] :: mapI mb (es.map PE.ent) :: F) w := by
    refine h.perm (List.Perm.cons _ (List.Perm.cons _ ?_))
    exact (List.Perm.cons _ (List.Perm.swap _ _ _)).trans (List.Perm.swap _ _ _)
  have h2 := St.shutR (set_perm hl) h1
  refine St.shutT ?_
  rw [ent_set es e e' hl hb]
  exact h2.perm ((List.Perm.swap _ _ _).trans (List.Perm.cons _ (List.Perm.swap _ _ _)))
end
theorem put_new (es : List PE) (x : Int) (v : Value) (h : lookE es x = none) : putM (es.map PE.ent) x v = es.map PE.ent ++ [(x, v)] := by
  induction es with
  | nil => rfl
  | cons a es ih =>
    unfold lookE at h
    split at h
    · cases h
    · rename_i hi
      simp only [List.map_cons, putM, PE.ent, hi, if_false, List.cons_append]
      rw [ih h]
/-- The forest of a layout in which one entry is another one. -/
theorem FoR_set {es : List PE} {e e' : PE} (hl : lookE es e'.id = some e) (y : Int) : FoR (setE es e') y = if y = e'.id then some ⟨e'.up, e'.kids, e'.sty⟩ else FoR es y := by
  unfold FoR
  rw [look_set hl]
  split <;> rfl
theorem FoR_del {es : List PE} (hn : (es.map PE.id).Nodup) (x y : Int) : FoR (delE es x) y = if y = x then none else FoR es y := by
  unfold FoR
  rw [look_del hn]
  split <;> rfl
theorem FoR_some {es : List PE} {x : Int} {e : PE} (h : lookE es x = some e) : FoR es x = some ⟨e.up, e.kids, e.sty⟩ := by simp [FoR, h]
theorem look_of {es : List PE} {x : Int} (h : hasF (FoR es) x = true) : ∃ e, lookE es x = some e := by
  unfold hasF FoR at h
  cases e : lookE es x with
  | none => rw [e] at h; cases h
  | some a => exact ⟨a, rfl⟩
theorem look_none {es : List PE} {x : Int} (h : hasF (FoR es) x = false) : lookE es x = none := by
  unfold hasF FoR at h
  cases e : lookE es x with
  | none => rfl
  | some a => rw [e] at h; cases h
end Go.Proofs.Ytmjdmlgdffoimaa
