/- New, Clone. -/
import Derived.Test.YtmjdmlgdffoimaaTreeMov
import Derived.Test.YtmjdmlgdffoimaaMapR
namespace Go.Proofs.Ytmjdmlgdffoimaa
open Go.RowKit

theorem St.nilB {w0 w : World} {M : Nat → Prop} {F : List HI} (h : St w0 M F w) : St w0 M (restI [] :: F) w := St.pack (τ := []) h
theorem new_rest (bb : Nat) {w0 w : World} {M : Nat → Prop} {F : List HI} {id up : Int} (h : St w0 M (.cl bb 69 (.int .i64 up :: .slice none 0 0 :: zeroS) :: F) w) : St w0 M (restI [newE id bb up] :: F) w := by
  have h1 := (h.nilRow 3 1).perm (σ' := .cl bb 69 (.int .i64 up :: .slice none 0 0 :: zeroS) :: .row 3 1 none 0 0 [] :: F) (List.Perm.cons _ (List.perm_append_comm (l₂ := [HI.row 3 1 none 0 0 []])))
  exact St.pack (τ := [newE id bb up].flatMap PE.items) h1
set_option maxRecDepth 100000 in
theorem new_ct : Ct Try.prog 11 #[] [] (fun _ => True) (X := Nat × Nat × Nat) (fun p => .pointer (some ⟨p.1, 0, none⟩)) (fun _ => True) (fun p => [treeI p.1 p.2.1 [newE 0 p.2.2 (-1)]]) := by
  refine Ct.intro Try.func11 rfl Try.ntmps11 (by simp) (fun w0 _ => ?_)
  refine WP.seq ?_
  refine WP.region ?_
  refine WPL.val (v_assign (v := .pointer none) rfl) ?_
  refine WPL.nil (onto_of ?_)
  refine WP.seq ?_
  refine WP.region ?_
  refine WPL.ef (x_makeMap (σ' := fun _ => [_]) (fun _ => rfl)) (fun mp1 => ?_)
  refine WPL.val (v_struct (us := (.int .i64 (-1) :: .slice none 0 0 :: zeroS)) (pl := [(0, 1), (1, 1), (2, 55)]) Try.underlying69 Try.zeroValue69 rfl (by kernel_rfl) rfl rfl (by kernel_rfl)) ?_
  refine WPL.ef (x_boxA (us := (.int .i64 (-1) :: .slice none 0 0 :: zeroS)) (σ' := fun _ => [_, _]) rfl (fun _ => rfl)) (fun nb => ?_)
  refine WPL.ef0 (x_mapIns (m := []) (u := .pointer (some ⟨nb, 0, none⟩)) (σ' := [_, _]) Try.underlying70 Try.underlying3 rfl rfl rfl (i := 0) rfl rfl) (fun _ => ?_)
  refine WPL.val (v_move (v := .map _) rfl) ?_
  refine WPL.val (v_struct (us := [.map _]) (pl := [(0, 1)]) Try.underlying72 Try.zeroValue72 rfl (by kernel_rfl) rfl rfl (by kernel_rfl)) ?_
  refine WPL.ef (x_boxA (us := [.map _]) (σ' := fun _ => [_, _, _]) rfl (fun _ => rfl)) (fun b6 => ?_)
  refine WPL.val (v_assign (v := .pointer _) rfl) ?_
  refine WPL.nil (onto_of ?_)
  exact WP.ret1 Try.results11 (fun _ h => h) (fun w hw => ⟨(b6, mp1, nb), rfl, trivial, St.shutT (((new_rest nb (id := 0) (hw.sel [1, 2, 0] (by decide)))).perm ((List.Perm.swap _ _ _).trans (List.Perm.cons _ (List.Perm.swap _ _ _))))⟩)
theorem newE_ok (bb : Nat) : FoR [newE 0 bb (-1)] = newF zeroS ∧ LOk [newE 0 bb (-1)] := by
  refine ⟨?_, ⟨fun e he => ?_, by simp⟩⟩
  · funext y
    unfold FoR newF
    by_cases h : y = 0
    · subst h; rfl
    · simp [lookE, newE, h, Ne.symm h]
  · obtain rfl : e = _ := by simpa using he
    exact zeroS_ok
/-! ### A clone -/
def datE (e : PE) : Int × Int × List Int × List Value := (e.id, e.up, e.kids, e.sty)
theorem look_memE {es : List PE} (hk : (es.map PE.id).Nodup) : ∀ {e : PE}, e ∈ es → lookE es e.id = some e := by
  induction es with
  | nil => intro e h; cases h
  | cons a es ih =>
    intro e h
    rw [List.map_cons, List.nodup_cons] at hk
    rcases List.mem_cons.1 h with rfl | h
    · simp [lookE]
    · rw [lookE, if_neg (fun e1 => hk.1 (by rw [e1]; exact List.mem_map.2 ⟨e, h, rfl⟩))]
      exact ih hk.2 h
structure CopyOf (es : List PE) (done : List Nat) (es' : List PE) : Prop where
  ok : LOk es'
  nodup : done.Nodup
  lt : ∀ j ∈ done, j < es.length
  back : ∀ e' ∈ es', ∃ j ∈ done, ∃ e, es[j]? = some e ∧ datE e' = datE e
  there : ∀ j ∈ done, ∀ e, es[j]? = some e → ∃ e' ∈ es', datE e' = datE e
theorem CopyOf.nil (es : List PE) : CopyOf es [] [] := ⟨⟨by simp, by simp⟩, by simp, by simp, by simp, by simp⟩
theorem CopyOf.fresh {es es' : List PE} {done : List Nat} (h : CopyOf es done es') (hk : LOk es) {j : Nat} (hj : j ∉ done) {e : PE} (he : es[j]? = some e) : lookE es' e.id = none := by
  cases hl : lookE es' e.id with
  | none => rfl
  | some e' =>
    obtain ⟨j2, hj2, e2, he2, hd⟩ := h.back e' (lookE_mem hl).1
    have h1 : e2.id = e.id := by rw [← (lookE_mem hl).2]; exact (congrArg (·.1) hd).symm
    have hl1 := (List.getElem?_eq_some_iff.1 he).1
    have hl2 := (List.getElem?_eq_some_iff.1 he2).1
    have h2 : (es.map PE.id)[j2]'(by simpa using hl2) = (es.map PE.id)[j]'(by simpa using hl1) := by
      simp only [List.getElem_map]
      rw [(List.getElem?_eq_some_iff.1 he).2, (List.getElem?_eq_some_iff.1 he2).2, h1]
    have := (List.getElem_inj hk.nodup).1 h2
    exact absurd (this ▸ hj2) hj
theorem CopyOf.step {es es' : List PE} {done : List Nat} (h : CopyOf es done es') (hk : LOk es) {j : Nat} (hj : j < es.length ∧ j ∉ done) {e e' : PE} (he : es[j]? = some e) (hd : datE e' = datE e) : CopyOf es (done ++ [j]) (es' ++ [e']) := by
  have hid : e'.id = e.id := congrArg (·.1) hd
  have hst : e'.sty = e.sty := congrArg (·.2.2.2) hd
  have hno := h.fresh hk hj.2 he
  refine ⟨⟨fun a ha => ?_, ?_⟩, ?_, fun k hk2 => ?_, fun a ha => ?_, fun k hk2 a ha => ?_⟩
  · rcases List.mem_append.1 ha with ha | ha
    · exact h.ok.sty a ha
    · obtain rfl : a = e' := by simpa using ha
      rw [hst]; exact hk.sty e (List.mem_of_getElem? he)
  · rw [List.map_append, List.nodup_append]
    refine ⟨h.ok.nodup, by simp, fun a ha b hb e1 => ?_⟩
    obtain rfl : b = e.id := by simpa [hid] using hb
    subst e1
    have := mem_ids.1 ha
    rw [hasF, FoR, hno] at this
    cases this
  · rw [List.nodup_append]
    refine ⟨h.nodup, by simp, fun a ha b hb e1 => ?_⟩
    obtain rfl : b = j := by simpa using hb
    exact hj.2 (e1 ▸ ha)
  · rcases List.mem_append.1 hk2 with hk2 | hk2
    · exact h.lt k hk2
    · obtain rfl : k = j := by simpa using hk2
      exact hj.1
  · rcases List.mem_append.1 ha with ha | ha
    · obtain ⟨k, h1, h2⟩ := h.back a ha
      exact ⟨k, List.mem_append_left _ h1, h2⟩
    · obtain rfl : a = e' := by simpa using ha
      exact ⟨j, by simp, e, he, hd⟩
  · rcases List.mem_append.1 hk2 with hk2 | hk2
    · obtain ⟨b, h1, h2⟩ := h.there k hk2 a ha
      exact ⟨b, List.mem_append_left _ h1, h2⟩
    · obtain rfl : k = j := by simpa using hk2
      rw [he] at ha; cases ha
      exact ⟨e', by simp, hd⟩
theorem CopyOf.all {es es' : List PE} {done : List Nat} (h : CopyOf es done es') (hk : LOk es) (hall : ∀ j < es.length, j ∈ done) : FoR es' = FoR es := by
  funext y
  unfold FoR
  cases hl : lookE es y with
  | none =>
    cases hl' : lookE es' y with
    | none => rfl
    | some e' =>
      obtain ⟨j, hj, e, he, hd⟩ := h.back e' (lookE_mem hl').1
      have h1 : e.id = y := by rw [← (lookE_mem hl').2]; exact (congrArg (·.1) hd).symm
      have h2 := look_memE hk.nodup (List.mem_of_getElem? he)
      rw [h1, hl] at h2; cases h2
  | some e =>
    obtain ⟨hm, hid⟩ := lookE_mem hl
    obtain ⟨j, hj⟩ := List.getElem?_of_mem hm
    obtain ⟨e', he', hd⟩ := h.there j (hall j (List.getElem?_eq_some_iff.1 hj).1) e hj
    have h2 := look_memE h.ok.nodup he'
    rw [show e'.id = e.id from congrArg (·.1) hd, hid] at h2
    rw [h2]
    simp only [datE, Prod.mk.injEq] at hd
    simp [hd]
theorem nat_len {l : List Nat} {n : Nat} (hn : l.Nodup) (h : ∀ j ∈ l, j < n) : l.length ≤ n := by
  have h1 := nodup_len (l := l.map Int.ofNat) (m := (List.range n).map Int.ofNat) (hn.map _ (fun a b hab e => hab (Int.ofNat.inj e))) (fun x hx => by
    obtain ⟨j, hj, rfl⟩ := List.mem_map.1 hx
    exact List.mem_map.2 ⟨j, List.mem_range.2 (h j hj), rfl⟩)
  simpa using h1
section
variable {w0 w : World} {M : Nat → Prop} {σ F : List HI} {i : Nat} {es : List PE}
theorem St.restAt (h : St w0 M σ w) (hi : σ[i]? = some (restI es)) {e : PE} (he : e ∈ es) (o : Nat) {us : List Value} (hu : (e.cells.drop o).take us.length = us) : CellsAt w e.bb o us :=
  cells_of_cl ((h.all _ (List.mem_of_getElem? hi)).2.1 (.cl e.bb 69 e.cells) (List.mem_flatMap.2 ⟨e, he, by simp [PE.items]⟩)) o hu
theorem St.restSrc (h : St w0 M σ w) (hi : σ[i]? = some (restI es)) {e : PE} (he : e ∈ es) : Src w e.A e.kids.length (e.kids.map (Value.int .i64)) := by
  have h1 : (kidsI e.A e.kids.length e.c e.kids).holds w := (h.all _ (List.mem_of_getElem? hi)).2.1 _ (List.mem_flatMap.2 ⟨e, he, by simp [PE.items]⟩)
  have h2 : St w (foots [kidsI e.A e.kids.length e.c e.kids]) [kidsI e.A e.kids.length e.c e.kids] w := St.start (by simpa using h1) (List.pairwise_singleton _ _)
  exact h2.src_row (i := 0) rfl
theorem St.cloneStep {cm : Nat} {es' : List PE} {e' : PE} (hno : lookE es' e'.id = none) (h : St w0 M (mapI cm (putM (es'.map PE.ent) e'.id (.pointer (some ⟨e'.bb, 0, none⟩))) :: restI es' :: .cl e'.bb 69 e'.cells :: kidsI e'.A e'.kids.length e'.c e'.kids :: F) w) :
    St w0 M (mapI cm ((es' ++ [e']).map PE.ent) :: restI (es' ++ [e']) :: F) w := by
  rw [put_new es' e'.id _ hno] at h
  have h1 := St.shutR (F := mapI cm ((es' ++ [e']).map PE.ent) :: F) (List.perm_append_comm (l₁ := es') (l₂ := [e'])) (h.perm (by
    rw [List.map_append]
    refine (List.Perm.cons _ (List.Perm.swap _ _ _)).trans ?_
    refine (List.Perm.swap _ _ _).trans (List.Perm.cons _ ?_)
    refine (List.Perm.cons _ (List.Perm.swap _ _ _)).trans ?_
    refine (List.Perm.swap _ _ _).trans (List.Perm.cons _ ?_)
    exact List.Perm.swap _ _ _))
  exact h1.perm (List.Perm.swap _ _ _)
end
theorem fill_box (x y a b : Value) (zs s : List Value) (h : zs.length = s.length) : fillL (x :: y :: zs) [(0, [a]), (1, [b]), (2, s)] = a :: b :: s := by
  simp [fillL]
  omega
set_option maxRecDepth 100000 in
set_option maxHeartbeats 2000000 in
theorem cloneT_ct (tp mb : Nat) (es : List PE) (hk : LOk es) {d : Int → Nat} (hF : WF (FoR es) d) : Ct Try.prog 29 #[.pointer (some ⟨tp, 0, none⟩)] [treeI tp mb es] (fun _ => True) (X := Nat × Nat × List PE) (fun p => .pointer (some ⟨p.1, 0, none⟩)) (fun p => FoR p.2.2 = FoR es ∧ LOk p.2.2) (fun p => [treeI tp mb es, treeI p.1 p.2.1 p.2.2]) := by
  refine Ct.intro Try.func29 rfl Try.ntmps29 (by simp) (fun w0 _ => ?_)
  refine WP.seq ?_
  refine WP.region ?_
  refine WPL.val (v_assign (v := .pointer none) rfl) ?_
  refine WPL.nil (onto_of ?_)
  refine WP.seq ?_
  refine WP.region ?_
  refine WPL.ef (x_makeMap (σ' := fun _ => [_, _]) (fun _ => rfl)) (fun mp6 => ?_)
  refine WPL.val (v_struct (us := [.map _]) (pl := [(0, 1)]) Try.underlying72 Try.zeroValue72 rfl (by kernel_rfl) rfl rfl (by kernel_rfl)) ?_
  refine WPL.ef (x_boxA (us := [.map _]) (σ' := fun _ => [_, _, _]) rfl (fun _ => rfl)) (fun b8 => ?_)
  refine WPL.val (v_assign (v := .pointer _) rfl) ?_
  refine WPL.nil (onto_of ?_)
  refine WP.seq ?_
  refine WP.seq ?_
  refine WP.pre ?_ (fun w hw => St.openT (hw.sel [0, 2, 1] (by decide)))
  refine WP.pre ?_ (fun w hw => St.nilB hw)
  
  refine WP.region ?_
  refine WPL.val (v_move (v := .pointer _) rfl) ?_
  refine WPL.val (v_nil rfl) ?_
  refine WPL.val (v_fieldL (o' := 0) Try.underlying72 rfl Try.sizeOf70 rfl rfl) ?_
  refine WPL.val (v_load1 (u := .map _) Try.isAgg70 rfl (fun w hw => hw.cl_at (i := 1) rfl _ rfl)) ?_
  refine WPL.ef (x_range (m := (es.map PE.ent)) (σ'' := fun _ => [_, _, _, _, _, _]) Try.underlying70 rfl (i := 2) rfl (fun _ => rfl)) (fun q13 => ?_)
  refine WPL.nil (onto_of ?_)
  refine WP.block ?_
  refine WP.loopK (X := List Nat × List PE × Nat) [3, 13] (fun p => []) (fun p w => (CopyOf es p.1 p.2.1 ∧ p.1.length + p.2.2 = es.length) ∧ St w0 (foots [treeI tp mb es]) [.cl tp 72 [.map (some mb)], rngI mb q13 (es.map PE.ent) p.1, restI es, .cl b8 72 [.map (some mp6)], mapI mp6 (p.2.1.map PE.ent), restI p.2.1] w) (fun p => p.2.2) ([], [], es.length) trivial (fun w hw => ⟨⟨CopyOf.nil es, by simp⟩, (hw.sel [1, 2, 3, 4, 5, 0] (by decide))⟩) (fun p ρ0 => ?_)
  refine WP.fact (fun ⟨hcp, hlen⟩ => ?_)
  refine WP.seq ?_
  refine WP.region ?_
  refine WPL.ef (x_next (m := (es.map PE.ent)) (done := p.1) (σ'' := fun _ => [_, _, _, _, _, _]) rfl (i := 1) rfl (fun _ => rfl)) (fun o => ?_)
  refine WPL.fact (fun hnx => ?_)
  refine WPL.val (v_isNext (m := (es.map PE.ent)) rfl) ?_
  refine WPL.nil (onto_of ?_)
  refine WP.seq ?_
  refine WP.cond rfl (fun h15 => ?_) (fun h15 => ?_)
  ·
    obtain ⟨j, rfl⟩ : ∃ j, o = some j := Option.isSome_iff_exists.1 h15
    have hj : j < es.length ∧ j ∉ p.1 := by have h : j < (es.map PE.ent).length ∧ j ∉ p.1 := hnx; simpa using h
    obtain ⟨e, hpj⟩ : ∃ e, es[j]? = some e := ⟨_, List.getElem?_eq_getElem hj.1⟩
    have hpe : (es.map PE.ent)[j]? = some e.ent := by rw [List.getElem?_map, hpj]; rfl
    have hm := List.mem_of_getElem? hpj
    have hes := (hk.sty e hm).len
    obtain ⟨done, es', n⟩ := p
    dsimp only [nextD] at *
    have hn1 : 0 < n := by
      have h := nat_len (l := done ++ [j]) (n := es.length) (hcp.step hk hj hpj (e' := e) rfl).nodup (hcp.step hk hj hpj (e' := e) rfl).lt
      simp at h; omega
    refine WP.skip (onto_of ?_)
    refine WP.block ?_
    refine WP.seq ?_
    refine WP.region ?_
    refine WPL.val (v_entry (m := (es.map PE.ent)) (done := done) (j := j) (p := e.ent) rfl (i := 1) rfl hpe) ?_
    refine WPL.val (v_extract (v := .int .i64 e.id) rfl rfl) ?_
    refine WPL.val (v_extract (v := .pointer (some ⟨e.bb, 0, none⟩)) rfl rfl) ?_
    refine WPL.val (v_assign (v := .int .i64 _) rfl) ?_
    refine WPL.val (v_assign (v := .pointer _) rfl) ?_
    refine WPL.nil (onto_of ?_)
    refine WP.drawSel (some 20) [0, 1, 2, 3, 4, 5] [(0, true), (1, true), (2, true), (3, true), (4, true), (5, true), (6, true), (7, true), (8, true), (9, true), (10, true), (11, true), (12, true), (14, true), (15, true), (16, true), (17, true), (13, false), (18, true), (19, false), (20, false)] mixed (by kernel_rfl) (by decide) ?_
    refine WPD.take rfl (v_move (v := .pointer _) rfl) ?_ (fun _ h => h.sel [0, 1, 2, 3, 4, 5] (by decide))
    refine WPD.take rfl (v_nil rfl) ?_ (fun _ h => h.sel [0, 1, 2, 3, 4, 5] (by decide))
    refine WPD.take rfl (v_fieldL (o' := 0) Try.underlying72 rfl Try.sizeOf70 rfl rfl) ?_ (fun _ h => h.sel [0, 1, 2, 3, 4, 5] (by decide))
    refine WPD.take rfl (v_load1 (u := .map _) Try.isAgg70 rfl (fun w hw => hw.cl_at (i := 3) rfl _ rfl)) ?_ (fun _ h => h.sel [0, 1, 2, 3, 4, 5] (by decide))
    refine WPD.take rfl (v_move (v := .int .i64 _) rfl) ?_ (fun _ h => h.sel [0, 1, 2, 3, 4, 5] (by decide))
    refine WPD.take rfl (v_move (v := .pointer _) rfl) ?_ (fun _ h => h.sel [0, 1, 2, 3, 4, 5] (by decide))
    refine WPD.take rfl (v_nil rfl) ?_ (fun _ h => h.sel [0, 1, 2, 3, 4, 5] (by decide))
    refine WPD.take rfl (v_field (off := 0) Try.underlying69 rfl Try.sizeOf3 rfl) ?_ (fun _ h => h.sel [0, 1, 2, 3, 4, 5] (by decide))
    refine WPD.take rfl (v_load1 (u := .int .i64 _) Try.isAgg3 rfl (fun w hw => hw.restAt (i := 2) rfl hm 0 (us := [.int .i64 e.up]) rfl)) ?_ (fun _ h => h.sel [0, 1, 2, 3, 4, 5] (by decide))
    refine WPD.take rfl (v_move (v := .pointer _) rfl) ?_ (fun _ h => h.sel [0, 1, 2, 3, 4, 5] (by decide))
    refine WPD.take rfl (v_nil rfl) ?_ (fun _ h => h.sel [0, 1, 2, 3, 4, 5] (by decide))
    refine WPD.take rfl (v_field (off := 1) Try.underlying69 rfl Try.sizeOf50 rfl) ?_ (fun _ h => h.sel [0, 1, 2, 3, 4, 5] (by decide))
    refine WPD.take rfl (v_load1 (u := .slice _ _ _) Try.isAgg50 rfl (fun w hw => hw.restAt (i := 2) rfl hm 1 (us := [.slice e.A e.kids.length e.c]) rfl)) ?_ (fun _ h => h.sel [0, 1, 2, 3, 4, 5] (by decide))
    refine WPD.take rfl (v_move (v := .pointer _) rfl) ?_ (fun _ h => h.sel [0, 1, 2, 3, 4, 5] (by decide))
    refine WPD.take rfl (v_nil rfl) ?_ (fun _ h => h.sel [0, 1, 2, 3, 4, 5] (by decide))
    refine WPD.take rfl (v_field (off := 2) Try.underlying69 rfl Try.sizeOf43 rfl) ?_ (fun _ h => h.sel [0, 1, 2, 3, 4, 5] (by decide))
    refine WPD.take rfl (v_loadA (cs := e.sty) Try.isAgg43 Try.sizeOf43 rfl (fun w hw => hw.restAt (i := 2) rfl hm 2 (by show List.take _ e.sty = _; exact List.take_of_length_le (Nat.le_refl _))) hes) ?_ (fun _ h => h.sel [0, 1, 2, 3, 4, 5] (by decide))
    refine WPD.ef rfl (x_call Try.call39 (clone_ct e.A e.c e.kids (by have := hF.kids_le (FoR_some (look_memE hk.nodup hm)); simp only at this; omega)) [] [0, 1, 2, 3, 4, 5] rfl (fun w hw => hw.restSrc (i := 2) rfl hm) (τ := fun _ => [_, _, _, _, _, _, _]) (fun _ => rfl)) (fun _ _ _ h => h.2.sel [0, 1, 2, 3, 4, 5] (by decide)) (fun ⟨A32, c32⟩ => ?_)
    refine WPD.fact (fun _ => ?_)
    refine WPD.take rfl (v_struct (us := (.int .i64 e.up :: .slice A32 e.kids.length c32 :: e.sty)) (pl := [(0, 1), (1, 1), (2, 55)]) Try.underlying69 Try.zeroValue69 rfl (by kernel_rfl) (by show fitsB _ _ [(0, 1), (1, 1), (2, e.sty.toArray.size)] = true; rw [List.size_toArray, hes]; kernel_rfl) (fill_box _ _ _ _ zeroS e.sty (by rw [hes]; rfl)) (by kernel_rfl)) ?_ (fun _ h => h.sel [0, 1, 2, 3, 4, 5] (by decide))
    refine WPD.ef rfl (x_boxA (us := (.int .i64 e.up :: .slice A32 e.kids.length c32 :: e.sty)) (σ' := fun _ => [_, _, _, _, _, _, _, _]) rfl (fun _ => rfl)) (fun _ _ _ h => h.sel [0, 1, 2, 3, 4, 5] (by decide)) (fun nb => ?_)
    refine WPD.ef0 rfl (x_mapPut (m := es'.map PE.ent) (k := e.id) (u := .pointer (some ⟨nb, 0, none⟩)) (σ' := [_, _, _, _, _, _, _, _]) Try.underlying70 Try.underlying3 rfl rfl rfl (i := 4) rfl rfl) (fun h => absurd rfl h) (fun _ => ?_)
    exact WPD.nil fun w hw => ⟨rfl, (done ++ [j], es' ++ [⟨e.id, nb, A32, c32, e.up, e.kids, e.sty⟩], n - 1), (by simp only; omega), ⟨(via (.pointer _) rfl rfl), rfl, trivial⟩, ⟨⟨hcp.step hk hj hpj rfl, by simp only [List.length_append, List.length_singleton]; omega⟩, (St.cloneStep (F := [.cl tp 72 [.map (some mb)], rngI mb q13 (es.map PE.ent) (done ++ [j]), restI es, .cl b8 72 [.map (some mp6)]]) (e' := ⟨e.id, nb, A32, c32, e.up, e.kids, e.sty⟩) (show lookE es' e.id = none from hcp.fresh hk hj.2 hpj) (hw.sel [4, 5, 7, 6, 0, 1, 2, 3] (by decide))).sel [2, 3, 4, 5, 0, 1] (by decide)⟩⟩
  ·
    have ho : o = none := Option.isNone_iff_eq_none.1 (by simpa using h15)
    subst ho
    have hall : ∀ j < es.length, j ∈ p.1 := by have h : ∀ j < (es.map PE.ent).length, j ∈ p.1 := hnx; simpa using h
    refine WP.exit (onto_of ?_)
    refine WP.seq ?_
    refine WP.region ?_
    refine WPL.val (v_move (v := .pointer _) rfl) ?_
    refine WPL.val (v_assign (v := .pointer _) rfl) ?_
    refine WPL.nil (onto_of ?_)
    exact WP.ret1 Try.results29 (fun _ h => h) (fun w hw => ⟨(b8, mp6, p.2.1), rfl, ⟨hcp.all hk hall, hcp.ok⟩, St.shutT ((St.shutT ((St.rngEnd (hw.sel [1, 0, 2, 3, 4, 5] (by decide))).sel [3, 4, 5, 1, 0, 2] (by decide))).sel [1, 2, 3, 0] (by decide))⟩)
end Go.Proofs.Ytmjdmlgdffoimaa
