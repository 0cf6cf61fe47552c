/- What turns a tree: Remove, Move. -/
import Derived.Test.YtmjdmlgdffoimaaTreeAdd
namespace Go.Proofs.Ytmjdmlgdffoimaa
open Go.RowKit

theorem del_none : ∀ {es : List PE} {x : Int}, lookE es x = none → delE es x = es
  | [], _, _ => rfl
  | a :: es, x, h => by
    unfold lookE at h
    unfold delE
    split at h
    · cases h
    · rename_i hi; rw [if_neg hi, del_none h]
theorem St.shutDel {w0 w : World} {M : Nat → Prop} {tp mb : Nat} {es : List PE} {F : List HI} {x : Int} (h : St w0 M (.cl tp 72 [.map (some mb)] :: mapI mb (delM (es.map PE.ent) x) :: restI es :: F) w) : St w0 M (treeI tp mb (delE es x) :: F) w := by
  rw [← ent_del] at h
  refine St.shutT ?_
  cases hl : lookE es x with
  | none => rw [del_none hl] at h ⊢; exact h
  | some e =>
    have h1 := St.openR hl (h.perm (σ' := restI es :: .cl tp 72 [.map (some mb)] :: mapI mb ((delE es x).map PE.ent) :: F) ((List.Perm.cons _ (List.Perm.swap _ _ _)).trans (List.Perm.swap _ _ _)))
    have h2 := h1.sub (σ' := restI (delE es x) :: .cl tp 72 [.map (some mb)] :: mapI mb ((delE es x).map PE.ent) :: F) ((List.sublist_cons_self _ _).trans (List.sublist_cons_self _ _))
    exact h2.perm ((List.Perm.swap _ _ _).trans (List.Perm.cons _ (List.Perm.swap _ _ _)))
def delL (es : List PE) (l : List Int) : List PE := l.foldl delE es
theorem delL_snoc (es : List PE) {l : List Int} {k : Nat} {x : Int} (h : l[k]? = some x) : delL es (l.take (k + 1)) = delE (delL es (l.take k)) x := by
  rw [take_snoc h]; simp [delL]
theorem delL_look : ∀ (l : List Int) {es : List PE} (_ : LOk es) (y : Int), LOk (delL es l) ∧ lookE (delL es l) y = if y ∈ l then none else lookE es y
  | [], _, h, y => ⟨h, by simp [delL]⟩
  | x :: l, es, h, y => by
    obtain ⟨h1, h2⟩ := delL_look l (h.del x) y
    refine ⟨h1, ?_⟩
    show lookE (delL (delE es x) l) y = _
    rw [h2, look_del h.nodup]
    by_cases hx : y = x <;> by_cases hy : y ∈ l <;> simp [hx, hy]
theorem look_cut {es : List PE} {up : Int} {pe : PE} (hp : lookE es up = some pe) (id y : Int) : lookE (setE es (cutE pe id)) y = if y = up then some (cutE pe id) else lookE es y := by
  have hi := (lookE_mem hp).2
  rw [look_set (e := pe) (e' := cutE pe id) (by show lookE es pe.id = some pe; rw [hi]; exact hp)]
  show (if y = pe.id then _ else _) = _
  rw [hi]
theorem LOk.cut {es : List PE} (hk : LOk es) {up : Int} {pe : PE} (hp : lookE es up = some pe) (id : Int) : LOk (setE es (cutE pe id)) := by
  have hi := (lookE_mem hp).2
  exact hk.set (e := pe) (e' := cutE pe id) (by show lookE es pe.id = some pe; rw [hi]; exact hp) (hk.sty pe (lookE_mem hp).1)
theorem LOk.put {es : List PE} (hk : LOk es) {x : Int} {e : PE} (hl : lookE es x = some e) {bb c : Nat} {A : Option Addr} {up : Int} {l : List Int} : LOk (setE es ⟨e.id, bb, A, c, up, l, e.sty⟩) :=
  hk.set (e := e) (by show lookE es e.id = some e; rw [(lookE_mem hl).2]; exact hl) (hk.sty e (lookE_mem hl).1)
/-- The box that one is in. -/
theorem WF.parent {es : List PE} {d : Int → Nat} (hF : WF (FoR es) d) {id : Int} {e : PE} (he : lookE es id = some e) (h0 : id ≠ 0) : ∃ pe, lookE es e.up = some pe ∧ id ∈ pe.kids ∧ pe.kids.Nodup ∧ id ≠ e.up := by
  obtain ⟨u, h1, h2⟩ := hF.par id _ (FoR_some he) h0
  obtain ⟨pe, hp⟩ := look_of (has_some h1)
  have h3 := FoR_some hp
  rw [h1] at h3; cases h3
  refine ⟨pe, hp, h2, hF.nodup _ _ h1, fun e1 => ?_⟩
  have := hF.rank id _ (FoR_some he) h0
  rw [← show id = (⟨e.up, e.kids, e.sty⟩ : TBox (List Value)).up from e1] at this
  omega
theorem FoR_rem {es : List PE} (hk : LOk es) {id : Int} {e pe : PE} (he : lookE es id = some e) (hp : lookE es e.up = some pe) : FoR (delL (setE es (cutE pe id)) (sub (FoR es) id)) = remG (FoR es) id := by
  funext y
  unfold remG
  rw [FoR, (delL_look _ (hk.cut hp id) y).2]
  split
  · rfl
  · rw [look_cut hp, up_some (FoR_some he)]
    show Option.map _ (if y = e.up then _ else _) = Option.map (fun b => if y = e.up then _ else b) _
    by_cases hy : y = e.up
    · subst hy; rw [if_pos rfl, FoR_some hp]; simp [cutE]
    · rw [if_neg hy]; simp only [if_neg hy, FoR]; cases lookE es y <;> rfl
theorem FoR_mov {es : List PE} {id up : Int} {e pe u b : PE} (he : lookE es id = some e) (hp : lookE es e.up = some pe) (hu : lookE es up = some u) (h1 : id ≠ up) (h2 : id ≠ e.up) (hb : lookE (setE es (cutE pe id)) up = some b) {A : Option Addr} {c k : Nat} :
    lookE (setE (setE es (cutE pe id)) ⟨b.id, b.bb, A, c, b.up, insAt b.kids k id, b.sty⟩) id = some e ∧ FoR (setE (setE (setE es (cutE pe id)) ⟨b.id, b.bb, A, c, b.up, insAt b.kids k id, b.sty⟩) ⟨e.id, e.bb, e.A, e.c, up, e.kids, e.sty⟩) = movG (FoR es) id up k := by
  have hbi := (lookE_mem hb).2
  have hei := (lookE_mem he).2
  have hl2 : ∀ y, lookE (setE (setE es (cutE pe id)) ⟨b.id, b.bb, A, c, b.up, insAt b.kids k id, b.sty⟩) y = if y = up then some ⟨b.id, b.bb, A, c, b.up, insAt b.kids k id, b.sty⟩ else lookE (setE es (cutE pe id)) y := fun y => by
    rw [look_set (e := b) (by show lookE _ b.id = _; rw [hbi]; exact hb)]
    show (if y = b.id then _ else _) = _
    rw [hbi]
  have hid : lookE (setE (setE es (cutE pe id)) ⟨b.id, b.bb, A, c, b.up, insAt b.kids k id, b.sty⟩) id = some e := by rw [hl2, if_neg h1, look_cut hp, if_neg h2, he]
  refine ⟨hid, ?_⟩
  funext y
  rw [FoR_set (e := e) (by show lookE _ e.id = _; rw [hei]; exact hid)]
  show (if y = e.id then _ else _) = _
  rw [hei]
  unfold movG
  rw [up_some (FoR_some he)]
  show (if y = id then _ else FoR _ y) = Option.map (fun c : TBox (List Value) => (⟨if y = id then up else c.up, if y = up then insAt (if y = e.up then cutK c.kids id else c.kids) k id else if y = e.up then cutK c.kids id else c.kids, c.sty⟩ : TBox (List Value))) _
  by_cases hy : y = id
  · rw [if_pos hy, hy, FoR_some he]
    simp [h1, h2]
  · rw [if_neg hy, FoR, hl2]
    by_cases hyu : y = up
    · subst hyu
      rw [FoR_some hu]
      rw [look_cut hp] at hb
      by_cases hye : y = e.up
      · rw [if_pos hye] at hb
        obtain rfl : cutE pe id = b := Option.some.inj hb
        rw [← hye, hu] at hp; cases hp
        simp [hye, cutE]
        intro h; exact absurd h.symm h2
      · rw [if_neg hye, hu] at hb; cases hb
        simp [hye, hy]
    · rw [if_neg hyu, look_cut hp]
      by_cases hye : y = e.up
      · rw [if_pos hye, hye, FoR_some hp]
        rw [hye] at hyu hy
        simp [hyu, hy, cutE]
      · rw [if_neg hye]
        simp only [hyu, hye, hy, FoR, if_false]
        cases lookE es y <;> rfl
theorem depth_bd (F : Forest (List Value)) (x : Int) : -1 ≤ depthF F x ∧ depthF F x ≤ 63 := by
  have := chain_le F 64 x
  unfold depthF; omega
theorem deep_bd (F : Forest (List Value)) (x : Int) : 0 ≤ deepF F x ∧ deepF F x ≤ 63 := ⟨(foldl_max_ge (depthF F) (sub F x) 0).1, foldl_max_le (depthF F) 63 (sub F x) 0 (by omega) fun y _ => (depth_bd F y).2⟩
set_option maxRecDepth 100000 in
set_option maxHeartbeats 2000000 in
theorem remove_ct (tp mb : Nat) (es : List PE) (hk : LOk es) {d : Int → Nat} (hF : WF (FoR es) d) (id : Int) :
    Ct Try.prog 30 #[.pointer (some ⟨tp, 0, none⟩), .int .i64 id] [treeI tp mb es] (fun _ => True) (X := List PE) (fun _ => .tuple #[.int .i64 (remR (FoR es) id).2.1, .int .i64 (remR (FoR es) id).2.2]) (fun es' => FoR es' = (remR (FoR es) id).1 ∧ LOk es') (fun es' => [treeI tp mb es']) := by
  have hsl := hF.len_le id
  refine Ct.intro Try.func30 rfl Try.ntmps30 (by simp) (fun w0 _ => ?_)
  refine WP.seq ?_
  refine WP.region ?_
  refine WPL.val (v_assign (v := .int .i64 (0)) rfl) ?_
  refine WPL.val (v_assign (v := .int .i64 (0)) rfl) ?_
  refine WPL.nil (onto_of ?_)
  refine WP.seq ?_
  refine WP.block ?_
  refine WP.seq ?_
  refine WP.region ?_
  refine WPL.val (v_move (v := .pointer _) rfl) ?_
  refine WPL.val (v_move (v := .int .i64 _) rfl) ?_
  refine WPL.ef (x_call Try.call14 (has_ct tp mb es id) [0] [] rfl (fun w hw => trivial) (τ := fun _ => [_]) (fun _ => rfl)) (fun _ => ?_)
  refine WPL.fact (fun _ => ?_)
  refine WPL.val (v_not rfl) ?_
  refine WPL.val (v_assign (v := .bool _) rfl) ?_
  refine WPL.nil (onto_of ?_)
  refine WP.cond rfl (fun h9 => ?_) (fun h9 => ?_)
  ·
    have hr : remR (FoR es) id = (FoR es, 0, 2) := by simp only [Bool.not_eq_true'] at h9; simp [remR, h9]
    refine WP.seq ?_
    refine WP.region ?_
    refine WPL.val (v_assign (v := .int .i64 (0)) rfl) ?_
    refine WPL.val (v_assign (v := .int .i64 (2)) rfl) ?_
    refine WPL.nil (onto_of ?_)
    exact WP.ret2 Try.results30 (fun _ h => h) (fun w hw => ⟨es, by rw [hr]; rfl, ⟨by rw [hr], hk⟩, (hw.sel [0] (by decide))⟩)
  ·
    refine WP.seq ?_
    refine WP.region ?_
    refine WPL.val (v_move (v := .int .i64 _) rfl) ?_
    refine WPL.val (v_eql rfl rfl) ?_
    refine WPL.val (v_assign (v := .bool _) rfl) ?_
    refine WPL.nil (onto_of ?_)
    refine WP.condP rfl (fun h14 => ?_) (fun h14 => ?_)
    ·
      have hr : remR (FoR es) id = (FoR es, 0, 1) := by simp only [Bool.not_eq_false'] at h9; rw [remR, if_neg (by simp [h9]), if_pos h14]
      refine WP.seq ?_
      refine WP.region ?_
      refine WPL.val (v_assign (v := .int .i64 (0)) rfl) ?_
      refine WPL.val (v_assign (v := .int .i64 (1)) rfl) ?_
      refine WPL.nil (onto_of ?_)
      exact WP.ret2 Try.results30 (fun _ h => h) (fun w hw => ⟨es, by rw [hr]; rfl, ⟨by rw [hr], hk⟩, (hw.sel [0] (by decide))⟩)
    ·
      simp only [Bool.not_eq_false'] at h9
      have hr : remR (FoR es) id = (remG (FoR es) id, ((sub (FoR es) id).length : Int), 0) := by simp [remR, h9, h14]
      obtain ⟨e, he⟩ := look_of h9
      obtain ⟨pe, hp, hm, hn, _⟩ := hF.parent he h14
      refine WP.skip (onto_of ?_)
      refine WP.seq ?_
      refine WP.region ?_
      refine WPL.val (v_move (v := .pointer _) rfl) ?_
      refine WPL.val (v_move (v := .int .i64 _) rfl) ?_
      refine WPL.ef (x_call Try.call41 (inside_ct tp id) [] [0] rfl (fun w hw => trivial) (τ := fun _ => [_, _, _]) (fun _ => rfl)) (fun ⟨m2, m3⟩ => ?_)
      refine WPL.fact (fun _ => ?_)
      refine WPL.ef (x_call Try.call40 (collectT_ct tp mb es hk hF id m2 m3) [0, 1, 2] [] rfl (fun w hw => trivial) (τ := fun _ => [_, _, _, _]) (fun _ => rfl)) (fun ⟨cA, cc⟩ => ?_)
      refine WPL.fact (fun _ => ?_)
      refine WPL.val (v_assign (v := .slice _ _ _) rfl) ?_
      refine WPL.nil (onto_of ?_)
      refine WP.seq ?_
      refine WP.region ?_
      refine WPL.val (v_move (v := .pointer _) rfl) ?_
      refine WPL.val (v_move (v := .int .i64 _) rfl) ?_
      refine WPL.ef (x_call Try.call42 (cut_ct tp mb es hk id he hp hm hn (by have := hF.kids_len hp; omega)) [0] [1, 2, 3] rfl (fun w hw => trivial) (τ := fun _ => [_, _, _, _]) (fun _ => rfl)) (fun _ => ?_)
      refine WPL.fact (fun _ => ?_)
      refine WPL.nil (onto_of ?_)
      refine WP.seq ?_
      refine WP.seq ?_
      refine WP.region ?_
      refine WPL.val (v_move (v := .slice _ _ _) rfl) ?_
      refine WPL.val (v_len Try.underlying50 rfl) ?_
      refine WPL.val (v_move (v := .int .i64 (0)) rfl) ?_
      refine WPL.nil (onto_of ?_)
      refine WP.block ?_
      refine WP.loopK (X := Nat) [0, 6, 24, 25] (fun k => [(26, .int .i64 (k : Int))]) (fun k w => k ≤ (sub (FoR es) id).length ∧ St w0 (foots [treeI tp mb es]) [treeI tp mb (delL (setE es (cutE pe id)) ((sub (FoR es) id).take k)), kidsI cA (sub (FoR es) id).length cc (sub (FoR es) id)] w) (fun k => (sub (FoR es) id).length - k) 0 ⟨rfl, trivial⟩ (fun w hw => ⟨Nat.zero_le _, (hw.sel [3, 2] (by decide))⟩) (fun k ρ0 => ?_)
      refine WP.fact (fun hk2 => ?_)
      refine WP.seq ?_
      refine WP.region ?_
      refine WPL.val (v_lss rfl rfl) ?_
      refine WPL.nil (onto_of ?_)
      refine WP.seq ?_
      refine WP.condP rfl (fun h27 => ?_) (fun h27 => ?_)
      ·
        obtain ⟨x, hx⟩ : ∃ x, (sub (FoR es) id)[k]? = some x := ⟨_, List.getElem?_eq_getElem (by omega)⟩
        refine WP.holds (fun w hw => hw.row_pos (i := 1) rfl (by omega)) (fun ⟨rb, hA⟩ => ?_)
        subst hA
        refine WP.skip (onto_of ?_)
        refine WP.seq ?_
        refine WP.block ?_
        refine WP.seq ?_
        refine WP.region ?_
        refine WPL.val (v_index (j := k) Try.underlying50 Try.sizeOf3 rfl rfl (by omega) (by omega)) ?_
        refine WPL.val (v_load1 (u := .int .i64 _) Try.isAgg3 rfl (fun w hw => hw.row_at1 (i := 1) rfl (by rw [List.getElem?_map, hx]; rfl) (by omega))) ?_
        refine WPL.val (v_assign (v := .int .i64 _) rfl) ?_
        refine WPL.nil (onto_of ?_)
        refine WP.pre ?_ (fun w hw => St.openT (hw.sel [0, 1] (by decide)))
        
        refine WP.region ?_
        refine WPL.val (v_move (v := .pointer _) rfl) ?_
        refine WPL.val (v_nil rfl) ?_
        refine WPL.val (v_fieldL (o' := 0) Try.underlying72 rfl Try.sizeOf70 rfl rfl) ?_
        refine WPL.val (v_load1 (u := .map _) Try.isAgg70 rfl (fun w hw => hw.cl_at (i := 0) rfl _ rfl)) ?_
        refine WPL.val (v_move (v := .int .i64 _) rfl) ?_
        refine WPL.ef0 (x_mapDel (m := (delL (setE es (cutE pe id)) ((sub (FoR es) id).take k)).map PE.ent) (k := x) (σ' := [_, _, _, _]) Try.underlying70 Try.underlying3 rfl rfl (i := 1) rfl rfl) (fun _ => ?_)
        refine WPL.nil (onto_of ?_)
        refine WP.region ?_
        refine WPL.val (v_add rfl rfl (by omega)) ?_
        refine WPL.val (v_move (v := .int .i64 _) rfl) ?_
        exact WPL.nil fun w hw => ⟨rfl, k + 1, (by omega), ⟨rfl, (via (.pointer _) rfl rfl), (via (.slice _ _ _) rfl rfl), (via (.slice _ _ _) rfl rfl), (via (.int .i64 _) rfl rfl), trivial⟩, ⟨by omega, by rw [delL_snoc _ hx]; exact St.shutDel (hw.sel [0, 1, 2, 3] (by decide))⟩⟩
      ·
        have hkk : k = (sub (FoR es) id).length := by omega
        refine WP.exit (onto_of ?_)
        refine WP.seq ?_
        refine WP.region ?_
        refine WPL.val (v_move (v := .slice _ _ _) rfl) ?_
        refine WPL.val (v_len Try.underlying50 rfl) ?_
        refine WPL.val (v_assign (v := .int .i64 _) rfl) ?_
        refine WPL.val (v_assign (v := .int .i64 (0)) rfl) ?_
        refine WPL.nil (onto_of ?_)
        exact WP.ret2 Try.results30 (fun _ h => h) (fun w hw => ⟨delL (setE es (cutE pe id)) (sub (FoR es) id), by rw [hr]; rfl, ⟨by rw [hr]; exact FoR_rem hk he hp, (delL_look _ (hk.cut hp id) 0).1⟩, by have h := (hw.sel [0] (by decide)); rw [hkk, List.take_of_length_le (Nat.le_refl _)] at h; exact h⟩)
set_option maxRecDepth 100000 in
set_option maxHeartbeats 2000000 in
theorem move_ct (tp mb : Nat) (es : List PE) (hk : LOk es) {d : Int → Nat} (hF : WF (FoR es) d) (id up at_ : Int) :
    Ct Try.prog 31 #[.pointer (some ⟨tp, 0, none⟩), .int .i64 id, .int .i64 up, .int .i64 at_] [treeI tp mb es] (fun _ => True) (X := List PE) (fun _ => .int .i64 (movR (FoR es) id up at_).2) (fun es' => FoR es' = (movR (FoR es) id up at_).1 ∧ LOk es') (fun es' => [treeI tp mb es']) := by
  have hsl := hF.len_le id
  refine Ct.intro Try.func31 rfl Try.ntmps31 (by simp) (fun w0 _ => ?_)
  refine WP.seq ?_
  refine WP.region ?_
  refine WPL.val (v_assign (v := .int .i64 (0)) rfl) ?_
  refine WPL.nil (onto_of ?_)
  refine WP.seq ?_
  refine WP.seq ?_
  refine WP.region ?_
  refine WPL.val (v_move (v := .pointer _) rfl) ?_
  refine WPL.val (v_move (v := .int .i64 _) rfl) ?_
  refine WPL.ef (x_call Try.call14 (has_ct tp mb es id) [0] [] rfl (fun w hw => trivial) (τ := fun _ => [_]) (fun _ => rfl)) (fun _ => ?_)
  refine WPL.fact (fun _ => ?_)
  refine WPL.val (v_not rfl) ?_
  refine WPL.val (v_move (v := .bool _) rfl) ?_
  refine WPL.splitB 15 rfl (fun h15 => ?_) (fun h15 => ?_)
  ·
    refine WPL.skipG ?_
    refine WPL.skipG ?_
    refine WPL.skipG ?_
    refine WPL.skipG ?_
    refine WPL.val (v_pickT (u := .bool _) rfl rfl) ?_
    refine WPL.nil (onto_of ?_)
    have hr : movR (FoR es) id up at_ = (FoR es, 2) := by simp only [Bool.not_eq_true'] at h15; simp [movR, h15]
    refine WP.condT rfl ?_
    refine WP.seq ?_
    refine WP.region ?_
    refine WPL.val (v_assign (v := .int .i64 (2)) rfl) ?_
    refine WPL.nil (onto_of ?_)
    exact WP.ret1 Try.results31 (fun _ h => h) (fun w hw => ⟨es, congrArg (Value.int .i64) (by rw [hr]), ⟨by rw [hr], hk⟩, (hw.sel [0] (by decide))⟩)
  ·
    refine WPL.valG (v_move (v := .pointer _) rfl) ?_
    refine WPL.valG (v_move (v := .int .i64 _) rfl) ?_
    refine WPL.efG (x_call Try.call14 (has_ct tp mb es up) [0] [] rfl (fun w hw => trivial) (τ := fun _ => [_]) (fun _ => rfl)) (fun _ => ?_)
    refine WPL.fact (fun _ => ?_)
    refine WPL.valG (v_not rfl) ?_
    refine WPL.val (v_pickF (v := .bool _) rfl rfl) ?_
    refine WPL.nil (onto_of ?_)
    refine WP.cond rfl (fun h20 => ?_) (fun h20 => ?_)
    ·
      have hr : movR (FoR es) id up at_ = (FoR es, 2) := by simp only [Bool.not_eq_true'] at h20; simp [movR, h20]
      refine WP.seq ?_
      refine WP.region ?_
      refine WPL.val (v_assign (v := .int .i64 (2)) rfl) ?_
      refine WPL.nil (onto_of ?_)
      exact WP.ret1 Try.results31 (fun _ h => h) (fun w hw => ⟨es, congrArg (Value.int .i64) (by rw [hr]), ⟨by rw [hr], hk⟩, (hw.sel [0] (by decide))⟩)
    ·
      simp only [Bool.not_eq_false'] at h15 h20
      have hid := h15
      have hup := h20
      obtain ⟨e, he⟩ := look_of hid
      obtain ⟨u, hu⟩ := look_of hup
      have hke : kidsF (FoR es) up = u.kids := kids_some (FoR_some hu)
      have hkb : (kidsF (FoR es) up).length ≤ 4096 := by rw [hke]; exact hF.kids_len hu
      have hb1 := depth_bd (FoR es) id
      have hb2 := depth_bd (FoR es) up
      have hb3 := deep_bd (FoR es) id
      refine WP.skip (onto_of ?_)
      refine WP.seq ?_
      refine WP.region ?_
      refine WPL.val (v_move (v := .pointer _) rfl) ?_
      refine WPL.val (v_move (v := .int .i64 _) rfl) ?_
      refine WPL.ef (x_call Try.call38 (of_ct tp mb es hk up) [0] [] rfl (fun w hw => trivial) (τ := fun _ => [_]) (fun _ => rfl)) (fun _ => ?_)
      refine WPL.fact (fun _ => ?_)
      refine WPL.val (v_part (u := .slice _ _ _) Try.underlying69 rfl Try.isAgg50 rfl rfl) ?_
      refine WPL.val (v_len Try.underlying50 rfl) ?_
      refine WPL.val (v_assign (v := .int .i64 _) rfl) ?_
      refine WPL.nil (onto_of ?_)
      refine WP.midS [0, 1, 2, 3] [(9, .int .i64 (mostF (FoR es) id up))] ?_ (fun ρ0 => ?_)
      ·
        refine WP.seq ?_
        refine WP.region ?_
        refine WPL.val (v_move (v := .pointer _) rfl) ?_
        refine WPL.val (v_move (v := .int .i64 _) rfl) ?_
        refine WPL.ef (x_call Try.call16 (up_ct tp mb es hk id) [0] [] rfl (fun w hw => trivial) (τ := fun _ => [_]) (fun _ => rfl)) (fun _ => ?_)
        refine WPL.fact (fun _ => ?_)
        refine WPL.val (v_move (v := .int .i64 _) rfl) ?_
        refine WPL.val (v_eql rfl rfl) ?_
        refine WPL.nil (onto_of ?_)
        refine WP.condP rfl (fun h30 => ?_) (fun h30 => ?_)
        ·
          refine WP.region ?_
          refine WPL.val (v_move (v := .int .i64 _) rfl) ?_
          refine WPL.val (v_sub rfl rfl (by omega)) ?_
          refine WPL.val (v_assign (v := .int .i64 _) rfl) ?_
          exact WPL.nil fun w hw => ⟨rfl, ⟨(congrArg (Value.int .i64) (by unfold mostF; split <;> omega)), (via (.pointer _) rfl rfl), (via (.int .i64 _) rfl rfl), (via (.int .i64 _) rfl rfl), (via (.int .i64 _) rfl rfl), trivial⟩, hw⟩
        ·
          exact WP.skip fun w hw => ⟨rfl, ⟨(congrArg (Value.int .i64) (by unfold mostF; split <;> omega)), (via (.pointer _) rfl rfl), (via (.int .i64 _) rfl rfl), (via (.int .i64 _) rfl rfl), (via (.int .i64 _) rfl rfl), trivial⟩, hw⟩
      ·
        refine WP.seq ?_
        refine WP.block ?_
        refine WP.seq ?_
        refine WP.region ?_
        refine WPL.val (v_move (v := .int .i64 _) rfl) ?_
        refine WPL.val (v_eql rfl rfl) ?_
        refine WPL.val (v_assign (v := .bool _) rfl) ?_
        refine WPL.nil (onto_of ?_)
        refine WP.condP rfl (fun h33 => ?_) (fun h33 => ?_)
        ·
          have hr : movR (FoR es) id up at_ = (FoR es, 1) := by rw [movR, if_neg (by simp [hid, hup]), if_pos h33]
          refine WP.seq ?_
          refine WP.region ?_
          refine WPL.val (v_assign (v := .int .i64 (1)) rfl) ?_
          refine WPL.nil (onto_of ?_)
          exact WP.ret1 Try.results31 (fun _ h => h) (fun w hw => ⟨es, congrArg (Value.int .i64) (by rw [hr]), ⟨by rw [hr], hk⟩, (hw.sel [0] (by decide))⟩)
        ·
          refine WP.seq ?_
          refine WP.region ?_
          refine WPL.val (v_move (v := .pointer _) rfl) ?_
          refine WPL.val (v_move (v := .int .i64 _) rfl) ?_
          refine WPL.ef (x_call Try.call41 (inside_ct tp id) [] [0] rfl (fun w hw => trivial) (τ := fun _ => [_, _, _]) (fun _ => rfl)) (fun ⟨m2, m3⟩ => ?_)
          refine WPL.fact (fun _ => ?_)
          refine WPL.ef (x_call Try.call40 (collectT_ct tp mb es hk hF id m2 m3) [0, 1, 2] [] rfl (fun w hw => trivial) (τ := fun _ => [_, _, _, _]) (fun _ => rfl)) (fun ⟨cA, cc⟩ => ?_)
          refine WPL.fact (fun _ => ?_)
          refine WPL.val (v_move (v := .int .i64 _) rfl) ?_
          refine WPL.ef (x_call Try.call43 (contains_ct cA cc (sub (FoR es) id) up (by omega)) [3] [0, 1, 2] rfl (fun w hw => trivial) (τ := fun _ => [_, _, _, _]) (fun _ => rfl)) (fun _ => ?_)
          refine WPL.fact (fun _ => ?_)
          refine WPL.val (v_assign (v := .bool _) rfl) ?_
          refine WPL.nil (onto_of ?_)
          refine WP.condP rfl (fun h36 => ?_) (fun h36 => ?_)
          ·
            have hr : movR (FoR es) id up at_ = (FoR es, 3) := by rw [movR, if_neg (by simp [hid, hup]), if_neg h33, if_pos h36]
            refine WP.seq ?_
            refine WP.region ?_
            refine WPL.val (v_assign (v := .int .i64 (3)) rfl) ?_
            refine WPL.nil (onto_of ?_)
            exact WP.ret1 Try.results31 (fun _ h => h) (fun w hw => ⟨es, congrArg (Value.int .i64) (by rw [hr]), ⟨by rw [hr], hk⟩, (hw.sel [0] (by decide))⟩)
          ·
            refine WP.seq ?_
            refine WP.region ?_
            refine WPL.val (v_move (v := .int .i64 _) rfl) ?_
            refine WPL.val (v_lss rfl rfl) ?_
            refine WPL.val (v_move (v := .bool _) rfl) ?_
            refine WPL.split 46 rfl (fun h46 => ?_) (fun h46 => ?_)
            ·
              refine WPL.skipG ?_
              refine WPL.skipG ?_
              refine WPL.skipG ?_
              refine WPL.val (v_pickT (u := .bool _) rfl rfl) ?_
              refine WPL.val (v_assign (v := .bool _) rfl) ?_
              refine WPL.nil (onto_of ?_)
              have hr : movR (FoR es) id up at_ = (FoR es, 1) := by rw [movR, if_neg (by simp [hid, hup]), if_neg h33, if_neg h36, if_pos (by omega)]
              refine WP.condT rfl ?_
              refine WP.seq ?_
              refine WP.region ?_
              refine WPL.val (v_assign (v := .int .i64 (1)) rfl) ?_
              refine WPL.nil (onto_of ?_)
              exact WP.ret1 Try.results31 (fun _ h => h) (fun w hw => ⟨es, congrArg (Value.int .i64) (by rw [hr]), ⟨by rw [hr], hk⟩, (hw.sel [0] (by decide))⟩)
            ·
              refine WPL.valG (v_move (v := .int .i64 _) rfl) ?_
              refine WPL.valG (v_move (v := .int .i64 _) rfl) ?_
              refine WPL.valG (v_gtr rfl rfl) ?_
              refine WPL.val (v_pickF (v := .bool _) rfl rfl) ?_
              refine WPL.val (v_assign (v := .bool _) rfl) ?_
              refine WPL.nil (onto_of ?_)
              refine WP.condP rfl (fun h43 => ?_) (fun h43 => ?_)
              ·
                have hr : movR (FoR es) id up at_ = (FoR es, 1) := by rw [movR, if_neg (by simp [hid, hup]), if_neg h33, if_neg h36, if_pos (by omega)]
                refine WP.seq ?_
                refine WP.region ?_
                refine WPL.val (v_assign (v := .int .i64 (1)) rfl) ?_
                refine WPL.nil (onto_of ?_)
                exact WP.ret1 Try.results31 (fun _ h => h) (fun w hw => ⟨es, congrArg (Value.int .i64) (by rw [hr]), ⟨by rw [hr], hk⟩, (hw.sel [0] (by decide))⟩)
              ·
                refine WP.seq ?_
                refine WP.region ?_
                refine WPL.val (v_move (v := .pointer _) rfl) ?_
                refine WPL.val (v_move (v := .int .i64 _) rfl) ?_
                refine WPL.ef (x_call Try.call18 (depth_ct tp mb es hk hF up) [0] [1, 2, 3] rfl (fun w hw => trivial) (τ := fun _ => [_, _, _, _]) (fun _ => rfl)) (fun _ => ?_)
                refine WPL.fact (fun _ => ?_)
                refine WPL.val (v_add rfl rfl (by omega)) ?_
                refine WPL.val (v_move (v := .pointer _) rfl) ?_
                refine WPL.val (v_move (v := .int .i64 _) rfl) ?_
                refine WPL.ef (x_call Try.call44 (deep_ct tp mb es hk hF id) [3] [0, 1, 2] rfl (fun w hw => trivial) (τ := fun _ => [_, _, _, _]) (fun _ => rfl)) (fun _ => ?_)
                refine WPL.fact (fun _ => ?_)
                refine WPL.val (v_add rfl rfl (by omega)) ?_
                refine WPL.val (v_move (v := .pointer _) rfl) ?_
                refine WPL.val (v_move (v := .int .i64 _) rfl) ?_
                refine WPL.ef (x_call Try.call18 (depth_ct tp mb es hk hF id) [3] [0, 1, 2] rfl (fun w hw => trivial) (τ := fun _ => [_, _, _, _]) (fun _ => rfl)) (fun _ => ?_)
                refine WPL.fact (fun _ => ?_)
                refine WPL.val (v_sub rfl rfl (by omega)) ?_
                refine WPL.val (v_geq rfl rfl) ?_
                refine WPL.val (v_assign (v := .bool _) rfl) ?_
                refine WPL.nil (onto_of ?_)
                refine WP.condP rfl (fun h51 => ?_) (fun h51 => ?_)
                ·
                  have hr : movR (FoR es) id up at_ = (FoR es, 5) := by rw [movR, if_neg (by simp [hid, hup]), if_neg h33, if_neg h36, if_neg (by omega), if_pos (by omega)]
                  refine WP.seq ?_
                  refine WP.region ?_
                  refine WPL.val (v_assign (v := .int .i64 (5)) rfl) ?_
                  refine WPL.nil (onto_of ?_)
                  exact WP.ret1 Try.results31 (fun _ h => h) (fun w hw => ⟨es, congrArg (Value.int .i64) (by rw [hr]), ⟨by rw [hr], hk⟩, (hw.sel [3] (by decide))⟩)
                ·
                  have hr : movR (FoR es) id up at_ = (movG (FoR es) id up at_.toNat, 0) := by rw [movR, if_neg (by simp [hid, hup]), if_neg h33, if_neg h36, if_neg (by omega), if_neg (by omega)]
                  obtain ⟨pe, hp, hm, hn, hie⟩ := hF.parent he h33
                  have hiu : id ≠ up := fun e1 => h36 (by rw [← e1]; exact hF.mem_sub.2 (Anc.refl hid))
                  obtain ⟨k, rfl⟩ : ∃ k : Nat, at_ = k := ⟨at_.toNat, by omega⟩
                  rw [Int.toNat_natCast] at hr
                  obtain ⟨b, hb, hbl⟩ : ∃ b, lookE (setE es (cutE pe id)) up = some b ∧ (b.kids.length : Int) = mostF (FoR es) id up := by
                    rw [look_cut hp, mostF, hke, up_some (FoR_some he)]
                    by_cases h : up = e.up
                    · rw [if_pos h, if_pos h.symm]
                      rw [← h, hu] at hp; cases hp
                      have := cutK_len hn hm
                      exact ⟨_, rfl, by show ((cutK u.kids id).length : Int) = _; omega⟩
                    · rw [if_neg h, if_neg (fun e => h e.symm), hu]
                      exact ⟨_, rfl, by show _ = _ - (0 : Int); omega⟩
                  have hkl : k ≤ b.kids.length := by omega
                  have hbk : b.kids.length ≤ 4096 := by
                    have h1 := hF.kids_len hu
                    rw [mostF, hke] at hbl
                    split at hbl <;> omega
                  refine WP.skip (onto_of ?_)
                  refine WP.seq ?_
                  refine WP.region ?_
                  refine WPL.val (v_move (v := .pointer _) rfl) ?_
                  refine WPL.val (v_move (v := .int .i64 _) rfl) ?_
                  refine WPL.ef (x_call Try.call42 (cut_ct tp mb es hk id he hp hm hn (by have := hF.kids_len hp; omega)) [3] [0, 1, 2] rfl (fun w hw => trivial) (τ := fun _ => [_, _, _, _]) (fun _ => rfl)) (fun _ => ?_)
                  refine WPL.fact (fun _ => ?_)
                  refine WPL.nil (onto_of ?_)
                  refine WP.seq ?_
                  refine WP.region ?_
                  refine WPL.val (v_move (v := .pointer _) rfl) ?_
                  refine WPL.val (v_nil rfl) ?_
                  refine WPL.val (v_field (off := 0) Try.underlying72 rfl Try.sizeOf70 rfl) ?_
                  refine WPL.val (v_load1 (u := .map _) Try.isAgg70 rfl (fun w hw => hw.treeRoot (i := 3) rfl)) ?_
                  refine WPL.val (v_move (v := .int .i64 _) rfl) ?_
                  refine WPL.val (v_lookT (es := (setE es (cutE pe id))) (i := 3) rfl Try.underlying70 Try.underlying3 Try.zeroValue67 rfl rfl) ?_
                  refine WPL.val (v_assign (v := .pointer _) rfl) ?_
                  refine WPL.nil (onto_of ?_)
                  refine WP.seq ?_
                  refine WP.pre ?_ (fun w hw => St.openB hb (hw.sel [3, 0, 1, 2] (by decide)))
                  rw [ptr_some hb]
                  
                  refine WP.region ?_
                  refine WPL.val (v_move (v := .pointer _) rfl) ?_
                  refine WPL.val (v_move (v := .pointer _) rfl) ?_
                  refine WPL.val (v_nil rfl) ?_
                  refine WPL.val (v_fieldL (o' := 1) Try.underlying69 rfl Try.sizeOf50 rfl rfl) ?_
                  refine WPL.val (v_load1 (u := .slice _ _ _) Try.isAgg50 rfl (fun w hw => hw.cl_at (i := 0) rfl _ rfl)) ?_
                  refine WPL.val (v_move (v := .int .i64 _) rfl) ?_
                  refine WPL.val (v_move (v := .int .i64 _) rfl) ?_
                  refine WPL.ef (x_buildSlice (us := [.int .i64 _]) (σ' := fun _ => [_, _, _, _, _, _, _, _, _]) Try.underlying50 Try.sizeOf3 Try.zeroValue3 rfl rfl rfl (by decide) (by decide) (fun _ => rfl)) (fun g81 => ?_)
                  refine WPL.ef (x_call Try.call45 (insert_ct b.A b.c b.kids k hkl g81 id (by omega)) [1, 8] [0, 2, 3, 4, 5, 6, 7] rfl (fun w hw => trivial) (τ := fun _ => [_, _, _, _, _, _, _, _]) (fun _ => rfl)) (fun ⟨A82, c82⟩ => ?_)
                  refine WPL.fact (fun _ => ?_)
                  refine WPL.val (v_nil rfl) ?_
                  refine WPL.val (v_fieldL (o' := 1) Try.underlying69 rfl Try.sizeOf50 rfl rfl) ?_
                  refine WPL.ef0 (x_store (u := .slice _ _ _) (σ' := [_, _, _, _, _, _, _, _]) Try.sizeOf50 rfl rfl (i := 0) rfl (Nat.lt_of_lt_of_le (Nat.lt_succ_self _) (Nat.le_of_ble_eq_true rfl)) rfl) (fun _ => ?_)
                  refine WPL.nil (onto_of ?_)
                  refine WP.seq ?_
                  refine WP.pre ?_ (fun w hw => St.openB (FoR_mov he hp hu hiu hie hb (k := k)).1 (St.shutK hb (insAt_len hkl).symm (hw.sel [0, 7, 1, 2, 3] (by decide))))
                  
                  refine WP.region ?_
                  refine WPL.val (v_move (v := .pointer _) rfl) ?_
                  refine WPL.val (v_nil rfl) ?_
                  refine WPL.val (v_fieldL (o' := 0) Try.underlying72 rfl Try.sizeOf70 rfl rfl) ?_
                  refine WPL.val (v_load1 (u := .map _) Try.isAgg70 rfl (fun w hw => hw.cl_at (i := 2) rfl _ rfl)) ?_
                  refine WPL.val (v_move (v := .int .i64 _) rfl) ?_
                  refine WPL.val (v_lookO (es := _) (FoR_mov he hp hu hiu hie hb).1 (i := 3) rfl Try.underlying70 Try.underlying3 Try.zeroValue67 rfl rfl) ?_
                  refine WPL.val (v_move (v := .int .i64 _) rfl) ?_
                  refine WPL.val (v_nil rfl) ?_
                  refine WPL.val (v_fieldL (o' := 0) Try.underlying69 rfl Try.sizeOf3 rfl rfl) ?_
                  refine WPL.ef0 (x_store (u := .int .i64 _) (σ' := [_, _, _, _, _]) Try.sizeOf3 rfl rfl (i := 0) rfl (Nat.lt_of_lt_of_le (Nat.lt_succ_self _) (Nat.le_of_ble_eq_true rfl)) rfl) (fun _ => ?_)
                  refine WPL.nil (onto_of ?_)
                  refine WP.seq ?_
                  refine WP.region ?_
                  refine WPL.val (v_assign (v := .int .i64 (0)) rfl) ?_
                  refine WPL.nil (onto_of ?_)
                  exact WP.ret1 Try.results31 (fun _ h => h) (fun w hw => ⟨setE (setE (setE es (cutE pe id)) ⟨b.id, b.bb, A82, c82, b.up, insAt b.kids k id, b.sty⟩) ⟨e.id, e.bb, e.A, e.c, up, e.kids, e.sty⟩, congrArg (Value.int .i64) (by rw [hr]), ⟨by rw [hr]; exact (FoR_mov he hp hu hiu hie hb).2, ((hk.cut hp id).put hb).put (FoR_mov he hp hu hiu hie hb).1⟩, St.shutK (FoR_mov he hp hu hiu hie hb).1 rfl (hw.sel [0, 1, 2, 3, 4] (by decide))⟩)
end Go.Proofs.Ytmjdmlgdffoimaa
