/- A tree's boxes, told one by one: inside; Order. -/
import Derived.Test.YtmjdmlgdffoimaaTreeSeq
namespace Go.Proofs.Ytmjdmlgdffoimaa
open Go.RowKit

abbrev tpI (b tp : Nat) : HI := .cl b 24 [.pointer (some ⟨tp, 0, none⟩)]
abbrev idI (b : Nat) (x : Int) : HI := .cl b 3 [.int .i64 x]
theorem inside_ct (tp : Nat) (x : Int) : Ct Try.prog 41 #[.pointer (some ⟨tp, 0, none⟩), .int .i64 x] [] (fun _ => True) (X := Nat × Nat) (fun p => .func (.func 53) #[] #[.pointer (some ⟨p.1, 0, none⟩), .pointer (some ⟨p.2, 0, none⟩)]) (fun _ => True) (fun p => [tpI p.1 tp, idI p.2 x]) := by
  refine Ct.intro Try.func41 rfl Try.ntmps41 (by simp) (fun w0 _ => ?_)
  refine WP.seq ?_
  refine WP.region ?_
  refine WPL.ef (x_box1 (u := .pointer _) (σ' := fun _ => [_]) rfl (fun _ => rfl)) (fun b2 => ?_)
  refine WPL.ef (x_box1 (u := .int .i64 _) (σ' := fun _ => [_, _]) rfl (fun _ => rfl)) (fun b3 => ?_)
  refine WPL.val (v_assign rfl) ?_
  refine WPL.nil (onto_of ?_)
  refine WP.seq ?_
  refine WP.region ?_
  refine WPL.val (v_func) ?_
  refine WPL.val (v_assign rfl) ?_
  refine WPL.nil (onto_of ?_)
  exact WP.ret1 Try.results41 (fun _ h => h) (fun w hw => ⟨(b2, b3), rfl, trivial, hw⟩)
section
variable {S : Type} (F : Forest S)
def posK (kids : List Int) (i : Nat) : Nat := 1 + ((kids.take i).flatMap (sub F)).length
theorem posK_succ {kids : List Int} {i : Nat} {kid : Int} (h : kids[i]? = some kid) : posK F kids (i + 1) = posK F kids i + (sub F kid).length := by
  unfold posK
  rw [take_snoc h, List.flatMap_append, List.length_append]
  simp; omega
theorem pos_at {kids : List Int} {i k : Nat} {kid x id : Int} (h : kids[i]? = some kid) (hx : (sub F kid)[k]? = some x) : (id :: kids.flatMap (sub F))[posK F kids i + k]? = some x := by
  have hk := (List.getElem?_eq_some_iff.1 h).1
  have e : kids = kids.take i ++ kid :: kids.drop (i + 1) := by
    have h1 := List.take_append_drop i kids
    rw [List.drop_eq_getElem_cons hk, (List.getElem?_eq_some_iff.1 h).2] at h1
    exact h1.symm
  have h2 : kids.flatMap (sub F) = (kids.take i).flatMap (sub F) ++ (sub F kid ++ (kids.drop (i + 1)).flatMap (sub F)) := by
    conv => lhs; rw [e]
    rw [List.flatMap_append, List.flatMap_cons]
  have h3 : posK F kids i + k = (((kids.take i).flatMap (sub F)).length + k) + 1 := by unfold posK; omega
  rw [h3, List.getElem?_cons_succ, h2, List.getElem?_append_right (by omega), Nat.add_sub_cancel_left, List.getElem?_append_left (List.getElem?_eq_some_iff.1 hx).1]
  exact hx
theorem posK_all (id : Int) (kids : List Int) : posK F kids kids.length = (id :: kids.flatMap (sub F)).length := by
  unfold posK
  rw [List.take_of_length_le (Nat.le_refl _)]; simp; omega
theorem WF.kids_le {S : Type} {F : Forest S} {d : Int → Nat} (hF : WF F d) {x : Int} {b : TBox S} (hx : F x = some b) : b.kids.length ≤ 4096 := by
  have h := nodup_len (l := b.kids) (m := (List.range 4096).map fun n : Nat => (n : Int)) (hF.nodup x b hx) fun y hy => by
    obtain ⟨_, c, hc, _⟩ := hF.kid x b hx y hy
    have := hF.range y c hc
    exact List.mem_map.2 ⟨y.toNat, List.mem_range.2 (by omega), by omega⟩
  simpa using h
theorem isLeft_of {Z Y : Type} {o : Z ⊕ Y} (h : (!o.isLeft) = false) : ∃ z, o = .inl z := by cases o with | inl z => exact ⟨z, rfl⟩ | inr y => cases h
theorem isRight_of {Z Y : Type} {o : Z ⊕ Y} (h : (!o.isLeft) = true) : ∃ y, o = .inr y := by cases o with | inr y => exact ⟨y, rfl⟩ | inl z => cases h
end

set_option maxRecDepth 100000 in
set_option maxHeartbeats 1000000 in
theorem inside_step (tp mb : Nat) (es : List PE) (hk : LOk es) {d : Int → Nat} (hF : WF (FoR es) d) (id : Int) (n2 n3 : Nat)
    (ih : ∀ kid m2 m3, kid ∈ kidsF (FoR es) id → IterOK Try.prog 53 [] [.pointer (some ⟨m2, 0, none⟩), .pointer (some ⟨m3, 0, none⟩)] [treeI tp mb es, tpI m2 tp, idI m3 kid] intA (sub (FoR es) kid)) :
    IterOK Try.prog 53 [] [.pointer (some ⟨n2, 0, none⟩), .pointer (some ⟨n3, 0, none⟩)] [treeI tp mb es, tpI n2 tp, idI n3 id] intA (sub (FoR es) id) := by
  intro l Z Y H J Inv hy z0 hz0
  refine Ct.intro Try.func53 rfl Try.ntmps53 (by simp) (fun w0 _ => ?_)
  refine WP.seq ?_
  refine WP.region ?_
  refine WPL.ef (x_box1 (u := _) (σ' := fun _ => [_, _, _, _, _]) rfl (fun _ => rfl)) (fun b3 => ?_)
  refine WPL.nil (onto_of ?_)
  refine WP.seq ?_
  refine WP.seq ?_
  refine WP.region ?_
  refine WPL.val (v_load1 (u := .pointer _) Try.isAgg24 rfl (fun w hw => hw.cl_at (i := 1) rfl _ rfl)) ?_
  refine WPL.val (v_load1 (u := .int .i64 _) Try.isAgg3 rfl (fun w hw => hw.cl_at (i := 2) rfl _ rfl)) ?_
  refine WPL.ef (x_call Try.call14 (has_ct tp mb es id) [0] [1, 2, 3, 4] rfl (fun w hw => trivial) (τ := fun _ => [_, _, _, _, _]) (fun _ => rfl)) (fun _ => ?_)
  refine WPL.fact (fun _ => ?_)
  refine WPL.val (v_not rfl) ?_
  refine WPL.val (v_move (v := .bool _) rfl) ?_
  refine WPL.splitB 11 rfl (fun h11 => ?_) (fun h11 => ?_)
  ·
    refine WPL.skipG ?_
    refine WPL.skipG ?_
    refine WPL.skipG ?_
    refine WPL.skipG ?_
    refine WPL.val (v_pickT (u := .bool _) rfl rfl) ?_
    refine WPL.nil (onto_of ?_)
    have hnil : sub (FoR es) id = [] := sub_none (none_has (by simpa using h11))
    refine WP.condT rfl ?_
    exact WP.ret0 Try.results53 (fun _ h => h) (fun w hw => ⟨.inl z0, rfl, ⟨fun z e => (by cases e; rw [hnil]; exact hz0), fun p e => (by cases e)⟩, (by rw [hnil]; exact (hw.sel [4, 0, 1, 2] (by decide)))⟩)
  ·
    obtain ⟨e, he⟩ : ∃ e, lookE es id = some e := by have h := (show hasF (FoR es) id = true by simpa using h11); unfold hasF FoR at h; cases h2 : lookE es id with | none => rw [h2] at h; cases h | some e => exact ⟨e, rfl⟩
    have hFe : FoR es id = some ⟨e.up, e.kids, e.sty⟩ := by simp [FoR, he]
    have hsub : sub (FoR es) id = id :: e.kids.flatMap (sub (FoR es)) := hF.sub_eq hFe
    have hke : kidsF (FoR es) id = e.kids := kids_some hFe
    have hkl : (kidsF (FoR es) id).length = e.kids.length := by rw [hke]
    have hkb : e.kids.length ≤ 4096 := hF.kids_le hFe
    refine WPL.valG (v_load1 (u := _) Try.isAgg46 rfl (fun w hw => hw.cl_at (i := 3) rfl _ rfl)) ?_
    refine WPL.valG (v_load1 (u := .int .i64 _) Try.isAgg3 rfl (fun w hw => hw.cl_at (i := 1) rfl _ rfl)) ?_
    refine WPL.efG (x_yieldC (hy 0 id z0 (by rw [hsub]; rfl) hz0) [4, 0, 1, 2] [3] rfl (τ := fun _ => [_, _, _, _, _]) (fun _ => rfl)) (fun o => ?_)
    refine WPL.fact (fun hf => ?_)
    refine WPL.valG (v_not rfl) ?_
    refine WPL.val (v_pickF (v := .bool _) rfl rfl) ?_
    refine WPL.nil (onto_of ?_)
    refine WP.cond rfl (fun h16 => ?_) (fun h16 => ?_)
    ·
      obtain ⟨y, rfl⟩ := isRight_of h16
      exact WP.ret0 Try.results53 (fun _ h => h) (fun w hw => ⟨.inr (0, y), rfl, ⟨fun z e => (by cases e), fun p e => (by cases e; rw [hsub]; exact Nat.succ_pos _)⟩, (hw.sel [1, 2, 3, 4] (by decide))⟩)
    ·
      obtain ⟨zz, rfl⟩ := isLeft_of h16
      refine WP.skip (onto_of ?_)
      refine WP.seq ?_
      refine WP.region ?_
      refine WPL.val (v_load1 (u := .pointer _) Try.isAgg24 rfl (fun w hw => hw.cl_at (i := 2) rfl _ rfl)) ?_
      refine WPL.val (v_load1 (u := .int .i64 _) Try.isAgg3 rfl (fun w hw => hw.cl_at (i := 3) rfl _ rfl)) ?_
      refine WPL.ef (x_call Try.call38 (of_ct tp mb es hk id) [1] [0, 2, 3, 4] rfl (fun w hw => trivial) (τ := fun _ => [_, _, _, _, _]) (fun _ => rfl)) (fun _ => ?_)
      refine WPL.fact (fun _ => ?_)
      refine WPL.val (v_part (u := .slice _ _ _) Try.underlying69 rfl Try.isAgg50 rfl rfl) ?_
      refine WPL.val (v_len Try.underlying50 rfl) ?_
      refine WPL.val (v_move (v := .int .i64 (0)) rfl) ?_
      refine WPL.nil (onto_of ?_)
      refine WP.block ?_
      refine WP.loopD (X := Nat × Z × List Nat) [1, 3, 20, 21, 29] (fun p => [(22, .int .i64 (p.1 : Int))]) (fun p w => (p.1 ≤ e.kids.length ∧ Inv (posK (FoR es) e.kids p.1) p.2.1) ∧ St w0 (foots ([treeI tp mb es, tpI n2 tp, idI n3 id] ++ [H 0 z0])) [marksI p.2.2, treeI tp mb es, tpI n2 tp, idI n3 id, .cl b3 46 [.func (.yield l) #[] #[]], H (posK (FoR es) e.kids p.1) p.2.1] w) (fun p => p.2.2.map mark) (fun p => e.kids.length - p.1) (0, zz, []) ⟨rfl, trivial⟩ rfl (fun w hw => ⟨⟨Nat.zero_le _, hf zz rfl⟩, St.noMarks (hw.sel [4, 1, 2, 0, 3] (by decide))⟩) (fun p ρ0 => ?_)
      obtain ⟨i, z, Ds⟩ := p
      dsimp only
      refine WP.fact (fun ⟨hile, hinv⟩ => ?_)
      refine WP.seq ?_
      refine WP.region ?_
      refine WPL.val (v_lss rfl rfl) ?_
      refine WPL.nil (onto_of ?_)
      refine WP.seq ?_
      refine WP.condP rfl (fun h23 => ?_) (fun h23 => ?_)
      ·
        have hi : i < e.kids.length := by omega
        obtain ⟨kid, hkid⟩ : ∃ kid, e.kids[i]? = some kid := ⟨_, List.getElem?_eq_getElem hi⟩
        have hkid' : (kidsF (FoR es) id)[i]? = some kid := by rw [hke]; exact hkid
        refine WP.holds (p := ∃ b o, kA es id = some ⟨b, o, none⟩) (fun w hw => by obtain ⟨b, o, e1, _⟩ := (hw.treeKidsOf (i := 1) rfl id).1 i kid hkid'; exact ⟨b, o, e1⟩) (fun ⟨kb, ko, hka⟩ => ?_)
        rw [hka]
        refine WP.skip (onto_of ?_)
        refine WP.seq ?_
        refine WP.block ?_
        refine WP.seq ?_
        refine WP.region ?_
        refine WPL.val (v_index Try.underlying50 Try.sizeOf3 rfl rfl rfl (by omega)) ?_
        refine WPL.val (v_load1 (u := .int .i64 _) Try.isAgg3 rfl (fun w hw => by obtain ⟨b1, o1, e1, hc⟩ := (hw.treeKidsOf (i := 1) rfl id).1 i kid hkid'; rw [hka] at e1; cases e1; exact hc)) ?_
        refine WPL.val (v_assign (v := .int .i64 _) rfl) ?_
        refine WPL.nil (onto_of ?_)
        refine WP.seq ?_
        refine WP.region ?_
        refine WPL.val (v_load1 (u := .pointer _) Try.isAgg24 rfl (fun w hw => hw.cl_at (i := 2) rfl _ rfl)) ?_
        refine WPL.val (v_move (v := .int .i64 _) rfl) ?_
        refine WPL.ef (x_call Try.call41 (inside_ct tp kid) [] [0, 1, 2, 3, 4, 5] rfl (fun w hw => trivial) (τ := fun _ => [_, _, _, _, _, _, _, _]) (fun _ => rfl)) (fun ⟨m2, m3⟩ => ?_)
        refine WPL.fact (fun _ => ?_)
        refine WPL.nil (onto_of ?_)
        refine WP.block ?_
        refine WP.pre ?_ (fun w hw => (hw.sel [1, 6, 7, 5, 2, 3, 4, 0] (by decide)))
        refine WP.rangeIter (gf := 53) (first := []) (cap := [.pointer (some ⟨m2, 0, none⟩), .pointer (some ⟨m3, 0, none⟩)]) rfl Try.call53 (ih kid m2 m3 (by rw [hke]; exact List.mem_of_getElem? hkid)) (Z := Z) (own := fun k z => [H (posK (FoR es) e.kids i + k) z, tpI n2 tp, idI n3 id, .cl b3 46 [.func (.yield l) #[] #[]], marksI Ds]) (Inv := fun k z => Inv (posK (FoR es) e.kids i + k) z) z hinv (List.Perm.refl _) (fun _ => rfl) (by decide) (Y := (Nat × Y)) (fun c _ y => c = .ret ∧ y.1 < (sub (FoR es) id).length) (fun y => [J y.1 y.2, tpI n2 tp, idI n3 id, .cl b3 46 [.func (.yield l) #[] #[]], marksI Ds]) ?_ ?_ ?_
        · intro lk l2 D2 k x z1 hx hz w1 M1
          refine WP.region ?_
          refine WPL.val (v_assign (v := .int .i64 _) rfl) ?_
          refine WPL.nil (begun_of (i := 0) rfl ?_)
          refine WP.block ?_
          refine WP.seq ?_
          refine WP.region ?_
          refine WPL.val (v_load1 (u := _) Try.isAgg46 rfl (fun w hw => hw.cl_at (i := 9) rfl _ rfl)) ?_
          refine WPL.val (v_move (v := .int .i64 _) rfl) ?_
          refine WPL.ef (x_yieldC (hy (posK (FoR es) e.kids i + k) x z1 (by rw [hsub]; exact pos_at (FoR es) hkid hx) hz) [3, 7, 8, 6] [0, 1, 2, 4, 5, 9, 10] rfl (τ := fun _ => [_, _, _, _, _, _, _, _, _, _, _]) (fun _ => rfl)) (fun o => ?_)
          refine WPL.fact (fun hf => ?_)
          refine WPL.val (v_not rfl) ?_
          refine WPL.nil (onto_of ?_)
          refine WP.cond rfl (fun h33 => ?_) (fun h33 => ?_)
          ·
            obtain ⟨y, rfl⟩ := isRight_of h33
            have hlt : posK (FoR es) e.kids i + k < (sub (FoR es) id).length := by rw [hsub]; exact (List.getElem?_eq_some_iff.1 (pos_at (id := id) (FoR es) hkid hx)).1
            exact WP.ret (fun w hw => RoundQ.jump (i := 0) (.inl ⟨rfl, rfl⟩) rfl hw (fun w2 hw2 => .inr ⟨_, (posK (FoR es) e.kids i + k, y), rfl, ⟨rfl, hlt⟩, (hw2.sel [0, 1, 2, 7, 3, 4, 10, 8, 9, 5, 6] (by decide))⟩))
          ·
            obtain ⟨z2, rfl⟩ := isLeft_of h33
            exact WP.skip (fun w hw => RoundQ.normal (i := 0) rfl hw (fun w2 hw2 => .inl ⟨z2, rfl, (hf z2 rfl), (hw2.sel [0, 1, 2, 7, 3, 4, 10, 8, 9, 5, 6] (by decide))⟩))
        · intro D z3 hz
          refine fin_id (onto_of ?_)
          refine WP.region ?_
          refine WPL.val (v_add rfl rfl (by omega)) ?_
          refine WPL.val (v_move (v := .int .i64 _) rfl) ?_
          exact WPL.nil fun w hw => ⟨(i + 1, z3, D :: Ds), (by simp only; omega), rfl, ⟨rfl, rfl, rfl, (via (.slice _ _ _) rfl rfl), (via (.int .i64 _) rfl rfl), rfl, trivial⟩, ⟨⟨by simp only; omega, by simp only; rw [posK_succ (FoR es) hkid]; exact hz⟩, by simp only; rw [posK_succ (FoR es) hkid]; exact St.mark (hw.sel [7, 8, 0, 4, 5, 6, 3] (by decide))⟩⟩
        · intro D c k y hf hk2
          obtain ⟨rfl, hlt⟩ := hf
          obtain ⟨yk, yy⟩ := y
          exact WP.retM (D :: Ds) (τ := [treeI tp mb es, tpI n2 tp, idI n3 id, J yk yy]) (fun w hw => St.unmark (St.mark (hw.sel [7, 8, 0, 4, 5, 3] (by decide)))) (fun _ h => h) (fun w hw => RetQ.of0 Try.results53 (.inl rfl) ⟨.inr (yk, yy), rfl, ⟨fun z e => (by cases e), fun p e => (by cases e; exact hlt)⟩, hw⟩)
      ·
        have hi : i = e.kids.length := by omega
        exact WP.exit fun w hw => RetQ.marksE Ds (.inr rfl) (St.unmark (hw.sel [0, 1, 2, 3, 5] (by decide))) (fun w hw => RetQ.of0 Try.results53 (.inl rfl) ⟨.inl z, rfl, ⟨fun z9 e9 => (by cases e9; rw [hsub, ← posK_all (FoR es), ← hi]; exact hinv), fun p e => (by cases e)⟩, (by rw [show (sub (FoR es) id).length = posK (FoR es) e.kids i from by rw [hsub, ← posK_all (FoR es), ← hi]]; exact hw)⟩)
theorem inside_iter (tp mb : Nat) (es : List PE) (hk : LOk es) {d : Int → Nat} (hF : WF (FoR es) d) : ∀ (n : Nat) (id : Int) (n2 n3 : Nat), 64 ≤ n + d id →
    IterOK Try.prog 53 [] [.pointer (some ⟨n2, 0, none⟩), .pointer (some ⟨n3, 0, none⟩)] [treeI tp mb es, tpI n2 tp, idI n3 id] intA (sub (FoR es) id)
  | 0, id, n2, n3, hn => inside_step tp mb es hk hF id n2 n3 fun kid m2 m3 hm => by
    cases e : FoR es id with
    | none => simp [kidsF, e] at hm
    | some b => have := hF.deep id b e; omega
  | n + 1, id, n2, n3, hn => inside_step tp mb es hk hF id n2 n3 fun kid m2 m3 hm => by
    cases e : FoR es id with
    | none => simp [kidsF, e] at hm
    | some b =>
      rw [kids_some e] at hm
      have := hF.kid_rank e hm
      exact inside_iter tp mb es hk hF n kid m2 m3 (by omega)
theorem inside_pack (tp mb : Nat) (es : List PE) (hk : LOk es) {d : Int → Nat} (hF : WF (FoR es) d) (id : Int) (n2 n3 : Nat) :
    IterOK Try.prog 53 [] [.pointer (some ⟨n2, 0, none⟩), .pointer (some ⟨n3, 0, none⟩)] [bundle [treeI tp mb es, tpI n2 tp, idI n3 id]] intA (sub (FoR es) id) :=
  (inside_iter tp mb es hk hF 64 id n2 n3 (by omega)).pack
theorem WF.len_le {F : Forest (List Value)} {d : Int → Nat} (hF : WF F d) (x : Int) : (sub F x).length ≤ 4096 := by
  have h := nodup_len (l := sub F x) (m := (List.range 4096).map fun n : Nat => (n : Int)) (hF.sub_nodup x) fun y hy => by
    obtain ⟨b, hb⟩ := some_has (sub_has hy)
    have := hF.range y b hb
    exact List.mem_map.2 ⟨y.toNat, List.mem_range.2 (by omega), by omega⟩
  simpa using h
/-- slices.Collect(t.inside(id)). -/
theorem collectT_ct (tp mb : Nat) (es : List PE) (hk : LOk es) {d : Int → Nat} (hF : WF (FoR es) d) (id : Int) (n2 n3 : Nat) :
    Ct Try.prog 40 #[.func (.func 53) #[] #[.pointer (some ⟨n2, 0, none⟩), .pointer (some ⟨n3, 0, none⟩)]] [treeI tp mb es, tpI n2 tp, idI n3 id] (fun _ => True) (X := Option Addr × Nat) (fun p => .slice p.1 (sub (FoR es) id).length p.2) (fun _ => True)
      (fun p => [treeI tp mb es, tpI n2 tp, idI n3 id, kidsI p.1 (sub (FoR es) id).length p.2 (sub (FoR es) id)]) := by
  have h := collect_ct 53 [.pointer (some ⟨n2, 0, none⟩), .pointer (some ⟨n3, 0, none⟩)] Try.call53 (bundle [treeI tp mb es, tpI n2 tp, idI n3 id]) (sub (FoR es) id) (by have := hF.len_le id; omega) (inside_pack tp mb es hk hF id n2 n3)
  intro w h1 h2 h3
  have st := St.pack (F := []) (by simpa using St.start h1 h2)
  refine (h w st.all st.disj h3).mono ?_
  rintro e w' ⟨p, rfl, hf, hs⟩
  refine ⟨p, rfl, hf, ?_⟩
  have hs' := hs.unpack
  rw [foots_bundle] at hs'
  exact hs'
theorem order_ct (tp mb : Nat) (es : List PE) (hk : LOk es) {d : Int → Nat} (hF : WF (FoR es) d) : Ct Try.prog 26 #[.pointer (some ⟨tp, 0, none⟩)] [treeI tp mb es] (fun _ => True) (X := Option Addr × Nat) (fun p => .slice p.1 (order (FoR es)).length p.2) (fun _ => True)
      (fun p => [treeI tp mb es, kidsI p.1 (order (FoR es)).length p.2 (order (FoR es))]) := by
  refine Ct.intro Try.func26 rfl Try.ntmps26 (by simp) (fun w0 _ => ?_)
  refine WP.seq ?_
  refine WP.region ?_
  refine WPL.val (v_assign (v := .slice none 0 0) rfl) ?_
  refine WPL.nil (onto_of ?_)
  refine WP.seq ?_
  refine WP.region ?_
  refine WPL.val (v_move (v := .pointer _) rfl) ?_
  refine WPL.ef (x_call Try.call41 (inside_ct tp 0) [] [0] rfl (fun w hw => trivial) (τ := fun _ => [_, _, _]) (fun _ => rfl)) (fun ⟨m2, m3⟩ => ?_)
  refine WPL.fact (fun _ => ?_)
  refine WPL.ef (x_call Try.call40 (collectT_ct tp mb es hk hF 0 m2 m3) [0, 1, 2] [] rfl (fun w hw => trivial) (τ := fun _ => [_, _, _, _]) (fun _ => rfl)) (fun ⟨A5, c5⟩ => ?_)
  refine WPL.fact (fun _ => ?_)
  refine WPL.val (v_assign (v := .slice _ _ _) rfl) ?_
  refine WPL.nil (onto_of ?_)
  exact WP.ret1 Try.results26 (fun _ h => h) (fun w hw => ⟨(A5, c5), rfl, trivial, (hw.sel [0, 3] (by decide))⟩)
end Go.Proofs.Ytmjdmlgdffoimaa
