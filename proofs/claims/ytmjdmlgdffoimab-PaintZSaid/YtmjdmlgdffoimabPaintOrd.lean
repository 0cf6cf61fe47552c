/- The program's order of painting; Before. -/
import Derived.Test.YtmjdmlgdffoimabPaintAll
namespace Go.Proofs.Ytmjdmlgdffoimab
open Go.RowKit

def ordP (L : List PN) : List Int := if L = [] ∨ okP L = false then [] else PT L 0
theorem ordP_ok {L : List PN} (h0 : L ≠ []) (h : okP L = true) : ordP L = PT L 0 := by unfold ordP; rw [if_neg (by rw [h]; simp [h0])]
theorem ordP_no {L : List PN} (h : L = [] ∨ okP L = false) : ordP L = [] := by unfold ordP; rw [if_pos h]
theorem mem_setK : ∀ {es : List KE} {e x : KE}, x ∈ setK es e → x = e ∨ x ∈ es
  | [], e, x, h => by simpa [setK] using h
  | a :: es, e, x, h => by
    unfold setK at h
    split at h
    · rcases List.mem_cons.1 h with h | h
      · exact .inl h
      · exact .inr (List.mem_cons_of_mem _ h)
    · rcases List.mem_cons.1 h with h | h
      · exact .inr (by simp [h])
      · rcases mem_setK h with h | h
        · exact .inl h
        · exact .inr (List.mem_cons_of_mem _ h)
/-- The members of all layers, up to node k. -/
structure Mems (L : List PN) (k : Nat) (es : List KE) : Prop where
  lst : ∀ a, lstK es a = memK L a k
  keys : (es.map KE.key).Nodup
  some : ∀ e ∈ es, e.l ≠ []
theorem Mems.nil (L : List PN) : Mems L 0 [] := ⟨fun a => rfl, by simp, by simp⟩
theorem Mems.step {L : List PN} {k : Nat} {es : List KE} (h : Mems L k es) {a : Int} (ha : layF L ((k : Int) + 1) = a) (A : Option Addr) (c : Nat) : Mems L (k + 1) (setK es ⟨a, A, c, lstK es a ++ [(k : Int) + 1]⟩) := by
  refine ⟨fun b => ?_, (setK_keys es _ h.keys).1, fun e he => ?_⟩
  · rw [memK_succ]
    unfold lstK
    rw [lookK_set]
    by_cases e : b = a
    · subst e
      rw [if_pos rfl, if_pos ha, ← h.lst]
      rfl
    · rw [if_neg e, if_neg (fun h1 => e (h1.symm.trans ha)), List.append_nil, ← h.lst]
      rfl
  · rcases mem_setK he with rfl | he
    · simp
    · exact h.some e he
theorem Mems.entry {L : List PN} {k : Nat} {es : List KE} (h : Mems L k es) {e : KE} (he : e ∈ es) : e.l = memK L e.key k := by
  rw [← h.lst, lstK, lookK_mem h.keys he]
theorem natLen {l : List Nat} {n : Nat} (hn : l.Nodup) (h : ∀ j ∈ l, j < n) : l.length ≤ n := by
  have h1 := nodupLen (l := l.map fun j : Nat => (j : Int)) (m := (List.range n).map fun j : Nat => (j : Int)) (List.Pairwise.map _ (fun a b (hab : a ≠ b) e => hab (by omega)) hn) (fun x hx => by
    obtain ⟨j, hj, rfl⟩ := List.mem_map.1 hx
    exact List.mem_map.2 ⟨j, List.mem_range.2 (h j hj), rfl⟩)
  simpa using h1
theorem sortAt_nil (L : List PN) (es : List KE) : sortAt L es [] = es := by
  apply List.ext_getElem?
  intro k
  unfold sortAt
  rw [List.getElem?_mapIdx]
  cases es[k]? <;> simp
section
variable {w0 w : World} {M : Nat → Prop} {σ F : List HI} {mb : Nat} {es : List KE}
theorem St.putK {a v : Int} {A : Option Addr} {c : Nat} (h : St w0 M (.row 3 1 A ((lstK es a).length + 1) c ((lstK es a).map (Value.int .i64) ++ [.int .i64 v]) :: rowsK (delK es a) :: mapI mb (putM (es.map KE.ent) a (.slice A ((lstK es a).length + 1) c)) :: F) w) :
    St w0 M (mapI mb ((setK es ⟨a, A, c, lstK es a ++ [v]⟩).map KE.ent) :: rowsK (setK es ⟨a, A, c, lstK es a ++ [v]⟩) :: F) w := by
  rw [ent_setK]
  have e1 : (lstK es a ++ [v]).length = (lstK es a).length + 1 := by simp
  have e2 : KE.row ⟨a, A, c, lstK es a ++ [v]⟩ = .row 3 1 A ((lstK es a).length + 1) c ((lstK es a).map (Value.int .i64) ++ [.int .i64 v]) := by
    show HI.row _ _ _ _ _ _ = _
    rw [e1, List.map_append]; rfl
  have h2 : St w0 M (KE.row ⟨a, A, c, lstK es a ++ [v]⟩ :: rowsK (delK es (KE.mk a A c (lstK es a ++ [v])).key) :: mapI mb (putM (es.map KE.ent) a (.slice A ((lstK es a).length + 1) c)) :: F) w := by rw [e2]; exact h
  have h3 := St.shutK _ h2
  show St w0 M (mapI mb (putM (es.map KE.ent) a (.slice A (lstK es a ++ [v]).length c)) :: _) w
  rw [e1]
  exact h3.perm (List.Perm.swap _ _ _)
theorem St.apart {i j : Nat} {x y : HI} (h : St w0 M σ w) (hi : σ[i]? = some x) (hj : σ[j]? = some y) (hne : i ≠ j) {b : Nat} (hx : x.foot b) : ¬ y.foot b := by
  obtain ⟨hp, rfl⟩ := List.getElem?_eq_some_iff.1 hi
  obtain ⟨hq, rfl⟩ := List.getElem?_eq_some_iff.1 hj
  have hd := List.pairwise_iff_getElem.1 h.disj
  rcases Nat.lt_or_gt_of_ne hne with hlt | hlt
  · exact hd i j hp hq hlt b hx
  · exact fun hy => hd j i hq hp hlt b hy hx
theorem St.neRow {i j b gb n cap sz : Nat} {t t2 : TypeId} {cs xs : List Value} (h : St w0 M σ w) (hi : σ[i]? = some (.cl b t cs)) (hj : σ[j]? = some (.row t2 sz (some ⟨gb, 0, none⟩) n cap xs)) (hne : i ≠ j) : b ≠ gb := fun e => h.apart hi hj hne (b := b) rfl ⟨_, rfl, e⟩
theorem St.notOld (h : St w0 (foots []) σ w) {b : Nat} (hb : b < w0.heap.size) : ¬ foots σ b := fun ⟨i, hi, hib⟩ => by
  rcases h.fresh i hi b hib with h1 | h1
  · omega
  · exact not_foots_nil b h1
end
set_option maxRecDepth 100000 in
set_option maxHeartbeats 2000000 in
theorem order_ct (A : Option Addr) (c : Nat) (L : List PN) (hL : L.length ≤ 1000) (hcap : L.length ≤ c) : Ct Try.prog 16 #[.slice A L.length c] [] (fun w => RdN w A L) (X := Option Addr × Nat) (fun p => .slice p.1 (ordP L).length p.2) (fun _ => True) (fun p => [kidsI p.1 (ordP L).length p.2 (ordP L)]) := by
  refine Ct.intro Try.func16 rfl Try.ntmps16 (by simp) (fun w0 hz => ?_)
  refine WP.seq ?_
  refine WP.region ?_
  refine WPL.ef (x_box1 (u := .slice _ _ _) (σ' := fun _ => [_]) rfl (fun _ => rfl)) (fun b1 => ?_)
  refine WPL.val (v_assign (v := .slice none 0 0) rfl) ?_
  refine WPL.nil (onto_of ?_)
  refine WP.seq ?_
  refine WP.seq ?_
  refine WP.region ?_
  refine WPL.val (v_load1 (u := .slice _ _ _) Try.isAgg22 rfl (fun w hw => hw.cl_at (i := 0) rfl _ rfl)) ?_
  refine WPL.val (v_len Try.underlying22 rfl) ?_
  refine WPL.val (v_eql rfl rfl) ?_
  refine WPL.val (v_move (v := .bool _) rfl) ?_
  refine WPL.split 12 rfl (fun h12 => ?_) (fun h12 => ?_)
  ·
    refine WPL.skipG ?_
    refine WPL.skipG ?_
    refine WPL.skipG ?_
    refine WPL.val (v_pickT (u := .bool _) rfl rfl) ?_
    refine WPL.nil (onto_of ?_)
    have hr : ordP L = [] := ordP_no (.inl (List.eq_nil_of_length_eq_zero (by omega)))
    refine WP.condT rfl ?_
    refine WP.seq ?_
    refine WP.region ?_
    refine WPL.val (v_assign (v := .slice none 0 0) rfl) ?_
    refine WPL.nil (onto_of ?_)
    exact WP.ret1 Try.results16 (fun _ h => h) (fun w hw => ⟨(none, 0), by rw [hr]; rfl, trivial, by rw [hr]; exact (hw.nilRow 3 1).sel [1] (by decide)⟩)
  ·
    refine WPL.valG (v_load1 (u := .slice _ _ _) Try.isAgg22 rfl (fun w hw => hw.cl_at (i := 0) rfl _ rfl)) ?_
    refine WPL.efG (x_call Try.call17 (valid_ct A c L hL) [] [0] rfl (fun w hw => hw.rd hz not_foots_nil) (τ := fun _ => [_]) (fun _ => rfl)) (fun _ => ?_)
    refine WPL.fact (fun _ => ?_)
    refine WPL.valG (v_not rfl) ?_
    refine WPL.val (v_pickF (v := .bool _) rfl rfl) ?_
    refine WPL.nil (onto_of ?_)
    refine WP.cond rfl (fun h16 => ?_) (fun h16 => ?_)
    ·
      have hr : ordP L = [] := ordP_no (.inr (by simpa using h16))
      refine WP.seq ?_
      refine WP.region ?_
      refine WPL.val (v_assign (v := .slice none 0 0) rfl) ?_
      refine WPL.nil (onto_of ?_)
      exact WP.ret1 Try.results16 (fun _ h => h) (fun w hw => ⟨(none, 0), by rw [hr]; rfl, trivial, by rw [hr]; exact (hw.nilRow 3 1).sel [1] (by decide)⟩)
    ·
      have hok : okP L = true := by simpa using h16
      have hP := okP_pv hok
      have hne : L ≠ [] := fun e => by rw [e] at h12; simp at h12
      have hpos := List.length_pos_iff.2 hne
      have hr := ordP_ok hne hok
      obtain ⟨nd, ab, ao, hnd0, rfl, hc0⟩ := getNode hz hpos
      obtain ⟨ob, hob0, hob⟩ := obN_of hz hne
      have hab : ab < w0.heap.size := (Array.getElem?_eq_some_iff.1 hob0).1
      refine WP.skip (onto_of ?_)
      refine WP.seq ?_
      refine WP.region ?_
      refine WPL.val (v_load1 (u := .slice _ _ _) Try.isAgg22 rfl (fun w hw => hw.cl_at (i := 0) rfl _ rfl)) ?_
      refine WPL.ef (x_makeMap (σ' := fun _ => [_, _]) (fun _ => rfl)) (fun mp18 => ?_)
      refine WPL.val (v_struct (us := [.slice _ _ _, .map _]) (pl := [(0, 1), (1, 1)]) Try.underlying45 Try.zeroValue45 rfl (by kernel_rfl) rfl rfl (by kernel_rfl)) ?_
      refine WPL.ef (x_alloc (us := [_, _]) (σ' := fun _ => [_, _, _]) Try.zeroValue45 rfl (fun _ => rfl)) (fun b3 => ?_)
      refine WPL.ef0 (x_storeW (us := [.slice _ _ _, .map _]) (σ' := [_, _, .cl _ _ [_, _]]) Try.sizeOf45 rfl rfl (i := 2) rfl rfl rfl (by simp [Value.oneCell'])) (fun _ => ?_)
      refine WPL.nil (onto_of ?_)
      refine WP.seq ?_
      refine WP.seq ?_
      skip
      refine WP.region ?_
      refine WPL.val (v_load1 (u := .slice _ _ _) Try.isAgg22 rfl (fun w hw => hw.cl_at (i := 0) rfl _ rfl)) ?_
      refine WPL.val (v_slice (kh := 0) (l := 1) (h := L.length) Try.underlying22 Try.sizeOf39 rfl ⟨rfl, rfl⟩ rfl hpos hcap) ?_
      refine WPL.val (v_len Try.underlying22 rfl) ?_
      refine WPL.val (v_move (v := .int .i64 (0)) rfl) ?_
      refine WPL.nil (onto_of ?_)
      refine WP.block ?_
      refine WP.loopK (X := Nat × List KE) [1, 3, 22] (fun p => [(23, .int .i64 (p.1 : Int))]) (fun p w => (p.1 ≤ L.length - 1 ∧ Mems L p.1 p.2) ∧ St w0 (foots []) [.cl b1 22 [.slice (some ⟨ab, ao, none⟩) L.length c], .cl b3 45 [.slice (some ⟨ab, ao, none⟩) L.length c, .map (some mp18)], mapI mp18 (p.2.map KE.ent), rowsK p.2] w) (fun p => L.length - 1 - p.1) (0, []) ⟨rfl, trivial⟩ (fun w hw => ⟨⟨Nat.zero_le _, Mems.nil L⟩, (St.pack (τ := []) (hw.sel [0, 2, 1] (by decide))).sel [1, 2, 3, 0] (by decide)⟩) (fun p ρ0 => ?_)
      obtain ⟨k, es⟩ := p
      dsimp only
      refine WP.fact (fun ⟨hkl, hms⟩ => ?_)
      refine WP.seq ?_
      refine WP.region ?_
      refine WPL.val (v_lss rfl rfl) ?_
      refine WPL.nil (onto_of ?_)
      refine WP.seq ?_
      refine WP.condP rfl (fun h24 => ?_) (fun h24 => ?_)
      ·
        refine WP.skip (onto_of ?_)
        refine WP.seq ?_
        refine WP.block ?_
        refine WP.seq ?_
        refine WP.region ?_
        refine WPL.val (v_move (v := .int .i64 _) rfl) ?_
        refine WPL.val (v_assign (v := .int .i64 _) rfl) ?_
        refine WPL.nil (onto_of ?_)
        refine WP.seq ?_
        refine WP.region ?_
        refine WPL.val (v_load1 (u := .slice _ _ _) Try.isAgg22 rfl (fun w hw => hw.cl_at (i := 0) rfl _ rfl)) ?_
        refine WPL.val (v_move (v := .int .i64 _) rfl) ?_
        refine WPL.val (v_add rfl rfl (by omega)) ?_
        refine WPL.ef (x_call Try.call23 (layer_ct (some ⟨ab, ao, none⟩) c L hP ((k : Int) + 1) (by omega) (by omega)) [] [0, 1, 2, 3] rfl (fun w hw => hw.rd hz not_foots_nil) (τ := fun _ => [_, _, _, _]) (fun _ => rfl)) (fun _ => ?_)
        refine WPL.fact (fun _ => ?_)
        refine WPL.val (v_assign (v := .int .i64 _) rfl) ?_
        refine WPL.nil (onto_of ?_)
        refine WP.pre ?_ (fun w hw => St.openK (hw.sel [3, 0, 1, 2] (by decide)) (layF L ((k : Int) + 1)))
        have hml := memK_len (L := L) (layF L ((k : Int) + 1)) k
        rw [← hms.lst] at hml
        
        refine WP.drawSel (some 11) [1, 2, 3, 4] [(0, true), (1, true), (2, true), (3, true), (4, true), (5, true), (6, true), (7, true), (8, true), (9, false), (10, false), (11, false)] mixed (by kernel_rfl) (by decide) ?_
        refine WPD.take rfl (v_fieldL (o' := 1) Try.underlying45 rfl Try.sizeOf43 rfl rfl) ?_ (fun _ h => h.sel [1, 2, 3, 4] (by decide))
        refine WPD.take rfl (v_load1 (u := .map _) Try.isAgg43 rfl (fun w hw => hw.cl_at (i := 2) rfl _ rfl)) ?_ (fun _ h => h.sel [1, 2, 3, 4] (by decide))
        refine WPD.take rfl (v_move (v := .int .i64 _) rfl) ?_ (fun _ h => h.sel [1, 2, 3, 4] (by decide))
        refine WPD.take rfl (v_fieldL (o' := 1) Try.underlying45 rfl Try.sizeOf43 rfl rfl) ?_ (fun _ h => h.sel [1, 2, 3, 4] (by decide))
        refine WPD.take rfl (v_load1 (u := .map _) Try.isAgg43 rfl (fun w hw => hw.cl_at (i := 2) rfl _ rfl)) ?_ (fun _ h => h.sel [1, 2, 3, 4] (by decide))
        refine WPD.take rfl (v_move (v := .int .i64 _) rfl) ?_ (fun _ h => h.sel [1, 2, 3, 4] (by decide))
        refine WPD.take rfl (v_lookK (es := es) (k := (layF L ((k : Int) + 1))) Try.underlying43 Try.underlying3 Try.zeroValue26 rfl rfl (fun w hw => hw.mapAt (i := 3) rfl)) ?_ (fun _ h => h.sel [1, 2, 3, 4] (by decide))
        refine WPD.take rfl (v_move (v := .int .i64 _) rfl) ?_ (fun _ h => h.sel [1, 2, 3, 4] (by decide))
        refine WPD.take rfl (v_add rfl rfl (by omega)) ?_ (fun _ h => h.sel [1, 2, 3, 4] (by decide))
        refine WPD.ef rfl (x_buildSlice (us := [.int .i64 _]) (σ' := fun _ => [_, _, _, _, _, _]) Try.underlying26 Try.sizeOf3 Try.zeroValue3 rfl rfl rfl (by decide) (by decide) (fun _ => rfl)) (fun _ _ _ h => h.sel [1, 2, 3, 4] (by decide)) (fun g39 => ?_)
        refine WPD.ef rfl (x_append (sz := 1) (σ' := fun _ => [_, _, _, _, _, _]) Try.underlying26 int_info rfl (by decide) rfl rfl (i := 0) rfl (fun w hw => hw.src_row (i := 5) rfl) rfl (by simp [Value.oneCell']) (by omega) (by omega) (fun _ => rfl)) (fun _ _ _ h => h.sel [1, 2, 3, 4] (by decide)) (fun ⟨A40, c40⟩ => ?_)
        refine WPD.ef0 rfl (x_mapPut (m := es.map KE.ent) (k := (layF L ((k : Int) + 1))) (u := .slice A40 ((lstK es (layF L ((k : Int) + 1))).length + 1) c40) (σ' := [_, _, _, _, _, _]) Try.underlying43 Try.underlying3 rfl rfl rfl (i := 4) rfl rfl) (fun h => absurd rfl h) (fun _ => ?_)
        refine WPD.nil (onto_of ?_)
        refine WP.region ?_
        refine WPL.val (v_add rfl rfl (by omega)) ?_
        refine WPL.val (v_move (v := .int .i64 _) rfl) ?_
        exact WPL.nil fun w hw => ⟨rfl, (k + 1, setK es ⟨(layF L ((k : Int) + 1)), A40, c40, lstK es (layF L ((k : Int) + 1)) ++ [(k : Int) + 1]⟩), (by simp only; omega), ⟨rfl, rfl, rfl, (via (.int .i64 _) rfl rfl), trivial⟩, ⟨⟨by simp only; omega, hms.step rfl A40 c40⟩, (St.putK (hw.sel [0, 1, 4, 2, 3] (by decide))).sel [2, 3, 0, 1] (by decide)⟩⟩
      ·
        obtain rfl : k = L.length - 1 := by omega
        refine WP.exit (onto_of ?_)
        refine WP.seq ?_
        refine WP.region ?_
        refine WPL.val (v_func) ?_
        refine WPL.val (v_assign rfl) ?_
        refine WPL.nil (onto_of ?_)
        refine WP.seq ?_
        refine WP.seq ?_
        refine WP.region ?_
        refine WPL.val (v_fieldL (o' := 1) Try.underlying45 rfl Try.sizeOf43 rfl rfl) ?_
        refine WPL.val (v_load1 (u := .map _) Try.isAgg43 rfl (fun w hw => hw.cl_at (i := 1) rfl _ rfl)) ?_
        refine WPL.ef (x_range (m := (es.map KE.ent)) (σ'' := fun _ => [_, _, _, _]) Try.underlying43 rfl (i := 2) rfl (fun _ => rfl)) (fun q45 => ?_)
        refine WPL.nil (onto_of ?_)
        refine WP.block ?_
        refine WP.loopK (X := List Nat × Nat) [3, 6, 45] (fun p => []) (fun p w => (p.1.Nodup ∧ (∀ j ∈ p.1, j < es.length) ∧ p.1.length + p.2 = es.length) ∧ St w0 (foots []) [.cl b1 22 [.slice (some ⟨ab, ao, none⟩) L.length c], .cl b3 45 [.slice (some ⟨ab, ao, none⟩) L.length c, .map (some mp18)], rngI mp18 q45 (es.map KE.ent) p.1, rowsK (sortAt L es p.1)] w) (fun p => p.2) ([], es.length) trivial (fun w hw => ⟨⟨by simp, by simp, by simp⟩, by rw [sortAt_nil]; exact (hw.sel [0, 1, 2, 3] (by decide))⟩) (fun p ρ0 => ?_)
        refine WP.fact (fun ⟨hdn0, hdl0, hdk⟩ => ?_)
        refine WP.seq ?_
        refine WP.region ?_
        refine WPL.ef (x_next (m := (es.map KE.ent)) (done := p.1) (σ'' := fun _ => [_, _, _, _]) rfl (i := 2) rfl (fun _ => rfl)) (fun o => ?_)
        refine WPL.fact (fun hnx => ?_)
        refine WPL.val (v_isNext (m := (es.map KE.ent)) rfl) ?_
        refine WPL.nil (onto_of ?_)
        refine WP.seq ?_
        refine WP.cond rfl (fun h47 => ?_) (fun h47 => ?_)
        ·
          obtain ⟨j, rfl⟩ : ∃ j, o = some j := Option.isSome_iff_exists.1 h47
          have hj : j < es.length ∧ j ∉ p.1 := by have h : j < (es.map KE.ent).length ∧ j ∉ p.1 := hnx; simpa using h
          obtain ⟨e, hpj⟩ : ∃ e, es[j]? = some e := ⟨_, List.getElem?_eq_getElem hj.1⟩
          have hpe : (es.map KE.ent)[j]? = some e.ent := by rw [List.getElem?_map, hpj]; rfl
          have hm := List.mem_of_getElem? hpj
          have hel0 := hms.entry hm
          have hel1 := hms.some e hm
          obtain ⟨done, n⟩ := p
          obtain ⟨ek, eA, ec, el⟩ := e
          dsimp only [nextD] at *
          have hel : 0 < el.length := List.length_pos_iff.2 hel1
          have hmem : ∀ x ∈ el, 0 ≤ x ∧ x < L.length := fun x hx => by rw [hel0] at hx; have := mem_memK.1 hx; omega
          have hnd : el.Nodup := by rw [hel0]; exact (memK_pair _ _).imp fun h => by omega
          have hdn : (done ++ [j]).Nodup := by
            rw [List.nodup_append]
            exact ⟨hdn0, by simp, fun a ha b hb e => by obtain rfl : b = j := by simpa using hb
                                                        exact hj.2 (e ▸ ha)⟩
          have hdl : ∀ i ∈ done ++ [j], i < es.length := fun i hi => by
            rcases List.mem_append.1 hi with hi | hi
            · exact hdl0 i hi
            · obtain rfl : i = j := by simpa using hi
              exact hj.1
          have hn1 : 0 < n := by
            have h := natLen hdn hdl
            simp at h; omega
          refine WP.skip (onto_of ?_)
          refine WP.block ?_
          refine WP.seq ?_
          refine WP.region ?_
          refine WPL.val (v_entry (m := (es.map KE.ent)) (done := done) (j := j) (p := (ek, Value.slice eA el.length ec)) rfl (i := 2) rfl hpe) ?_
          refine WPL.val (v_extract (v := .slice eA el.length ec) rfl rfl) ?_
          refine WPL.val (v_assign (v := .slice _ _ _) rfl) ?_
          refine WPL.nil (onto_of ?_)
          refine WP.pre ?_ (fun w hw => St.openJ (sortAt_get hpj hj.2) (hw.sel [3, 0, 1, 2] (by decide)))
          refine WP.holds (fun w hw => hw.row_pos (i := 0) rfl hel) (fun ⟨gb, hgb⟩ => ?_)
          dsimp only at hgb
          subst hgb
          
          refine WP.region ?_
          refine WPL.val (v_move (v := .slice _ _ _) rfl) ?_
          refine WPL.val (v_move rfl) ?_
          refine WPL.ef (x_call Try.call28 (sort_ct gb ec (some ⟨ab, ao, none⟩) c L hL (some mp18) b3 b1 el (fun x hx => hmem x hx) hnd hel) [0] [1, 2, 3, 4] rfl (fun w hw => ⟨⟨hw.rd hz not_foots_nil, hw.cl_at (i := 3) rfl 0 rfl, hw.cl_at (i := 2) rfl 0 rfl⟩, fun b o e => by cases e; exact fun e2 => hw.notOld hab ⟨_, List.mem_of_getElem? (i := 0) rfl, _, rfl, e2⟩, hw.neRow (i := 3) (j := 0) rfl rfl (by decide), hw.neRow (i := 2) (j := 0) rfl rfl (by decide)⟩) (τ := fun _ => [_, _, _, _, _]) (fun _ => rfl)) (fun _ => ?_)
          refine WPL.fact (fun _ => ?_)
          exact WPL.nil fun w hw => ⟨rfl, (done ++ [j], n - 1), (by simp only; omega), ⟨rfl, rfl, rfl, trivial⟩, ⟨⟨hdn, hdl, by simp only [List.length_append, List.length_singleton]; omega⟩, by dsimp only; rw [sortAt_step hpj]; exact (St.shutJ (e' := sortK L ⟨ek, some ⟨gb, 0, none⟩, ec, el⟩) (by unfold sortAt; rw [List.length_mapIdx]; exact hj.1) (hw.sel [4, 0, 1, 2, 3] (by decide))).sel [1, 2, 3, 0] (by decide)⟩⟩
        ·
          have ho : o = none := Option.isNone_iff_eq_none.1 (by simpa using h47)
          subst ho
          have hall : ∀ j < es.length, j ∈ p.1 := by have h : ∀ j < (es.map KE.ent).length, j ∈ p.1 := hnx; simpa using h
          refine WP.exit (onto_of ?_)
          refine WP.seq ?_
          refine WP.pre ?_ (fun w hw => St.shutP (mb := mp18) (es := es.map (sortK L)) (by rw [show (es.map (sortK L)).map KE.ent = es.map KE.ent by rw [List.map_map]; exact List.map_congr_left (fun e _ => sortK_ent L e)]; have h := St.rngEnd (hw.sel [2, 3, 0, 1] (by decide)); rw [sortAt_all hall] at h; exact h.sel [0, 1, 2, 3] (by decide)))
          have hes : ∀ a, lstK (es.map (sortK L)) a = kidP L a := fun a => by rw [lstK_sort, hms.lst]; rfl
          have hpl : (PT L 0).length ≤ 1000 := by rw [PT0_len hP hne]; exact hL
          
          refine WP.region ?_
          refine WPL.val (v_loadA (cs := [.slice _ _ _, .map _]) Try.isAgg45 Try.sizeOf45 rfl (fun w hw => hw.cl_at (i := 2) rfl _ rfl)) ?_
          refine WPL.ef (x_call Try.call30 (all_ct ab ao c L.length mp18 0) [] [0, 1, 2] rfl (fun w hw => trivial) (τ := fun _ => [_, _, _, _, _]) (fun _ => rfl)) (fun ⟨m1, m2⟩ => ?_)
          refine WPL.fact (fun _ => ?_)
          refine WPL.ef (x_call Try.call29 (collectP_ct ab ao c mp18 ob L hP hL hob (es.map (sortK L)) hes 0 m1 m2 hpl) [0, 3, 4] [1, 2] rfl (fun w hw => ⟨(hw.old ab hab (not_foots_nil _)).trans hob0, by have h := (hw.sel [0, 3, 4] (by decide)).notOld hab; exact h⟩) (τ := fun _ => [_, _, _, _, _, _]) (fun _ => rfl)) (fun ⟨A55, c55⟩ => ?_)
          refine WPL.fact (fun _ => ?_)
          refine WPL.val (v_assign (v := .slice _ _ _) rfl) ?_
          refine WPL.nil (onto_of ?_)
          exact WP.ret1 Try.results16 (fun _ h => h) (fun w hw => ⟨(A55, c55), by rw [hr]; rfl, trivial, by rw [hr]; exact (hw.sel [5] (by decide))⟩)
theorem before_ct (A : Option Addr) (c : Nat) (L : List PN) (hL : L.length ≤ 1000) (hcap : L.length ≤ c) (a b : Int) : Ct Try.prog 20 #[.slice A L.length c, .int .i64 a, .int .i64 b] [] (fun w => RdN w A L) (X := Unit) (fun _ => .bool (befP (ordP L) a b)) (fun _ => True) (fun _ => []) := by
  have hol : (ordP L).length ≤ 1000 := by
    unfold ordP
    split
    · simp
    · rename_i h
      have h2 : ¬ L = [] := fun e => h (.inl e)
      have h3 : okP L = true := by
        cases e : okP L with
        | true => rfl
        | false => exact absurd (.inr e) h
      rw [PT0_len (okP_pv h3) h2]; exact hL
  refine Ct.intro Try.func20 rfl Try.ntmps20 (by simp) (fun w0 hz => ?_)
  refine WP.seq ?_
  refine WP.region ?_
  refine WPL.val (v_assign (v := .bool false) rfl) ?_
  refine WPL.nil (onto_of ?_)
  refine WP.seq ?_
  refine WP.region ?_
  refine WPL.val (v_move (v := .slice _ _ _) rfl) ?_
  refine WPL.ef (x_call Try.call16 (order_ct A c L hL hcap) [] [] rfl (fun w hw => hw.rd hz not_foots_nil) (τ := fun _ => [_]) (fun _ => rfl)) (fun ⟨rA, rc⟩ => ?_)
  refine WPL.fact (fun _ => ?_)
  refine WPL.val (v_assign (v := .slice _ _ _) rfl) ?_
  refine WPL.nil (onto_of ?_)
  refine WP.seq ?_
  refine WP.region ?_
  refine WPL.val (v_move (v := .slice _ _ _) rfl) ?_
  refine WPL.val (v_move (v := .int .i64 _) rfl) ?_
  refine WPL.ef (x_call Try.call31 (index_ct rA rc (ordP L) a (by omega)) [] [0] rfl (fun w hw => hw.rd_row1 (i := 0) (f := Value.int .i64) rfl) (τ := fun _ => [_]) (fun _ => rfl)) (fun _ => ?_)
  refine WPL.fact (fun _ => ?_)
  refine WPL.val (v_move (v := .slice _ _ _) rfl) ?_
  refine WPL.val (v_move (v := .int .i64 _) rfl) ?_
  refine WPL.ef (x_call Try.call31 (index_ct rA rc (ordP L) b (by omega)) [] [0] rfl (fun w hw => hw.rd_row1 (i := 0) (f := Value.int .i64) rfl) (τ := fun _ => [_]) (fun _ => rfl)) (fun _ => ?_)
  refine WPL.fact (fun _ => ?_)
  refine WPL.val (v_assign (v := .int .i64 _) rfl) ?_
  refine WPL.val (v_assign (v := .int .i64 _) rfl) ?_
  refine WPL.nil (onto_of ?_)
  refine WP.seq ?_
  refine WP.region ?_
  refine WPL.val (v_move (v := .int .i64 _) rfl) ?_
  refine WPL.val (v_leq rfl rfl) ?_
  refine WPL.val (v_move (v := .bool _) rfl) ?_
  refine WPL.split 20 rfl (fun h20 => ?_) (fun h20 => ?_)
  ·
    refine WPL.valG (v_move (v := .int .i64 _) rfl) ?_
    refine WPL.valG (v_move (v := .int .i64 _) rfl) ?_
    refine WPL.valG (v_lss rfl rfl) ?_
    refine WPL.val (v_pickT (u := .bool _) rfl rfl) ?_
    refine WPL.val (v_assign (v := .bool _) rfl) ?_
    refine WPL.nil (onto_of ?_)
    exact WP.ret1 Try.results20 (fun _ h => h) (fun w hw => ⟨(), congrArg Value.bool (by unfold befP; first | exact decide_eq_decide.2 (by omega) | exact (decide_eq_false (by omega)).symm), trivial, hw.sel [] (by decide)⟩)
  ·
    refine WPL.skipG ?_
    refine WPL.skipG ?_
    refine WPL.skipG ?_
    refine WPL.val (v_pickF (v := .bool _) rfl rfl) ?_
    refine WPL.val (v_assign (v := .bool _) rfl) ?_
    refine WPL.nil (onto_of ?_)
    exact WP.ret1 Try.results20 (fun _ h => h) (fun w hw => ⟨(), congrArg Value.bool (by unfold befP; first | exact decide_eq_decide.2 (by omega) | exact (decide_eq_false (by omega)).symm), trivial, hw.sel [] (by decide)⟩)
end Go.Proofs.Ytmjdmlgdffoimab
