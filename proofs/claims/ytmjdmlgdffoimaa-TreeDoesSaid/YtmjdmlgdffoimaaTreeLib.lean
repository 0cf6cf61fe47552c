/- slices.Index, Contains, Insert, Delete of numbers. -/
import Derived.Test.YtmjdmlgdffoimaaBuf
namespace Go.Proofs.Ytmjdmlgdffoimaa
open Go.RowKit

def idxI : List Int → Int → Int
  | [], _ => -1
  | y :: l, x => if y = x then 0 else if idxI l x < 0 then -1 else idxI l x + 1
theorem idxI_not : ∀ {l : List Int} {x : Int}, x ∉ l → idxI l x = -1
  | [], _, _ => rfl
  | y :: l, x, h => by
    have h1 : y ≠ x := fun e => h (by simp [e])
    rw [idxI, if_neg h1, idxI_not (fun hm => h (by simp [hm]))]; rfl
theorem idxI_at : ∀ {l : List Int} {x : Int} {k : Nat}, l[k]? = some x → x ∉ l.take k → idxI l x = k
  | [], _, _, h, _ => by simp at h
  | y :: l, x, 0, h, _ => by
    obtain rfl : y = x := by simpa using h
    simp [idxI]
  | y :: l, x, k + 1, h, hn => by
    have h1 : y ≠ x := fun e => hn (by simp [e])
    have h2 := idxI_at (l := l) (x := x) (k := k) (by simpa using h) (fun hm => hn (by simp [hm]))
    rw [idxI, if_neg h1, h2, if_neg (by omega)]; omega
theorem idxI_mem {l : List Int} {x : Int} (h : x ∈ l) : ∃ k : Nat, l[k]? = some x ∧ x ∉ l.take k ∧ idxI l x = k := by
  obtain ⟨k, ⟨hk, hmin⟩⟩ := least_of (p := fun k : Nat => l[k]? = some x) (List.getElem?_of_mem h)
  have hn : x ∉ l.take k := fun hm => by
    obtain ⟨j, hj⟩ := List.getElem?_of_mem hm
    have hjl := (List.getElem?_eq_some_iff.1 hj).1
    rw [List.length_take] at hjl
    rw [List.getElem?_take, if_pos (by omega)] at hj
    have := hmin j hj
    omega
  exact ⟨k, hk, hn, idxI_at hk hn⟩
theorem idxI_ge (l : List Int) (x : Int) : (0 ≤ idxI l x) ↔ x ∈ l := by
  by_cases h : x ∈ l
  · obtain ⟨k, _, _, e⟩ := idxI_mem h
    simp [h, e]
  · rw [idxI_not h]; simp [h]
theorem erase_cut {l : List Int} {x : Int} {k : Nat} (hn : l.Nodup) (h : l[k]? = some x) : l.eraseIdx k = cutK l x := by
  have h1 := insAt_cut hn h
  have hk := (List.getElem?_eq_some_iff.1 h).1
  have h2 := cutK_len hn (List.mem_of_getElem? h)
  conv => lhs; rw [← h1]
  unfold insAt
  have hl : ((cutK l x).take k).length = k := by rw [List.length_take]; omega
  rw [List.eraseIdx_append_of_length_le (by omega), hl, Nat.sub_self, List.eraseIdx_zero, List.tail_cons, List.take_append_drop]

theorem index_ct (A : Option Addr) (c : Nat) (l : List Int) (x : Int) (hl : l.length ≤ 10000) : Ct Try.prog 54 #[.slice A l.length c, .int .i64 x] [kidsI A l.length c l] (fun _ => True) (X := Unit) (fun _ => .int .i64 (idxI l x)) (fun _ => True) (fun _ => [kidsI A l.length c l]) := by
  refine Ct.intro Try.func54 rfl Try.ntmps54 (by simp) (fun w0 _ => ?_)
  refine WP.seq ?_
  refine WP.region ?_
  refine WPL.val (v_assign (v := .int .i64 (0)) rfl) ?_
  refine WPL.nil (onto_of ?_)
  refine WP.seq ?_
  refine WP.seq ?_
  refine WP.region ?_
  refine WPL.val (v_move (v := .slice _ _ _) rfl) ?_
  refine WPL.val (v_len Try.underlying50 rfl) ?_
  refine WPL.val (v_move (v := .int .i64 (0)) rfl) ?_
  refine WPL.nil (onto_of ?_)
  refine WP.block ?_
  refine WP.loopK (X := Nat) [0, 1, 7] (fun k => [(8, .int .i64 (k : Int))]) (fun k w => (k ≤ l.length ∧ x ∉ l.take k) ∧ St w0 (foots [kidsI A l.length c l]) [kidsI A l.length c l] w) (fun k => l.length - k) 0 ⟨rfl, trivial⟩ (fun w hw => ⟨⟨Nat.zero_le _, by simp⟩, hw⟩) (fun k ρ0 => ?_)
  refine WP.fact (fun ⟨hk, hn⟩ => ?_)
  refine WP.seq ?_
  refine WP.region ?_
  refine WPL.val (v_lss rfl rfl) ?_
  refine WPL.nil (onto_of ?_)
  refine WP.seq ?_
  refine WP.condP rfl (fun h9 => ?_) (fun h9 => ?_)
  ·
    have hk' : k < l.length := by omega
    obtain ⟨y, hy⟩ : ∃ y, l[k]? = some y := ⟨_, List.getElem?_eq_getElem hk'⟩
    refine WP.holds (fun w hw => hw.row_pos (i := 0) rfl (by omega)) (fun ⟨rb, hA⟩ => ?_)
    subst hA
    refine WP.skip (onto_of ?_)
    refine WP.seq ?_
    refine WP.block ?_
    refine WP.seq ?_
    refine WP.region ?_
    refine WPL.val (v_move (v := .int .i64 _) rfl) ?_
    refine WPL.val (v_assign (v := .int .i64 _) rfl) ?_
    refine WPL.nil (onto_of ?_)
    refine WP.seq ?_
    refine WP.region ?_
    refine WPL.val (v_move (v := .int .i64 _) rfl) ?_
    refine WPL.val (v_move (v := .slice _ _ _) rfl) ?_
    refine WPL.val (v_move (v := .int .i64 _) rfl) ?_
    refine WPL.val (v_index Try.underlying50 Try.sizeOf3 rfl rfl rfl (by omega)) ?_
    refine WPL.val (v_load1 (u := .int .i64 _) Try.isAgg3 rfl (fun w hw => hw.row_at1 (i := 0) rfl (by rw [List.getElem?_map, hy]; rfl) (by omega))) ?_
    refine WPL.val (v_eql rfl rfl) ?_
    refine WPL.nil (onto_of ?_)
    refine WP.condP rfl (fun h16 => ?_) (fun h16 => ?_)
    ·
      have hx : idxI l x = k := idxI_at (by rw [hy, h16]) hn
      refine WP.seq ?_
      refine WP.region ?_
      refine WPL.val (v_move (v := .int .i64 _) rfl) ?_
      refine WPL.val (v_assign (v := .int .i64 _) rfl) ?_
      refine WPL.nil (onto_of ?_)
      exact WP.ret1 Try.results54 (fun _ h => h) (fun w hw => ⟨(), congrArg (Value.int .i64) (by first | exact hx.symm | exact (idxI_not hx).symm), trivial, hw⟩)
    ·
      refine WP.skip (onto_of ?_)
      refine WP.region ?_
      refine WPL.val (v_add rfl rfl (by omega)) ?_
      refine WPL.val (v_move (v := .int .i64 _) rfl) ?_
      exact WPL.nil fun w hw => ⟨rfl, k + 1, (by omega), ⟨rfl, (via (.slice _ _ _) rfl rfl), (via (.int .i64 _) rfl rfl), (via (.int .i64 _) rfl rfl), trivial⟩, ⟨by omega, by rw [take_snoc hy]; simp only [List.mem_append, List.mem_singleton, not_or]; exact ⟨hn, h16⟩⟩, hw⟩
  ·
    have hx : x ∉ l := by rw [List.take_of_length_le (by omega)] at hn; exact hn
    refine WP.exit (onto_of ?_)
    refine WP.seq ?_
    refine WP.region ?_
    refine WPL.val (v_assign (v := .int .i64 (-1)) rfl) ?_
    refine WPL.nil (onto_of ?_)
    exact WP.ret1 Try.results54 (fun _ h => h) (fun w hw => ⟨(), congrArg (Value.int .i64) (by first | exact hx.symm | exact (idxI_not hx).symm), trivial, hw⟩)
theorem contains_ct (A : Option Addr) (c : Nat) (l : List Int) (x : Int) (hl : l.length ≤ 10000) : Ct Try.prog 43 #[.slice A l.length c, .int .i64 x] [kidsI A l.length c l] (fun _ => True) (X := Unit) (fun _ => .bool (decide (x ∈ l))) (fun _ => True) (fun _ => [kidsI A l.length c l]) := by
  refine Ct.intro Try.func43 rfl Try.ntmps43 (by simp) (fun w0 _ => ?_)
  refine WP.seq ?_
  refine WP.region ?_
  refine WPL.val (v_assign (v := .bool false) rfl) ?_
  refine WPL.nil (onto_of ?_)
  refine WP.seq ?_
  refine WP.region ?_
  refine WPL.val (v_move (v := .slice _ _ _) rfl) ?_
  refine WPL.val (v_move (v := .int .i64 _) rfl) ?_
  refine WPL.ef (x_call Try.call54 (index_ct A c l x hl) [0] [] rfl (fun w hw => trivial) (τ := fun _ => [_]) (fun _ => rfl)) (fun _ => ?_)
  refine WPL.fact (fun _ => ?_)
  refine WPL.val (v_geq rfl rfl) ?_
  refine WPL.val (v_assign (v := .bool _) rfl) ?_
  refine WPL.nil (onto_of ?_)
  exact WP.ret1 Try.results43 (fun _ h => h) (fun w hw => ⟨(), congrArg Value.bool (decide_eq_decide.2 (idxI_ge l x)), trivial, hw⟩)
theorem v_overlaps {P : Program} {w0 : World} {M : Nat → Prop} {σ : List HI} {ρ : Env} {dst : Option Tmp} {ty : TypeId} {pos : String} {af : Array Edge} {g : Option (Nat × Bool)} {x y : Operand} {ats : Array TypeId} {f i j vb vn vc b o lb cb : Nat} {tS tR e t1 t2 : TypeId} {cs us : List Value}
    (hrun : ∀ args w, (callFunc f args).run P w = ((Extern.SlicesOverlaps.overlaps #[tS, tS] #[tR] args).run P w).andThen fun v w' => .ok (.value v) w') (ht : P.underlying tS = some (.slice e)) (hz : ∀ w, (sizeOf e).run P w = .ok 1 w)
    (hx : evo ρ x = .slice (some ⟨vb, 0, none⟩) vn vc) (hy : evo ρ y = .slice (some ⟨b, o, none⟩) lb cb) (hi : σ[i]? = some (.cl vb t1 us)) (hj : σ[j]? = some (.cl b t2 cs)) (hne : i ≠ j) (hcs : cs.length ≠ 0) :
    OpV P (St w0 M σ) ⟨dst, .call ⟨.value (.func f), #[x, y], ats⟩, ty, pos, af, g⟩ ρ (.bool false) := v_run fun w hw => by
  have h1 : w.heap[vb]? = some (.cells us.toArray t1 (0, 0)) := hw.all _ (List.mem_of_getElem? hi)
  have h2 : w.heap[b]? = some (.cells cs.toArray t2 (0, 0)) := hw.all _ (List.mem_of_getElem? hj)
  have hb : vb ≠ b := by
    obtain ⟨hil, ei⟩ := List.getElem?_eq_some_iff.1 hi
    obtain ⟨hjl, ej⟩ := List.getElem?_eq_some_iff.1 hj
    intro e
    have hd := List.pairwise_iff_getElem.1 hw.disj
    rcases Nat.lt_or_gt_of_ne hne with h | h
    · exact hd i j hil hjl h vb (by rw [ei]; exact rfl) (by rw [ej]; exact e)
    · exact hd j i hjl hil h vb (by rw [ej]; exact e) (by rw [ei]; exact rfl)
  have h3 := Lib.run_overlaps_apart (P := P) w tS tR e ht 1 hz ⟨vb, 0, none⟩ ⟨b, o, none⟩ vn vc lb cb hb t1 t2 us.length cs.length (by simp [World.shape?, h1]) (by simp [World.shape?, h2]) hcs (by simp [World.frozen?, h1]) (by simp [World.frozen?, h1])
  have e0 : evo ρ (.func f) = .func (.func f) #[] #[] := rfl
  simp [execOp, resolve, e0, Deferred.ofValue, invoke, hrun, hx, hy, h3, Result.andThen]
theorem take_get {l : List Int} {k j : Nat} {u : Value} (h : ((l.take k).map (Value.int .i64))[j]? = some u) : (l.map (Value.int .i64))[j]? = some u := by
  rw [List.getElem?_map] at h ⊢
  obtain ⟨z, hz, rfl⟩ := Option.map_eq_some_iff.1 h
  have hj := (List.getElem?_eq_some_iff.1 hz).1
  rw [List.length_take] at hj
  rw [List.getElem?_take, if_pos (by omega)] at hz
  rw [hz]; rfl
theorem drop_seg (l : List Int) (rest : List Value) {k : Nat} (h : k ≤ l.length) : ((l.map (Value.int .i64) ++ rest).drop (0 + k * 1)).take ((l.drop k).map (Value.int .i64)).length = (l.drop k).map (Value.int .i64) := by
  rw [show 0 + k * 1 = k by omega, List.drop_append_of_le_length (by simpa using h), ← List.map_drop]
  exact List.take_left' rfl
theorem setL_app (a c us : List Value) (h : us.length ≤ c.length) {o : Nat} (ho : o = a.length) : setL (a ++ c) o us = a ++ us ++ c.drop us.length := by
  subst ho
  rw [setL_eq _ _ _ (by rw [List.length_append]; omega), List.take_left' rfl, ← List.drop_drop, List.drop_left' rfl]
theorem ins_map (l : List Int) (k : Nat) (x : Int) : (insAt l k x).map (Value.int .i64) = (l.take k).map (Value.int .i64) ++ [.int .i64 x] ++ (l.drop k).map (Value.int .i64) := by simp [insAt]
theorem ins_grow (l : List Int) (x : Int) {k c2 : Nat} (hk : k ≤ l.length) (hc : l.length + 1 ≤ c2) : (setL (setL ((l.take k).map (Value.int .i64) ++ List.replicate (l.length + 1 - k) (.int .i64 0) ++ List.replicate (c2 - (k + (l.length + 1 - k))) (.int .i64 0)) (0 + k * 1) [.int .i64 x]) (0 + (k + 1) * 1) ((l.drop k).map (Value.int .i64))).take (l.length + 1) = (insAt l k x).map (Value.int .i64) := by
  have h1 : ((l.take k).map (Value.int .i64)).length = k := by simp; omega
  have h2 : ((l.drop k).map (Value.int .i64)).length = l.length - k := by simp
  rw [List.append_assoc, setL_app _ _ _ (by simp; omega) (by omega), setL_app _ _ _ (by rw [h2]; simp; omega) (by rw [List.length_append, h1]; simp), ins_map]
  exact List.take_left' (by rw [List.length_append, List.length_append, h1, h2]; simp; omega)
theorem ins_shift (l : List Int) (x : Int) {k : Nat} (hk : k < l.length) (rest : List Value) (hr : 0 < rest.length) : (setL (setL (l.map (Value.int .i64) ++ rest) (0 + (k + 1) * 1) ((l.drop k).map (Value.int .i64))) (0 + k * 1) [.int .i64 x]).take (l.length + 1) = (insAt l k x).map (Value.int .i64) := by
  have h1 : ((l.take k).map (Value.int .i64)).length = k := by simp; omega
  have h2 : ((l.drop k).map (Value.int .i64)).length = l.length - k := by simp
  have e : l.map (Value.int .i64) ++ rest = ((l.take k).map (Value.int .i64) ++ [.int .i64 l[k]]) ++ ((l.drop (k + 1)).map (Value.int .i64) ++ rest) := by
    have e0 : l = l.take k ++ l[k] :: l.drop (k + 1) := by rw [← List.drop_eq_getElem_cons hk, List.take_append_drop]
    conv => lhs; rw [e0]
    simp only [List.map_append, List.map_cons, List.append_assoc, List.cons_append, List.nil_append]
  rw [e, setL_app _ _ _ (by rw [h2]; simp; omega) (by rw [List.length_append, h1]; simp), List.append_assoc, List.append_assoc, setL_app _ _ _ (by simp) (by omega), ins_map]
  have e2 : (([.int .i64 l[k]] : List Value) ++ ((l.drop k).map (Value.int .i64) ++ ((l.drop (k + 1)).map (Value.int .i64) ++ rest).drop ((l.drop k).map (Value.int .i64)).length)).drop ([.int .i64 x] : List Value).length = (l.drop k).map (Value.int .i64) ++ ((l.drop (k + 1)).map (Value.int .i64) ++ rest).drop ((l.drop k).map (Value.int .i64)).length := rfl
  rw [e2, ← List.append_assoc]
  exact List.take_left' (by rw [List.length_append, List.length_append, h1, h2]; simp; omega)
theorem del_cells (l : List Int) {k : Nat} (hk : k < l.length) (rest : List Value) : (setL (setL (l.map (Value.int .i64) ++ rest) (0 + (k - 0)) ((l.drop (k + 1)).map (Value.int .i64))) (0 + (l.length - 1) * 1) (List.replicate (0 + 1) (.int .i64 0))).take (l.length - 1) = (l.eraseIdx k).map (Value.int .i64) := by
  have h1 : ((l.take k).map (Value.int .i64)).length = k := by simp; omega
  have h2 : ((l.drop (k + 1)).map (Value.int .i64)).length = l.length - (k + 1) := by simp
  have e : l.map (Value.int .i64) ++ rest = (l.take k).map (Value.int .i64) ++ (.int .i64 l[k] :: ((l.drop (k + 1)).map (Value.int .i64) ++ rest)) := by
    have e0 : l = l.take k ++ l[k] :: l.drop (k + 1) := by rw [← List.drop_eq_getElem_cons hk, List.take_append_drop]
    conv => lhs; rw [e0]
    simp only [List.map_append, List.map_cons, List.append_assoc, List.cons_append, List.nil_append]
  rw [e, setL_app _ _ _ (by rw [h2]; simp; omega) (by omega), setL_app _ _ _ (by rw [h2]; simp; omega) (by rw [List.length_append, h1, h2]; omega), List.eraseIdx_eq_take_drop_succ, List.map_append, List.append_assoc ((l.take k).map (Value.int .i64) ++ (l.drop (k + 1)).map (Value.int .i64))]
  exact List.take_left' (by rw [List.length_append, h1, h2]; omega)
theorem del_src {w : World} {rb c : Nat} (l : List Int) (rest : List Value) {k : Nat} (hk : k < l.length) (hc : l.length ≤ c) (h : ∀ (o : Nat) {us : List Value}, ((l.map (Value.int .i64) ++ rest).drop o).take us.length = us → CellsAt w rb o us) : CellsAt w rb (0 + if c = k + 1 then 0 else (k + 1) * 1) ((l.drop (k + 1)).map (Value.int .i64)) := by
  split
  · rw [List.drop_eq_nil_of_le (by omega)]
    intro j u hj; simp at hj
  · exact h _ (drop_seg l rest (by omega))
set_option maxHeartbeats 1000000 in
theorem insert_ct (A : Option Addr) (c : Nat) (l : List Int) (k : Nat) (hk : k ≤ l.length) (vb : Nat) (x : Int) (hl : l.length ≤ 5000) : Ct Try.prog 45 #[.slice A l.length c, .int .i64 k, .slice (some ⟨vb, 0, none⟩) 1 1] [kidsI A l.length c l, kidsI (some ⟨vb, 0, none⟩) 1 1 [x]] (fun _ => True)
    (X := Option Addr × Nat) (fun p => .slice p.1 (l.length + 1) p.2) (fun _ => True) (fun p => [kidsI p.1 (l.length + 1) p.2 (insAt l k x)]) := by
  refine Ct.intro Try.func45 rfl Try.ntmps45 (by simp) (fun w0 _ => ?_)
  refine WP.seq ?_
  refine WP.holds (fun w hw => hw.row_cap (i := 0) rfl) (fun ⟨hnc, hcm⟩ => ?_)
  refine WP.region ?_
  refine WPL.val (v_assign (v := .slice none 0 0) rfl) ?_
  refine WPL.nil (onto_of ?_)
  refine WP.seq ?_
  refine WP.region ?_
  refine WPL.val (v_move (v := .slice _ _ _) rfl) ?_
  refine WPL.val (v_move (v := .int .i64 _) rfl) ?_
  refine WPL.val (v_slice (kh := 0) (l := k) (h := l.length) Try.underlying50 Try.sizeOf3 rfl ⟨rfl, rfl⟩ rfl (by omega) (by omega)) ?_
  refine WPL.nil (onto_of ?_)
  refine WP.seq ?_
  refine WP.region ?_
  refine WPL.val (v_move (v := .slice _ _ _) rfl) ?_
  refine WPL.val (v_len Try.underlying50 rfl) ?_
  refine WPL.val (v_assign (v := .int .i64 _) rfl) ?_
  refine WPL.nil (onto_of ?_)
  refine WP.seq ?_
  refine WP.seq ?_
  refine WP.region ?_
  refine WPL.val (v_move (v := .int .i64 _) rfl) ?_
  refine WPL.val (v_lit (b := false) (v_eql rfl rfl) (by decide)) ?_
  refine WPL.nil (onto_of ?_)
  refine WP.condF rfl ?_
  refine WP.skip (onto_of ?_)
  refine WP.seq ?_
  refine WP.region ?_
  refine WPL.val (v_move (v := .slice _ _ _) rfl) ?_
  refine WPL.val (v_len Try.underlying50 rfl) ?_
  refine WPL.val (v_assign (v := .int .i64 _) rfl) ?_
  refine WPL.nil (onto_of ?_)
  refine WP.seq ?_
  refine WP.seq ?_
  refine WP.region ?_
  refine WPL.val (v_move (v := .int .i64 _) rfl) ?_
  refine WPL.val (v_move (v := .int .i64 _) rfl) ?_
  refine WPL.val (v_eql rfl rfl) ?_
  refine WPL.nil (onto_of ?_)
  refine WP.condP rfl (fun h22 => ?_) (fun h22 => ?_)
  ·
    obtain rfl : k = l.length := by omega
    refine WP.seq ?_
    refine WP.region ?_
    refine WPL.val (v_move (v := .slice _ _ _) rfl) ?_
    refine WPL.val (v_move (v := .slice _ _ _) rfl) ?_
    refine WPL.ef (x_append (sz := 1) (σ' := fun _ => [_, _]) Try.underlying50 int_info rfl (by decide) rfl rfl (i := 0) rfl (fun w hw => hw.src_row (i := 1) rfl) rfl (by simp [Value.oneCell']) (by omega) (by omega) (fun _ => rfl)) (fun ⟨A25, c25⟩ => ?_)
    refine WPL.val (v_assign (v := .slice _ _ _) rfl) ?_
    refine WPL.nil (onto_of ?_)
    exact WP.ret1 Try.results45 (fun _ h => h) (fun w hw => ⟨(A25, c25), rfl, trivial, by have h := (hw.sel [0] (by decide)); rw [← (show (insAt l l.length x).map (Value.int .i64) = l.map (Value.int .i64) ++ [x].map (Value.int .i64) by simp [insAt])] at h; exact h⟩)
  ·
    have hkl : k < l.length := by omega
    refine WP.holds (fun w hw => hw.row_pos (i := 0) rfl (by omega)) (fun ⟨rb, hA⟩ => ?_)
    subst hA
    refine WP.skip (onto_of ?_)
    refine WP.seq ?_
    refine WP.seq ?_
    refine WP.region ?_
    refine WPL.val (v_move (v := .int .i64 _) rfl) ?_
    refine WPL.val (v_move (v := .int .i64 _) rfl) ?_
    refine WPL.val (v_add rfl rfl (by omega)) ?_
    refine WPL.val (v_move (v := .slice _ _ _) rfl) ?_
    refine WPL.val (v_cap Try.underlying50 rfl) ?_
    refine WPL.val (v_gtr rfl rfl) ?_
    refine WPL.nil (onto_of ?_)
    refine WP.condP rfl (fun h31 => ?_) (fun h31 => ?_)
    ·
      refine WP.seq ?_
      refine WP.region ?_
      refine WPL.val (v_move (v := .slice _ _ _) rfl) ?_
      refine WPL.val (v_move (v := .int .i64 _) rfl) ?_
      refine WPL.val (v_slice (kl := 0) (l := 0) (h := k) Try.underlying50 Try.sizeOf3 rfl rfl ⟨rfl, rfl⟩ (by omega) (by omega)) ?_
      simp only [cutAddr_zero]
      refine WPL.val (v_move (v := .int .i64 _) rfl) ?_
      refine WPL.val (v_move (v := .int .i64 _) rfl) ?_
      refine WPL.val (v_add rfl rfl (by omega)) ?_
      refine WPL.val (v_move (v := .int .i64 _) rfl) ?_
      refine WPL.val (v_sub rfl rfl (by omega)) ?_
      refine WPL.ef (x_appendGrowZ (k := k) (j := l.length + 1 - k) (us := (l.take k).map (Value.int .i64)) (σ'' := fun _ => [_, _, _]) Try.underlying50 Try.underlying3 int_info rfl rfl rfl (by omega) (by simp; omega) (fun w hw => .inr ⟨rb, 0, rfl, hw.row_at (i := 0) rfl 0 (fun j u hj => by rw [Nat.zero_add]; exact take_get hj)⟩) (by omega) (by omega) (by omega) (by omega) (by decide) (fun _ => rfl)) (fun ⟨nb, c2⟩ => ?_)
      refine WPL.fact (fun ⟨hc2, hm2⟩ => ?_)
      dsimp only at hc2 hm2
      dsimp only
      refine WPL.val (v_assign (v := .slice _ _ _) rfl) ?_
      refine WPL.nil (onto_of ?_)
      refine WP.seq ?_
      refine WP.region ?_
      refine WPL.val (v_move (v := .slice _ _ _) rfl) ?_
      refine WPL.val (v_move (v := .int .i64 _) rfl) ?_
      refine WPL.val (v_slice (kh := 0) (l := k) (h := k + (l.length + 1 - k)) Try.underlying50 Try.sizeOf3 rfl ⟨rfl, rfl⟩ rfl (by omega) (by omega)) ?_
      rw [cutAddr_ne (show c2 ≠ k by omega)]
      refine WPL.val (v_move (v := .slice _ _ _) rfl) ?_
      refine WPL.ef (x_copyIn (us := [.int .i64 x]) (σ' := [_, _, _]) Try.underlying50 (by kernel_rfl) rfl rfl (i := 2) rfl (by show 1 = min 1 _; omega) (fun w hw => hw.row_at1 (i := 1) (k := 0) rfl rfl rfl) (by simp; omega) (by simp [Value.oneCell']) rfl) (fun _ => ?_)
      refine WPL.nil (onto_of ?_)
      refine WP.seq ?_
      refine WP.drawSel none [0, 1] [(0, true), (1, true), (2, true), (3, true), (4, true), (5, true), (6, true), (7, true), (8, false)] mixed (by kernel_rfl) (by decide) ?_
      refine WPD.take rfl (v_move (v := .slice _ _ _) rfl) ?_ (fun _ h => h.sel [0, 1] (by decide))
      refine WPD.take rfl (v_move (v := .int .i64 _) rfl) ?_ (fun _ h => h.sel [0, 1] (by decide))
      refine WPD.take rfl (v_move (v := .int .i64 _) rfl) ?_ (fun _ h => h.sel [0, 1] (by decide))
      refine WPD.take rfl (v_add rfl rfl (by omega)) ?_ (fun _ h => h.sel [0, 1] (by decide))
      refine WPD.take rfl (v_slice (kh := 0) (l := (k + 1)) (h := k + (l.length + 1 - k)) Try.underlying50 Try.sizeOf3 rfl ⟨rfl, rfl⟩ rfl (by omega) (by omega)) ?_ (fun _ h => h.sel [0, 1] (by decide))
      rw [cutAddr_ne (show c2 ≠ k + 1 by omega)]
      refine WPD.take rfl (v_move (v := .slice _ _ _) rfl) ?_ (fun _ h => h.sel [0, 1] (by decide))
      refine WPD.take rfl (v_move (v := .int .i64 _) rfl) ?_ (fun _ h => h.sel [0, 1] (by decide))
      refine WPD.take rfl (v_slice (kh := 0) (l := k) (h := l.length) Try.underlying50 Try.sizeOf3 rfl ⟨rfl, rfl⟩ rfl (by omega) (by omega)) ?_ (fun _ h => h.sel [0, 1] (by decide))
      rw [cutAddr_ne (show c ≠ k by omega)]
      refine WPD.ef rfl (x_copyIn (us := (l.drop k).map (Value.int .i64)) (σ' := [_, _, _]) Try.underlying50 (by kernel_rfl) rfl rfl (i := 2) rfl (by rw [List.length_map, List.length_drop]; show _ = min _ _; omega) (fun w hw => hw.row_at (i := 0) rfl _ (fun j u hj => by rw [← hj, List.getElem?_map, List.getElem?_map, List.getElem?_drop]; congr 2; omega)) (by rw [setL_length, List.length_map, List.length_drop]; simp; omega) (ints_one _) rfl) (fun _ _ _ h => h.sel [0, 1] (by decide)) (fun _ => ?_)
      refine WPD.nil (onto_of ?_)
      refine WP.seq ?_
      refine WP.region ?_
      refine WPL.val (v_move (v := .slice _ _ _) rfl) ?_
      refine WPL.val (v_assign (v := .slice _ _ _) rfl) ?_
      refine WPL.nil (onto_of ?_)
      exact WP.ret1 Try.results45 (fun _ h => h) (fun w hw => ⟨(some ⟨nb, 0, none⟩, c2), by show Value.slice _ (k + (l.length + 1 - k)) c2 = _; rw [show k + (l.length + 1 - k) = l.length + 1 by omega], trivial, by have h := ((hw.sel [2] (by decide))).unbuf (i := 0) (n := l.length + 1) (cap := c2) rfl (by rw [setL_length, setL_length]; simp; omega) hm2 (by omega); rw [ins_grow l x (Nat.le_of_lt hkl) (by omega)] at h; exact h⟩)
    ·
      refine WP.skip (onto_of ?_)
      refine WP.seq ?_
      refine WP.buf (i := 0) rfl (fun rest hl_rest hc_rest hm_rest => ?_)
      refine WP.buf (i := 1) rfl (fun vrest hl_vrest hc_vrest hm_vrest => ?_)
      have hrl : (l.map (Value.int .i64) ++ rest).length = c := by rw [List.length_append, List.length_map]; exact hc_rest
      refine WP.region ?_
      refine WPL.val (v_move (v := .slice _ _ _) rfl) ?_
      refine WPL.val (v_move (v := .int .i64 _) rfl) ?_
      refine WPL.val (v_move (v := .int .i64 _) rfl) ?_
      refine WPL.val (v_add rfl rfl (by omega)) ?_
      refine WPL.val (v_slice (kl := 0) (l := 0) (h := (l.length + 1)) Try.underlying50 Try.sizeOf3 rfl rfl ⟨rfl, rfl⟩ (by omega) (by omega)) ?_
      simp only [cutAddr_zero]
      refine WPL.val (v_assign (v := .slice _ _ _) rfl) ?_
      refine WPL.nil (onto_of ?_)
      refine WP.seq ?_
      refine WP.seq ?_
      refine WP.region ?_
      refine WPL.val (v_move (v := .slice _ _ _) rfl) ?_
      refine WPL.val (v_move (v := .slice _ _ _) rfl) ?_
      refine WPL.val (v_move (v := .int .i64 _) rfl) ?_
      refine WPL.val (v_move (v := .int .i64 _) rfl) ?_
      refine WPL.val (v_add rfl rfl (by omega)) ?_
      refine WPL.val (v_slice (kh := 0) (l := (k + 1)) (h := l.length + 1 - 0) Try.underlying50 Try.sizeOf3 rfl ⟨rfl, rfl⟩ rfl (by omega) (by omega)) ?_
      rw [cutAddr_ne (show c - 0 ≠ k + 1 by omega)]
      refine WPL.val (v_overlaps (f := 56) (i := 1) (j := 0) (tS := 50) (tR := 4) (run_callFunc_extern Try.func56 (by kernel_rfl) (by kernel_rfl) (by kernel_rfl) (by kernel_rfl)) Try.underlying50 Try.sizeOf3 rfl rfl rfl rfl (by decide) (by omega)) ?_
      refine WPL.val (v_not rfl) ?_
      refine WPL.nil (onto_of ?_)
      refine WP.condT rfl ?_
      refine WP.seq ?_
      refine WP.drawSel none [1] [(0, true), (1, true), (2, true), (3, true), (4, true), (5, true), (6, true), (7, true), (8, false)] mixed (by kernel_rfl) (by decide) ?_
      refine WPD.take rfl (v_move (v := .slice _ _ _) rfl) ?_ (fun _ h => h.sel [1] (by decide))
      refine WPD.take rfl (v_move (v := .int .i64 _) rfl) ?_ (fun _ h => h.sel [1] (by decide))
      refine WPD.take rfl (v_move (v := .int .i64 _) rfl) ?_ (fun _ h => h.sel [1] (by decide))
      refine WPD.take rfl (v_add rfl rfl (by omega)) ?_ (fun _ h => h.sel [1] (by decide))
      refine WPD.take rfl (v_slice (kh := 0) (l := (k + 1)) (h := l.length + 1 - 0) Try.underlying50 Try.sizeOf3 rfl ⟨rfl, rfl⟩ rfl (by omega) (by omega)) ?_ (fun _ h => h.sel [1] (by decide))
      rw [cutAddr_ne (show c - 0 ≠ k + 1 by omega)]
      refine WPD.take rfl (v_move (v := .slice _ _ _) rfl) ?_ (fun _ h => h.sel [1] (by decide))
      refine WPD.take rfl (v_move (v := .int .i64 _) rfl) ?_ (fun _ h => h.sel [1] (by decide))
      refine WPD.take rfl (v_slice (kh := 0) (l := k) (h := l.length + 1 - 0) Try.underlying50 Try.sizeOf3 rfl ⟨rfl, rfl⟩ rfl (by omega) (by omega)) ?_ (fun _ h => h.sel [1] (by decide))
      rw [cutAddr_ne (show c - 0 ≠ k by omega)]
      refine WPD.ef rfl (x_copyIn (us := (l.drop k).map (Value.int .i64)) (σ' := [_, _]) Try.underlying50 (by kernel_rfl) rfl rfl (i := 0) rfl (by rw [List.length_map, List.length_drop]; show _ = min _ _; omega) (fun w hw => hw.cl_at (i := 0) rfl _ (drop_seg l rest (by omega))) (by rw [hrl, List.length_map, List.length_drop]; omega) (ints_one _) rfl) (fun _ _ _ h => h.sel [1] (by decide)) (fun _ => ?_)
      refine WPD.nil (onto_of ?_)
      refine WP.seq ?_
      refine WP.region ?_
      refine WPL.val (v_move (v := .slice _ _ _) rfl) ?_
      refine WPL.val (v_move (v := .int .i64 _) rfl) ?_
      refine WPL.val (v_slice (kh := 0) (l := k) (h := l.length + 1 - 0) Try.underlying50 Try.sizeOf3 rfl ⟨rfl, rfl⟩ rfl (by omega) (by omega)) ?_
      rw [cutAddr_ne (show c - 0 ≠ k by omega)]
      refine WPL.val (v_move (v := .slice _ _ _) rfl) ?_
      refine WPL.ef (x_copyIn (us := [.int .i64 x]) (σ' := [_, _]) Try.underlying50 (by kernel_rfl) rfl rfl (i := 0) rfl (by show _ = min _ _; simp; omega) (fun w hw => hw.cl_at (i := 1) rfl 0 rfl) (by rw [setL_length, hrl]; simp; omega) (by simp [Value.oneCell']) rfl) (fun _ => ?_)
      refine WPL.nil (onto_of ?_)
      refine WP.seq ?_
      refine WP.region ?_
      refine WPL.val (v_move (v := .slice _ _ _) rfl) ?_
      refine WPL.val (v_assign (v := .slice _ _ _) rfl) ?_
      refine WPL.nil (onto_of ?_)
      exact WP.ret1 Try.results45 (fun _ h => h) (fun w hw => ⟨(some ⟨rb, 0, none⟩, c), rfl, trivial, by have h := ((hw.sel [0] (by decide))).unbuf (i := 0) (n := l.length + 1) (cap := c) rfl (by rw [setL_length, setL_length]; exact hrl) hcm (by omega); rw [ins_shift l x hkl rest (by omega)] at h; exact h⟩)
theorem delete_ct (A : Option Addr) (c : Nat) (l : List Int) (k : Nat) (hk : k < l.length) (hl : l.length ≤ 5000) : Ct Try.prog 55 #[.slice A l.length c, .int .i64 k, .int .i64 (k + 1)] [kidsI A l.length c l] (fun _ => True)
    (X := Unit) (fun _ => .slice A (l.length - 1) c) (fun _ => True) (fun _ => [kidsI A (l.length - 1) c (l.eraseIdx k)]) := by
  refine Ct.intro Try.func55 rfl Try.ntmps55 (by simp) (fun w0 _ => ?_)
  refine WP.seq ?_
  refine WP.holds (fun w hw => hw.row_cap (i := 0) rfl) (fun ⟨hnc, hcm⟩ => ?_)
  refine WP.holds (fun w hw => hw.row_pos (i := 0) rfl (by omega)) (fun ⟨rb, hA⟩ => ?_)
  subst hA
  refine WP.region ?_
  refine WPL.val (v_assign (v := .slice none 0 0) rfl) ?_
  refine WPL.nil (onto_of ?_)
  refine WP.seq ?_
  refine WP.region ?_
  refine WPL.val (v_move (v := .slice _ _ _) rfl) ?_
  refine WPL.val (v_move (v := .int .i64 _) rfl) ?_
  refine WPL.val (v_move (v := .int .i64 _) rfl) ?_
  refine WPL.val (v_move (v := .slice _ _ _) rfl) ?_
  refine WPL.val (v_len Try.underlying50 rfl) ?_
  refine WPL.val (v_slice3 (l := k) (h := k + 1) (m := l.length) Try.underlying50 Try.sizeOf3 rfl ⟨rfl, rfl⟩ ⟨rfl, rfl⟩ ⟨rfl, rfl⟩ (by omega) (by omega) (by omega)) ?_
  refine WPL.nil (onto_of ?_)
  refine WP.seq ?_
  refine WP.seq ?_
  refine WP.region ?_
  refine WPL.val (v_move (v := .int .i64 _) rfl) ?_
  refine WPL.val (v_move (v := .int .i64 _) rfl) ?_
  refine WPL.val (v_eql rfl rfl) ?_
  refine WPL.nil (onto_of ?_)
  refine WP.condP rfl (fun h => absurd h (by omega)) (fun h16 => ?_)
  refine WP.skip (onto_of ?_)
  refine WP.seq ?_
  refine WP.region ?_
  refine WPL.val (v_move (v := .slice _ _ _) rfl) ?_
  refine WPL.val (v_len Try.underlying50 rfl) ?_
  refine WPL.val (v_assign (v := .int .i64 _) rfl) ?_
  refine WPL.nil (onto_of ?_)
  refine WP.seq ?_
  refine WP.buf (i := 0) rfl (fun rest hl_rest hc_rest hm_rest => ?_)
  have hrl : (l.map (Value.int .i64) ++ rest).length = c := by rw [List.length_append, List.length_map]; exact hc_rest
  refine WP.drawSel none [] [(0, true), (1, true), (2, true), (3, true), (4, true), (5, true), (6, false), (7, true)] mixed (by kernel_rfl) (by decide) ?_
  refine WPD.take rfl (v_move (v := .slice _ _ _) rfl) ?_ (fun _ h => h.sel [] (by decide))
  refine WPD.take rfl (v_move (v := .int .i64 _) rfl) ?_ (fun _ h => h.sel [] (by decide))
  refine WPD.take rfl (v_slice (kl := 0) (l := 0) (h := k) Try.underlying50 Try.sizeOf3 rfl rfl ⟨rfl, rfl⟩ (by omega) (by omega)) ?_ (fun _ h => h.sel [] (by decide))
  simp only [cutAddr_zero]
  refine WPD.take rfl (v_move (v := .slice _ _ _) rfl) ?_ (fun _ h => h.sel [] (by decide))
  refine WPD.take rfl (v_move (v := .int .i64 _) rfl) ?_ (fun _ h => h.sel [] (by decide))
  refine WPD.take rfl (v_slice (kh := 0) (l := (k + 1)) (h := l.length) Try.underlying50 Try.sizeOf3 rfl ⟨rfl, rfl⟩ rfl (by omega) (by omega)) ?_ (fun _ h => h.sel [] (by decide))
  rw [cutAddr_if]
  refine WPD.ef rfl (x_appendIn (us := (l.drop (k + 1)).map (Value.int .i64)) (σ' := [_]) Try.underlying50 (by kernel_rfl) rfl rfl (i := 0) rfl (by rw [List.length_map, List.length_drop]) (fun w hw => .inr ⟨rb, _, rfl, del_src l rest (by omega) (by omega) (fun o us hu => hw.cl_at (i := 0) rfl o hu)⟩) (by omega) (by rw [hrl, List.length_map, List.length_drop]; omega) (ints_one _) rfl) (fun _ _ _ h => h.sel [] (by decide)) (fun _ => ?_)
  rw [show k - 0 + (l.length - (k + 1)) = l.length - 1 by omega]
  refine WPD.take rfl (v_assign (v := .slice _ _ _) rfl) ?_ (fun _ h => h.sel [] (by decide))
  refine WPD.nil (onto_of ?_)
  refine WP.seq ?_
  refine WP.region ?_
  refine WPL.val (v_move (v := .slice _ _ _) rfl) ?_
  refine WPL.val (v_move (v := .slice _ _ _) rfl) ?_
  refine WPL.val (v_len Try.underlying50 rfl) ?_
  refine WPL.val (v_move (v := .int .i64 _) rfl) ?_
  refine WPL.val (v_slice (l := (l.length - 1)) (h := l.length) Try.underlying50 Try.sizeOf3 rfl ⟨rfl, rfl⟩ ⟨rfl, rfl⟩ (by omega) (by omega)) ?_
  rw [cutAddr_ne (show c - 0 ≠ l.length - 1 by omega), show l.length - (l.length - 1) = 0 + 1 by omega]
  refine WPL.ef0 (x_clearIn (n := 0) (σ' := [_]) Try.underlying50 Try.zeroValue3 rfl rfl rfl (i := 0) rfl (by rw [setL_length, hrl]; omega) rfl) (fun _ => ?_)
  refine WPL.nil (onto_of ?_)
  refine WP.seq ?_
  refine WP.region ?_
  refine WPL.val (v_move (v := .slice _ _ _) rfl) ?_
  refine WPL.val (v_assign (v := .slice _ _ _) rfl) ?_
  refine WPL.nil (onto_of ?_)
  exact WP.ret1 Try.results55 (fun _ h => h) (fun w hw => ⟨(), rfl, trivial, by have h := ((hw.sel [0] (by decide))).unbuf (i := 0) (n := l.length - 1) (cap := c) rfl (by rw [setL_length, setL_length]; exact hrl) hcm (by omega); rw [del_cells l hk rest] at h; exact h⟩)
end Go.Proofs.Ytmjdmlgdffoimaa
