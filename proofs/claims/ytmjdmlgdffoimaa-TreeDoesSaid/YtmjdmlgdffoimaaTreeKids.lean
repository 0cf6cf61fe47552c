/- TreeKids. -/
import Derived.Test.YtmjdmlgdffoimaaTreeSty
namespace Go.Proofs.Ytmjdmlgdffoimaa
open Go.RowKit

section
variable {F : Forest (List Value)} {d : Int → Nat}
theorem addR_ne {z : List Value} {up at_ : Int} (h : (addR z F up at_).2.2 ≠ 0) : (addR z F up at_).1 = F ∧ (addR z F up at_).2.1 = -1 := by
  unfold addR at h ⊢
  repeat' split
  all_goals first | exact ⟨rfl, rfl⟩ | (exfalso; simp_all; done)
theorem addR_eq {z : List Value} {up at_ : Int} (h : (addR z F up at_).2.2 = 0) : hasF F up = true ∧ 0 ≤ at_ ∧ at_ ≤ (kidsF F up).length ∧ lenF F < 4096 ∧ addR z F up at_ = (addG F up at_.toNat (least F) z, least F, 0) := by
  unfold addR at h ⊢
  split at h
  · cases h
  · rename_i h1
    split at h
    · cases h
    · rename_i h2
      split at h
      · cases h
      · rename_i h3
        split at h
        · cases h
        · rename_i h4
          rw [if_neg h1, if_neg h2, if_neg h3, if_neg h4]
          exact ⟨by simpa using h1, by omega, by omega, by omega, rfl⟩
theorem WF.len_add (h : WF F d) {up : Int} {k : Nat} {z : List Value} {G : Forest (List Value)} {d' : Int → Nat} (hG : WF G d') (hup : hasF F up = true) (e : G = addG F up k (least F) z) : lenF G = lenF F + 1 := by
  subst e
  have hn := h.least_ok.2.2.1
  have h1 := h.len_le' hG (least F) (fun x hx => has_addG hx)
  have h2 := nodup_len (l := least F :: order F) (m := order (addG F up k (least F) z)) (by
    rw [List.nodup_cons]
    exact ⟨fun hm => (by rw [h.mem_order.1 hm] at hn; cases hn), h.order_nodup⟩) (fun x hx => by
    rcases List.mem_cons.1 hx with rfl | hx
    · refine hG.mem_order.2 ?_
      unfold hasF addG
      rw [if_neg (fun e => by rw [e, hup] at hn; cases hn), if_pos rfl]; rfl
    · exact hG.mem_order.2 (addG_has (h.mem_order.1 hx)))
  simp only [List.length_cons] at h2
  unfold lenF at *; omega
theorem kids_add {up id : Int} {k : Nat} {z : List Value} (h : hasF F up = true) (hid : hasF F id = false) : kidsF (addG F up k id z) up = insAt (kidsF F up) k id ∧ kidsF (addG F up k id z) id = [] ∧ styF zeroS (addG F up k id z) id = z := by
  obtain ⟨b, hb⟩ := some_has h
  have hne : id ≠ up := fun e => by rw [e, h] at hid; cases hid
  simp [kidsF, styF, addG, hb, hne]
theorem WF.kidsF_len (h : WF F d) (x : Int) : (kidsF F x).length ≤ 4096 := by
  cases e : F x with
  | none => simp [kidsF, e]
  | some b => rw [kids_some e]; exact h.kids_le e
end
theorem insAt_get {l : List Int} {k : Nat} {x : Int} (h : k ≤ l.length) : (insAt l k x)[k]? = some x := by
  unfold insAt
  rw [List.getElem?_append_right (by rw [List.length_take]; omega), List.length_take, Nat.min_eq_left h, Nat.sub_self]; rfl
theorem insAt_parts {l : List Int} {k : Nat} {x : Int} (h : k ≤ l.length) : (insAt l k x).take k ++ (insAt l k x).drop (k + 1) = l := by
  unfold insAt
  have h1 : (l.take k).length = k := by rw [List.length_take]; omega
  have e1 : (l.take k ++ x :: l.drop k).take k = l.take k := List.take_left' h1
  have e2 : (l.take k ++ x :: l.drop k).drop (k + 1) = l.drop k := by
    rw [← List.drop_drop, List.drop_left' h1]; rfl
  rw [e1, e2, List.take_append_drop]
theorem St.srcPart {w0 w : World} {M : Nat → Prop} {σ : List HI} {i rb n c : Nat} {ws : List Int} (h : St w0 M σ w) (hi : σ[i]? = some (kidsI (some ⟨rb, 0, none⟩) n c ws)) (l m q : Nat) (hm : m = l → ws.drop l = []) : Src w (cutAddr (some ⟨rb, 0, none⟩) l m 1) q (((ws.drop l).take q).map (Value.int .i64)) := by
  unfold cutAddr
  split
  · rename_i e
    rw [hm e]
    exact .inr ⟨rb, 0, rfl, fun j u hj => by simp at hj⟩
  · refine .inr ⟨rb, 0 + l * 1, by simp [Addr.add]; intro e; exact e.symm, h.row_at hi _ fun j u hj => ?_⟩
    rw [List.getElem?_map, List.getElem?_take] at hj
    split at hj
    · rw [List.getElem?_drop] at hj
      rw [List.getElem?_map, ← hj]
      congr 2; omega
    · cases hj
set_option maxRecDepth 100000 in
set_option maxHeartbeats 2000000 in
theorem lawKids_ct (A : Option Addr) (c : Nat) (l : List AC) (up at_ : Int) : Ct Try.prog 7 #[.slice A l.length c, .int .i64 up, .int .i64 at_] [] (fun w => RdE w A 59 encA l) (X := Unit) (fun _ => .bool true) (fun _ => True) (fun _ => []) := by
  refine Ct.intro Try.func7 rfl Try.ntmps7 (by simp) (fun w0 hz => ?_)
  refine WP.seq ?_
  refine WP.region ?_
  refine WPL.val (v_assign (v := .bool false) rfl) ?_
  refine WPL.nil (onto_of ?_)
  refine WP.seq ?_
  refine WP.region ?_
  refine WPL.ef (x_call Try.call10 works_ct [] [] rfl (fun w hw => trivial) (τ := fun _ => []) (fun _ => rfl)) (fun _ => ?_)
  refine WPL.fact (fun _ => ?_)
  refine WPL.val (v_assign (v := .bool _) rfl) ?_
  refine WPL.nil (onto_of ?_)
  refine WP.seq ?_
  refine WP.seq ?_
  refine WP.region ?_
  refine WPL.val (v_move (v := .bool _) rfl) ?_
  refine WPL.val (v_not rfl) ?_
  refine WPL.nil (onto_of ?_)
  refine WP.condF rfl ?_
  refine WP.skip (onto_of ?_)
  refine WP.seq ?_
  refine WP.seq ?_
  refine WP.region ?_
  refine WPL.val (v_move (v := .slice _ _ _) rfl) ?_
  refine WPL.val (v_len Try.underlying22 rfl) ?_
  refine WPL.val (v_gtr rfl rfl) ?_
  refine WPL.nil (onto_of ?_)
  refine WP.condP rfl (fun h21 => ?_) (fun h21 => ?_)
  ·
    refine WP.seq ?_
    refine WP.region ?_
    refine WPL.val (v_move (v := .bool _) rfl) ?_
    refine WPL.val (v_assign (v := .bool _) rfl) ?_
    refine WPL.nil (onto_of ?_)
    exact WP.ret1 Try.results7 (fun _ h => h) (fun w hw => ⟨(), rfl, trivial, hw.sel [] (by decide)⟩)
  ·
    refine WP.skip (onto_of ?_)
    refine WP.seq ?_
    refine WP.region ?_
    refine WPL.ef (x_call Try.call11 new_ct [] [] rfl (fun w hw => trivial) (τ := fun _ => [_]) (fun _ => rfl)) (fun ⟨tp, mb, nb⟩ => ?_)
    refine WPL.fact (fun _ => ?_)
    refine WPL.val (v_assign (v := .pointer _) rfl) ?_
    refine WPL.nil (onto_of ?_)
    refine WP.seq ?_
    refine WP.seq ?_
    refine WP.region ?_
    refine WPL.val (v_assign (v := .int .i64 (0)) rfl) ?_
    refine WPL.nil (onto_of ?_)
    refine WP.block ?_
    refine WP.loopK (X := Nat × List PE) [0, 1, 2, 7, 8] (fun p => [(9, .int .i64 (p.1 : Int))]) (fun p w => (p.1 ≤ l.length ∧ FoR p.2 = AF (l.take p.1) ∧ LOk p.2) ∧ St w0 (foots []) [treeI tp mb p.2] w) (fun p => l.length - p.1) (0, [newE 0 nb (-1)]) ⟨rfl, trivial⟩ (fun w hw => ⟨⟨Nat.zero_le _, (newE_ok nb).1, (newE_ok nb).2⟩, (hw.sel [0] (by decide))⟩) (fun p ρ0 => ?_)
    obtain ⟨k, es⟩ := p
    dsimp only
    refine WP.fact (fun ⟨hkl, hFo, hk⟩ => ?_)
    refine WP.seq ?_
    refine WP.seq ?_
    refine WP.region ?_
    refine WPL.val (v_move (v := .int .i64 _) rfl) ?_
    refine WPL.val (v_move (v := .slice _ _ _) rfl) ?_
    refine WPL.val (v_len Try.underlying22 rfl) ?_
    refine WPL.val (v_lss rfl rfl) ?_
    refine WPL.nil (onto_of ?_)
    refine WP.condP rfl (fun h27 => ?_) (fun h27 => ?_)
    ·
      obtain ⟨x, hx⟩ : ∃ x, l[k]? = some x := ⟨_, List.getElem?_eq_getElem (by omega)⟩
      obtain ⟨ab, ao, rfl, hc⟩ := hz k x hx
      obtain ⟨d, hF⟩ := AF_wf (l.take k)
      rw [← hFo] at hF
      refine WP.skip (onto_of ?_)
      refine WP.seq ?_
      refine WP.block ?_
      refine WP.region ?_
      refine WPL.val (v_move (v := .pointer _) rfl) ?_
      refine WPL.val (v_move (v := .slice _ _ _) rfl) ?_
      refine WPL.val (v_move (v := .int .i64 _) rfl) ?_
      refine WPL.val (v_index Try.underlying22 Try.sizeOf45 rfl rfl rfl (by omega)) ?_
      refine WPL.val (v_loadA (cs := encA x) Try.isAgg45 Try.sizeOf45 rfl (fun w hw => hw.old_at hc (not_foots_nil _)) (encA_len x)) ?_
      refine WPL.ef (x_call Try.call28 (do_ct tp mb es hk hF x.1 x.2) [0] [] rfl (fun w hw => trivial) (τ := fun _ => [_]) (fun _ => rfl)) (fun es1 => ?_)
      refine WPL.fact (fun hf => ?_)
      refine WPL.nil (onto_of ?_)
      refine WP.region ?_
      refine WPL.val (v_move (v := .int .i64 _) rfl) ?_
      refine WPL.val (v_add rfl rfl (by omega)) ?_
      refine WPL.val (v_assign (v := .int .i64 _) rfl) ?_
      exact WPL.nil fun w hw => ⟨rfl, (k + 1, es1), (by simp only; omega), ⟨rfl, (via (.slice _ _ _) rfl rfl), (via (.int .i64 _) rfl rfl), (via (.int .i64 _) rfl rfl), (via (.bool _) rfl rfl), (via (.pointer _) rfl rfl), trivial⟩, ⟨⟨by simp only; omega, by rw [AF_snoc hx, ← hFo]; exact hf.1, hf.2⟩, (hw.sel [0] (by decide))⟩⟩
    ·
      obtain rfl : k = l.length := by omega
      rw [List.take_of_length_le (Nat.le_refl _)] at hFo
      obtain ⟨d, hF⟩ := AF_wf l
      rw [← hFo] at hF
      refine WP.exit (onto_of ?_)
      refine WP.seq ?_
      refine WP.region ?_
      refine WPL.val (v_move (v := .pointer _) rfl) ?_
      refine WPL.val (v_move (v := .int .i64 _) rfl) ?_
      refine WPL.ef (x_call Try.call23 (kids_ct tp mb es hk up (by have := WF.kidsF_len hF up; omega)) [0] [] rfl (fun w hw => trivial) (τ := fun _ => [_, _]) (fun _ => rfl)) (fun ⟨A10, c10⟩ => ?_)
      refine WPL.fact (fun _ => ?_)
      refine WPL.val (v_assign (v := .slice _ _ _) rfl) ?_
      refine WPL.nil (onto_of ?_)
      refine WP.seq ?_
      refine WP.region ?_
      refine WPL.val (v_move (v := .pointer _) rfl) ?_
      refine WPL.ef (x_call Try.call27 (len_ct tp mb es) [0] [1] rfl (fun w hw => trivial) (τ := fun _ => [_, _]) (fun _ => rfl)) (fun _ => ?_)
      refine WPL.fact (fun _ => ?_)
      refine WPL.val (v_assign (v := .int .i64 _) rfl) ?_
      refine WPL.nil (onto_of ?_)
      refine WP.seq ?_
      refine WP.region ?_
      refine WPL.val (v_move (v := .pointer _) rfl) ?_
      refine WPL.val (v_move (v := .int .i64 _) rfl) ?_
      refine WPL.val (v_move (v := .int .i64 _) rfl) ?_
      refine WPL.ef (x_call Try.call32 (add_ct tp mb es hk hF up at_) [1] [0] rfl (fun w hw => trivial) (τ := fun _ => [_, _]) (fun _ => rfl)) (fun es1 => ?_)
      refine WPL.fact (fun hf1 => ?_)
      have hF1 : ∃ d1, WF (FoR es1) d1 := by rw [hf1.1]; exact hF.addR zeroS up at_
      obtain ⟨d1, hF1⟩ := hF1
      refine WPL.val (v_move rfl) ?_
      refine WPL.val (v_extract (v := .int .i64 _) rfl rfl) ?_
      refine WPL.val (v_extract (v := .int .i64 _) rfl rfl) ?_
      refine WPL.val (v_assign (v := .int .i64 _) rfl) ?_
      refine WPL.val (v_assign (v := .int .i64 _) rfl) ?_
      refine WPL.nil (onto_of ?_)
      refine WP.seq ?_
      refine WP.region ?_
      refine WPL.val (v_move (v := .pointer _) rfl) ?_
      refine WPL.val (v_move (v := .int .i64 _) rfl) ?_
      refine WPL.ef (x_call Try.call23 (kids_ct tp mb es1 hf1.2 up (by have := WF.kidsF_len hF1 up; omega)) [1] [0] rfl (fun w hw => trivial) (τ := fun _ => [_, _, _]) (fun _ => rfl)) (fun ⟨A14, c14⟩ => ?_)
      refine WPL.fact (fun _ => ?_)
      refine WPL.val (v_assign (v := .slice _ _ _) rfl) ?_
      refine WPL.nil (onto_of ?_)
      refine WP.seq ?_
      refine WP.seq ?_
      refine WP.region ?_
      refine WPL.val (v_move (v := .int .i64 _) rfl) ?_
      refine WPL.val (v_neq rfl rfl) ?_
      refine WPL.nil (onto_of ?_)
      refine WP.condP rfl (fun h52 => ?_) (fun h52 => ?_)
      ·
        obtain ⟨hsame0, hm1⟩ := addR_ne h52
        have hsame : FoR es1 = FoR es := by rw [hf1.1]; exact hsame0
        have hln : es1.length = es.length := by
          have e1 := len_es hk hF
          have e2 := len_es hf1.2 hF1
          rw [hsame] at e2; omega
        refine WP.seq ?_
        refine WP.region ?_
        refine WPL.val (v_move (v := .bool _) rfl) ?_
        refine WPL.val (v_move (v := .bool _) rfl) ?_
        refine WPL.valG (v_move (v := .int .i64 _) rfl) ?_
        refine WPL.valG (v_is (b := true) (v_eql rfl rfl) (decide_eq_true hm1)) ?_
        refine WPL.val (v_pickT (u := .bool _) rfl rfl) ?_
        refine WPL.val (v_move (v := .bool _) rfl) ?_
        refine WPL.valG (v_move (v := .slice _ _ _) rfl) ?_
        refine WPL.valG (v_move (v := .slice _ _ _) rfl) ?_
        refine WPL.efG (x_call Try.call22 (rowT_ct A10 A14 c10 c14 (kidsF (FoR es) up) (kidsF (FoR es1) up) (by have := hF.kidsF_len up; omega) (by rw [hsame])) [] [0, 1, 2] rfl (fun w hw => ⟨hw.rd_row1 (i := 0) rfl, hw.rd_row1 (i := 2) rfl⟩) (τ := fun _ => [_, _, _]) (fun _ => rfl)) (fun _ => ?_)
        refine WPL.fact (fun _ => ?_)
        refine WPL.val (v_pickT (u := .bool _) rfl rfl) ?_
        refine WPL.val (v_move (v := .bool _) rfl) ?_
        refine WPL.valG (v_move (v := .pointer _) rfl) ?_
        refine WPL.efG (x_call Try.call27 (len_ct tp mb es1) [1] [0, 2] rfl (fun w hw => trivial) (τ := fun _ => [_, _, _]) (fun _ => rfl)) (fun _ => ?_)
        refine WPL.fact (fun _ => ?_)
        refine WPL.valG (v_move (v := .int .i64 _) rfl) ?_
        refine WPL.valG (v_is (b := true) (v_eql rfl rfl) (decide_eq_true (by omega))) ?_
        refine WPL.val (v_pickT (u := .bool _) rfl rfl) ?_
        refine WPL.val (v_assign (v := .bool _) rfl) ?_
        refine WPL.nil (onto_of ?_)
        exact WP.ret1 Try.results7 (fun _ h => h) (fun w hw => ⟨(), rfl, trivial, hw.sel [] (by decide)⟩)
      ·
        have h0 := Decidable.not_not.1 h52
        obtain ⟨hup, ha0, ha1, hl4, haR⟩ := addR_eq h0
        obtain ⟨k, rfl⟩ : ∃ k : Nat, at_ = k := ⟨at_.toNat, by omega⟩
        rw [Int.toNat_natCast] at haR
        have hno := hF.least_ok.2.2.1
        have hG : FoR es1 = addG (FoR es) up k (least (FoR es)) zeroS := by rw [hf1.1, haR]
        obtain ⟨hk1, hk2, hk3⟩ := kids_add (F := FoR es) (k := k) (z := zeroS) hup hno
        rw [← hG] at hk1 hk2 hk3
        have hkl : k ≤ (kidsF (FoR es) up).length := by omega
        have hid : (addR zeroS (FoR es) up (k : Int)).2.1 = least (FoR es) := by rw [haR]
        rw [hid]
        have hwl : (kidsF (FoR es1) up).length = (kidsF (FoR es) up).length + 1 := by rw [hk1, insAt_len hkl]
        have hwk : (kidsF (FoR es1) up)[k]? = some (least (FoR es)) := by rw [hk1]; exact insAt_get hkl
        have hwp : (kidsF (FoR es1) up).take k ++ (kidsF (FoR es1) up).drop (k + 1) = kidsF (FoR es) up := by rw [hk1]; exact insAt_parts hkl
        have hln : es1.length = es.length + 1 := by
          have e1 := len_es hk hF
          have e2 := len_es hf1.2 hF1
          have e3 := hF.len_add hF1 hup hG
          omega
        have hzb := hF.kidsF_len up
        have hel : es.length < 4096 := by have := len_es hk hF; omega
        refine WP.holds (fun w hw => hw.row_pos (i := 2) rfl (by omega)) (fun ⟨rb, hA⟩ => ?_)
        subst hA
        refine WP.holds (fun w hw => hw.row_cap (i := 2) rfl) (fun ⟨hnc, hcm⟩ => ?_)
        dsimp only at hnc hcm
        refine WP.skip (onto_of ?_)
        refine WP.seq ?_
        refine WP.seq ?_
        refine WP.region ?_
        refine WPL.val (v_move (v := .slice _ _ _) rfl) ?_
        refine WPL.val (v_len Try.underlying50 rfl) ?_
        refine WPL.val (v_move (v := .slice _ _ _) rfl) ?_
        refine WPL.val (v_len Try.underlying50 rfl) ?_
        refine WPL.val (v_add rfl rfl (by omega)) ?_
        refine WPL.val (v_is (b := false) (v_neq rfl rfl) (decide_eq_false (by omega))) ?_
        refine WPL.val (v_move (v := .bool _) rfl) ?_
        refine WPL.valG (v_move (v := .slice _ _ _) rfl) ?_
        refine WPL.valG (v_move (v := .int .i64 _) rfl) ?_
        refine WPL.valG (v_index (j := k) Try.underlying50 Try.sizeOf3 rfl rfl rfl (by omega)) ?_
        refine WPL.valG (v_load1 (u := .int .i64 _) Try.isAgg3 rfl (fun w hw => hw.row_at1 (i := 2) rfl (by rw [List.getElem?_map, hwk]; rfl) (by omega))) ?_
        refine WPL.valG (v_move (v := .int .i64 _) rfl) ?_
        refine WPL.valG (v_is (b := false) (v_neq rfl rfl) (decide_eq_false (fun h => h rfl))) ?_
        refine WPL.val (v_pickF (v := .bool _) rfl rfl) ?_
        refine WPL.val (v_move (v := .bool _) rfl) ?_
        refine WPL.valG (v_move (v := .pointer _) rfl) ?_
        refine WPL.efG (x_call Try.call27 (len_ct tp mb es1) [1] [0, 2] rfl (fun w hw => trivial) (τ := fun _ => [_, _, _]) (fun _ => rfl)) (fun _ => ?_)
        refine WPL.fact (fun _ => ?_)
        refine WPL.valG (v_move (v := .int .i64 _) rfl) ?_
        refine WPL.valG (v_add rfl rfl (by omega)) ?_
        refine WPL.valG (v_is (b := false) (v_neq rfl rfl) (decide_eq_false (by omega))) ?_
        refine WPL.val (v_pickF (v := .bool _) rfl rfl) ?_
        refine WPL.val (v_move (v := .bool _) rfl) ?_
        refine WPL.valG (v_move (v := .pointer _) rfl) ?_
        refine WPL.valG (v_move (v := .int .i64 _) rfl) ?_
        refine WPL.efG (x_call Try.call20 (style_ct tp mb es1 hf1.2 (least (FoR es))) [2] [0, 1] rfl (fun w hw => trivial) (τ := fun _ => [_, _, _]) (fun _ => rfl)) (fun _ => ?_)
        refine WPL.fact (fun _ => ?_)
        refine WPL.valG (v_struct (parts := []) (us := zeroS) (pl := [(0, 1), (1, 1), (2, 1), (3, 2), (5, 2), (7, 2), (9, 2), (11, 2), (13, 2), (15, 8), (23, 8), (31, 4), (35, 4), (39, 1), (40, 1), (41, 2), (43, 1), (44, 1), (45, 1), (46, 1), (47, 1), (48, 1), (49, 1), (50, 1), (51, 1), (52, 1), (53, 2)]) Try.underlying43 Try.zeroValue43 rfl (by kernel_rfl) rfl rfl (by kernel_rfl)) ?_
        refine WPL.valG (v_is (b := false) (v_neA leaf43 (by kernel_rfl) (fun _ => rfl) rfl rfl (hf1.2.styOk _).leaves zeroS_ok.leaves) (by rw [hk3, eqv_self]; rfl)) ?_
        refine WPL.val (v_pickF (v := .bool _) rfl rfl) ?_
        refine WPL.nil (onto_of ?_)
        refine WP.condF rfl ?_
        refine WP.skip (onto_of ?_)
        refine WP.seq ?_
        refine WP.region ?_
        refine WPL.val (v_assign (v := .slice none 0 0) rfl) ?_
        refine WPL.nil (onto_of ?_)
        refine WP.seq ?_
        refine WP.pre ?_ (fun w hw => hw.nilRow 3 1)
        refine WP.region ?_
        refine WPL.val (v_move (v := .slice _ _ _) rfl) ?_
        refine WPL.val (v_move (v := .slice _ _ _) rfl) ?_
        refine WPL.val (v_move (v := .int .i64 _) rfl) ?_
        refine WPL.val (v_slice (kl := 0) (l := 0) (h := k) Try.underlying50 Try.sizeOf3 rfl rfl ⟨rfl, rfl⟩ (by omega) (by omega)) ?_
        refine WPL.ef (x_append (sz := 1) (σ' := fun _ => [_, _, _, _]) Try.underlying50 int_info rfl (by decide) rfl rfl (i := 3) rfl (fun w hw => hw.srcPart (i := 1) rfl 0 c14 (k - 0) (fun e => by exfalso; omega)) (by simp; omega) (ints_one _) (by omega) (by omega) (fun _ => rfl)) (fun ⟨A101, c101⟩ => ?_)
        refine WPL.val (v_assign (v := .slice _ _ _) rfl) ?_
        refine WPL.nil (onto_of ?_)
        refine WP.seq ?_
        refine WP.region ?_
        refine WPL.val (v_move (v := .slice _ _ _) rfl) ?_
        refine WPL.val (v_move (v := .slice _ _ _) rfl) ?_
        refine WPL.val (v_move (v := .int .i64 _) rfl) ?_
        refine WPL.val (v_add rfl rfl (by omega)) ?_
        refine WPL.val (v_slice (kh := 0) (l := (k + 1)) (h := (kidsF (FoR es1) up).length) Try.underlying50 Try.sizeOf3 rfl ⟨rfl, rfl⟩ rfl (by omega) (by omega)) ?_
        refine WPL.ef (x_append (sz := 1) (σ' := fun _ => [_, _, _, _]) Try.underlying50 int_info rfl (by decide) rfl rfl (i := 3) rfl (fun w hw => hw.srcPart (i := 1) rfl (k + 1) c14 ((kidsF (FoR es1) up).length - (k + 1)) (fun e => List.drop_eq_nil_of_le (by omega))) (by simp) (ints_one _) (by omega) (by omega) (fun _ => rfl)) (fun ⟨A107, c107⟩ => ?_)
        refine WPL.val (v_assign (v := .slice _ _ _) rfl) ?_
        refine WPL.nil (onto_of ?_)
        refine WP.seq ?_
        rw [show 0 + (k - 0) + ((kidsF (FoR es1) up).length - (k + 1)) = (kidsF (FoR es) up).length by omega]
        rw [show ([] : List Value) ++ (((kidsF (FoR es1) up).drop 0).take (k - 0)).map (Value.int .i64) ++ (((kidsF (FoR es1) up).drop (k + 1)).take ((kidsF (FoR es1) up).length - (k + 1))).map (Value.int .i64) = (kidsF (FoR es) up).map (Value.int .i64) by rw [List.nil_append, ← List.map_append, List.drop_zero, Nat.sub_zero, show ((kidsF (FoR es1) up).drop (k + 1)).take ((kidsF (FoR es1) up).length - (k + 1)) = (kidsF (FoR es1) up).drop (k + 1) from List.take_of_length_le (by rw [List.length_drop]; exact Nat.le_refl _), hwp]]
        refine WP.region ?_
        refine WPL.val (v_move (v := .bool _) rfl) ?_
        refine WPL.val (v_move (v := .bool _) rfl) ?_
        refine WPL.valG (v_move (v := .slice _ _ _) rfl) ?_
        refine WPL.valG (v_move (v := .slice _ _ _) rfl) ?_
        refine WPL.efG (x_call Try.call22 (rowT_ct A107 A10 c107 c10 (kidsF (FoR es) up) (kidsF (FoR es) up) (by omega) rfl) [] [0, 1, 2, 3] rfl (fun w hw => ⟨hw.rd_row1 (i := 3) rfl, hw.rd_row1 (i := 0) rfl⟩) (τ := fun _ => [_, _, _, _]) (fun _ => rfl)) (fun _ => ?_)
        refine WPL.fact (fun _ => ?_)
        refine WPL.val (v_pickT (u := .bool _) rfl rfl) ?_
        refine WPL.val (v_move (v := .bool _) rfl) ?_
        refine WPL.valG (v_move (v := .pointer _) rfl) ?_
        refine WPL.valG (v_move (v := .int .i64 _) rfl) ?_
        refine WPL.efG (x_call Try.call23 (kids_ct tp mb es1 hf1.2 (least (FoR es)) (by have := WF.kidsF_len hF1 (least (FoR es)); omega)) [2] [0, 1, 3] rfl (fun w hw => trivial) (τ := fun _ => [_, _, _, _, _]) (fun _ => rfl)) (fun ⟨A117, c117⟩ => ?_)
        refine WPL.fact (fun _ => ?_)
        refine WPL.valG (v_len Try.underlying50 rfl) ?_
        refine WPL.valG (v_is (b := true) (v_eql rfl rfl) (decide_eq_true (by rw [hk2]; rfl))) ?_
        refine WPL.val (v_pickT (u := .bool _) rfl rfl) ?_
        refine WPL.val (v_assign (v := .bool _) rfl) ?_
        refine WPL.nil (onto_of ?_)
        exact WP.ret1 Try.results7 (fun _ h => h) (fun w hw => ⟨(), rfl, trivial, hw.sel [] (by decide)⟩)
end Go.Proofs.Ytmjdmlgdffoimaa
