/- The law TreeClone. -/
import Derived.Test.YtmjdmlgdffoimaaTreeLeast
import Derived.Test.YtmjdmlgdffoimaaTreeFact
namespace Go.Proofs.Ytmjdmlgdffoimaa
open Go.RowKit

set_option maxRecDepth 100000 in
set_option maxHeartbeats 2000000 in
theorem lawClone_ct (A : Option Addr) (c : Nat) (l : List AC) (B : Option Addr) (c2 : Nat) (m : List AC) (id : Int) : Ct Try.prog 5 #[.slice A l.length c, .slice B m.length c2, .int .i64 id] [] (fun w => RdE w A 59 encA l ∧ RdE w B 59 encA m) (X := Unit) (fun _ => .bool true) (fun _ => True) (fun _ => []) := by
  refine Ct.intro Try.func5 rfl Try.ntmps5 (by simp) (fun w0 ⟨hz, hz2⟩ => ?_)
  refine WP.seq ?_
  refine WP.region ?_
  refine WPL.val (v_assign (v := .bool false) rfl) ?_
  refine WPL.nil (onto_of ?_)
  refine WP.seq ?_
  refine WP.region ?_
  refine WPL.ef (x_call Try.call10 works_ct [] [] rfl (fun w hw => trivial) (τ := fun _ => []) (fun _ => rfl)) (fun _ => ?_)
  refine WPL.fact (fun _ => ?_)
  refine WPL.val (v_assign (v := .bool _) rfl) ?_
  refine WPL.nil (onto_of ?_)
  refine WP.seq ?_
  refine WP.seq ?_
  refine WP.region ?_
  refine WPL.val (v_move (v := .bool _) rfl) ?_
  refine WPL.val (v_not rfl) ?_
  refine WPL.nil (onto_of ?_)
  refine WP.condF rfl ?_
  refine WP.skip (onto_of ?_)
  refine WP.seq ?_
  refine WP.seq ?_
  refine WP.region ?_
  refine WPL.val (v_move (v := .slice _ _ _) rfl) ?_
  refine WPL.val (v_len Try.underlying22 rfl) ?_
  refine WPL.val (v_gtr rfl rfl) ?_
  refine WPL.val (v_move (v := .bool _) rfl) ?_
  refine WPL.split 21 rfl (fun h21 => ?_) (fun h21 => ?_)
  ·
    refine WPL.skipG ?_
    refine WPL.skipG ?_
    refine WPL.skipG ?_
    refine WPL.val (v_pickT (u := .bool _) rfl rfl) ?_
    refine WPL.nil (onto_of ?_)
    refine WP.condT rfl ?_
    refine WP.seq ?_
    refine WP.region ?_
    refine WPL.val (v_move (v := .bool _) rfl) ?_
    refine WPL.val (v_assign (v := .bool _) rfl) ?_
    refine WPL.nil (onto_of ?_)
    exact WP.ret1 Try.results5 (fun _ h => h) (fun w hw => ⟨(), rfl, trivial, hw.sel [] (by decide)⟩)
  ·
    refine WPL.valG (v_move (v := .slice _ _ _) rfl) ?_
    refine WPL.valG (v_len Try.underlying22 rfl) ?_
    refine WPL.valG (v_gtr rfl rfl) ?_
    refine WPL.val (v_pickF (v := .bool _) rfl rfl) ?_
    refine WPL.nil (onto_of ?_)
    refine WP.condP rfl (fun h25 => ?_) (fun h25 => ?_)
    ·
      refine WP.seq ?_
      refine WP.region ?_
      refine WPL.val (v_move (v := .bool _) rfl) ?_
      refine WPL.val (v_assign (v := .bool _) rfl) ?_
      refine WPL.nil (onto_of ?_)
      exact WP.ret1 Try.results5 (fun _ h => h) (fun w hw => ⟨(), rfl, trivial, hw.sel [] (by decide)⟩)
    ·
      refine WP.skip (onto_of ?_)
      refine WP.seq ?_
      refine WP.region ?_
      refine WPL.ef (x_call Try.call11 new_ct [] [] rfl (fun w hw => trivial) (τ := fun _ => [_]) (fun _ => rfl)) (fun ⟨tp, mb, nb⟩ => ?_)
      refine WPL.fact (fun _ => ?_)
      refine WPL.val (v_assign (v := .pointer _) rfl) ?_
      refine WPL.nil (onto_of ?_)
      refine WP.seq ?_
      refine WP.seq ?_
      refine WP.region ?_
      refine WPL.val (v_assign (v := .int .i64 (0)) rfl) ?_
      refine WPL.nil (onto_of ?_)
      refine WP.block ?_
      refine WP.loopK (X := Nat × List PE) [0, 1, 2, 7, 8] (fun p => [(9, .int .i64 (p.1 : Int))]) (fun p w => (p.1 ≤ l.length ∧ FoR p.2 = AF (l.take p.1) ∧ LOk p.2) ∧ St w0 (foots []) [treeI tp mb p.2] w) (fun p => l.length - p.1) (0, [newE 0 nb (-1)]) ⟨rfl, trivial⟩ (fun w hw => ⟨⟨Nat.zero_le _, (newE_ok nb).1, (newE_ok nb).2⟩, (hw.sel [0] (by decide))⟩) (fun p ρ0 => ?_)
      obtain ⟨k, es⟩ := p
      dsimp only
      refine WP.fact (fun ⟨hkl, hFo, hk⟩ => ?_)
      refine WP.seq ?_
      refine WP.seq ?_
      refine WP.region ?_
      refine WPL.val (v_move (v := .int .i64 _) rfl) ?_
      refine WPL.val (v_move (v := .slice _ _ _) rfl) ?_
      refine WPL.val (v_len Try.underlying22 rfl) ?_
      refine WPL.val (v_lss rfl rfl) ?_
      refine WPL.nil (onto_of ?_)
      refine WP.condP rfl (fun h31 => ?_) (fun h31 => ?_)
      ·
        obtain ⟨x, hx⟩ : ∃ x, l[k]? = some x := ⟨_, List.getElem?_eq_getElem (by omega)⟩
        obtain ⟨ab, ao, rfl, hc⟩ := hz k x hx
        obtain ⟨d, hF⟩ := AF_wf (l.take k)
        rw [← hFo] at hF
        refine WP.skip (onto_of ?_)
        refine WP.seq ?_
        refine WP.block ?_
        refine WP.region ?_
        refine WPL.val (v_move (v := .pointer _) rfl) ?_
        refine WPL.val (v_move (v := .slice _ _ _) rfl) ?_
        refine WPL.val (v_move (v := .int .i64 _) rfl) ?_
        refine WPL.val (v_index Try.underlying22 Try.sizeOf45 rfl rfl rfl (by omega)) ?_
        refine WPL.val (v_loadA (cs := encA x) Try.isAgg45 Try.sizeOf45 rfl (fun w hw => hw.old_at hc (not_foots_nil _)) (encA_len x)) ?_
        refine WPL.ef (x_call Try.call28 (do_ct tp mb es hk hF x.1 x.2) [0] [] rfl (fun w hw => trivial) (τ := fun _ => [_]) (fun _ => rfl)) (fun es1 => ?_)
        refine WPL.fact (fun hf => ?_)
        refine WPL.nil (onto_of ?_)
        refine WP.region ?_
        refine WPL.val (v_move (v := .int .i64 _) rfl) ?_
        refine WPL.val (v_add rfl rfl (by omega)) ?_
        refine WPL.val (v_assign (v := .int .i64 _) rfl) ?_
        exact WPL.nil fun w hw => ⟨rfl, (k + 1, es1), (by simp only; omega), ⟨rfl, (via (.slice _ _ _) rfl rfl), (via (.slice _ _ _) rfl rfl), (via (.int .i64 _) rfl rfl), (via (.bool _) rfl rfl), (via (.pointer _) rfl rfl), trivial⟩, ⟨⟨by simp only; omega, by rw [AF_snoc hx, ← hFo]; exact hf.1, hf.2⟩, (hw.sel [0] (by decide))⟩⟩
      ·
        obtain rfl : k = l.length := by omega
        rw [List.take_of_length_le (Nat.le_refl _)] at hFo
        obtain ⟨d, hF⟩ := AF_wf l
        rw [← hFo] at hF
        refine WP.exit (onto_of ?_)
        refine WP.seq ?_
        refine WP.region ?_
        refine WPL.val (v_move (v := .pointer _) rfl) ?_
        refine WPL.ef (x_call Try.call26 (order_ct tp mb es hk hF) [0] [] rfl (fun w hw => trivial) (τ := fun _ => [_, _]) (fun _ => rfl)) (fun ⟨A10, c10⟩ => ?_)
        refine WPL.fact (fun _ => ?_)
        refine WPL.val (v_assign (v := .slice _ _ _) rfl) ?_
        refine WPL.nil (onto_of ?_)
        refine WP.seq ?_
        refine WP.region ?_
        refine WPL.val (v_move (v := .pointer _) rfl) ?_
        refine WPL.ef (x_call Try.call29 (cloneT_ct tp mb es hk hF) [0] [1] rfl (fun w hw => trivial) (τ := fun _ => [_, _, _]) (fun _ => rfl)) (fun ⟨cp, cm, ces⟩ => ?_)
        refine WPL.fact (fun hfc => ?_)
        have hFc : WF (FoR ces) d := by rw [hfc.1]; exact hF
        have hoes : (order (FoR es)).length ≤ 4096 := hF.len_le 0
        have hoces : (order (FoR ces)).length ≤ 4096 := hFc.len_le 0
        refine WPL.val (v_assign (v := .pointer _) rfl) ?_
        refine WPL.nil (onto_of ?_)
        refine WP.seq ?_
        refine WP.seq ?_
        refine WP.region ?_
        refine WPL.val (v_move (v := .pointer _) rfl) ?_
        refine WPL.val (v_is (b := false) (v_eqNil Try.underlying24 rfl rfl) rfl) ?_
        refine WPL.val (v_move (v := .bool _) rfl) ?_
        refine WPL.valG (v_move (v := .pointer _) rfl) ?_
        refine WPL.efG (x_call Try.call26 (order_ct cp cm ces hfc.2 hFc) [2] [0, 1] rfl (fun w hw => trivial) (τ := fun _ => [_, _, _, _]) (fun _ => rfl)) (fun ⟨A48, c48⟩ => ?_)
        refine WPL.fact (fun _ => ?_)
        refine WPL.valG (v_move (v := .slice _ _ _) rfl) ?_
        refine WPL.efG (x_call Try.call22 (rowT_ct A48 A10 c48 c10 (order (FoR ces)) (order (FoR es)) (by have := hoces; omega) (by rw [hfc.1])) [] [0, 1, 2, 3] rfl (fun w hw => ⟨hw.rd_row1 (i := 3) rfl, hw.rd_row1 (i := 0) rfl⟩) (τ := fun _ => [_, _, _, _]) (fun _ => rfl)) (fun _ => ?_)
        refine WPL.fact (fun _ => ?_)
        refine WPL.valG (v_not rfl) ?_
        refine WPL.val (v_pickF (v := .bool _) rfl rfl) ?_
        refine WPL.val (v_move (v := .bool _) rfl) ?_
        refine WPL.valG (v_move (v := .pointer _) rfl) ?_
        refine WPL.valG (v_move (v := .int .i64 _) rfl) ?_
        refine WPL.efG (x_call Try.call20 (style_ct cp cm ces hfc.2 id) [2] [0, 1, 3] rfl (fun w hw => trivial) (τ := fun _ => [_, _, _, _]) (fun _ => rfl)) (fun _ => ?_)
        refine WPL.fact (fun _ => ?_)
        refine WPL.valG (v_move (v := .pointer _) rfl) ?_
        refine WPL.valG (v_move (v := .int .i64 _) rfl) ?_
        refine WPL.efG (x_call Try.call20 (style_ct tp mb es hk id) [1] [0, 2, 3] rfl (fun w hw => trivial) (τ := fun _ => [_, _, _, _]) (fun _ => rfl)) (fun _ => ?_)
        refine WPL.fact (fun _ => ?_)
        refine WPL.valG (v_is (b := false) (v_neA leaf43 (by kernel_rfl) (fun _ => rfl) rfl rfl (hfc.2.styOk id).leaves (hk.styOk id).leaves) (by rw [hfc.1, eqv_self]; rfl)) ?_
        refine WPL.val (v_pickF (v := .bool _) rfl rfl) ?_
        refine WPL.nil (onto_of ?_)
        refine WP.condF rfl ?_
        refine WP.skip (onto_of ?_)
        refine WP.seq ?_
        refine WP.seq ?_
        refine WP.region ?_
        refine WPL.val (v_assign (v := .int .i64 (0)) rfl) ?_
        refine WPL.nil (onto_of ?_)
        refine WP.block ?_
        refine WP.loopK (X := Nat × List PE) [1, 2, 7, 8, 10, 11] (fun p => [(12, .int .i64 (p.1 : Int))]) (fun p w => (p.1 ≤ m.length ∧ (∃ d, WF (FoR p.2) d) ∧ LOk p.2) ∧ St w0 (foots []) [treeI tp mb es, treeI cp cm p.2, kidsI A10 (order (FoR es)).length c10 (order (FoR es))] w) (fun p => m.length - p.1) (0, ces) ⟨rfl, trivial⟩ (fun w hw => ⟨⟨Nat.zero_le _, ⟨d, hFc⟩, hfc.2⟩, (hw.sel [3, 2, 0] (by decide))⟩) (fun p ρ0 => ?_)
        obtain ⟨q, es9⟩ := p
        dsimp only
        refine WP.fact (fun ⟨hqm, ⟨d9, hF9⟩, hk9⟩ => ?_)
        refine WP.seq ?_
        refine WP.seq ?_
        refine WP.region ?_
        refine WPL.val (v_move (v := .int .i64 _) rfl) ?_
        refine WPL.val (v_move (v := .slice _ _ _) rfl) ?_
        refine WPL.val (v_len Try.underlying22 rfl) ?_
        refine WPL.val (v_lss rfl rfl) ?_
        refine WPL.nil (onto_of ?_)
        refine WP.condP rfl (fun h65 => ?_) (fun h65 => ?_)
        ·
          obtain ⟨x, hx⟩ : ∃ x, m[q]? = some x := ⟨_, List.getElem?_eq_getElem (by omega)⟩
          obtain ⟨ab, ao, rfl, hc⟩ := hz2 q x hx
          refine WP.skip (onto_of ?_)
          refine WP.seq ?_
          refine WP.block ?_
          refine WP.region ?_
          refine WPL.val (v_move (v := .pointer _) rfl) ?_
          refine WPL.val (v_move (v := .slice _ _ _) rfl) ?_
          refine WPL.val (v_move (v := .int .i64 _) rfl) ?_
          refine WPL.val (v_index Try.underlying22 Try.sizeOf45 rfl rfl rfl (by omega)) ?_
          refine WPL.val (v_loadA (cs := encA x) Try.isAgg45 Try.sizeOf45 rfl (fun w hw => hw.old_at hc (not_foots_nil _)) (encA_len x)) ?_
          refine WPL.ef (x_call Try.call28 (do_ct cp cm es9 hk9 hF9 x.1 x.2) [1] [0, 2] rfl (fun w hw => trivial) (τ := fun _ => [_, _, _]) (fun _ => rfl)) (fun es1 => ?_)
          refine WPL.fact (fun hf => ?_)
          refine WPL.nil (onto_of ?_)
          refine WP.region ?_
          refine WPL.val (v_move (v := .int .i64 _) rfl) ?_
          refine WPL.val (v_add rfl rfl (by omega)) ?_
          refine WPL.val (v_assign (v := .int .i64 _) rfl) ?_
          exact WPL.nil fun w hw => ⟨rfl, (q + 1, es1), (by simp only; omega), ⟨rfl, (via (.slice _ _ _) rfl rfl), (via (.int .i64 _) rfl rfl), (via (.bool _) rfl rfl), (via (.pointer _) rfl rfl), (via (.slice _ _ _) rfl rfl), (via (.pointer _) rfl rfl), trivial⟩, ⟨⟨by simp only; omega, by rw [hf.1]; exact hF9.act zeroS validB x.1, hf.2⟩, (hw.sel [0, 2, 1] (by decide))⟩⟩
        ·
          refine WP.exit (onto_of ?_)
          refine WP.seq ?_
          refine WP.seq ?_
          refine WP.region ?_
          refine WPL.val (v_move (v := .pointer _) rfl) ?_
          refine WPL.ef (x_call Try.call26 (order_ct tp mb es hk hF) [0] [1, 2] rfl (fun w hw => trivial) (τ := fun _ => [_, _, _, _]) (fun _ => rfl)) (fun ⟨A75, c75⟩ => ?_)
          refine WPL.fact (fun _ => ?_)
          refine WPL.val (v_move (v := .slice _ _ _) rfl) ?_
          refine WPL.ef (x_call Try.call22 (rowT_ct A75 A10 c75 c10 (order (FoR es)) (order (FoR es)) (by have := hoes; omega) rfl) [] [0, 1, 2, 3] rfl (fun w hw => ⟨hw.rd_row1 (i := 3) rfl, hw.rd_row1 (i := 1) rfl⟩) (τ := fun _ => [_, _, _, _]) (fun _ => rfl)) (fun _ => ?_)
          refine WPL.fact (fun _ => ?_)
          refine WPL.val (v_not rfl) ?_
          refine WPL.nil (onto_of ?_)
          refine WP.condF rfl ?_
          refine WP.skip (onto_of ?_)
          refine WP.seq ?_
          refine WP.region ?_
          refine WPL.val (v_move (v := .pointer _) rfl) ?_
          refine WPL.val (v_move (v := .int .i64 _) rfl) ?_
          refine WPL.ef (x_call Try.call30 (remove_ct tp mb es hk hF id) [2] [0, 1, 3] rfl (fun w hw => trivial) (τ := fun _ => [_, _, _, _]) (fun _ => rfl)) (fun es3 => ?_)
          refine WPL.fact (fun hf3 => ?_)
          refine WPL.val (v_move rfl) ?_
          refine WPL.val (v_extract (v := .int .i64 _) rfl rfl) ?_
          refine WPL.val (v_extract (v := .int .i64 _) rfl rfl) ?_
          refine WPL.val (v_assign (v := .int .i64 _) rfl) ?_
          refine WPL.val (v_assign (v := .int .i64 _) rfl) ?_
          refine WPL.nil (onto_of ?_)
          refine WP.seq ?_
          refine WP.seq ?_
          refine WP.region ?_
          refine WPL.val (v_move (v := .int .i64 _) rfl) ?_
          refine WPL.val (v_neq rfl rfl) ?_
          refine WPL.nil (onto_of ?_)
          refine WP.condP rfl (fun h86 => ?_) (fun h86 => ?_)
          ·
            obtain ⟨hs0, hm0⟩ := remR_ne h86
            have hsame : FoR es3 = FoR es := by rw [hf3.1]; exact hs0
            have hF3 : WF (FoR es3) d := by rw [hsame]; exact hF
            have hoes3 : (order (FoR es3)).length ≤ 4096 := hF3.len_le 0
            refine WP.seq ?_
            refine WP.region ?_
            refine WPL.val (v_move (v := .bool _) rfl) ?_
            refine WPL.val (v_move (v := .bool _) rfl) ?_
            refine WPL.valG (v_move (v := .int .i64 _) rfl) ?_
            refine WPL.valG (v_is (b := true) (v_eql rfl rfl) (decide_eq_true hm0)) ?_
            refine WPL.val (v_pickT (u := .bool _) rfl rfl) ?_
            refine WPL.val (v_move (v := .bool _) rfl) ?_
            refine WPL.valG (v_move (v := .pointer _) rfl) ?_
            refine WPL.efG (x_call Try.call26 (order_ct tp mb es3 hf3.2 hF3) [3] [0, 1, 2] rfl (fun w hw => trivial) (τ := fun _ => [_, _, _, _, _]) (fun _ => rfl)) (fun ⟨A94, c94⟩ => ?_)
            refine WPL.fact (fun _ => ?_)
            refine WPL.valG (v_move (v := .slice _ _ _) rfl) ?_
            refine WPL.efG (x_call Try.call22 (rowT_ct A94 A10 c94 c10 (order (FoR es3)) (order (FoR es)) (by have := hoes3; omega) (by rw [hsame])) [] [0, 1, 2, 3, 4] rfl (fun w hw => ⟨hw.rd_row1 (i := 4) rfl, hw.rd_row1 (i := 1) rfl⟩) (τ := fun _ => [_, _, _, _, _]) (fun _ => rfl)) (fun _ => ?_)
            refine WPL.fact (fun _ => ?_)
            refine WPL.val (v_pickT (u := .bool _) rfl rfl) ?_
            refine WPL.val (v_assign (v := .bool _) rfl) ?_
            refine WPL.nil (onto_of ?_)
            exact WP.ret1 Try.results5 (fun _ h => h) (fun w hw => ⟨(), rfl, trivial, hw.sel [] (by decide)⟩)
          ·
            obtain ⟨hid, h0, hr⟩ := remR_eq (Decidable.not_not.1 h86)
            have hid1 : (remR (FoR es) id).2.1 = ((sub (FoR es) id).length : Int) := by rw [hr]
            rw [hid1]
            obtain ⟨b, hb⟩ := some_has hid
            have hG : FoR es3 = remG (FoR es) id := by rw [hf3.1, hr]
            have hFG := hF.rem hb h0
            have hF3 : WF (FoR es3) d := by rw [hG]; exact hFG
            have hle := hF.len_rem hFG
            rw [← hG] at hle
            unfold lenF at hle
            have hself : id ∈ sub (FoR es) id := hF.mem_sub.2 (Anc.refl hid)
            have hs1 := hF.len_le id
            have hs2 : 1 ≤ (sub (FoR es) id).length := List.length_pos_of_mem hself
            have hno : hasF (FoR es3) id = false := by rw [hG, hasF, remG, if_pos hself]; rfl
            have hdn : depthF (FoR es3) id = -1 := depth_none hno
            refine WP.skip (onto_of ?_)
            refine WP.seq ?_
            refine WP.region ?_
            refine WPL.val (v_move (v := .bool _) rfl) ?_
            refine WPL.val (v_move (v := .bool _) rfl) ?_
            refine WPL.valG (v_move (v := .pointer _) rfl) ?_
            refine WPL.efG (x_call Try.call26 (order_ct tp mb es3 hf3.2 hF3) [3] [0, 1, 2] rfl (fun w hw => trivial) (τ := fun _ => [_, _, _, _, _]) (fun _ => rfl)) (fun ⟨A101, c101⟩ => ?_)
            refine WPL.fact (fun _ => ?_)
            refine WPL.valG (v_len Try.underlying50 rfl) ?_
            refine WPL.valG (v_move (v := .slice _ _ _) rfl) ?_
            refine WPL.valG (v_len Try.underlying50 rfl) ?_
            refine WPL.valG (v_move (v := .int .i64 _) rfl) ?_
            refine WPL.valG (v_sub rfl rfl (by omega)) ?_
            refine WPL.valG (v_is (b := true) (v_eql rfl rfl) (decide_eq_true (by omega))) ?_
            refine WPL.val (v_pickT (u := .bool _) rfl rfl) ?_
            refine WPL.val (v_move (v := .bool _) rfl) ?_
            refine WPL.valG (v_move (v := .pointer _) rfl) ?_
            refine WPL.valG (v_move (v := .int .i64 _) rfl) ?_
            refine WPL.efG (x_call Try.call14 (by have h := has_ct tp mb es3 id; rw [hno] at h; exact h) [3] [0, 1, 2, 4] rfl (fun w hw => trivial) (τ := fun _ => [_, _, _, _, _]) (fun _ => rfl)) (fun _ => ?_)
            refine WPL.fact (fun _ => ?_)
            refine WPL.valG (v_not rfl) ?_
            refine WPL.val (v_pickT (u := .bool _) rfl rfl) ?_
            refine WPL.val (v_move (v := .bool _) rfl) ?_
            refine WPL.valG (v_move (v := .pointer _) rfl) ?_
            refine WPL.valG (v_move (v := .int .i64 _) rfl) ?_
            refine WPL.efG (x_call Try.call18 (by have h := depth_ct tp mb es3 hf3.2 hF3 id; rw [hdn] at h; exact h) [4] [0, 1, 2, 3] rfl (fun w hw => trivial) (τ := fun _ => [_, _, _, _, _]) (fun _ => rfl)) (fun _ => ?_)
            refine WPL.fact (fun _ => ?_)
            refine WPL.valG (v_is (b := true) (v_eql rfl rfl) (decide_eq_true rfl)) ?_
            refine WPL.val (v_pickT (u := .bool _) rfl rfl) ?_
            refine WPL.val (v_move (v := .bool _) rfl) ?_
            refine WPL.valG (v_move (v := .int .i64 _) rfl) ?_
            refine WPL.valG (v_is (b := true) (v_geq rfl rfl) (decide_eq_true (by omega))) ?_
            refine WPL.val (v_pickT (u := .bool _) rfl rfl) ?_
            refine WPL.val (v_assign (v := .bool _) rfl) ?_
            refine WPL.nil (onto_of ?_)
            exact WP.ret1 Try.results5 (fun _ h => h) (fun w hw => ⟨(), rfl, trivial, hw.sel [] (by decide)⟩)
end Go.Proofs.Ytmjdmlgdffoimaa
