/- The law TreeOrder. -/
import Derived.Test.YtmjdmlgdffoimaaTreeKids
import Derived.Test.YtmjdmlgdffoimaaTreeFact
namespace Go.Proofs.Ytmjdmlgdffoimaa
open Go.RowKit

set_option maxRecDepth 100000 in
set_option maxHeartbeats 2000000 in
theorem lawOrder_ct (A : Option Addr) (c : Nat) (l : List AC) : Ct Try.prog 4 #[.slice A l.length c] [] (fun w => RdE w A 59 encA l) (X := Unit) (fun _ => .bool true) (fun _ => True) (fun _ => []) := by
  refine Ct.intro Try.func4 rfl Try.ntmps4 (by simp) (fun w0 hz => ?_)
  refine WP.seq ?_
  refine WP.region ?_
  refine WPL.val (v_assign (v := .bool false) rfl) ?_
  refine WPL.nil (onto_of ?_)
  refine WP.seq ?_
  refine WP.region ?_
  refine WPL.ef (x_call Try.call10 works_ct [] [] rfl (fun w hw => trivial) (τ := fun _ => []) (fun _ => rfl)) (fun _ => ?_)
  refine WPL.fact (fun _ => ?_)
  refine WPL.val (v_assign (v := .bool _) rfl) ?_
  refine WPL.nil (onto_of ?_)
  refine WP.seq ?_
  refine WP.seq ?_
  refine WP.region ?_
  refine WPL.val (v_move (v := .bool _) rfl) ?_
  refine WPL.val (v_not rfl) ?_
  refine WPL.nil (onto_of ?_)
  refine WP.condF rfl ?_
  refine WP.skip (onto_of ?_)
  refine WP.seq ?_
  refine WP.seq ?_
  refine WP.region ?_
  refine WPL.val (v_move (v := .slice _ _ _) rfl) ?_
  refine WPL.val (v_len Try.underlying22 rfl) ?_
  refine WPL.val (v_gtr rfl rfl) ?_
  refine WPL.nil (onto_of ?_)
  refine WP.condP rfl (fun h19 => ?_) (fun h19 => ?_)
  ·
    refine WP.seq ?_
    refine WP.region ?_
    refine WPL.val (v_move (v := .bool _) rfl) ?_
    refine WPL.val (v_assign (v := .bool _) rfl) ?_
    refine WPL.nil (onto_of ?_)
    exact WP.ret1 Try.results4 (fun _ h => h) (fun w hw => ⟨(), rfl, trivial, hw.sel [] (by decide)⟩)
  ·
    refine WP.skip (onto_of ?_)
    refine WP.seq ?_
    refine WP.region ?_
    refine WPL.ef (x_call Try.call11 new_ct [] [] rfl (fun w hw => trivial) (τ := fun _ => [_]) (fun _ => rfl)) (fun ⟨tp, mb, nb⟩ => ?_)
    refine WPL.fact (fun _ => ?_)
    refine WPL.val (v_assign (v := .pointer _) rfl) ?_
    refine WPL.nil (onto_of ?_)
    refine WP.seq ?_
    refine WP.seq ?_
    refine WP.region ?_
    refine WPL.val (v_assign (v := .int .i64 (0)) rfl) ?_
    refine WPL.nil (onto_of ?_)
    refine WP.block ?_
    refine WP.loopK (X := Nat × List PE) [0, 3, 4] (fun p => [(5, .int .i64 (p.1 : Int))]) (fun p w => (p.1 ≤ l.length ∧ FoR p.2 = AF (l.take p.1) ∧ LOk p.2) ∧ St w0 (foots []) [treeI tp mb p.2] w) (fun p => l.length - p.1) (0, [newE 0 nb (-1)]) ⟨rfl, trivial⟩ (fun w hw => ⟨⟨Nat.zero_le _, (newE_ok nb).1, (newE_ok nb).2⟩, (hw.sel [0] (by decide))⟩) (fun p ρ0 => ?_)
    obtain ⟨k, es⟩ := p
    dsimp only
    refine WP.fact (fun ⟨hkl, hFo, hk⟩ => ?_)
    refine WP.seq ?_
    refine WP.seq ?_
    refine WP.region ?_
    refine WPL.val (v_move (v := .int .i64 _) rfl) ?_
    refine WPL.val (v_move (v := .slice _ _ _) rfl) ?_
    refine WPL.val (v_len Try.underlying22 rfl) ?_
    refine WPL.val (v_lss rfl rfl) ?_
    refine WPL.nil (onto_of ?_)
    refine WP.condP rfl (fun h25 => ?_) (fun h25 => ?_)
    ·
      obtain ⟨x, hx⟩ : ∃ x, l[k]? = some x := ⟨_, List.getElem?_eq_getElem (by omega)⟩
      obtain ⟨ab, ao, rfl, hc⟩ := hz k x hx
      obtain ⟨d, hF⟩ := AF_wf (l.take k)
      rw [← hFo] at hF
      refine WP.skip (onto_of ?_)
      refine WP.seq ?_
      refine WP.block ?_
      refine WP.region ?_
      refine WPL.val (v_move (v := .pointer _) rfl) ?_
      refine WPL.val (v_move (v := .slice _ _ _) rfl) ?_
      refine WPL.val (v_move (v := .int .i64 _) rfl) ?_
      refine WPL.val (v_index Try.underlying22 Try.sizeOf45 rfl rfl rfl (by omega)) ?_
      refine WPL.val (v_loadA (cs := encA x) Try.isAgg45 Try.sizeOf45 rfl (fun w hw => hw.old_at hc (not_foots_nil _)) (encA_len x)) ?_
      refine WPL.ef (x_call Try.call28 (do_ct tp mb es hk hF x.1 x.2) [0] [] rfl (fun w hw => trivial) (τ := fun _ => [_]) (fun _ => rfl)) (fun es1 => ?_)
      refine WPL.fact (fun hf => ?_)
      refine WPL.nil (onto_of ?_)
      refine WP.region ?_
      refine WPL.val (v_move (v := .int .i64 _) rfl) ?_
      refine WPL.val (v_add rfl rfl (by omega)) ?_
      refine WPL.val (v_assign (v := .int .i64 _) rfl) ?_
      exact WPL.nil fun w hw => ⟨rfl, (k + 1, es1), (by simp only; omega), ⟨rfl, (via (.slice _ _ _) rfl rfl), (via (.bool _) rfl rfl), (via (.pointer _) rfl rfl), trivial⟩, ⟨⟨by simp only; omega, by rw [AF_snoc hx, ← hFo]; exact hf.1, hf.2⟩, (hw.sel [0] (by decide))⟩⟩
    ·
      obtain rfl : k = l.length := by omega
      rw [List.take_of_length_le (Nat.le_refl _)] at hFo
      obtain ⟨d, hF⟩ := AF_wf l
      rw [← hFo] at hF
      refine WP.exit (onto_of ?_)
      refine WP.seq ?_
      refine WP.region ?_
      refine WPL.val (v_move (v := .pointer _) rfl) ?_
      refine WPL.ef (x_call Try.call26 (order_ct tp mb es hk hF) [0] [] rfl (fun w hw => trivial) (τ := fun _ => [_, _]) (fun _ => rfl)) (fun ⟨A6, c6⟩ => ?_)
      refine WPL.fact (fun _ => ?_)
      refine WPL.val (v_assign (v := .slice _ _ _) rfl) ?_
      refine WPL.nil (onto_of ?_)
      refine WP.seq ?_
      refine WP.seq ?_
      have hhead := hF.order_head
      have hol0 : 0 < (order (FoR es)).length := (List.getElem?_eq_some_iff.1 hhead).1
      have hol : (order (FoR es)).length ≤ 4096 := hF.len_le 0
      have hle := len_es hk hF
      unfold lenF at hle
      refine WP.holds (fun w hw => hw.row_pos (i := 1) rfl hol0) (fun ⟨rb, hA⟩ => ?_)
      subst hA
      refine WP.region ?_
      refine WPL.val (v_move (v := .slice _ _ _) rfl) ?_
      refine WPL.val (v_len Try.underlying50 rfl) ?_
      refine WPL.val (v_move (v := .pointer _) rfl) ?_
      refine WPL.ef (x_call Try.call27 (len_ct tp mb es) [0] [1] rfl (fun w hw => trivial) (τ := fun _ => [_, _]) (fun _ => rfl)) (fun _ => ?_)
      refine WPL.fact (fun _ => ?_)
      refine WPL.val (v_is (b := false) (v_neq rfl rfl) (decide_eq_false (by omega))) ?_
      refine WPL.val (v_move (v := .bool _) rfl) ?_
      refine WPL.valG (v_move (v := .slice _ _ _) rfl) ?_
      refine WPL.valG (v_len Try.underlying50 rfl) ?_
      refine WPL.valG (v_is (b := false) (v_eql rfl rfl) (decide_eq_false (by omega))) ?_
      refine WPL.val (v_pickF (v := .bool _) rfl rfl) ?_
      refine WPL.val (v_move (v := .bool _) rfl) ?_
      refine WPL.valG (v_move (v := .slice _ _ _) rfl) ?_
      refine WPL.valG (v_index (j := 0) Try.underlying50 Try.sizeOf3 rfl rfl rfl (by omega)) ?_
      refine WPL.valG (v_load1 (u := .int .i64 _) Try.isAgg3 rfl (fun w hw => hw.row_at1 (i := 0) rfl (by rw [List.getElem?_map, hhead]; rfl) (by omega))) ?_
      refine WPL.valG (v_is (b := false) (v_neq rfl rfl) (decide_eq_false (fun h => h rfl))) ?_
      refine WPL.val (v_pickF (v := .bool _) rfl rfl) ?_
      refine WPL.nil (onto_of ?_)
      refine WP.condF rfl ?_
      refine WP.skip (onto_of ?_)
      refine WP.seq ?_
      refine WP.seq ?_
      refine WP.region ?_
      refine WPL.val (v_assign (v := .int .i64 (1)) rfl) ?_
      refine WPL.nil (onto_of ?_)
      refine WP.block ?_
      refine WP.loopK (X := Nat) [3, 4, 6] (fun k => [(7, .int .i64 (k : Int))]) (fun k w => (1 ≤ k ∧ k ≤ (order (FoR es)).length) ∧ St w0 (foots []) [treeI tp mb es, kidsI (some ⟨rb, 0, none⟩) (order (FoR es)).length c6 (order (FoR es))] w) (fun k => (order (FoR es)).length - k) 1 ⟨rfl, trivial⟩ (fun w hw => ⟨⟨Nat.le_refl _, by omega⟩, (hw.sel [1, 0] (by decide))⟩) (fun k ρ0 => ?_)
      refine WP.fact (fun ⟨hk1, hk2⟩ => ?_)
      refine WP.seq ?_
      refine WP.seq ?_
      refine WP.region ?_
      refine WPL.val (v_move (v := .int .i64 _) rfl) ?_
      refine WPL.val (v_move (v := .slice _ _ _) rfl) ?_
      refine WPL.val (v_len Try.underlying50 rfl) ?_
      refine WPL.val (v_lss rfl rfl) ?_
      refine WPL.nil (onto_of ?_)
      refine WP.condP rfl (fun h55 => ?_) (fun h55 => ?_)
      ·
        obtain ⟨y, hy⟩ : ∃ y, (order (FoR es))[k]? = some y := ⟨_, List.getElem?_eq_getElem (by omega)⟩
        have hyo := hF.mem_order.1 (List.mem_of_getElem? hy)
        have hnd := hF.order_nodup
        have hy0 : y ≠ 0 := fun e => by
          rw [e] at hy
          have h1 := (List.getElem?_eq_some_iff.1 hy)
          have h2 := (List.getElem?_eq_some_iff.1 hhead)
          have h3 := (List.getElem_inj hnd).1 (h1.2.trans h2.2.symm)
          omega
        obtain ⟨hu1, hu2, hu3, _⟩ := hF.up_has hyo hy0
        have hu4 := hF.up_depth hyo hy0
        have hbef := hF.before hy hy0
        have hzb := hF.kidsF_len (upF (FoR es) y)
        have hb1 := depth_bd (FoR es) (upF (FoR es) y)
        refine WP.skip (onto_of ?_)
        refine WP.seq ?_
        refine WP.block ?_
        refine WP.seq ?_
        refine WP.region ?_
        refine WPL.val (v_move (v := .pointer _) rfl) ?_
        refine WPL.val (v_move (v := .slice _ _ _) rfl) ?_
        refine WPL.val (v_move (v := .int .i64 _) rfl) ?_
        refine WPL.val (v_index Try.underlying50 Try.sizeOf3 rfl rfl rfl (by omega)) ?_
        refine WPL.val (v_load1 (u := .int .i64 _) Try.isAgg3 rfl (fun w hw => hw.row_at1 (i := 1) rfl (by rw [List.getElem?_map, hy]; rfl) (by omega))) ?_
        refine WPL.ef (x_call Try.call16 (up_ct tp mb es hk y) [0] [1] rfl (fun w hw => trivial) (τ := fun _ => [_, _]) (fun _ => rfl)) (fun _ => ?_)
        refine WPL.fact (fun _ => ?_)
        refine WPL.val (v_assign (v := .int .i64 _) rfl) ?_
        refine WPL.nil (onto_of ?_)
        refine WP.seq ?_
        refine WP.region ?_
        refine WPL.val (v_assign (v := .bool false) rfl) ?_
        refine WPL.nil (onto_of ?_)
        refine WP.seq ?_
        refine WP.seq ?_
        refine WP.region ?_
        refine WPL.val (v_assign (v := .int .i64 (0)) rfl) ?_
        refine WPL.nil (onto_of ?_)
        refine WP.block ?_
        refine WP.loopK (X := Nat) [3, 4, 6, 7, 8] (fun j => [(10, .int .i64 (j : Int)), (9, .bool (decide ((upF (FoR es) y) ∈ (order (FoR es)).take j)))]) (fun j w => j ≤ k ∧ St w0 (foots []) [treeI tp mb es, kidsI (some ⟨rb, 0, none⟩) (order (FoR es)).length c6 (order (FoR es))] w) (fun j => k - j) 0 ⟨rfl, congrArg Value.bool (by simp), trivial⟩ (fun w hw => ⟨Nat.zero_le _, (hw.sel [1, 0] (by decide))⟩) (fun j ρ0 => ?_)
        refine WP.fact (fun hjk => ?_)
        refine WP.seq ?_
        refine WP.seq ?_
        refine WP.region ?_
        refine WPL.val (v_move (v := .int .i64 _) rfl) ?_
        refine WPL.val (v_move (v := .int .i64 _) rfl) ?_
        refine WPL.val (v_lss rfl rfl) ?_
        refine WPL.nil (onto_of ?_)
        refine WP.condP rfl (fun h66 => ?_) (fun h66 => ?_)
        ·
          obtain ⟨z, hzj⟩ : ∃ z, (order (FoR es))[j]? = some z := ⟨_, List.getElem?_eq_getElem (by omega)⟩
          have hzy : z ≠ y := fun e => by
            rw [e] at hzj
            have h1 := (List.getElem?_eq_some_iff.1 hy)
            have h2 := (List.getElem?_eq_some_iff.1 hzj)
            have h3 := (List.getElem_inj hnd).1 (h1.2.trans h2.2.symm)
            omega
          refine WP.skip (onto_of ?_)
          refine WP.seq ?_
          refine WP.block ?_
          refine WP.midS [3, 4, 6, 7, 8, 10] [(9, .bool (decide ((upF (FoR es) y) ∈ (order (FoR es)).take (j + 1))))] ?_ (fun ρ0 => ?_)
          ·
            refine WP.region ?_
            refine WPL.val (v_move (v := .bool _) rfl) ?_
            refine WPL.val (v_move (v := .bool _) rfl) ?_
            refine WPL.splitB 70 rfl (fun h70 => ?_) (fun h70 => ?_)
            ·
              refine WPL.skipG ?_
              refine WPL.skipG ?_
              refine WPL.skipG ?_
              refine WPL.skipG ?_
              refine WPL.skipG ?_
              refine WPL.skipG ?_
              refine WPL.val (v_pickT (u := .bool _) rfl rfl) ?_
              refine WPL.val (v_assign (v := .bool _) rfl) ?_
              exact WPL.nil fun w hw => ⟨rfl, ⟨(congrArg Value.bool (by first | exact (decide_eq_true (by rw [take_snoc hzj]; exact List.mem_append_left _ (of_decide_eq_true h70))).symm | exact decide_eq_decide.2 (by rw [take_snoc hzj, List.mem_append, List.mem_singleton]; constructor; intro h; exact .inr h.symm; rintro (h | h); exact absurd h (of_decide_eq_false h70); exact h.symm))), (via (.bool _) rfl rfl), (via (.pointer _) rfl rfl), (via (.slice _ _ _) rfl rfl), (via (.int .i64 _) rfl rfl), (via (.int .i64 _) rfl rfl), (via (.int .i64 _) rfl rfl), trivial⟩, hw⟩
            ·
              refine WPL.valG (v_move (v := .slice _ _ _) rfl) ?_
              refine WPL.valG (v_move (v := .int .i64 _) rfl) ?_
              refine WPL.valG (v_index Try.underlying50 Try.sizeOf3 rfl rfl rfl (by omega)) ?_
              refine WPL.valG (v_load1 (u := .int .i64 _) Try.isAgg3 rfl (fun w hw => hw.row_at1 (i := 1) rfl (by rw [List.getElem?_map, hzj]; rfl) (by omega))) ?_
              refine WPL.valG (v_move (v := .int .i64 _) rfl) ?_
              refine WPL.valG (v_eql rfl rfl) ?_
              refine WPL.val (v_pickF (v := .bool _) rfl rfl) ?_
              refine WPL.val (v_assign (v := .bool _) rfl) ?_
              exact WPL.nil fun w hw => ⟨rfl, ⟨(congrArg Value.bool (by first | exact (decide_eq_true (by rw [take_snoc hzj]; exact List.mem_append_left _ (of_decide_eq_true h70))).symm | exact decide_eq_decide.2 (by rw [take_snoc hzj, List.mem_append, List.mem_singleton]; constructor; intro h; exact .inr h.symm; rintro (h | h); exact absurd h (of_decide_eq_false h70); exact h.symm))), (via (.bool _) rfl rfl), (via (.pointer _) rfl rfl), (via (.slice _ _ _) rfl rfl), (via (.int .i64 _) rfl rfl), (via (.int .i64 _) rfl rfl), (via (.int .i64 _) rfl rfl), trivial⟩, hw⟩
          ·
            refine WP.seq ?_
            refine WP.drawS none [(0, true), (1, true), (2, true), (3, true), (4, true), (5, true), (6, true), (7, true), (8, true)] mixed (by kernel_rfl) (by decide) (fun _ h => h.drawn) ?_
            refine WPD.take rfl (v_move (v := .slice _ _ _) rfl) ?_ (fun _ h => h)
            refine WPD.take rfl (v_move (v := .int .i64 _) rfl) ?_ (fun _ h => h)
            refine WPD.take rfl (v_index Try.underlying50 Try.sizeOf3 rfl rfl rfl (by omega)) ?_ (fun _ h => h)
            refine WPD.take rfl (v_load1 (u := .int .i64 _) Try.isAgg3 rfl (fun w hw => hw.row_at1 (i := 1) rfl (by rw [List.getElem?_map, hzj]; rfl) (by omega))) ?_ (fun _ h => h)
            refine WPD.take rfl (v_move (v := .slice _ _ _) rfl) ?_ (fun _ h => h)
            refine WPD.take rfl (v_move (v := .int .i64 _) rfl) ?_ (fun _ h => h)
            refine WPD.take rfl (v_index Try.underlying50 Try.sizeOf3 rfl rfl rfl (by omega)) ?_ (fun _ h => h)
            refine WPD.take rfl (v_load1 (u := .int .i64 _) Try.isAgg3 rfl (fun w hw => hw.row_at1 (i := 1) rfl (by rw [List.getElem?_map, hy]; rfl) (by omega))) ?_ (fun _ h => h)
            refine WPD.take rfl (v_is (b := false) (v_eql rfl rfl) (decide_eq_false hzy)) ?_ (fun _ h => h)
            refine WPD.nil (onto_of ?_)
            refine WP.condF rfl ?_
            refine WP.skip (onto_of ?_)
            refine WP.region ?_
            refine WPL.val (v_move (v := .int .i64 _) rfl) ?_
            refine WPL.val (v_add rfl rfl (by omega)) ?_
            refine WPL.val (v_assign (v := .int .i64 _) rfl) ?_
            exact WPL.nil fun w hw => ⟨rfl, j + 1, (by omega), ⟨rfl, rfl, (via (.bool _) rfl rfl), (via (.pointer _) rfl rfl), (via (.slice _ _ _) rfl rfl), (via (.int .i64 _) rfl rfl), (via (.int .i64 _) rfl rfl), trivial⟩, ⟨by omega, (hw.sel [0, 1] (by decide))⟩⟩
        ·
          have hjk2 : k = j := by omega
          subst hjk2
          refine WP.exit (onto_of ?_)
          refine WP.seq ?_
          refine WP.region ?_
          refine WPL.val (v_move (v := .pointer _) rfl) ?_
          refine WPL.val (v_move (v := .int .i64 _) rfl) ?_
          refine WPL.ef (x_call Try.call23 (kids_ct tp mb es hk (upF (FoR es) y) (by have := WF.kidsF_len hF (upF (FoR es) y); omega)) [0] [1] rfl (fun w hw => trivial) (τ := fun _ => [_, _, _]) (fun _ => rfl)) (fun ⟨A89, c89⟩ => ?_)
          refine WPL.fact (fun _ => ?_)
          refine WPL.val (v_assign (v := .slice _ _ _) rfl) ?_
          refine WPL.nil (onto_of ?_)
          refine WP.seq ?_
          refine WP.region ?_
          refine WPL.val (v_assign (v := .int .i64 (0)) rfl) ?_
          refine WPL.nil (onto_of ?_)
          refine WP.seq ?_
          refine WP.seq ?_
          refine WP.region ?_
          refine WPL.val (v_assign (v := .int .i64 (0)) rfl) ?_
          refine WPL.nil (onto_of ?_)
          refine WP.block ?_
          refine WP.loopK (X := Nat) [3, 4, 6, 7, 8, 9, 11] (fun q => [(13, .int .i64 (q : Int)), (12, .int .i64 (((kidsF (FoR es) (upF (FoR es) y)).take q).count y : Int))]) (fun q w => q ≤ (kidsF (FoR es) (upF (FoR es) y)).length ∧ St w0 (foots []) [treeI tp mb es, kidsI (some ⟨rb, 0, none⟩) (order (FoR es)).length c6 (order (FoR es)), kidsI A89 (kidsF (FoR es) (upF (FoR es) y)).length c89 (kidsF (FoR es) (upF (FoR es) y))] w) (fun q => (kidsF (FoR es) (upF (FoR es) y)).length - q) 0 ⟨rfl, rfl, trivial⟩ (fun w hw => ⟨Nat.zero_le _, (hw.sel [1, 0, 2] (by decide))⟩) (fun q ρ0 => ?_)
          refine WP.fact (fun hqk => ?_)
          refine WP.seq ?_
          refine WP.seq ?_
          refine WP.region ?_
          refine WPL.val (v_move (v := .int .i64 _) rfl) ?_
          refine WPL.val (v_move (v := .slice _ _ _) rfl) ?_
          refine WPL.val (v_len Try.underlying50 rfl) ?_
          refine WPL.val (v_lss rfl rfl) ?_
          refine WPL.nil (onto_of ?_)
          refine WP.condP rfl (fun h93 => ?_) (fun h93 => ?_)
          ·
            have hq : q < (kidsF (FoR es) (upF (FoR es) y)).length := by omega
            obtain ⟨z, hzq⟩ : ∃ z, (kidsF (FoR es) (upF (FoR es) y))[q]? = some z := ⟨_, List.getElem?_eq_getElem hq⟩
            have hcb : ((kidsF (FoR es) (upF (FoR es) y)).take q).count y ≤ 4096 := Nat.le_trans List.count_le_length (by rw [List.length_take]; omega)
            refine WP.holds (fun w hw => hw.row_pos (i := 2) rfl (by omega)) (fun ⟨kb, hA⟩ => ?_)
            subst hA
            refine WP.skip (onto_of ?_)
            refine WP.seq ?_
            refine WP.block ?_
            refine WP.seq ?_
            refine WP.drawS none [(0, true), (1, true), (2, true), (3, true), (4, true), (5, true), (6, true), (7, true), (8, true)] mixed (by kernel_rfl) (by decide) (fun _ h => h.drawn) ?_
            refine WPD.take rfl (v_move (v := .slice _ _ _) rfl) ?_ (fun _ h => h)
            refine WPD.take rfl (v_move (v := .int .i64 _) rfl) ?_ (fun _ h => h)
            refine WPD.take rfl (v_index Try.underlying50 Try.sizeOf3 rfl rfl rfl (by omega)) ?_ (fun _ h => h)
            refine WPD.take rfl (v_load1 (u := .int .i64 _) Try.isAgg3 rfl (fun w hw => hw.row_at1 (i := 2) rfl (by rw [List.getElem?_map, hzq]; rfl) (by omega))) ?_ (fun _ h => h)
            refine WPD.take rfl (v_move (v := .slice _ _ _) rfl) ?_ (fun _ h => h)
            refine WPD.take rfl (v_move (v := .int .i64 _) rfl) ?_ (fun _ h => h)
            refine WPD.take rfl (v_index Try.underlying50 Try.sizeOf3 rfl rfl rfl (by omega)) ?_ (fun _ h => h)
            refine WPD.take rfl (v_load1 (u := .int .i64 _) Try.isAgg3 rfl (fun w hw => hw.row_at1 (i := 1) rfl (by rw [List.getElem?_map, hy]; rfl) (by omega))) ?_ (fun _ h => h)
            refine WPD.take rfl (v_eql rfl rfl) ?_ (fun _ h => h)
            refine WPD.nil (onto_of ?_)
            refine WP.condP rfl (fun h104 => ?_) (fun h104 => ?_)
            ·
              have hcn : (((kidsF (FoR es) (upF (FoR es) y)).take q).count y : Int) + 1 = (((kidsF (FoR es) (upF (FoR es) y)).take (q + 1)).count y : Int) := by rw [take_snoc hzq, List.count_append, List.count_singleton]; simp [h104]
              refine WP.region ?_
              refine WPL.val (v_move (v := .int .i64 _) rfl) ?_
              refine WPL.val (v_add rfl rfl (by omega)) ?_
              refine WPL.val (v_assign (v := .int .i64 _) rfl) ?_
              refine WPL.nil (onto_of ?_)
              refine WP.region ?_
              refine WPL.val (v_move (v := .int .i64 _) rfl) ?_
              refine WPL.val (v_add rfl rfl (by omega)) ?_
              refine WPL.val (v_assign (v := .int .i64 _) rfl) ?_
              exact WPL.nil fun w hw => ⟨rfl, q + 1, (by omega), ⟨rfl, (congrArg (Value.int .i64) hcn), (via (.bool _) rfl rfl), (via (.pointer _) rfl rfl), (via (.slice _ _ _) rfl rfl), (via (.int .i64 _) rfl rfl), (via (.int .i64 _) rfl rfl), (via (.bool _) rfl rfl), (via (.slice _ _ _) rfl rfl), trivial⟩, ⟨by omega, (hw.sel [0, 1, 2] (by decide))⟩⟩
            ·
              have hcn : (((kidsF (FoR es) (upF (FoR es) y)).take q).count y : Int) = (((kidsF (FoR es) (upF (FoR es) y)).take (q + 1)).count y : Int) := by rw [take_snoc hzq, List.count_append, List.count_singleton]; simp [h104]
              refine WP.skip (onto_of ?_)
              refine WP.region ?_
              refine WPL.val (v_move (v := .int .i64 _) rfl) ?_
              refine WPL.val (v_add rfl rfl (by omega)) ?_
              refine WPL.val (v_assign (v := .int .i64 _) rfl) ?_
              exact WPL.nil fun w hw => ⟨rfl, q + 1, (by omega), ⟨rfl, (congrArg (Value.int .i64) hcn), (via (.bool _) rfl rfl), (via (.pointer _) rfl rfl), (via (.slice _ _ _) rfl rfl), (via (.int .i64 _) rfl rfl), (via (.int .i64 _) rfl rfl), (via (.bool _) rfl rfl), (via (.slice _ _ _) rfl rfl), trivial⟩, ⟨by omega, (hw.sel [0, 1, 2] (by decide))⟩⟩
          ·
            obtain rfl : q = (kidsF (FoR es) (upF (FoR es) y)).length := by omega
            refine WP.exit (onto_of ?_)
            refine WP.seq ?_
            refine WP.region ?_
            refine WPL.val (v_move (v := .bool _) rfl) ?_
            refine WPL.val (v_is (b := false) (v_not rfl) (by rw [decide_eq_true hbef]; rfl)) ?_
            refine WPL.val (v_move (v := .bool _) rfl) ?_
            refine WPL.valG (v_move (v := .int .i64 _) rfl) ?_
            refine WPL.valG (v_is (b := false) (v_neq rfl rfl) (decide_eq_false (fun h => h (by rw [List.take_of_length_le (Nat.le_refl _), count_one hu3 hu2]; rfl)))) ?_
            refine WPL.val (v_pickF (v := .bool _) rfl rfl) ?_
            refine WPL.val (v_move (v := .bool _) rfl) ?_
            refine WPL.valG (v_move (v := .pointer _) rfl) ?_
            refine WPL.valG (v_move (v := .slice _ _ _) rfl) ?_
            refine WPL.valG (v_move (v := .int .i64 _) rfl) ?_
            refine WPL.valG (v_index Try.underlying50 Try.sizeOf3 rfl rfl rfl (by omega)) ?_
            refine WPL.valG (v_load1 (u := .int .i64 _) Try.isAgg3 rfl (fun w hw => hw.row_at1 (i := 1) rfl (by rw [List.getElem?_map, hy]; rfl) (by omega))) ?_
            refine WPL.efG (x_call Try.call18 (depth_ct tp mb es hk hF y) [0] [1, 2] rfl (fun w hw => trivial) (τ := fun _ => [_, _, _]) (fun _ => rfl)) (fun _ => ?_)
            refine WPL.fact (fun _ => ?_)
            refine WPL.valG (v_move (v := .pointer _) rfl) ?_
            refine WPL.valG (v_move (v := .int .i64 _) rfl) ?_
            refine WPL.efG (x_call Try.call18 (depth_ct tp mb es hk hF (upF (FoR es) y)) [2] [0, 1] rfl (fun w hw => trivial) (τ := fun _ => [_, _, _]) (fun _ => rfl)) (fun _ => ?_)
            refine WPL.fact (fun _ => ?_)
            refine WPL.valG (v_add rfl rfl (by omega)) ?_
            refine WPL.valG (v_is (b := false) (v_neq rfl rfl) (decide_eq_false (by omega))) ?_
            refine WPL.val (v_pickF (v := .bool _) rfl rfl) ?_
            refine WPL.val (v_move (v := .bool _) rfl) ?_
            refine WPL.valG (v_move (v := .pointer _) rfl) ?_
            refine WPL.valG (v_move (v := .slice _ _ _) rfl) ?_
            refine WPL.valG (v_move (v := .int .i64 _) rfl) ?_
            refine WPL.valG (v_index Try.underlying50 Try.sizeOf3 rfl rfl rfl (by omega)) ?_
            refine WPL.valG (v_load1 (u := .int .i64 _) Try.isAgg3 rfl (fun w hw => hw.row_at1 (i := 0) rfl (by rw [List.getElem?_map, hy]; rfl) (by omega))) ?_
            refine WPL.efG (x_call Try.call18 (depth_ct tp mb es hk hF y) [2] [0, 1] rfl (fun w hw => trivial) (τ := fun _ => [_, _, _]) (fun _ => rfl)) (fun _ => ?_)
            refine WPL.fact (fun _ => ?_)
            refine WPL.valG (v_is (b := false) (v_gtr rfl rfl) (decide_eq_false (by omega))) ?_
            refine WPL.val (v_pickF (v := .bool _) rfl rfl) ?_
            refine WPL.val (v_move (v := .bool _) rfl) ?_
            refine WPL.valG (v_move (v := .pointer _) rfl) ?_
            refine WPL.valG (v_move (v := .slice _ _ _) rfl) ?_
            refine WPL.valG (v_move (v := .int .i64 _) rfl) ?_
            refine WPL.valG (v_index Try.underlying50 Try.sizeOf3 rfl rfl rfl (by omega)) ?_
            refine WPL.valG (v_load1 (u := .int .i64 _) Try.isAgg3 rfl (fun w hw => hw.row_at1 (i := 0) rfl (by rw [List.getElem?_map, hy]; rfl) (by omega))) ?_
            refine WPL.efG (x_call Try.call14 (by have h := has_ct tp mb es y; rw [hyo] at h; exact h) [2] [0, 1] rfl (fun w hw => trivial) (τ := fun _ => [_, _, _]) (fun _ => rfl)) (fun _ => ?_)
            refine WPL.fact (fun _ => ?_)
            refine WPL.valG (v_not rfl) ?_
            refine WPL.val (v_pickF (v := .bool _) rfl rfl) ?_
            refine WPL.nil (onto_of ?_)
            refine WP.condF rfl ?_
            refine WP.skip (onto_of ?_)
            refine WP.region ?_
            refine WPL.val (v_move (v := .int .i64 _) rfl) ?_
            refine WPL.val (v_add rfl rfl (by omega)) ?_
            refine WPL.val (v_assign (v := .int .i64 _) rfl) ?_
            exact WPL.nil fun w hw => ⟨rfl, k + 1, (by omega), ⟨rfl, (via (.bool _) rfl rfl), (via (.pointer _) rfl rfl), (via (.slice _ _ _) rfl rfl), trivial⟩, ⟨⟨by omega, by omega⟩, (hw.sel [2, 0] (by decide))⟩⟩
      ·
        refine WP.exit (onto_of ?_)
        refine WP.seq ?_
        refine WP.region ?_
        refine WPL.val (v_move (v := .bool _) rfl) ?_
        refine WPL.val (v_assign (v := .bool _) rfl) ?_
        refine WPL.nil (onto_of ?_)
        exact WP.ret1 Try.results4 (fun _ h => h) (fun w hw => ⟨(), rfl, trivial, hw.sel [] (by decide)⟩)
end Go.Proofs.Ytmjdmlgdffoimaa
