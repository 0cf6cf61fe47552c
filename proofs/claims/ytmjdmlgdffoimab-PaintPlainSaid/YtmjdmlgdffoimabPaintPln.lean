/- PaintPlain. -/
import Derived.Test.YtmjdmlgdffoimabPaintOrs
namespace Go.Proofs.Ytmjdmlgdffoimab
open Go.RowKit

def rangeI (n : Nat) : List Int := (List.range n).map fun i : Nat => (i : Int)
theorem rangeI_len (n : Nat) : (rangeI n).length = n := by simp [rangeI]
theorem rangeI_at {n k : Nat} (h : k < n) : (rangeI n)[k]? = some (k : Int) := by unfold rangeI; rw [List.getElem?_map, List.getElem?_range h]; rfl
theorem plainN_len (L : List PN) : (plainN L).length = L.length := by simp [plainN]
theorem plain_order {L : List PN} (h : okP L = true) : ordP (plainN L) = rangeI L.length := by
  by_cases hn : L = []
  · subst hn; rfl
  · have hn2 : plainN L ≠ [] := fun e => hn (by have := congrArg List.length e; rw [plainN_len] at this; exact List.eq_nil_of_length_eq_zero this)
    have ho : okP (plainN L) = true := by rw [okP_plain]; exact h
    rw [ordP_ok hn2 ho, PT_noLayers (okP_pv ho) (fun x => (plainN_up x).2) hn2, plainN_len]; rfl
theorem plain_ct (A : Option Addr) (c : Nat) (L : List PN) (hL : L.length ≤ 1000) (hcap : L.length ≤ c) (hok : okP L = true) : Ct Try.prog 16 #[.slice A L.length c] [] (fun w => RdN w A (plainN L)) (X := Option Addr × Nat) (fun p => .slice p.1 L.length p.2) (fun _ => True) (fun p => [kidsI p.1 L.length p.2 (rangeI L.length)]) := by
  have h := order_ct A c (plainN L) (by rw [plainN_len]; exact hL) (by rw [plainN_len]; exact hcap)
  rw [plainN_len, plain_order hok, rangeI_len] at h
  exact h
theorem info39b : (Try.prog.info? 39).map (fun i => (i.zero, i.size, i.bytes)) = some (some (.agg #[.int .i64 0, .bool false, .int .i64 0]), 3, 24) := by kernel_rfl
set_option maxHeartbeats 2000000 in
theorem lawPlain_ct (A : Option Addr) (c : Nat) (L : List PN) (hcap : L.length ≤ c) (a b : Int) : Ct Try.prog 6 #[.slice A L.length c, .int .i64 a, .int .i64 b] [] (fun w => RdN w A L) (X := Unit) (fun _ => .bool true) (fun _ => True) (fun _ => []) := by
  refine Ct.intro Try.func6 rfl Try.ntmps6 (by simp) (fun w0 hz => ?_)
  refine WP.seq ?_
  refine WP.region ?_
  refine WPL.val (v_assign (v := .bool false) rfl) ?_
  refine WPL.nil (onto_of ?_)
  refine WP.seq ?_
  refine WP.region ?_
  refine WPL.ef (x_call Try.call10 works_ct [] [] rfl (fun w hw => trivial) (τ := fun _ => []) (fun _ => rfl)) (fun _ => ?_)
  refine WPL.fact (fun _ => ?_)
  refine WPL.val (v_assign (v := .bool _) rfl) ?_
  refine WPL.nil (onto_of ?_)
  refine WP.seq ?_
  refine WP.seq ?_
  refine WP.region ?_
  refine WPL.val (v_move (v := .bool _) rfl) ?_
  refine WPL.val (v_not rfl) ?_
  refine WPL.nil (onto_of ?_)
  refine WP.condF rfl ?_
  refine WP.skip (onto_of ?_)
  refine WP.seq ?_
  refine WP.seq ?_
  refine WP.region ?_
  refine WPL.val (v_move (v := .slice _ _ _) rfl) ?_
  refine WPL.val (v_len Try.underlying22 rfl) ?_
  refine WPL.val (v_gtr rfl rfl) ?_
  refine WPL.val (v_move (v := .bool _) rfl) ?_
  refine WPL.split 18 rfl (fun h18 => ?_) (fun h18 => ?_)
  ·
    refine WPL.skipG ?_
    refine WPL.skipG ?_
    refine WPL.skipG ?_
    refine WPL.val (v_pickT (u := .bool _) rfl rfl) ?_
    refine WPL.nil (onto_of ?_)
    refine WP.condT rfl ?_
    refine WP.seq ?_
    refine WP.region ?_
    refine WPL.val (v_move (v := .bool _) rfl) ?_
    refine WPL.val (v_assign (v := .bool _) rfl) ?_
    refine WPL.nil (onto_of ?_)
    exact WP.ret1 Try.results6 (fun _ h => h) (fun w hw => ⟨(), rfl, trivial, hw.sel [] (by decide)⟩)
  ·
    refine WPL.valG (v_move (v := .slice _ _ _) rfl) ?_
    refine WPL.efG (x_call Try.call17 (valid_ct A c L (by omega)) [] [] rfl (fun w hw => hw.rd hz not_foots_nil) (τ := fun _ => []) (fun _ => rfl)) (fun _ => ?_)
    refine WPL.fact (fun _ => ?_)
    refine WPL.valG (v_not rfl) ?_
    refine WPL.val (v_pickF (v := .bool _) rfl rfl) ?_
    refine WPL.nil (onto_of ?_)
    refine WP.cond rfl (fun h22 => ?_) (fun h22 => ?_)
    ·
      refine WP.seq ?_
      refine WP.region ?_
      refine WPL.val (v_move (v := .bool _) rfl) ?_
      refine WPL.val (v_assign (v := .bool _) rfl) ?_
      refine WPL.nil (onto_of ?_)
      exact WP.ret1 Try.results6 (fun _ h => h) (fun w hw => ⟨(), rfl, trivial, hw.sel [] (by decide)⟩)
    ·
      have hok : okP L = true := by simpa using h22
      have hP := okP_pv hok
      have hL : L.length ≤ 1000 := by omega
      refine WP.skip (onto_of ?_)
      refine WP.seq ?_
      refine WP.region ?_
      refine WPL.val (v_assign (v := .slice none 0 0) rfl) ?_
      refine WPL.nil (onto_of ?_)
      refine WP.seq ?_
      refine WP.seq ?_
      refine WP.pre ?_ (fun w hw => hw.nilRow 39 3)
      refine WP.region ?_
      refine WPL.val (v_assign (v := .int .i64 (0)) rfl) ?_
      refine WPL.nil (onto_of ?_)
      refine WP.block ?_
      refine WP.loopK (X := Nat × Option Addr × Nat) [0, 1, 2, 7] (fun p => [(9, .int .i64 (p.1 : Int)), (8, .slice p.2.1 p.1 p.2.2)]) (fun p w => p.1 ≤ L.length ∧ St w0 (foots []) [.row 39 3 p.2.1 p.1 p.2.2 (((plainN L).take p.1).flatMap encN)] w) (fun p => L.length - p.1) (0, none, 0) ⟨rfl, rfl, trivial⟩ (fun w hw => ⟨Nat.zero_le _, hw⟩) (fun p ρ0 => ?_)
      obtain ⟨k, zA, zc⟩ := p
      dsimp only
      refine WP.fact (fun hkl => ?_)
      refine WP.seq ?_
      refine WP.seq ?_
      refine WP.region ?_
      refine WPL.val (v_move (v := .int .i64 _) rfl) ?_
      refine WPL.val (v_move (v := .slice _ _ _) rfl) ?_
      refine WPL.val (v_len Try.underlying22 rfl) ?_
      refine WPL.val (v_lss rfl rfl) ?_
      refine WPL.nil (onto_of ?_)
      refine WP.condP rfl (fun h27 => ?_) (fun h27 => ?_)
      ·
        have hk : k < L.length := by omega
        obtain ⟨n, ab, ao, hn, hA, hc⟩ := getNode hz hk
        have hpn : (plainN L)[k]? = some ⟨n.up, false, n.z⟩ := by unfold plainN; rw [List.getElem?_map, hn]; rfl
        have hAk := hA
        subst hAk
        refine WP.skip (onto_of ?_)
        refine WP.seq ?_
        refine WP.block ?_
        refine WP.drawSel none [] [(0, true), (1, true), (2, true), (3, true), (4, true), (5, true), (6, true), (7, true), (8, true), (9, true), (10, true), (11, true), (12, false), (13, false), (14, true)] mixed (by kernel_rfl) (by decide) ?_
        refine WPD.take rfl (v_move (v := .slice _ _ _) rfl) ?_ (fun _ h => h.sel [] (by decide))
        refine WPD.take rfl (v_move (v := .slice _ _ _) rfl) ?_ (fun _ h => h.sel [] (by decide))
        refine WPD.take rfl (v_move (v := .int .i64 _) rfl) ?_ (fun _ h => h.sel [] (by decide))
        refine WPD.take rfl (v_index (j := k) Try.underlying22 Try.sizeOf39 rfl rfl rfl (by omega)) ?_ (fun _ h => h.sel [] (by decide))
        refine WPD.take rfl (v_field (off := 0) Try.underlying39 rfl Try.sizeOf3 rfl) ?_ (fun _ h => h.sel [] (by decide))
        refine WPD.take rfl (v_load1 (u := .int .i64 _) Try.isAgg3 rfl (fun w hw => hw.old_at (hc.one (j := 0) rfl (by omega)) (not_foots_nil _))) ?_ (fun _ h => h.sel [] (by decide))
        refine WPD.take rfl (v_move (v := .slice _ _ _) rfl) ?_ (fun _ h => h.sel [] (by decide))
        refine WPD.take rfl (v_move (v := .int .i64 _) rfl) ?_ (fun _ h => h.sel [] (by decide))
        refine WPD.take rfl (v_index (j := k) Try.underlying22 Try.sizeOf39 rfl rfl rfl (by omega)) ?_ (fun _ h => h.sel [] (by decide))
        refine WPD.take rfl (v_field (off := 2) Try.underlying39 rfl Try.sizeOf3 rfl) ?_ (fun _ h => h.sel [] (by decide))
        refine WPD.take rfl (v_load1 (u := .int .i64 _) Try.isAgg3 rfl (fun w hw => hw.old_at (hc.one (j := 2) rfl (by omega)) (not_foots_nil _))) ?_ (fun _ h => h.sel [] (by decide))
        refine WPD.take rfl (v_struct (us := [.int .i64 _, .bool _, .int .i64 _]) (pl := [(0, 1), (1, 1), (2, 1)]) Try.underlying39 Try.zeroValue39 rfl (by kernel_rfl) rfl rfl (by kernel_rfl)) ?_ (fun _ h => h.sel [] (by decide))
        refine WPD.ef rfl (x_buildSlice (us := [.int .i64 _, .bool _, .int .i64 _]) (σ' := fun _ => [_, _]) Try.underlying22 Try.sizeOf39 Try.zeroValue39 rfl rfl rfl (by decide) (by decide) (fun _ => rfl)) (fun _ _ _ h => h.sel [] (by decide)) (fun g42 => ?_)
        refine WPD.ef rfl (x_append (sz := 3) (σ' := fun _ => [_, _]) Try.underlying22 info39b rfl (by decide) rfl rfl (i := 0) rfl (fun w hw => hw.src_row (i := 1) rfl) rfl (by simp [Value.oneCell']) (by omega) (by omega) (fun _ => rfl)) (fun _ _ _ h => h.sel [] (by decide)) (fun ⟨A43, c43⟩ => ?_)
        refine WPD.take rfl (v_assign (v := .slice _ _ _) rfl) ?_ (fun _ h => h.sel [] (by decide))
        refine WPD.nil (onto_of ?_)
        refine WP.region ?_
        refine WPL.val (v_move (v := .int .i64 _) rfl) ?_
        refine WPL.val (v_add rfl rfl (by omega)) ?_
        refine WPL.val (v_assign (v := .int .i64 _) rfl) ?_
        exact WPL.nil fun w hw => ⟨rfl, (k + 1, A43, c43), (by simp only; omega), ⟨rfl, rfl, (via (.slice _ _ _) rfl rfl), (via (.int .i64 _) rfl rfl), (via (.int .i64 _) rfl rfl), (via (.bool _) rfl rfl), trivial⟩, ⟨by simp only; omega, by dsimp only; rw [flat_snoc hpn]; exact (hw.sel [0] (by decide))⟩⟩
      ·
        obtain rfl : k = L.length := by omega
        rw [List.take_of_length_le (by rw [plainN_len]; exact Nat.le_refl _)]
        refine WP.exit (onto_of ?_)
        refine WP.seq ?_
        refine WP.holds (fun w hw => (hw.row_cap (i := 0) rfl : L.length ≤ zc)) (fun hzc => ?_)
        refine WP.region ?_
        refine WPL.val (v_move (v := .slice _ _ _) rfl) ?_
        refine WPL.ef (x_call Try.call16 (plain_ct zA zc L hL hzc hok) [] [0] rfl (fun w hw => hw.rd_row (i := 0) (l := plainN L) (enc := encN) rfl (plainN_len L) encN_len) (τ := fun _ => [_, _]) (fun _ => rfl)) (fun ⟨oA, oc⟩ => ?_)
        refine WPL.fact (fun _ => ?_)
        refine WPL.val (v_assign (v := .slice _ _ _) rfl) ?_
        refine WPL.nil (onto_of ?_)
        refine WP.seq ?_
        refine WP.seq ?_
        refine WP.region ?_
        refine WPL.val (v_assign (v := .int .i64 (0)) rfl) ?_
        refine WPL.nil (onto_of ?_)
        refine WP.block ?_
        refine WP.loopK (X := Nat) [0, 1, 2, 7, 10] (fun k => [(11, .int .i64 (k : Int))]) (fun k w => k ≤ L.length ∧ St w0 (foots []) [kidsI oA L.length oc (rangeI L.length)] w) (fun k => L.length - k) 0 ⟨rfl, trivial⟩ (fun w hw => ⟨Nat.zero_le _, (hw.sel [1] (by decide))⟩) (fun k ρ0 => ?_)
        refine WP.fact (fun hkl => ?_)
        refine WP.seq ?_
        refine WP.seq ?_
        refine WP.region ?_
        refine WPL.val (v_move (v := .int .i64 _) rfl) ?_
        refine WPL.val (v_move (v := .slice _ _ _) rfl) ?_
        refine WPL.val (v_len Try.underlying26 rfl) ?_
        refine WPL.val (v_lss rfl rfl) ?_
        refine WPL.nil (onto_of ?_)
        refine WP.condP rfl (fun h49 => ?_) (fun h49 => ?_)
        ·
          have hkn : k < L.length := by omega
          refine WP.holds (fun w hw => hw.row_pos (i := 0) rfl (by omega)) (fun ⟨lb, hA⟩ => ?_)
          subst hA
          refine WP.skip (onto_of ?_)
          refine WP.seq ?_
          refine WP.block ?_
          refine WP.seq ?_
          refine WP.region ?_
          refine WPL.val (v_move (v := .slice _ _ _) rfl) ?_
          refine WPL.val (v_move (v := .int .i64 _) rfl) ?_
          refine WPL.val (v_index (j := k) Try.underlying26 Try.sizeOf3 rfl rfl rfl (by omega)) ?_
          refine WPL.val (v_load1 (u := .int .i64 (k : Int)) Try.isAgg3 rfl (fun w hw => hw.row_at1 (i := 0) (k := k) (u := .int .i64 (k : Int)) rfl (by rw [List.getElem?_map, rangeI_at hkn]; rfl) (by omega))) ?_
          refine WPL.val (v_move (v := .int .i64 _) rfl) ?_
          refine WPL.val (v_is (b := false) (v_neq rfl rfl) (decide_eq_false (fun h => h rfl))) ?_
          refine WPL.nil (onto_of ?_)
          refine WP.condF rfl ?_
          refine WP.skip (onto_of ?_)
          refine WP.region ?_
          refine WPL.val (v_move (v := .int .i64 _) rfl) ?_
          refine WPL.val (v_add rfl rfl (by omega)) ?_
          refine WPL.val (v_assign (v := .int .i64 _) rfl) ?_
          exact WPL.nil fun w hw => ⟨rfl, k + 1, (by omega), ⟨rfl, (via (.slice _ _ _) rfl rfl), (via (.int .i64 _) rfl rfl), (via (.int .i64 _) rfl rfl), (via (.bool _) rfl rfl), (via (.slice _ _ _) rfl rfl), trivial⟩, ⟨by omega, (hw.sel [0] (by decide))⟩⟩
        ·
          obtain rfl : k = L.length := by omega
          refine WP.exit (onto_of ?_)
          refine WP.seq ?_
          refine WP.seq ?_
          refine WP.region ?_
          refine WPL.val (v_move (v := .slice _ _ _) rfl) ?_
          refine WPL.val (v_len Try.underlying26 rfl) ?_
          refine WPL.val (v_move (v := .slice _ _ _) rfl) ?_
          refine WPL.val (v_len Try.underlying22 rfl) ?_
          refine WPL.val (v_is (b := false) (v_neq rfl rfl) (decide_eq_false (fun h => h rfl))) ?_
          refine WPL.val (v_move (v := .bool _) rfl) ?_
          refine WPL.valG (v_move (v := .int .i64 _) rfl) ?_
          refine WPL.valG (v_lss rfl rfl) ?_
          refine WPL.val (v_pickF (v := .bool _) rfl rfl) ?_
          refine WPL.val (v_move (v := .bool _) rfl) ?_
          refine WPL.split 67 rfl (fun h67 => ?_) (fun h67 => ?_)
          ·
            refine WPL.skipG ?_
            refine WPL.skipG ?_
            refine WPL.skipG ?_
            refine WPL.val (v_pickT (u := .bool _) rfl rfl) ?_
            refine WPL.val (v_move (v := .bool _) rfl) ?_
            refine WPL.skipG ?_
            refine WPL.skipG ?_
            refine WPL.skipG ?_
            refine WPL.skipG ?_
            refine WPL.val (v_pickT (u := .bool _) rfl rfl) ?_
            refine WPL.val (v_move (v := .bool _) rfl) ?_
            refine WPL.skipG ?_
            refine WPL.skipG ?_
            refine WPL.skipG ?_
            refine WPL.skipG ?_
            refine WPL.skipG ?_
            refine WPL.skipG ?_
            refine WPL.val (v_pickT (u := .bool _) rfl rfl) ?_
            refine WPL.val (v_move (v := .bool _) rfl) ?_
            refine WPL.skipG ?_
            refine WPL.skipG ?_
            refine WPL.skipG ?_
            refine WPL.skipG ?_
            refine WPL.skipG ?_
            refine WPL.skipG ?_
            refine WPL.val (v_pickT (u := .bool _) rfl rfl) ?_
            refine WPL.val (v_move (v := .bool _) rfl) ?_
            refine WPL.skipG ?_
            refine WPL.skipG ?_
            refine WPL.skipG ?_
            refine WPL.skipG ?_
            refine WPL.skipG ?_
            refine WPL.skipG ?_
            refine WPL.skipG ?_
            refine WPL.val (v_pickT (u := .bool _) rfl rfl) ?_
            refine WPL.nil (onto_of ?_)
            refine WP.condT rfl ?_
            refine WP.seq ?_
            refine WP.region ?_
            refine WPL.val (v_move (v := .bool _) rfl) ?_
            refine WPL.val (v_move (v := .bool _) rfl) ?_
            refine WPL.valG (v_move (v := .slice _ _ _) rfl) ?_
            refine WPL.valG (v_len Try.underlying26 rfl) ?_
            refine WPL.valG (v_move (v := .slice _ _ _) rfl) ?_
            refine WPL.valG (v_len Try.underlying22 rfl) ?_
            refine WPL.valG (v_is (b := true) (v_eql rfl rfl) (decide_eq_true rfl)) ?_
            refine WPL.val (v_pickT (u := .bool _) rfl rfl) ?_
            refine WPL.val (v_assign (v := .bool _) rfl) ?_
            refine WPL.nil (onto_of ?_)
            exact WP.ret1 Try.results6 (fun _ h => h) (fun w hw => ⟨(), rfl, trivial, hw.sel [] (by decide)⟩)
          ·
            refine WPL.valG (v_move (v := .int .i64 _) rfl) ?_
            refine WPL.valG (v_move (v := .int .i64 _) rfl) ?_
            refine WPL.valG (v_geq rfl rfl) ?_
            refine WPL.val (v_pickF (v := .bool _) rfl rfl) ?_
            refine WPL.val (v_move (v := .bool _) rfl) ?_
            refine WPL.split 72 rfl (fun h72 => ?_) (fun h72 => ?_)
            ·
              refine WPL.skipG ?_
              refine WPL.skipG ?_
              refine WPL.skipG ?_
              refine WPL.skipG ?_
              refine WPL.val (v_pickT (u := .bool _) rfl rfl) ?_
              refine WPL.val (v_move (v := .bool _) rfl) ?_
              refine WPL.skipG ?_
              refine WPL.skipG ?_
              refine WPL.skipG ?_
              refine WPL.skipG ?_
              refine WPL.skipG ?_
              refine WPL.skipG ?_
              refine WPL.val (v_pickT (u := .bool _) rfl rfl) ?_
              refine WPL.val (v_move (v := .bool _) rfl) ?_
              refine WPL.skipG ?_
              refine WPL.skipG ?_
              refine WPL.skipG ?_
              refine WPL.skipG ?_
              refine WPL.skipG ?_
              refine WPL.skipG ?_
              refine WPL.val (v_pickT (u := .bool _) rfl rfl) ?_
              refine WPL.val (v_move (v := .bool _) rfl) ?_
              refine WPL.skipG ?_
              refine WPL.skipG ?_
              refine WPL.skipG ?_
              refine WPL.skipG ?_
              refine WPL.skipG ?_
              refine WPL.skipG ?_
              refine WPL.skipG ?_
              refine WPL.val (v_pickT (u := .bool _) rfl rfl) ?_
              refine WPL.nil (onto_of ?_)
              refine WP.condT rfl ?_
              refine WP.seq ?_
              refine WP.region ?_
              refine WPL.val (v_move (v := .bool _) rfl) ?_
              refine WPL.val (v_move (v := .bool _) rfl) ?_
              refine WPL.valG (v_move (v := .slice _ _ _) rfl) ?_
              refine WPL.valG (v_len Try.underlying26 rfl) ?_
              refine WPL.valG (v_move (v := .slice _ _ _) rfl) ?_
              refine WPL.valG (v_len Try.underlying22 rfl) ?_
              refine WPL.valG (v_is (b := true) (v_eql rfl rfl) (decide_eq_true rfl)) ?_
              refine WPL.val (v_pickT (u := .bool _) rfl rfl) ?_
              refine WPL.val (v_assign (v := .bool _) rfl) ?_
              refine WPL.nil (onto_of ?_)
              exact WP.ret1 Try.results6 (fun _ h => h) (fun w hw => ⟨(), rfl, trivial, hw.sel [] (by decide)⟩)
            ·
              refine WPL.valG (v_move (v := .int .i64 _) rfl) ?_
              refine WPL.valG (v_move (v := .slice _ _ _) rfl) ?_
              refine WPL.valG (v_len Try.underlying22 rfl) ?_
              refine WPL.valG (v_geq rfl rfl) ?_
              refine WPL.val (v_pickF (v := .bool _) rfl rfl) ?_
              refine WPL.val (v_move (v := .bool _) rfl) ?_
              refine WPL.split 78 rfl (fun h78 => ?_) (fun h78 => ?_)
              ·
                refine WPL.skipG ?_
                refine WPL.skipG ?_
                refine WPL.skipG ?_
                refine WPL.skipG ?_
                refine WPL.skipG ?_
                refine WPL.skipG ?_
                refine WPL.val (v_pickT (u := .bool _) rfl rfl) ?_
                refine WPL.val (v_move (v := .bool _) rfl) ?_
                refine WPL.skipG ?_
                refine WPL.skipG ?_
                refine WPL.skipG ?_
                refine WPL.skipG ?_
                refine WPL.skipG ?_
                refine WPL.skipG ?_
                refine WPL.val (v_pickT (u := .bool _) rfl rfl) ?_
                refine WPL.val (v_move (v := .bool _) rfl) ?_
                refine WPL.skipG ?_
                refine WPL.skipG ?_
                refine WPL.skipG ?_
                refine WPL.skipG ?_
                refine WPL.skipG ?_
                refine WPL.skipG ?_
                refine WPL.skipG ?_
                refine WPL.val (v_pickT (u := .bool _) rfl rfl) ?_
                refine WPL.nil (onto_of ?_)
                refine WP.condT rfl ?_
                refine WP.seq ?_
                refine WP.region ?_
                refine WPL.val (v_move (v := .bool _) rfl) ?_
                refine WPL.val (v_move (v := .bool _) rfl) ?_
                refine WPL.valG (v_move (v := .slice _ _ _) rfl) ?_
                refine WPL.valG (v_len Try.underlying26 rfl) ?_
                refine WPL.valG (v_move (v := .slice _ _ _) rfl) ?_
                refine WPL.valG (v_len Try.underlying22 rfl) ?_
                refine WPL.valG (v_is (b := true) (v_eql rfl rfl) (decide_eq_true rfl)) ?_
                refine WPL.val (v_pickT (u := .bool _) rfl rfl) ?_
                refine WPL.val (v_assign (v := .bool _) rfl) ?_
                refine WPL.nil (onto_of ?_)
                exact WP.ret1 Try.results6 (fun _ h => h) (fun w hw => ⟨(), rfl, trivial, hw.sel [] (by decide)⟩)
              ·
                obtain ⟨i, ha⟩ : ∃ i : Nat, a = i := ⟨a.toNat, by omega⟩
                obtain ⟨n1, nb_n1, no_n1, hn_n1, hA_n1, hc1⟩ := getNode hz (i := i) (by omega)
                obtain ⟨j, hb⟩ : ∃ j : Nat, b = j := ⟨b.toNat, by omega⟩
                obtain ⟨n2, nb_n2, no_n2, hn_n2, hA_n2, hc2⟩ := getNode hz (i := j) (by omega)
                subst hA_n1
                cases hA_n2
                refine WPL.valG (v_move (v := .slice _ _ _) rfl) ?_
                refine WPL.valG (v_move (v := .int .i64 _) rfl) ?_
                refine WPL.valG (v_index (j := i) Try.underlying22 Try.sizeOf39 rfl rfl ha (by omega)) ?_
                refine WPL.valG (v_field (off := 1) Try.underlying39 rfl Try.sizeOf4 rfl) ?_
                refine WPL.valG (v_load1 (u := .bool _) Try.isAgg4 rfl (fun w hw => hw.old_at (hc1.one (j := 1) rfl (by omega)) (not_foots_nil _))) ?_
                refine WPL.valG (v_not rfl) ?_
                refine WPL.val (v_pickF (v := .bool _) rfl rfl) ?_
                refine WPL.val (v_move (v := .bool _) rfl) ?_
                refine WPL.splitB 86 rfl (fun h86 => ?_) (fun h86 => ?_)
                ·
                  refine WPL.skipG ?_
                  refine WPL.skipG ?_
                  refine WPL.skipG ?_
                  refine WPL.skipG ?_
                  refine WPL.skipG ?_
                  refine WPL.skipG ?_
                  refine WPL.val (v_pickT (u := .bool _) rfl rfl) ?_
                  refine WPL.val (v_move (v := .bool _) rfl) ?_
                  refine WPL.skipG ?_
                  refine WPL.skipG ?_
                  refine WPL.skipG ?_
                  refine WPL.skipG ?_
                  refine WPL.skipG ?_
                  refine WPL.skipG ?_
                  refine WPL.skipG ?_
                  refine WPL.val (v_pickT (u := .bool _) rfl rfl) ?_
                  refine WPL.nil (onto_of ?_)
                  refine WP.condT rfl ?_
                  refine WP.seq ?_
                  refine WP.region ?_
                  refine WPL.val (v_move (v := .bool _) rfl) ?_
                  refine WPL.val (v_move (v := .bool _) rfl) ?_
                  refine WPL.valG (v_move (v := .slice _ _ _) rfl) ?_
                  refine WPL.valG (v_len Try.underlying26 rfl) ?_
                  refine WPL.valG (v_move (v := .slice _ _ _) rfl) ?_
                  refine WPL.valG (v_len Try.underlying22 rfl) ?_
                  refine WPL.valG (v_is (b := true) (v_eql rfl rfl) (decide_eq_true rfl)) ?_
                  refine WPL.val (v_pickT (u := .bool _) rfl rfl) ?_
                  refine WPL.val (v_assign (v := .bool _) rfl) ?_
                  refine WPL.nil (onto_of ?_)
                  exact WP.ret1 Try.results6 (fun _ h => h) (fun w hw => ⟨(), rfl, trivial, hw.sel [] (by decide)⟩)
                ·
                  refine WPL.valG (v_move (v := .slice _ _ _) rfl) ?_
                  refine WPL.valG (v_move (v := .int .i64 _) rfl) ?_
                  refine WPL.valG (v_index (j := j) Try.underlying22 Try.sizeOf39 rfl rfl hb (by omega)) ?_
                  refine WPL.valG (v_field (off := 1) Try.underlying39 rfl Try.sizeOf4 rfl) ?_
                  refine WPL.valG (v_load1 (u := .bool _) Try.isAgg4 rfl (fun w hw => hw.old_at (hc2.one (j := 1) rfl (by omega)) (not_foots_nil _))) ?_
                  refine WPL.valG (v_not rfl) ?_
                  refine WPL.val (v_pickF (v := .bool _) rfl rfl) ?_
                  refine WPL.val (v_move (v := .bool _) rfl) ?_
                  refine WPL.splitB 94 rfl (fun h94 => ?_) (fun h94 => ?_)
                  ·
                    refine WPL.skipG ?_
                    refine WPL.skipG ?_
                    refine WPL.skipG ?_
                    refine WPL.skipG ?_
                    refine WPL.skipG ?_
                    refine WPL.skipG ?_
                    refine WPL.skipG ?_
                    refine WPL.val (v_pickT (u := .bool _) rfl rfl) ?_
                    refine WPL.nil (onto_of ?_)
                    refine WP.condT rfl ?_
                    refine WP.seq ?_
                    refine WP.region ?_
                    refine WPL.val (v_move (v := .bool _) rfl) ?_
                    refine WPL.val (v_move (v := .bool _) rfl) ?_
                    refine WPL.valG (v_move (v := .slice _ _ _) rfl) ?_
                    refine WPL.valG (v_len Try.underlying26 rfl) ?_
                    refine WPL.valG (v_move (v := .slice _ _ _) rfl) ?_
                    refine WPL.valG (v_len Try.underlying22 rfl) ?_
                    refine WPL.valG (v_is (b := true) (v_eql rfl rfl) (decide_eq_true rfl)) ?_
                    refine WPL.val (v_pickT (u := .bool _) rfl rfl) ?_
                    refine WPL.val (v_assign (v := .bool _) rfl) ?_
                    refine WPL.nil (onto_of ?_)
                    exact WP.ret1 Try.results6 (fun _ h => h) (fun w hw => ⟨(), rfl, trivial, hw.sel [] (by decide)⟩)
                  ·
                    refine WPL.valG (v_move (v := .slice _ _ _) rfl) ?_
                    refine WPL.valG (v_move (v := .int .i64 _) rfl) ?_
                    refine WPL.efG (x_call Try.call18 (Layer_ct (some ⟨nb_n1, no_n1, none⟩) c L hL a) [] [0] rfl (fun w hw => hw.rd hz not_foots_nil) (τ := fun _ => [_]) (fun _ => rfl)) (fun _ => ?_)
                    refine WPL.fact (fun _ => ?_)
                    refine WPL.valG (v_move (v := .slice _ _ _) rfl) ?_
                    refine WPL.valG (v_move (v := .int .i64 _) rfl) ?_
                    refine WPL.efG (x_call Try.call18 (Layer_ct (some ⟨nb_n1, no_n1, none⟩) c L hL b) [] [0] rfl (fun w hw => hw.rd hz not_foots_nil) (τ := fun _ => [_]) (fun _ => rfl)) (fun _ => ?_)
                    refine WPL.fact (fun _ => ?_)
                    refine WPL.valG (v_neq rfl rfl) ?_
                    refine WPL.val (v_pickF (v := .bool _) rfl rfl) ?_
                    refine WPL.nil (onto_of ?_)
                    refine WP.condP rfl (fun h102 => ?_) (fun h102 => ?_)
                    ·
                      refine WP.seq ?_
                      refine WP.region ?_
                      refine WPL.val (v_move (v := .bool _) rfl) ?_
                      refine WPL.val (v_move (v := .bool _) rfl) ?_
                      refine WPL.valG (v_move (v := .slice _ _ _) rfl) ?_
                      refine WPL.valG (v_len Try.underlying26 rfl) ?_
                      refine WPL.valG (v_move (v := .slice _ _ _) rfl) ?_
                      refine WPL.valG (v_len Try.underlying22 rfl) ?_
                      refine WPL.valG (v_is (b := true) (v_eql rfl rfl) (decide_eq_true rfl)) ?_
                      refine WPL.val (v_pickT (u := .bool _) rfl rfl) ?_
                      refine WPL.val (v_assign (v := .bool _) rfl) ?_
                      refine WPL.nil (onto_of ?_)
                      exact WP.ret1 Try.results6 (fun _ h => h) (fun w hw => ⟨(), rfl, trivial, hw.sel [] (by decide)⟩)
                    ·
                      have hne : L ≠ [] := fun e => by have h9 : L.length = 0 := (by rw [e]; rfl); omega
                      have hla : layX L a = layF L a := layX_ok hok (by omega) (by omega)
                      have hlb : layX L b = layF L b := layX_ok hok (by omega) (by omega)
                      have hlay : layF L a = layF L b := by rw [← hla, ← hlb]; exact Decidable.not_not.1 h102
                      have hl1 : layP L a = true := by rw [ha, layN hn_n1]; simpa using h86
                      have hl2 : layP L b = true := by rw [hb, layN hn_n2]; simpa using h94
                      have hbt := bef_total hP (a := a) (b := b) (by omega) (by omega) (by omega) (by omega) hlay
                      refine WP.skip (onto_of ?_)
                      refine WP.seq ?_
                      refine WP.drawSel none [0] [(0, true), (1, true), (2, true), (3, true), (4, true), (6, true), (7, true), (8, true), (9, true), (10, true), (11, true), (12, true), (13, true), (14, true), (15, true), (16, true), (5, false), (17, true), (18, true), (19, true)] mixed (by kernel_rfl) (by decide) ?_
                      refine WPD.take rfl (v_move (v := .bool _) rfl) ?_ (fun _ h => h.sel [0] (by decide))
                      refine WPD.take rfl (v_move (v := .bool _) rfl) ?_ (fun _ h => h.sel [0] (by decide))
                      refine WPD.take rfl (v_move (v := .slice _ _ _) rfl) ?_ (fun _ h => h.sel [0] (by decide))
                      refine WPD.take rfl (v_move (v := .int .i64 _) rfl) ?_ (fun _ h => h.sel [0] (by decide))
                      refine WPD.take rfl (v_move (v := .int .i64 _) rfl) ?_ (fun _ h => h.sel [0] (by decide))
                      refine WPD.take rfl (v_move (v := .slice _ _ _) rfl) ?_ (fun _ h => h.sel [0] (by decide))
                      refine WPD.take rfl (v_move (v := .int .i64 _) rfl) ?_ (fun _ h => h.sel [0] (by decide))
                      refine WPD.take rfl (v_index (j := i) Try.underlying22 Try.sizeOf39 rfl rfl ha (by omega)) ?_ (fun _ h => h.sel [0] (by decide))
                      refine WPD.take rfl (v_field (off := 2) Try.underlying39 rfl Try.sizeOf3 rfl) ?_ (fun _ h => h.sel [0] (by decide))
                      refine WPD.take rfl (v_load1 (u := .int .i64 _) Try.isAgg3 rfl (fun w hw => hw.old_at (hc1.one (j := 2) rfl (by omega)) (not_foots_nil _))) ?_ (fun _ h => h.sel [0] (by decide))
                      refine WPD.take rfl (v_move (v := .slice _ _ _) rfl) ?_ (fun _ h => h.sel [0] (by decide))
                      refine WPD.take rfl (v_move (v := .int .i64 _) rfl) ?_ (fun _ h => h.sel [0] (by decide))
                      refine WPD.take rfl (v_index (j := j) Try.underlying22 Try.sizeOf39 rfl rfl hb (by omega)) ?_ (fun _ h => h.sel [0] (by decide))
                      refine WPD.take rfl (v_field (off := 2) Try.underlying39 rfl Try.sizeOf3 rfl) ?_ (fun _ h => h.sel [0] (by decide))
                      refine WPD.take rfl (v_load1 (u := .int .i64 _) Try.isAgg3 rfl (fun w hw => hw.old_at (hc2.one (j := 2) rfl (by omega)) (not_foots_nil _))) ?_ (fun _ h => h.sel [0] (by decide))
                      refine WPD.take rfl (v_leq rfl rfl) ?_ (fun _ h => h.sel [0] (by decide))
                      refine WPD.ef rfl (x_call Try.call20 (beforeP_ct (some ⟨nb_n1, no_n1, none⟩) c L hL hcap hok hne a b) [] [0] rfl (fun w hw => hw.rd hz not_foots_nil) (τ := fun _ => [_]) (fun _ => rfl)) (fun _ _ _ h => h.2.sel [0] (by decide)) (fun _ => ?_)
                      refine WPD.fact (fun _ => ?_)
                      refine WPD.take rfl (v_is (b := true) (v_eqB Try.underlying4 rfl rfl) (by rw [hbt, beq_iff_eq]; exact decide_eq_decide.2 (by rw [lt_two (by omega) hl1 hl2, ha, hb, zN hn_n1, zN hn_n2]))) ?_ (fun _ h => h.sel [0] (by decide))
                      refine WPD.take rfl (v_pickT (u := .bool _) rfl rfl) ?_ (fun _ h => h.sel [0] (by decide))
                      refine WPD.take rfl (v_assign (v := .bool _) rfl) ?_ (fun _ h => h.sel [0] (by decide))
                      refine WPD.nil (onto_of ?_)
                      exact WP.ret1 Try.results6 (fun _ h => h) (fun w hw => ⟨(), rfl, trivial, hw.sel [] (by decide)⟩)
end Go.Proofs.Ytmjdmlgdffoimab
