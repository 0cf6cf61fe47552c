/- The law FlexShareMore: the plain law, the walk. -/
import Derived.Test.YtabdcfobdehhiaaFlexLawB
namespace Go.Proofs.Ytabdcfobdehhiaa
open Go.RowKit

theorem shareX_eq {n : Int} {w : List Int} (h : w.length ≤ 64) : shareX n w = share n w := by unfold shareX; rw [if_pos h]
theorem pmark_more {n m : Int} (h0 : 0 ≤ n) (h : n ≤ m) (w : List Int) (k : Nat) : pmark n w k ≤ pmark m w k := by
  unfold pmark
  have h1 := (psum_bd w k).1
  have h3 : 1 ≤ whole w := by unfold whole; omega
  exact Int.ediv_le_ediv (by omega) (Int.mul_le_mul_of_nonneg_right (by unfold lot; omega) h1)
theorem psum_double {w : List Int} (hw : ∀ (i : Nat) (x : Int), w[i]? = some x → 0 ≤ x ∧ x ≤ 536870912) : ∀ k : Nat, psum (w.map (2 * ·)) k = 2 * psum w k
  | 0 => by rw [psum_zero, psum_zero]; rfl
  | k + 1 => by
    have ih := psum_double hw k
    cases hx : w[k]? with
    | none =>
      have h1 : w.take (k + 1) = w.take k := by rw [List.take_add_one, hx]; simp
      unfold psum at ih ⊢
      rw [← List.map_take] at ih ⊢
      rw [h1]; exact ih
    | some x =>
      have h2 := hw k x hx
      rw [psum_succ w k x hx, psum_succ _ k (2 * x) (map_at _ hx rfl), ih]
      have e1 : wgt (2 * x) = 2 * x := by unfold wgt; omega
      have e2 : wgt x = x := by unfold wgt; omega
      rw [e1, e2]; omega
theorem pmark_double {n : Int} {w : List Int} (hw : ∀ (i : Nat) (x : Int), w[i]? = some x → 0 ≤ x ∧ x ≤ 536870912) (k : Nat) : pmark n (w.map (2 * ·)) k = pmark n w k := by
  have hd := psum_double hw
  have hl : (w.map (2 * ·)).length = w.length := by simp
  have h0 := psum_bd w w.length
  have hall := psum_all w k
  have hk0 := psum_bd w k
  by_cases hz : psum w w.length = 0
  · rw [pmark_none n w k (by omega), pmark_none n _ k (by rw [hd]; omega)]
  · unfold pmark whole
    rw [hd, hl, hd, show max (2 * psum w w.length) 1 = 2 * psum w w.length by omega, show max (psum w w.length) 1 = psum w w.length by omega, show lot n * (2 * psum w k) = 2 * (lot n * psum w k) by rw [Int.mul_left_comm]]
    exact Int.mul_ediv_mul_of_pos _ _ (by omega)
theorem share_double {n : Int} {w : List Int} (hw : ∀ (i : Nat) (x : Int), w[i]? = some x → 0 ≤ x ∧ x ≤ 536870912) : share n (w.map (2 * ·)) = share n w := by
  unfold share
  rw [show (w.map (2 * ·)).length = w.length by simp]
  apply List.map_congr_left
  intro k _
  rw [pmark_double hw, pmark_double hw]

set_option maxRecDepth 100000 in
theorem lawMore_ct (A : Option Addr) (c : Nat) (n m : Int) (zs : List Int) (hm : zs.length ≤ 9223372036854775807) :
    Ct Try.prog 9 #[.int .i64 n, .int .i64 m, .slice A zs.length c] [] (fun w => RdI w A zs) (X := Unit) (fun _ => .bool true) (fun _ => True) (fun _ => []) := by
  refine Ct.intro Try.func9 rfl Try.ntmps9 (by simp) (fun w0 hz => ?_)
  refine WP.seq ?_
  refine WP.region ?_
  refine WPL.val (v_assign (v := .bool false) rfl) ?_
  refine WPL.nil (onto_of ?_)
  refine WP.seq ?_
  refine WP.region ?_
  refine WPL.ef (x_call Try.call15 works_ct [] [] rfl (fun w hw => trivial) (τ := fun _ => []) (fun _ => rfl)) (fun _ => ?_)
  refine WPL.fact (fun _ => ?_)
  refine WPL.val (v_assign (v := .bool _) rfl) ?_
  refine WPL.nil (onto_of ?_)
  refine WP.seq ?_
  refine WP.seq ?_
  refine WP.region ?_
  refine WPL.val (v_move (v := .bool _) rfl) ?_
  refine WPL.val (v_not rfl) ?_
  refine WPL.nil (onto_of ?_)
  refine WP.condF rfl ?_
  refine WP.skip (onto_of ?_)
  refine WP.seq ?_
  refine WP.seq ?_
  refine WP.region ?_
  refine WPL.val (v_move (v := .int .i64 _) rfl) ?_
  refine WPL.val (v_lss rfl rfl) ?_
  refine WPL.val (v_move (v := .bool _) rfl) ?_
  refine WPL.split 17 rfl (fun h17 => ?_) (fun h17 => ?_)
  ·
    refine WPL.skipG ?_
    refine WPL.skipG ?_
    refine WPL.skipG ?_
    refine WPL.val (v_pickT (u := .bool _) rfl rfl) ?_
    refine WPL.val (v_move (v := .bool _) rfl) ?_
    refine WPL.skipG ?_
    refine WPL.skipG ?_
    refine WPL.val (v_pickT (u := .bool _) rfl rfl) ?_
    refine WPL.val (v_move (v := .bool _) rfl) ?_
    refine WPL.skipG ?_
    refine WPL.skipG ?_
    refine WPL.skipG ?_
    refine WPL.val (v_pickT (u := .bool _) rfl rfl) ?_
    refine WPL.val (v_move (v := .bool _) rfl) ?_
    refine WPL.skipG ?_
    refine WPL.skipG ?_
    refine WPL.skipG ?_
    refine WPL.val (v_pickT (u := .bool _) rfl rfl) ?_
    refine WPL.nil (onto_of ?_)
    refine WP.condT rfl ?_
    refine WP.seq ?_
    refine WP.region ?_
    refine WPL.val (v_move (v := .bool _) rfl) ?_
    refine WPL.val (v_assign (v := .bool _) rfl) ?_
    refine WPL.nil (onto_of ?_)
    exact WP.ret1 Try.results9 (fun _ h => h) (fun w hw => ⟨(), rfl, trivial, hw.sel [] (by decide)⟩)
  ·
    refine WPL.valG (v_move (v := .int .i64 _) rfl) ?_
    refine WPL.valG (v_move (v := .int .i64 _) rfl) ?_
    refine WPL.valG (v_lss rfl rfl) ?_
    refine WPL.val (v_pickF (v := .bool _) rfl rfl) ?_
    refine WPL.val (v_move (v := .bool _) rfl) ?_
    refine WPL.split 22 rfl (fun h22 => ?_) (fun h22 => ?_)
    ·
      refine WPL.skipG ?_
      refine WPL.skipG ?_
      refine WPL.val (v_pickT (u := .bool _) rfl rfl) ?_
      refine WPL.val (v_move (v := .bool _) rfl) ?_
      refine WPL.skipG ?_
      refine WPL.skipG ?_
      refine WPL.skipG ?_
      refine WPL.val (v_pickT (u := .bool _) rfl rfl) ?_
      refine WPL.val (v_move (v := .bool _) rfl) ?_
      refine WPL.skipG ?_
      refine WPL.skipG ?_
      refine WPL.skipG ?_
      refine WPL.val (v_pickT (u := .bool _) rfl rfl) ?_
      refine WPL.nil (onto_of ?_)
      refine WP.condT rfl ?_
      refine WP.seq ?_
      refine WP.region ?_
      refine WPL.val (v_move (v := .bool _) rfl) ?_
      refine WPL.val (v_assign (v := .bool _) rfl) ?_
      refine WPL.nil (onto_of ?_)
      exact WP.ret1 Try.results9 (fun _ h => h) (fun w hw => ⟨(), rfl, trivial, hw.sel [] (by decide)⟩)
    ·
      refine WPL.valG (v_move (v := .int .i64 _) rfl) ?_
      refine WPL.valG (v_gtr rfl rfl) ?_
      refine WPL.val (v_pickF (v := .bool _) rfl rfl) ?_
      refine WPL.val (v_move (v := .bool _) rfl) ?_
      refine WPL.split 26 rfl (fun h26 => ?_) (fun h26 => ?_)
      ·
        refine WPL.skipG ?_
        refine WPL.skipG ?_
        refine WPL.skipG ?_
        refine WPL.val (v_pickT (u := .bool _) rfl rfl) ?_
        refine WPL.val (v_move (v := .bool _) rfl) ?_
        refine WPL.skipG ?_
        refine WPL.skipG ?_
        refine WPL.skipG ?_
        refine WPL.val (v_pickT (u := .bool _) rfl rfl) ?_
        refine WPL.nil (onto_of ?_)
        refine WP.condT rfl ?_
        refine WP.seq ?_
        refine WP.region ?_
        refine WPL.val (v_move (v := .bool _) rfl) ?_
        refine WPL.val (v_assign (v := .bool _) rfl) ?_
        refine WPL.nil (onto_of ?_)
        exact WP.ret1 Try.results9 (fun _ h => h) (fun w hw => ⟨(), rfl, trivial, hw.sel [] (by decide)⟩)
      ·
        refine WPL.valG (v_move (v := .slice _ _ _) rfl) ?_
        refine WPL.valG (v_len Try.underlying32 rfl) ?_
        refine WPL.valG (v_lss rfl rfl) ?_
        refine WPL.val (v_pickF (v := .bool _) rfl rfl) ?_
        refine WPL.val (v_move (v := .bool _) rfl) ?_
        refine WPL.split 31 rfl (fun h31 => ?_) (fun h31 => ?_)
        ·
          refine WPL.skipG ?_
          refine WPL.skipG ?_
          refine WPL.skipG ?_
          refine WPL.val (v_pickT (u := .bool _) rfl rfl) ?_
          refine WPL.nil (onto_of ?_)
          refine WP.condT rfl ?_
          refine WP.seq ?_
          refine WP.region ?_
          refine WPL.val (v_move (v := .bool _) rfl) ?_
          refine WPL.val (v_assign (v := .bool _) rfl) ?_
          refine WPL.nil (onto_of ?_)
          exact WP.ret1 Try.results9 (fun _ h => h) (fun w hw => ⟨(), rfl, trivial, hw.sel [] (by decide)⟩)
        ·
          refine WPL.valG (v_move (v := .slice _ _ _) rfl) ?_
          refine WPL.valG (v_len Try.underlying32 rfl) ?_
          refine WPL.valG (v_gtr rfl rfl) ?_
          refine WPL.val (v_pickF (v := .bool _) rfl rfl) ?_
          refine WPL.nil (onto_of ?_)
          refine WP.condP rfl (fun h35 => ?_) (fun h35 => ?_)
          ·
            refine WP.seq ?_
            refine WP.region ?_
            refine WPL.val (v_move (v := .bool _) rfl) ?_
            refine WPL.val (v_assign (v := .bool _) rfl) ?_
            refine WPL.nil (onto_of ?_)
            exact WP.ret1 Try.results9 (fun _ h => h) (fun w hw => ⟨(), rfl, trivial, hw.sel [] (by decide)⟩)
          ·
            refine WP.skip (onto_of ?_)
            refine WP.seq ?_
            refine WP.region ?_
            refine WPL.val (v_assign (v := .slice none 0 0) rfl) ?_
            refine WPL.nil (onto_of ?_)
            refine WP.seq ?_
            refine WP.seq ?_
            refine WP.pre ?_ (fun w hw => hw.nilRow 3 1)
            refine WP.region ?_
            refine WPL.val (v_assign (v := .int .i64 (0)) rfl) ?_
            refine WPL.nil (onto_of ?_)
            refine WP.block ?_
            refine WP.loopK (X := Nat × Option Addr × Nat) [0, 1, 2, 7] (fun p => [(8, intsV p.2.1 p.2.2 ((zs.take p.1).map (2 * ·))), (9, .int .i64 (p.1 : Int))]) (fun p w => (p.1 ≤ zs.length ∧ ∀ (i : Nat) (x : Int), i < p.1 → zs[i]? = some x → 0 ≤ x ∧ x ≤ 536870912) ∧ St w0 (foots []) [intsI p.2.1 p.2.2 ((zs.take p.1).map (2 * ·))] w) (fun p => zs.length - p.1) (0, none, 0) ⟨rfl, rfl, trivial⟩ (fun w hw => ⟨⟨by omega, fun i x h => absurd h (by simp)⟩, hw⟩) (fun p ρ0 => ?_)
            obtain ⟨k, A3, c3⟩ := p
            dsimp only
            refine WP.fact (fun ⟨hk, hal⟩ => ?_)
            refine WP.seq ?_
            refine WP.seq ?_
            refine WP.region ?_
            refine WPL.val (v_move (v := .int .i64 _) rfl) ?_
            refine WPL.val (v_move (v := .slice _ _ _) rfl) ?_
            refine WPL.val (v_len Try.underlying32 rfl) ?_
            refine WPL.val (v_lss rfl rfl) ?_
            refine WPL.nil (onto_of ?_)
            refine WP.condP rfl (fun h40 => ?_) (fun h40 => ?_)
            ·
              have hkl : k < zs.length := by omega
              obtain ⟨x, hx⟩ : ∃ x, zs[k]? = some x := ⟨_, List.getElem?_eq_getElem hkl⟩
              obtain ⟨b, o, rfl, hc⟩ := hz k x hx
              have htl : ((zs.take k).map (2 * ·)).length = k := by simp; omega
              refine WP.skip (onto_of ?_)
              refine WP.seq ?_
              refine WP.block ?_
              refine WP.seq ?_
              refine WP.seq ?_
              refine WP.region ?_
              refine WPL.val (v_move (v := .slice _ _ _) rfl) ?_
              refine WPL.val (v_move (v := .int .i64 _) rfl) ?_
              refine WPL.val (v_index Try.underlying32 Try.sizeOf3 rfl rfl rfl (by omega)) ?_
              refine WPL.val (v_load1 (u := .int .i64 _) Try.isAgg3 rfl (fun w hw => hw.old_at hc (not_foots_nil _))) ?_
              refine WPL.val (v_lss rfl rfl) ?_
              refine WPL.val (v_move (v := .bool _) rfl) ?_
              refine WPL.split 48 rfl (fun h48 => ?_) (fun h48 => ?_)
              ·
                refine WPL.skipG ?_
                refine WPL.skipG ?_
                refine WPL.skipG ?_
                refine WPL.skipG ?_
                refine WPL.skipG ?_
                refine WPL.val (v_pickT (u := .bool _) rfl rfl) ?_
                refine WPL.nil (onto_of ?_)
                refine WP.condT rfl ?_
                refine WP.seq ?_
                refine WP.region ?_
                refine WPL.val (v_move (v := .bool _) rfl) ?_
                refine WPL.val (v_assign (v := .bool _) rfl) ?_
                refine WPL.nil (onto_of ?_)
                exact WP.ret1 Try.results9 (fun _ h => h) (fun w hw => ⟨(), rfl, trivial, hw.sel [] (by decide)⟩)
              ·
                refine WPL.valG (v_move (v := .slice _ _ _) rfl) ?_
                refine WPL.valG (v_move (v := .int .i64 _) rfl) ?_
                refine WPL.valG (v_index Try.underlying32 Try.sizeOf3 rfl rfl rfl (by omega)) ?_
                refine WPL.valG (v_load1 (u := .int .i64 _) Try.isAgg3 rfl (fun w hw => hw.old_at hc (not_foots_nil _))) ?_
                refine WPL.valG (v_gtr rfl rfl) ?_
                refine WPL.val (v_pickF (v := .bool _) rfl rfl) ?_
                refine WPL.nil (onto_of ?_)
                refine WP.condP rfl (fun h54 => ?_) (fun h54 => ?_)
                ·
                  refine WP.seq ?_
                  refine WP.region ?_
                  refine WPL.val (v_move (v := .bool _) rfl) ?_
                  refine WPL.val (v_assign (v := .bool _) rfl) ?_
                  refine WPL.nil (onto_of ?_)
                  exact WP.ret1 Try.results9 (fun _ h => h) (fun w hw => ⟨(), rfl, trivial, hw.sel [] (by decide)⟩)
                ·
                  refine WP.skip (onto_of ?_)
                  refine WP.region ?_
                  refine WPL.val (v_move (v := .slice _ _ _) rfl) ?_
                  refine WPL.val (v_move (v := .slice _ _ _) rfl) ?_
                  refine WPL.val (v_move (v := .int .i64 _) rfl) ?_
                  refine WPL.val (v_index Try.underlying32 Try.sizeOf3 rfl rfl rfl (by omega)) ?_
                  refine WPL.val (v_load1 (u := .int .i64 _) Try.isAgg3 rfl (fun w hw => hw.old_at hc (not_foots_nil _))) ?_
                  refine WPL.val (v_mul rfl rfl (by omega)) ?_
                  refine WPL.ef (x_buildSlice (us := [.int .i64 _]) (σ' := fun _ => [_, _]) Try.underlying32 Try.sizeOf3 Try.zeroValue3 rfl rfl rfl (by decide) (by decide) (fun _ => rfl)) (fun g62 => ?_)
                  refine WPL.ef (x_append (sz := 1) (σ' := fun _ => [_, _]) Try.underlying32 int_info rfl (by decide) rfl rfl (i := 0) rfl (fun w hw => hw.src_row (i := 1) rfl) rfl (by simp [Value.oneCell']) (by omega) (by omega) (fun _ => rfl)) (fun ⟨A63, c63⟩ => ?_)
                  refine WPL.val (v_assign (v := .slice _ _ _) rfl) ?_
                  have hdl : ((zs.take (k + 1)).map (2 * ·)) = ((zs.take k).map (2 * ·)) ++ [2 * x] := by rw [take_snoc hx, List.map_append]; rfl
                  have hx1 : 0 ≤ x ∧ x ≤ 536870912 := by omega
                  have hal2 : ∀ (i : Nat) (y : Int), i < k + 1 → zs[i]? = some y → 0 ≤ y ∧ y ≤ 536870912 := fun i y hi hy => by
                    by_cases e : i = k
                    · rw [e, hx] at hy
                      cases hy
                      exact hx1
                    · exact hal i y (by omega) hy
                  refine WPL.nil (onto_of ?_)
                  refine WP.region ?_
                  refine WPL.val (v_move (v := .int .i64 _) rfl) ?_
                  refine WPL.val (v_add rfl rfl (by omega)) ?_
                  refine WPL.val (v_assign (v := .int .i64 _) rfl) ?_
                  exact WPL.nil fun w hw => ⟨rfl, (k + 1, A63, c63), (by simp only; omega), ⟨(by rw [hdl, intsV_snoc]; rfl), rfl, (via (.int .i64 _) rfl rfl), (via (.int .i64 _) rfl rfl), (via (.slice _ _ _) rfl rfl), (via (.bool _) rfl rfl), trivial⟩, ⟨by simp only; omega, hal2⟩, by simp only [hdl, intsI_snoc]; exact (hw.sel [0] (by decide))⟩
            ·
              obtain rfl : k = zs.length := by omega
              rw [List.take_length]
              have hall : ∀ (i : Nat) (x : Int), zs[i]? = some x → 0 ≤ x ∧ x ≤ 536870912 := fun i x h => hal i x (List.getElem?_eq_some_iff.1 h).1 h
              refine WP.exit (onto_of ?_)
              refine WP.seq ?_
              refine WP.region ?_
              refine WPL.val (v_move (v := .int .i64 _) rfl) ?_
              refine WPL.val (v_move (v := .slice _ _ _) rfl) ?_
              refine WPL.ef (x_call Try.call22 (shareX_ct A c n zs) [] [0] rfl (fun w hw => hw.rd hz not_foots_nil) (τ := fun _ => [_, _]) (fun _ => rfl)) (fun ⟨A1, c1⟩ => ?_)
              refine WPL.fact (fun _ => ?_)
              rw [shareX_eq (by omega)]
              refine WPL.val (v_assign (v := .slice _ _ _) rfl) ?_
              refine WPL.nil (onto_of ?_)
              refine WP.seq ?_
              refine WP.region ?_
              refine WPL.val (v_move (v := .int .i64 _) rfl) ?_
              refine WPL.val (v_move (v := .slice _ _ _) rfl) ?_
              refine WPL.ef (x_call Try.call22 (shareX_ct A c m zs) [] [0, 1] rfl (fun w hw => hw.rd hz not_foots_nil) (τ := fun _ => [_, _, _]) (fun _ => rfl)) (fun ⟨A2, c2⟩ => ?_)
              refine WPL.fact (fun _ => ?_)
              rw [shareX_eq (by omega)]
              refine WPL.val (v_assign (v := .slice _ _ _) rfl) ?_
              refine WPL.nil (onto_of ?_)
              refine WP.seq ?_
              have ha0 := share_get n zs 0 (by omega)
              have hb0 := share_get m zs 0 (by omega)
              have hle : pmark n zs (0 + 1) - pmark n zs 0 ≤ pmark m zs (0 + 1) - pmark m zs 0 := by
                have := pmark_more (n := n) (m := m) (by omega) (by omega) zs (0 + 1)
                rw [pmark_zero, pmark_zero]; omega
              refine WP.holds (fun w hw => hw.row_pos (i := 1) rfl (by rw [share_length]; omega)) (fun ⟨sb, hA⟩ => ?_)
              subst hA
              refine WP.holds (fun w hw => hw.row_pos (i := 2) rfl (by rw [share_length]; omega)) (fun ⟨tb, hA⟩ => ?_)
              subst hA
              refine WP.drawSel none [0, 1, 2] [(0, true), (1, true), (2, true), (3, true), (4, true), (5, true), (6, true), (7, true), (8, true), (9, true), (10, true), (11, true), (12, true), (14, true), (13, false), (15, false), (16, true), (17, true)] mixed (by kernel_rfl) (by decide) ?_
              refine WPD.take rfl (v_move (v := .bool _) rfl) ?_ (fun _ h => h.sel [0, 1, 2] (by decide))
              refine WPD.take rfl (v_move (v := .bool _) rfl) ?_ (fun _ h => h.sel [0, 1, 2] (by decide))
              refine WPD.take rfl (v_move (v := .slice _ _ _) rfl) ?_ (fun _ h => h.sel [0, 1, 2] (by decide))
              refine WPD.take rfl (v_index (j := 0) Try.underlying32 Try.sizeOf3 rfl rfl rfl (by rw [share_length]; omega)) ?_ (fun _ h => h.sel [0, 1, 2] (by decide))
              refine WPD.take rfl (v_load1 (u := .int .i64 _) Try.isAgg3 rfl (fun w hw => hw.row_at1 (i := 1) rfl (ints_at ha0) rfl)) ?_ (fun _ h => h.sel [0, 1, 2] (by decide))
              refine WPD.take rfl (v_move (v := .slice _ _ _) rfl) ?_ (fun _ h => h.sel [0, 1, 2] (by decide))
              refine WPD.take rfl (v_index (j := 0) Try.underlying32 Try.sizeOf3 rfl rfl rfl (by rw [share_length]; omega)) ?_ (fun _ h => h.sel [0, 1, 2] (by decide))
              refine WPD.take rfl (v_load1 (u := .int .i64 _) Try.isAgg3 rfl (fun w hw => hw.row_at1 (i := 2) rfl (ints_at hb0) rfl)) ?_ (fun _ h => h.sel [0, 1, 2] (by decide))
              refine WPD.take rfl (v_lit (b := true) (v_leq rfl rfl) (decide_eq_true hle)) ?_ (fun _ h => h.sel [0, 1, 2] (by decide))
              refine WPD.take rfl (v_pickT (u := .bool _) rfl rfl) ?_ (fun _ h => h.sel [0, 1, 2] (by decide))
              refine WPD.take rfl (v_move (v := .bool _) rfl) ?_ (fun _ h => h.sel [0, 1, 2] (by decide))
              refine WPD.take rfl (v_move (v := .int .i64 _) rfl) ?_ (fun _ h => h.sel [0, 1, 2] (by decide))
              refine WPD.take rfl (v_move (v := .slice _ _ _) rfl) ?_ (fun _ h => h.sel [0, 1, 2] (by decide))
              refine WPD.take rfl (v_move (v := .slice _ _ _) rfl) ?_ (fun _ h => h.sel [0, 1, 2] (by decide))
              refine WPD.ef rfl (x_call Try.call22 (shareX_ct A3 c3 n (zs.map (2 * ·))) [] [0, 1, 2] rfl (fun w hw => hw.rd_row1 (i := 0) rfl) (τ := fun _ => [_, _, _, _]) (fun _ => rfl)) (fun _ _ _ h => h.2.sel [0, 1, 2] (by decide)) (fun ⟨A4, c4⟩ => ?_)
              refine WPD.fact (fun _ => ?_)
              rw [shareX_eq (by simp; omega), share_double hall]
              refine WPD.ef rfl (x_call Try.call19 (row_ct A4 _ c4 c1 (share n zs) (share n zs) (by rw [share_length]; omega)) [] [0, 1, 2, 3] rfl (fun w hw => ⟨hw.rd_row1 (i := 3) rfl, hw.rd_row1 (i := 1) rfl⟩) (τ := fun _ => [_, _, _, _]) (fun _ => rfl)) (fun _ _ _ h => h.2.sel [0, 1, 2] (by decide)) (fun _ => ?_)
              refine WPD.fact (fun _ => ?_)
              rw [show decide (share n zs = share n zs) = true from decide_eq_true rfl]
              refine WPD.take rfl (v_pickT (u := .bool _) rfl rfl) ?_ (fun _ h => h.sel [0, 1, 2] (by decide))
              refine WPD.take rfl (v_assign (v := .bool _) rfl) ?_ (fun _ h => h.sel [0, 1, 2] (by decide))
              refine WPD.nil (onto_of ?_)
              exact WP.ret1 Try.results9 (fun _ h => h) (fun w hw => ⟨(), rfl, trivial, hw.sel [] (by decide)⟩)
end Go.Proofs.Ytabdcfobdehhiaa
