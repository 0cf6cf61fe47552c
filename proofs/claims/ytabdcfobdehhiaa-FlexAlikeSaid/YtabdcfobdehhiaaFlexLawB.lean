/- The law FlexShares: the plain law, the walk. -/
import Derived.Test.YtabdcfobdehhiaaFlexLawA
namespace Go.Proofs.Ytabdcfobdehhiaa
open Go.RowKit

theorem pmark_whole (n : Int) (w : List Int) (h : 0 < psum w w.length) : pmark n w w.length = lot n := by
  unfold pmark whole
  rw [show max (psum w w.length) 1 = psum w w.length by omega]
  exact Int.mul_ediv_cancel _ (by omega)
theorem pmark_none (n : Int) (w : List Int) (k : Nat) (h : psum w k = 0) : pmark n w k = 0 := by
  unfold pmark; rw [h, Int.mul_zero, Int.zero_ediv]
theorem shareX_get {n : Int} {w : List Int} {k : Nat} (hk : k < (shareX n w).length) : w.length ≤ 64 ∧ k < w.length ∧ (shareX n w)[k]? = some (pmark n w (k + 1) - pmark n w k) := by
  unfold shareX at hk ⊢
  by_cases hl : w.length ≤ 64
  · rw [if_pos hl] at hk ⊢
    rw [share_length] at hk
    exact ⟨hl, hk, share_get n w k hk⟩
  · rw [if_neg hl] at hk; simp at hk
theorem fin_all {n : Int} {w : List Int} (hl : w.length ≤ 64) (h : 0 < psum w (shareX n w).length) : pmark n w (shareX n w).length = min (max n 0) 67108864 := by
  have e : (shareX n w).length = w.length := by unfold shareX; rw [if_pos hl, share_length]
  rw [e] at h ⊢
  rw [pmark_whole n w h]; unfold lot; omega
theorem fin_big {n : Int} {w : List Int} (hl : ¬ w.length ≤ 64) : psum w (shareX n w).length = 0 := by
  unfold shareX; rw [if_neg hl]; exact psum_zero w

set_option maxRecDepth 100000 in
theorem lawShares_ct (A : Option Addr) (c : Nat) (n : Int) (zs : List Int) (hm : zs.length ≤ 9223372036854775807) :
    Ct Try.prog 4 #[.int .i64 n, .slice A zs.length c] [] (fun w => RdI w A zs) (X := Unit) (fun _ => .bool true) (fun _ => True) (fun _ => []) := by
  refine Ct.intro Try.func4 rfl Try.ntmps4 (by simp) (fun w0 hz => ?_)
  refine WP.seq ?_
  refine WP.region ?_
  refine WPL.val (v_assign (v := .bool false) rfl) ?_
  refine WPL.nil (onto_of ?_)
  refine WP.seq ?_
  refine WP.region ?_
  refine WPL.ef (x_call Try.call15 works_ct [] [] rfl (fun w hw => trivial) (τ := fun _ => []) (fun _ => rfl)) (fun _ => ?_)
  refine WPL.fact (fun _ => ?_)
  refine WPL.val (v_assign (v := .bool _) rfl) ?_
  refine WPL.nil (onto_of ?_)
  refine WP.seq ?_
  refine WP.seq ?_
  refine WP.region ?_
  refine WPL.val (v_move (v := .bool _) rfl) ?_
  refine WPL.val (v_not rfl) ?_
  refine WPL.nil (onto_of ?_)
  refine WP.condF rfl ?_
  refine WP.skip (onto_of ?_)
  refine WP.seq ?_
  refine WP.seq ?_
  refine WP.region ?_
  refine WPL.val (v_move (v := .slice _ _ _) rfl) ?_
  refine WPL.val (v_len Try.underlying32 rfl) ?_
  refine WPL.val (v_gtr rfl rfl) ?_
  refine WPL.nil (onto_of ?_)
  refine WP.condP rfl (fun h16 => ?_) (fun h16 => ?_)
  ·
    refine WP.seq ?_
    refine WP.region ?_
    refine WPL.val (v_move (v := .bool _) rfl) ?_
    refine WPL.val (v_assign (v := .bool _) rfl) ?_
    refine WPL.nil (onto_of ?_)
    exact WP.ret1 Try.results4 (fun _ h => h) (fun w hw => ⟨(), by first | rfl | exact congrArg Value.bool (decide_eq_true (fin_all (by omega) h67)) | exact absurd h67 (by have h9 := fin_big (n := n) (w := zs) (by omega); omega) | exact congrArg Value.bool (decide_eq_true (pmark_none n zs (shareX n zs).length (by have h9 := psum_bd zs (shareX n zs).length; omega))), trivial, hw.sel [] (by decide)⟩)
  ·
    refine WP.skip (onto_of ?_)
    refine WP.seq ?_
    refine WP.region ?_
    refine WPL.val (v_move (v := .int .i64 _) rfl) ?_
    refine WPL.val (v_move (v := .slice _ _ _) rfl) ?_
    refine WPL.ef (x_call Try.call22 (shareX_ct A c n zs) [] [] rfl (fun w hw => hw.rd hz not_foots_nil) (τ := fun _ => [_]) (fun _ => rfl)) (fun ⟨A1, c1⟩ => ?_)
    refine WPL.fact (fun _ => ?_)
    refine WPL.val (v_assign (v := .slice _ _ _) rfl) ?_
    refine WPL.nil (onto_of ?_)
    refine WP.seq ?_
    refine WP.seq ?_
    refine WP.region ?_
    refine WPL.val (v_move (v := .slice _ _ _) rfl) ?_
    refine WPL.val (v_move (v := .int .i64 _) rfl) ?_
    refine WPL.val (v_move (v := .slice _ _ _) rfl) ?_
    refine WPL.ef (x_call Try.call23 (rshareX_ct A c n zs) [] [0] rfl (fun w hw => hw.rd hz not_foots_nil) (τ := fun _ => [_, _]) (fun _ => rfl)) (fun ⟨A2, c2⟩ => ?_)
    refine WPL.fact (fun _ => ?_)
    refine WPL.ef (x_call Try.call19 (row_ct A1 A2 c1 c2 (shareX n zs) (shareX n zs) (Nat.le_trans (shareX_length _ _) (by decide))) [] [0, 1] rfl (fun w hw => ⟨hw.rd_row1 (i := 0) rfl, hw.rd_row1 (i := 1) rfl⟩) (τ := fun _ => [_, _]) (fun _ => rfl)) (fun _ => ?_)
    refine WPL.fact (fun _ => ?_)
    rw [show decide (shareX n zs = shareX n zs) = true from decide_eq_true rfl]
    refine WPL.val (v_not rfl) ?_
    refine WPL.nil (onto_of ?_)
    refine WP.condF rfl ?_
    refine WP.skip (onto_of ?_)
    refine WP.seq ?_
    refine WP.region ?_
    refine WPL.val (v_assign (v := .int .i64 (0)) rfl) ?_
    refine WPL.nil (onto_of ?_)
    refine WP.seq ?_
    refine WP.region ?_
    refine WPL.val (v_assign (v := .bool false) rfl) ?_
    refine WPL.nil (onto_of ?_)
    refine WP.seq ?_
    refine WP.seq ?_
    refine WP.region ?_
    refine WPL.val (v_assign (v := .int .i64 (0)) rfl) ?_
    refine WPL.nil (onto_of ?_)
    refine WP.block ?_
    refine WP.loopK (X := Nat) [0, 1, 5, 6] (fun k => [(7, .int .i64 (pmark n zs k)), (8, .bool (decide (0 < psum zs k))), (9, .int .i64 (k : Int))]) (fun k w => k ≤ (shareX n zs).length ∧ St w0 (foots []) [intsI A1 c1 (shareX n zs)] w) (fun k => (shareX n zs).length - k) 0 ⟨by rw [pmark_zero]; rfl, by rw [psum_zero]; rfl, rfl, trivial⟩ (fun w hw => ⟨by omega, hw.sel [0] (by decide)⟩) (fun k ρ0 => ?_)
    refine WP.fact (fun hk => ?_)
    refine WP.seq ?_
    refine WP.seq ?_
    refine WP.region ?_
    refine WPL.val (v_move (v := .int .i64 _) rfl) ?_
    refine WPL.val (v_move (v := .slice _ _ _) rfl) ?_
    refine WPL.val (v_len Try.underlying32 rfl) ?_
    refine WPL.val (v_lss rfl rfl) ?_
    refine WPL.nil (onto_of ?_)
    refine WP.condP rfl (fun h30 => ?_) (fun h30 => ?_)
    ·
      obtain ⟨hl, hkl, hs⟩ := shareX_get (n := n) (w := zs) (k := k) (by omega)
      obtain ⟨x, hx⟩ : ∃ x, zs[k]? = some x := ⟨_, List.getElem?_eq_getElem hkl⟩
      obtain ⟨b, o, rfl, hc⟩ := hz k x hx
      have hp1 := psum_succ zs k x hx
      have hb := psum_bd zs k
      have hwb := wgt_bd x
      have hwx : 0 < wgt x ↔ 0 < x := by unfold wgt; omega
      have hmo := pmark_mono n zs k
      have ht1 := pmark_top n zs k
      have ht2 := pmark_top n zs (k + 1)
      have hlb := lot_bd n
      have hzero : x ≤ 0 → pmark n zs (k + 1) = pmark n zs k := fun h => by
        have : psum zs (k + 1) = psum zs k := by omega
        unfold pmark; rw [this]
      refine WP.holds (fun w hw => hw.row_pos (i := 0) rfl (by omega)) (fun ⟨sb, hA⟩ => ?_)
      subst hA
      refine WP.skip (onto_of ?_)
      refine WP.seq ?_
      refine WP.block ?_
      refine WP.seq ?_
      refine WP.region ?_
      refine WPL.val (v_move (v := .int .i64 _) rfl) ?_
      refine WPL.val (v_move (v := .slice _ _ _) rfl) ?_
      refine WPL.val (v_move (v := .int .i64 _) rfl) ?_
      refine WPL.val (v_index Try.underlying32 Try.sizeOf3 rfl rfl rfl (by omega)) ?_
      refine WPL.val (v_load1 (u := .int .i64 _) Try.isAgg3 rfl (fun w hw => hw.row_at1 (i := 0) rfl (ints_at hs) (by omega))) ?_
      refine WPL.val (v_add rfl rfl (by omega)) ?_
      refine WPL.val (v_assign (v := .int .i64 _) rfl) ?_
      refine WPL.nil (onto_of ?_)
      refine WP.seq ?_
      refine WP.region ?_
      refine WPL.val (v_move (v := .bool _) rfl) ?_
      refine WPL.val (v_move (v := .bool _) rfl) ?_
      refine WPL.split 40 rfl (fun h40 => ?_) (fun h40 => ?_)
      ·
        refine WPL.skipG ?_
        refine WPL.skipG ?_
        refine WPL.skipG ?_
        refine WPL.skipG ?_
        refine WPL.skipG ?_
        refine WPL.val (v_pickT (u := .bool _) rfl rfl) ?_
        refine WPL.val (v_assign (v := .bool _) rfl) ?_
        refine WPL.nil (onto_of ?_)
        refine WP.seq ?_
        refine WP.region ?_
        refine WPL.val (v_move (v := .slice _ _ _) rfl) ?_
        refine WPL.val (v_move (v := .int .i64 _) rfl) ?_
        refine WPL.val (v_index Try.underlying32 Try.sizeOf3 rfl rfl rfl (by omega)) ?_
        refine WPL.val (v_load1 (u := .int .i64 _) Try.isAgg3 rfl (fun w hw => hw.row_at1 (i := 0) rfl (ints_at hs) (by omega))) ?_
        refine WPL.val (v_lss rfl rfl) ?_
        refine WPL.val (v_move (v := .bool _) rfl) ?_
        refine WPL.split 52 rfl (fun h52 => ?_) (fun h52 => ?_)
        · exact absurd h52 (by omega)
        ·
          refine WPL.valG (v_move (v := .slice _ _ _) rfl) ?_
          refine WPL.valG (v_move (v := .int .i64 _) rfl) ?_
          refine WPL.valG (v_index Try.underlying32 Try.sizeOf3 rfl rfl rfl (by omega)) ?_
          refine WPL.valG (v_load1 (u := .int .i64 _) Try.isAgg3 rfl (fun w hw => hw.old_at hc (not_foots_nil _))) ?_
          refine WPL.valG (v_leq rfl rfl) ?_
          refine WPL.valG (v_move (v := .bool _) rfl) ?_
          refine WPL.split 58 rfl (fun h58 => ?_) (fun h58 => ?_)
          ·
            refine WPL.valG (v_move (v := .slice _ _ _) rfl) ?_
            refine WPL.valG (v_move (v := .int .i64 _) rfl) ?_
            refine WPL.valG (v_index Try.underlying32 Try.sizeOf3 rfl rfl rfl (by omega)) ?_
            refine WPL.valG (v_load1 (u := .int .i64 _) Try.isAgg3 rfl (fun w hw => hw.row_at1 (i := 0) rfl (ints_at hs) (by omega))) ?_
            refine WPL.valG (v_neq rfl rfl) ?_
            refine WPL.valG (v_pickT (u := .bool _) rfl rfl) ?_
            refine WPL.val (v_pickF (v := .bool _) rfl rfl) ?_
            refine WPL.nil (onto_of ?_)
            refine WP.condP rfl (fun h65 => ?_) (fun h65 => ?_)
            ·
              exact absurd (hzero h58) (by omega)
            ·
              refine WP.skip (onto_of ?_)
              refine WP.region ?_
              refine WPL.val (v_move (v := .int .i64 _) rfl) ?_
              refine WPL.val (v_add rfl rfl (by omega)) ?_
              refine WPL.val (v_assign (v := .int .i64 _) rfl) ?_
              exact WPL.nil fun w hw => ⟨rfl, k + 1, (by omega), ⟨(congrArg (Value.int .i64) (by omega)), (by first | exact congrArg Value.bool (decide_eq_true (by omega)).symm | exact congrArg Value.bool (decide_eq_decide.2 (by omega))), rfl, (via (.int .i64 _) rfl rfl), (via (.slice _ _ _) rfl rfl), (via (.bool _) rfl rfl), (via (.slice _ _ _) rfl rfl), trivial⟩, by omega, hw⟩
          ·
            refine WPL.skipG ?_
            refine WPL.skipG ?_
            refine WPL.skipG ?_
            refine WPL.skipG ?_
            refine WPL.skipG ?_
            refine WPL.valG (v_pickF (v := .bool _) rfl rfl) ?_
            refine WPL.val (v_pickF (v := .bool _) rfl rfl) ?_
            refine WPL.nil (onto_of ?_)
            refine WP.condF rfl ?_
            refine WP.skip (onto_of ?_)
            refine WP.region ?_
            refine WPL.val (v_move (v := .int .i64 _) rfl) ?_
            refine WPL.val (v_add rfl rfl (by omega)) ?_
            refine WPL.val (v_assign (v := .int .i64 _) rfl) ?_
            exact WPL.nil fun w hw => ⟨rfl, k + 1, (by omega), ⟨(congrArg (Value.int .i64) (by omega)), (by first | exact congrArg Value.bool (decide_eq_true (by omega)).symm | exact congrArg Value.bool (decide_eq_decide.2 (by omega))), rfl, (via (.int .i64 _) rfl rfl), (via (.slice _ _ _) rfl rfl), (via (.bool _) rfl rfl), (via (.slice _ _ _) rfl rfl), trivial⟩, by omega, hw⟩
      ·
        refine WPL.valG (v_move (v := .slice _ _ _) rfl) ?_
        refine WPL.valG (v_move (v := .int .i64 _) rfl) ?_
        refine WPL.valG (v_index Try.underlying32 Try.sizeOf3 rfl rfl rfl (by omega)) ?_
        refine WPL.valG (v_load1 (u := .int .i64 _) Try.isAgg3 rfl (fun w hw => hw.old_at hc (not_foots_nil _))) ?_
        refine WPL.valG (v_gtr rfl rfl) ?_
        refine WPL.val (v_pickF (v := .bool _) rfl rfl) ?_
        refine WPL.val (v_assign (v := .bool _) rfl) ?_
        refine WPL.nil (onto_of ?_)
        refine WP.seq ?_
        refine WP.region ?_
        refine WPL.val (v_move (v := .slice _ _ _) rfl) ?_
        refine WPL.val (v_move (v := .int .i64 _) rfl) ?_
        refine WPL.val (v_index Try.underlying32 Try.sizeOf3 rfl rfl rfl (by omega)) ?_
        refine WPL.val (v_load1 (u := .int .i64 _) Try.isAgg3 rfl (fun w hw => hw.row_at1 (i := 0) rfl (ints_at hs) (by omega))) ?_
        refine WPL.val (v_lss rfl rfl) ?_
        refine WPL.val (v_move (v := .bool _) rfl) ?_
        refine WPL.split 52 rfl (fun h52 => ?_) (fun h52 => ?_)
        · exact absurd h52 (by omega)
        ·
          refine WPL.valG (v_move (v := .slice _ _ _) rfl) ?_
          refine WPL.valG (v_move (v := .int .i64 _) rfl) ?_
          refine WPL.valG (v_index Try.underlying32 Try.sizeOf3 rfl rfl rfl (by omega)) ?_
          refine WPL.valG (v_load1 (u := .int .i64 _) Try.isAgg3 rfl (fun w hw => hw.old_at hc (not_foots_nil _))) ?_
          refine WPL.valG (v_leq rfl rfl) ?_
          refine WPL.valG (v_move (v := .bool _) rfl) ?_
          refine WPL.split 58 rfl (fun h58 => ?_) (fun h58 => ?_)
          ·
            refine WPL.valG (v_move (v := .slice _ _ _) rfl) ?_
            refine WPL.valG (v_move (v := .int .i64 _) rfl) ?_
            refine WPL.valG (v_index Try.underlying32 Try.sizeOf3 rfl rfl rfl (by omega)) ?_
            refine WPL.valG (v_load1 (u := .int .i64 _) Try.isAgg3 rfl (fun w hw => hw.row_at1 (i := 0) rfl (ints_at hs) (by omega))) ?_
            refine WPL.valG (v_neq rfl rfl) ?_
            refine WPL.valG (v_pickT (u := .bool _) rfl rfl) ?_
            refine WPL.val (v_pickF (v := .bool _) rfl rfl) ?_
            refine WPL.nil (onto_of ?_)
            refine WP.condP rfl (fun h65 => ?_) (fun h65 => ?_)
            ·
              exact absurd (hzero h58) (by omega)
            ·
              refine WP.skip (onto_of ?_)
              refine WP.region ?_
              refine WPL.val (v_move (v := .int .i64 _) rfl) ?_
              refine WPL.val (v_add rfl rfl (by omega)) ?_
              refine WPL.val (v_assign (v := .int .i64 _) rfl) ?_
              exact WPL.nil fun w hw => ⟨rfl, k + 1, (by omega), ⟨(congrArg (Value.int .i64) (by omega)), (by first | exact congrArg Value.bool (decide_eq_true (by omega)).symm | exact congrArg Value.bool (decide_eq_decide.2 (by omega))), rfl, (via (.int .i64 _) rfl rfl), (via (.slice _ _ _) rfl rfl), (via (.bool _) rfl rfl), (via (.slice _ _ _) rfl rfl), trivial⟩, by omega, hw⟩
          ·
            refine WPL.skipG ?_
            refine WPL.skipG ?_
            refine WPL.skipG ?_
            refine WPL.skipG ?_
            refine WPL.skipG ?_
            refine WPL.valG (v_pickF (v := .bool _) rfl rfl) ?_
            refine WPL.val (v_pickF (v := .bool _) rfl rfl) ?_
            refine WPL.nil (onto_of ?_)
            refine WP.condF rfl ?_
            refine WP.skip (onto_of ?_)
            refine WP.region ?_
            refine WPL.val (v_move (v := .int .i64 _) rfl) ?_
            refine WPL.val (v_add rfl rfl (by omega)) ?_
            refine WPL.val (v_assign (v := .int .i64 _) rfl) ?_
            exact WPL.nil fun w hw => ⟨rfl, k + 1, (by omega), ⟨(congrArg (Value.int .i64) (by omega)), (by first | exact congrArg Value.bool (decide_eq_true (by omega)).symm | exact congrArg Value.bool (decide_eq_decide.2 (by omega))), rfl, (via (.int .i64 _) rfl rfl), (via (.slice _ _ _) rfl rfl), (via (.bool _) rfl rfl), (via (.slice _ _ _) rfl rfl), trivial⟩, by omega, hw⟩
    ·
      obtain rfl : k = (shareX n zs).length := by omega
      refine WP.exit (onto_of ?_)
      refine WP.seq ?_
      refine WP.region ?_
      refine WPL.val (v_assign (v := .int .i64 (0)) rfl) ?_
      refine WPL.nil (onto_of ?_)
      refine WP.seq ?_
      refine WP.seq ?_
      refine WP.region ?_
      refine WPL.val (v_move (v := .bool _) rfl) ?_
      refine WPL.val (v_move (v := .bool _) rfl) ?_
      refine WPL.split 67 rfl (fun h67 => ?_) (fun h67 => ?_)
      ·
        refine WPL.valG (v_move (v := .slice _ _ _) rfl) ?_
        refine WPL.valG (v_len Try.underlying32 rfl) ?_
        refine WPL.valG (v_leq rfl rfl) ?_
        refine WPL.val (v_pickT (u := .bool _) rfl rfl) ?_
        refine WPL.nil (onto_of ?_)
        refine WP.condP rfl (fun h71 => ?_) (fun h71 => ?_)
        ·
          refine WP.region ?_
          refine WPL.val (v_move (v := .int .i64 _) rfl) ?_
          refine WPL.val (v_max rfl rfl) ?_
          refine WPL.val (v_min rfl rfl) ?_
          refine WPL.val (v_assign (v := .int .i64 _) rfl) ?_
          refine WPL.nil (onto_of ?_)
          refine WP.seq ?_
          refine WP.region ?_
          refine WPL.val (v_move (v := .bool _) rfl) ?_
          refine WPL.val (v_move (v := .bool _) rfl) ?_
          refine WPL.valG (v_move (v := .int .i64 _) rfl) ?_
          refine WPL.valG (v_move (v := .int .i64 _) rfl) ?_
          refine WPL.valG (v_eql rfl rfl) ?_
          refine WPL.val (v_pickT (u := .bool _) rfl rfl) ?_
          refine WPL.val (v_assign (v := .bool _) rfl) ?_
          refine WPL.nil (onto_of ?_)
          exact WP.ret1 Try.results4 (fun _ h => h) (fun w hw => ⟨(), by first | rfl | exact congrArg Value.bool (decide_eq_true (fin_all (by omega) h67)) | exact absurd h67 (by have h9 := fin_big (n := n) (w := zs) (by omega); omega) | exact congrArg Value.bool (decide_eq_true (pmark_none n zs (shareX n zs).length (by have h9 := psum_bd zs (shareX n zs).length; omega))), trivial, hw.sel [] (by decide)⟩)
        ·
          refine WP.skip (onto_of ?_)
          refine WP.seq ?_
          refine WP.region ?_
          refine WPL.val (v_move (v := .bool _) rfl) ?_
          refine WPL.val (v_move (v := .bool _) rfl) ?_
          refine WPL.valG (v_move (v := .int .i64 _) rfl) ?_
          refine WPL.valG (v_move (v := .int .i64 _) rfl) ?_
          refine WPL.valG (v_eql rfl rfl) ?_
          refine WPL.val (v_pickT (u := .bool _) rfl rfl) ?_
          refine WPL.val (v_assign (v := .bool _) rfl) ?_
          refine WPL.nil (onto_of ?_)
          exact WP.ret1 Try.results4 (fun _ h => h) (fun w hw => ⟨(), by first | rfl | exact congrArg Value.bool (decide_eq_true (fin_all (by omega) h67)) | exact absurd h67 (by have h9 := fin_big (n := n) (w := zs) (by omega); omega) | exact congrArg Value.bool (decide_eq_true (pmark_none n zs (shareX n zs).length (by have h9 := psum_bd zs (shareX n zs).length; omega))), trivial, hw.sel [] (by decide)⟩)
      ·
        refine WPL.skipG ?_
        refine WPL.skipG ?_
        refine WPL.skipG ?_
        refine WPL.val (v_pickF (v := .bool _) rfl rfl) ?_
        refine WPL.nil (onto_of ?_)
        refine WP.condF rfl ?_
        refine WP.skip (onto_of ?_)
        refine WP.seq ?_
        refine WP.region ?_
        refine WPL.val (v_move (v := .bool _) rfl) ?_
        refine WPL.val (v_move (v := .bool _) rfl) ?_
        refine WPL.valG (v_move (v := .int .i64 _) rfl) ?_
        refine WPL.valG (v_move (v := .int .i64 _) rfl) ?_
        refine WPL.valG (v_eql rfl rfl) ?_
        refine WPL.val (v_pickT (u := .bool _) rfl rfl) ?_
        refine WPL.val (v_assign (v := .bool _) rfl) ?_
        refine WPL.nil (onto_of ?_)
        exact WP.ret1 Try.results4 (fun _ h => h) (fun w hw => ⟨(), by first | rfl | exact congrArg Value.bool (decide_eq_true (fin_all (by omega) h67)) | exact absurd h67 (by have h9 := fin_big (n := n) (w := zs) (by omega); omega) | exact congrArg Value.bool (decide_eq_true (pmark_none n zs (shareX n zs).length (by have h9 := psum_bd zs (shareX n zs).length; omega))), trivial, hw.sel [] (by decide)⟩)
end Go.Proofs.Ytabdcfobdehhiaa
