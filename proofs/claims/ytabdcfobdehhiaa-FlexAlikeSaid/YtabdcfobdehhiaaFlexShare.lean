/- flex.Share and the document's Share: what they compute. -/
import Derived.Test.YtabdcfobdehhiaaFlexPure
namespace Go.Proofs.Ytabdcfobdehhiaa
open Go.RowKit

theorem clamp_eq {n lo hi v : Int} (h : clamp n lo hi = v) (w : World) : Calls Try.prog 36 #[.int .i64 n, .int .i64 lo, .int .i64 hi] w fun e w' => e = .returned (.int .i64 v) ∧ w = w' := by
  subst h; exact clamp_any n lo hi w

set_option maxRecDepth 100000 in
theorem share_ct (A : Option Addr) (c : Nat) (n : Int) (zs : List Int) (hl : zs.length ≤ 64) :
    Ct Try.prog 22 #[.int .i64 n, .slice A zs.length c] [] (fun w => RdI w A zs) (X := Option Addr × Nat) (fun p => .slice p.1 zs.length p.2) (fun _ => True)
      (fun p => [.row 3 1 p.1 zs.length p.2 ((share n zs).map (Value.int .i64))]) := by
  refine Ct.intro Try.func22 rfl Try.ntmps22 (by simp) (fun w0 hz => ?_)
  refine WP.seq ?_
  refine WP.region ?_
  refine WPL.val (v_assign (v := .slice none 0 0) rfl) ?_
  refine WPL.nil (onto_of ?_)
  refine WP.seq ?_
  refine WP.seq ?_
  refine WP.region ?_
  refine WPL.val (v_move (v := .slice _ _ _) rfl) ?_
  refine WPL.val (v_len Try.underlying32 rfl) ?_
  refine WPL.val (v_gtr rfl rfl) ?_
  refine WPL.nil (onto_of ?_)
  refine WP.condP rfl (fun h => absurd h (by omega)) (fun h13 => ?_)
  refine WP.skip (onto_of ?_)
  refine WP.seq ?_
  refine WP.region ?_
  refine WPL.val (v_move (v := .int .i64 _) rfl) ?_
  refine WPL.val (v_call Try.call36 (fun w hw => clamp_eq (clamp_lot n) _)) ?_
  refine WPL.val (v_assign (v := .int .i64 _) rfl) ?_
  refine WPL.nil (onto_of ?_)
  refine WP.seq ?_
  refine WP.region ?_
  refine WPL.val (v_move (v := .slice _ _ _) rfl) ?_
  refine WPL.val (v_len Try.underlying32 rfl) ?_
  refine WPL.val (v_add rfl rfl (by omega)) ?_
  refine WPL.ef (x_make1 (n := zs.length + 1) (σ' := fun _ => [_]) Try.underlying32 int_info rfl rfl rfl rfl rfl (by omega) (by omega) (fun _ => rfl)) (fun g19 => ?_)
  refine WPL.val (v_assign (v := .slice _ _ _) rfl) ?_
  refine WPL.nil (onto_of ?_)
  refine WP.seq ?_
  refine WP.seq ?_
  refine WP.region ?_
  refine WPL.val (v_move (v := .slice _ _ _) rfl) ?_
  refine WPL.val (v_len Try.underlying32 rfl) ?_
  refine WPL.val (v_move (v := .int .i64 (0)) rfl) ?_
  refine WPL.nil (onto_of ?_)
  refine WP.block ?_
  refine WP.loopK (X := Nat) [0, 1, 5, 20, 21] (fun k => [(22, .int .i64 (k : Int))]) (fun k w => k ≤ zs.length ∧ St w0 (foots []) [.row 3 1 (some ⟨g19, 0, none⟩) (zs.length + 1) (zs.length + 1) ((psums zs k).map (Value.int .i64))] w) (fun k => zs.length - k) 0 ⟨rfl, trivial⟩ (fun w hw => ⟨by omega, by rw [psums_zero]; simpa using hw⟩) (fun k ρ0 => ?_)
  refine WP.fact (fun hk => ?_)
  refine WP.seq ?_
  refine WP.region ?_
  refine WPL.val (v_lss rfl rfl) ?_
  refine WPL.nil (onto_of ?_)
  refine WP.seq ?_
  refine WP.condP rfl (fun h23 => ?_) (fun h23 => ?_)
  ·
    have hk' : k < zs.length := by omega
    obtain ⟨x, hx⟩ : ∃ x, zs[k]? = some x := ⟨_, List.getElem?_eq_getElem hk'⟩
    obtain ⟨b, o, rfl, hc⟩ := hz k x hx
    have hb1 := psum_bd zs k
    have hb2 := wgt_bd x
    refine WP.skip (onto_of ?_)
    refine WP.seq ?_
    refine WP.block ?_
    refine WP.seq ?_
    refine WP.region ?_
    refine WPL.val (v_move (v := .int .i64 _) rfl) ?_
    refine WPL.val (v_index Try.underlying32 Try.sizeOf3 rfl rfl rfl (by omega)) ?_
    refine WPL.val (v_load1 (u := .int .i64 _) Try.isAgg3 rfl (fun w hw => hw.old_at hc (not_foots_nil _))) ?_
    refine WPL.val (v_assign (v := .int .i64 _) rfl) ?_
    refine WPL.val (v_assign (v := .int .i64 _) rfl) ?_
    refine WPL.nil (onto_of ?_)
    refine WP.drawS (some 11) [(0, true), (1, true), (2, true), (3, true), (4, true), (5, true), (6, true), (7, true), (8, true), (9, true), (10, true), (11, false)] mixed (by kernel_rfl) (by decide) (fun _ h => h.drawn) ?_
    refine WPD.take rfl (v_move (v := .slice _ _ _) rfl) ?_ (fun _ h => h)
    refine WPD.take rfl (v_move (v := .int .i64 _) rfl) ?_ (fun _ h => h)
    refine WPD.take rfl (v_add rfl rfl (by omega)) ?_ (fun _ h => h)
    refine WPD.take rfl (v_move (v := .slice _ _ _) rfl) ?_ (fun _ h => h)
    refine WPD.take rfl (v_move (v := .int .i64 _) rfl) ?_ (fun _ h => h)
    refine WPD.take rfl (v_index Try.underlying32 Try.sizeOf3 rfl rfl rfl (by omega)) ?_ (fun _ h => h)
    refine WPD.take rfl (v_load1 (u := .int .i64 _) Try.isAgg3 rfl (fun w hw => hw.row_at1 (i := 0) rfl (psums_at zs k k (by omega) (by omega)) (by omega))) ?_ (fun _ h => h)
    refine WPD.take rfl (v_move (v := .int .i64 _) rfl) ?_ (fun _ h => h)
    refine WPD.take rfl (v_call Try.call36 (fun w hw => clamp_eq (clamp_wgt x) _)) ?_ (fun _ h => h)
    refine WPD.take rfl (v_add rfl rfl (by omega)) ?_ (fun _ h => h)
    refine WPD.take rfl (v_index (j := k + 1) Try.underlying32 Try.sizeOf3 rfl rfl (by omega) (by omega)) ?_ (fun _ h => h)
    refine WPD.ef0 rfl (x_storeRow' (u := .int .i64 _) (xs' := (psums zs (k + 1)).map (Value.int .i64)) (σ' := [_]) Try.sizeOf3 rfl rfl (i := 0) rfl (by simp [psums_length]; omega) (by rw [← psums_succ zs k x hx, List.map_set]; congr 1; omega) rfl) (fun h => absurd rfl h) (fun _ => ?_)
    refine WPD.nil (onto_of ?_)
    refine WP.region ?_
    refine WPL.val (v_add rfl rfl (by omega)) ?_
    refine WPL.val (v_move (v := .int .i64 _) rfl) ?_
    exact WPL.nil fun w hw => ⟨rfl, k + 1, (by omega), ⟨rfl, (via (.int .i64 _) rfl rfl), (via (.slice _ _ _) rfl rfl), (via (.slice _ _ _) rfl rfl), (via (.slice _ _ _) rfl rfl), (via (.int .i64 _) rfl rfl), trivial⟩, by omega, hw⟩
  ·
    obtain rfl : k = zs.length := by omega
    refine WP.exit (onto_of ?_)
    refine WP.seq ?_
    refine WP.region ?_
    refine WPL.val (v_move (v := .slice _ _ _) rfl) ?_
    refine WPL.val (v_move (v := .slice _ _ _) rfl) ?_
    refine WPL.val (v_len Try.underlying32 rfl) ?_
    refine WPL.val (v_index (j := zs.length) Try.underlying32 Try.sizeOf3 rfl rfl (by omega) (by omega)) ?_
    refine WPL.val (v_load1 (u := .int .i64 _) Try.isAgg3 rfl (fun w hw => hw.row_at1 (i := 0) rfl (psums_at zs zs.length zs.length (by omega) (by omega)) (by omega))) ?_
    refine WPL.val (v_max rfl rfl) ?_
    refine WPL.val (v_assign (v := .int .i64 _) rfl) ?_
    refine WPL.nil (onto_of ?_)
    refine WP.seq ?_
    refine WP.region ?_
    refine WPL.val (v_move (v := .slice _ _ _) rfl) ?_
    refine WPL.val (v_len Try.underlying32 rfl) ?_
    refine WPL.ef (x_make1 (n := zs.length) (σ' := fun _ => [_, _]) Try.underlying32 int_info rfl rfl rfl rfl rfl (by omega) (by omega) (fun _ => rfl)) (fun g47 => ?_)
    refine WPL.val (v_assign (v := .slice _ _ _) rfl) ?_
    refine WPL.nil (onto_of ?_)
    refine WP.seq ?_
    refine WP.seq ?_
    refine WP.region ?_
    refine WPL.val (v_move (v := .slice _ _ _) rfl) ?_
    refine WPL.val (v_len Try.underlying32 rfl) ?_
    refine WPL.val (v_move (v := .int .i64 (0)) rfl) ?_
    refine WPL.nil (onto_of ?_)
    refine WP.block ?_
    refine WP.loopK (X := Nat) [0, 5, 8, 9, 49] (fun k => [(50, .int .i64 (k : Int))]) (fun k w => k ≤ zs.length ∧ St w0 (foots []) [.row 3 1 (some ⟨g19, 0, none⟩) (zs.length + 1) (zs.length + 1) ((psums zs zs.length).map (Value.int .i64)), .row 3 1 (some ⟨g47, 0, none⟩) zs.length zs.length ((shares n zs k).map (Value.int .i64))] w) (fun k => zs.length - k) 0 ⟨rfl, trivial⟩ (fun w hw => ⟨by omega, by rw [shares_zero]; simpa using hw⟩) (fun k ρ0 => ?_)
    refine WP.fact (fun hk => ?_)
    refine WP.seq ?_
    refine WP.region ?_
    refine WPL.val (v_lss rfl rfl) ?_
    refine WPL.nil (onto_of ?_)
    refine WP.seq ?_
    refine WP.condP rfl (fun h51 => ?_) (fun h51 => ?_)
    ·
      have hm1 := lot_mul n zs (k + 1) hl (by omega)
      have hm2 := lot_mul n zs k hl (by omega)
      have hp1 := pmark_bd n zs (k + 1) hl (by omega)
      have hp2 := pmark_bd n zs k hl (by omega)
      unfold pmark whole at hp1 hp2
      refine WP.skip (onto_of ?_)
      refine WP.seq ?_
      refine WP.block ?_
      refine WP.seq ?_
      refine WP.region ?_
      refine WPL.val (v_move (v := .int .i64 _) rfl) ?_
      refine WPL.val (v_assign (v := .int .i64 _) rfl) ?_
      refine WPL.nil (onto_of ?_)
      refine WP.drawS (some 21) [(0, true), (1, true), (2, true), (3, true), (4, true), (5, true), (6, true), (7, true), (8, true), (9, true), (10, true), (11, true), (12, true), (13, true), (14, true), (15, true), (16, true), (17, true), (18, true), (19, true), (20, true), (21, false)] mixed (by kernel_rfl) (by decide) (fun _ h => h.drawn) ?_
      refine WPD.take rfl (v_move (v := .slice _ _ _) rfl) ?_ (fun _ h => h)
      refine WPD.take rfl (v_move (v := .int .i64 _) rfl) ?_ (fun _ h => h)
      refine WPD.take rfl (v_move (v := .int .i64 _) rfl) ?_ (fun _ h => h)
      refine WPD.take rfl (v_move (v := .slice _ _ _) rfl) ?_ (fun _ h => h)
      refine WPD.take rfl (v_move (v := .int .i64 _) rfl) ?_ (fun _ h => h)
      refine WPD.take rfl (v_add rfl rfl (by omega)) ?_ (fun _ h => h)
      refine WPD.take rfl (v_index (j := k + 1) Try.underlying32 Try.sizeOf3 rfl rfl (by omega) (by omega)) ?_ (fun _ h => h)
      refine WPD.take rfl (v_load1 (u := .int .i64 _) Try.isAgg3 rfl (fun w hw => hw.row_at1 (i := 0) rfl (psums_at zs zs.length (k + 1) (by omega) (by omega)) (by omega))) ?_ (fun _ h => h)
      refine WPD.take rfl (v_mul rfl rfl (by omega)) ?_ (fun _ h => h)
      refine WPD.take rfl (v_move (v := .int .i64 _) rfl) ?_ (fun _ h => h)
      refine WPD.take rfl (v_quo rfl rfl (by omega) (by omega) (by omega)) ?_ (fun _ h => h)
      refine WPD.take rfl (v_move (v := .int .i64 _) rfl) ?_ (fun _ h => h)
      refine WPD.take rfl (v_move (v := .slice _ _ _) rfl) ?_ (fun _ h => h)
      refine WPD.take rfl (v_move (v := .int .i64 _) rfl) ?_ (fun _ h => h)
      refine WPD.take rfl (v_index Try.underlying32 Try.sizeOf3 rfl rfl rfl (by omega)) ?_ (fun _ h => h)
      refine WPD.take rfl (v_load1 (u := .int .i64 _) Try.isAgg3 rfl (fun w hw => hw.row_at1 (i := 0) rfl (psums_at zs zs.length k (by omega) (by omega)) (by omega))) ?_ (fun _ h => h)
      refine WPD.take rfl (v_mul rfl rfl (by omega)) ?_ (fun _ h => h)
      refine WPD.take rfl (v_move (v := .int .i64 _) rfl) ?_ (fun _ h => h)
      refine WPD.take rfl (v_quo rfl rfl (by omega) (by omega) (by omega)) ?_ (fun _ h => h)
      refine WPD.take rfl (v_sub rfl rfl (by omega)) ?_ (fun _ h => h)
      refine WPD.take rfl (v_index Try.underlying32 Try.sizeOf3 rfl rfl rfl (by omega)) ?_ (fun _ h => h)
      refine WPD.ef0 rfl (x_storeRow' (u := .int .i64 _) (xs' := (shares n zs (k + 1)).map (Value.int .i64)) (σ' := [_, _]) Try.sizeOf3 rfl rfl (i := 1) rfl (by simp [shares_length]; omega) (by rw [← shares_succ n zs k (by omega), List.map_set]; congr 1; omega) rfl) (fun h => absurd rfl h) (fun _ => ?_)
      refine WPD.nil (onto_of ?_)
      refine WP.region ?_
      refine WPL.val (v_add rfl rfl (by omega)) ?_
      refine WPL.val (v_move (v := .int .i64 _) rfl) ?_
      exact WPL.nil fun w hw => ⟨rfl, k + 1, (by omega), ⟨rfl, (via (.int .i64 _) rfl rfl), (via (.slice _ _ _) rfl rfl), (via (.int .i64 _) rfl rfl), (via (.slice _ _ _) rfl rfl), (via (.int .i64 _) rfl rfl), trivial⟩, by omega, hw⟩
    ·
      obtain rfl : k = zs.length := by omega
      refine WP.exit (onto_of ?_)
      refine WP.seq ?_
      refine WP.region ?_
      refine WPL.val (v_move (v := .slice _ _ _) rfl) ?_
      refine WPL.val (v_assign (v := .slice _ _ _) rfl) ?_
      refine WPL.nil (onto_of ?_)
      exact WP.ret1 Try.results22 (fun _ h => h) (fun w hw => ⟨(some ⟨g47, 0, none⟩, zs.length), rfl, trivial, by have := hw.sel [1] (by decide); rw [shares_all] at this; exact this⟩)
end Go.Proofs.Ytabdcfobdehhiaa
