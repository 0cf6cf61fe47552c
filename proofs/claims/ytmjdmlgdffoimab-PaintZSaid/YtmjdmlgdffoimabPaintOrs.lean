/- PaintOrders. -/
import Derived.Test.YtmjdmlgdffoimabPaintA
namespace Go.Proofs.Ytmjdmlgdffoimab
open Go.RowKit

theorem ordP_len (L : List PN) (hL : L.length ≤ 1000) : (ordP L).length ≤ 1000 := by
  unfold ordP
  split
  · simp
  · rename_i h
    have h2 : ¬ L = [] := fun e => h (.inl e)
    have h3 : okP L = true := by
      cases e : okP L with
      | true => rfl
      | false => exact absurd (.inr e) h
    rw [PT0_len (okP_pv h3) h2]; exact hL
set_option maxHeartbeats 1000000 in
theorem lawOrders_ct (A : Option Addr) (c : Nat) (L : List PN) (hcap : L.length ≤ c) (a b : Int) : Ct Try.prog 3 #[.slice A L.length c, .int .i64 a, .int .i64 b] [] (fun w => RdN w A L) (X := Unit) (fun _ => .bool true) (fun _ => True) (fun _ => []) := by
  refine Ct.intro Try.func3 rfl Try.ntmps3 (by simp) (fun w0 hz => ?_)
  refine WP.seq ?_
  refine WP.region ?_
  refine WPL.val (v_assign (v := .bool false) rfl) ?_
  refine WPL.nil (onto_of ?_)
  refine WP.seq ?_
  refine WP.region ?_
  refine WPL.ef (x_call Try.call10 works_ct [] [] rfl (fun w hw => trivial) (τ := fun _ => []) (fun _ => rfl)) (fun _ => ?_)
  refine WPL.fact (fun _ => ?_)
  refine WPL.val (v_assign (v := .bool _) rfl) ?_
  refine WPL.nil (onto_of ?_)
  refine WP.seq ?_
  refine WP.seq ?_
  refine WP.region ?_
  refine WPL.val (v_move (v := .bool _) rfl) ?_
  refine WPL.val (v_not rfl) ?_
  refine WPL.nil (onto_of ?_)
  refine WP.condF rfl ?_
  refine WP.skip (onto_of ?_)
  refine WP.seq ?_
  refine WP.seq ?_
  refine WP.region ?_
  refine WPL.val (v_move (v := .slice _ _ _) rfl) ?_
  refine WPL.val (v_len Try.underlying22 rfl) ?_
  refine WPL.val (v_gtr rfl rfl) ?_
  refine WPL.nil (onto_of ?_)
  refine WP.condP rfl (fun h18 => ?_) (fun h18 => ?_)
  ·
    refine WP.seq ?_
    refine WP.region ?_
    refine WPL.val (v_move (v := .bool _) rfl) ?_
    refine WPL.val (v_assign (v := .bool _) rfl) ?_
    refine WPL.nil (onto_of ?_)
    exact WP.ret1 Try.results3 (fun _ h => h) (fun w hw => ⟨(), rfl, trivial, hw.sel [] (by decide)⟩)
  ·
    have hL : L.length ≤ 1000 := by omega
    have hol := ordP_len L hL
    refine WP.skip (onto_of ?_)
    refine WP.seq ?_
    refine WP.region ?_
    refine WPL.val (v_move (v := .slice _ _ _) rfl) ?_
    refine WPL.ef (x_call Try.call11 (of_ct A c L hL) [] [] rfl (fun w hw => hw.rd hz not_foots_nil) (τ := fun _ => [_]) (fun _ => rfl)) (fun ⟨xA, xc⟩ => ?_)
    refine WPL.fact (fun _ => ?_)
    refine WPL.val (v_assign (v := .slice _ _ _) rfl) ?_
    refine WPL.nil (onto_of ?_)
    refine WP.seq ?_
    refine WP.region ?_
    refine WPL.val (v_move (v := .slice _ _ _) rfl) ?_
    refine WPL.ef (x_call Try.call12 (rorder_ct xA xc L hL) [] [0] rfl (fun w hw => hw.rd_row (i := 0) (l := L) (enc := encN) rfl rfl encN_len) (τ := fun _ => [_, _]) (fun _ => rfl)) (fun ⟨oA, oc⟩ => ?_)
    refine WPL.fact (fun _ => ?_)
    refine WPL.val (v_assign (v := .slice _ _ _) rfl) ?_
    refine WPL.nil (onto_of ?_)
    refine WP.seq ?_
    refine WP.region ?_
    refine WPL.val (v_move (v := .slice _ _ _) rfl) ?_
    refine WPL.val (v_move (v := .int .i64 _) rfl) ?_
    refine WPL.ef (x_call Try.call13 (find_ct oA oc (ordP L) a (by omega)) [] [0, 1] rfl (fun w hw => hw.rd_row1 (i := 1) (f := Value.int .i64) rfl) (τ := fun _ => [_, _]) (fun _ => rfl)) (fun _ => ?_)
    refine WPL.fact (fun _ => ?_)
    refine WPL.val (v_assign (v := .int .i64 _) rfl) ?_
    refine WPL.nil (onto_of ?_)
    refine WP.seq ?_
    refine WP.region ?_
    refine WPL.val (v_move (v := .slice _ _ _) rfl) ?_
    refine WPL.val (v_move (v := .int .i64 _) rfl) ?_
    refine WPL.ef (x_call Try.call13 (find_ct oA oc (ordP L) b (by omega)) [] [0, 1] rfl (fun w hw => hw.rd_row1 (i := 1) (f := Value.int .i64) rfl) (τ := fun _ => [_, _]) (fun _ => rfl)) (fun _ => ?_)
    refine WPL.fact (fun _ => ?_)
    refine WPL.val (v_assign (v := .int .i64 _) rfl) ?_
    refine WPL.nil (onto_of ?_)
    refine WP.seq ?_
    refine WP.region ?_
    refine WPL.val (v_move (v := .slice _ _ _) rfl) ?_
    refine WPL.ef (x_call Try.call14 (rvalid_ct xA xc L hL) [] [0, 1] rfl (fun w hw => hw.rd_row (i := 0) (l := L) (enc := encN) rfl rfl encN_len) (τ := fun _ => [_, _]) (fun _ => rfl)) (fun _ => ?_)
    refine WPL.fact (fun _ => ?_)
    refine WPL.val (v_assign (v := .bool _) rfl) ?_
    refine WPL.nil (onto_of ?_)
    refine WP.seq ?_
    refine WP.region ?_
    refine WPL.val (v_move (v := .bool _) rfl) ?_
    refine WPL.val (v_move (v := .bool _) rfl) ?_
    refine WPL.valG (v_move (v := .slice _ _ _) rfl) ?_
    refine WPL.efG (x_call Try.call16 (order_ct A c L hL hcap) [] [0, 1] rfl (fun w hw => hw.rd hz not_foots_nil) (τ := fun _ => [_, _, _]) (fun _ => rfl)) (fun ⟨pA, pc⟩ => ?_)
    refine WPL.fact (fun _ => ?_)
    refine WPL.valG (v_move (v := .slice _ _ _) rfl) ?_
    refine WPL.efG (x_call Try.call15 (rowT_ct pA oA pc oc (ordP L) (ordP L) (by omega) rfl) [] [0, 1, 2] rfl (fun w hw => ⟨hw.rd_row1 (i := 2) (f := Value.int .i64) rfl, hw.rd_row1 (i := 1) (f := Value.int .i64) rfl⟩) (τ := fun _ => [_, _, _]) (fun _ => rfl)) (fun _ => ?_)
    refine WPL.fact (fun _ => ?_)
    refine WPL.val (v_pickT (u := .bool _) rfl rfl) ?_
    refine WPL.val (v_move (v := .bool _) rfl) ?_
    refine WPL.valG (v_move (v := .slice _ _ _) rfl) ?_
    refine WPL.efG (x_call Try.call17 (valid_ct A c L hL) [] [0, 1, 2] rfl (fun w hw => hw.rd hz not_foots_nil) (τ := fun _ => [_, _, _]) (fun _ => rfl)) (fun _ => ?_)
    refine WPL.fact (fun _ => ?_)
    refine WPL.valG (v_move (v := .bool _) rfl) ?_
    refine WPL.valG (v_is (b := true) (v_eqB Try.underlying4 rfl rfl) (by simp)) ?_
    refine WPL.val (v_pickT (u := .bool _) rfl rfl) ?_
    refine WPL.val (v_move (v := .bool _) rfl) ?_
    refine WPL.valG (v_move (v := .slice _ _ _) rfl) ?_
    refine WPL.valG (v_move (v := .int .i64 _) rfl) ?_
    refine WPL.efG (x_call Try.call18 (Layer_ct A c L hL a) [] [0, 1, 2] rfl (fun w hw => hw.rd hz not_foots_nil) (τ := fun _ => [_, _, _]) (fun _ => rfl)) (fun _ => ?_)
    refine WPL.fact (fun _ => ?_)
    refine WPL.valG (v_move (v := .slice _ _ _) rfl) ?_
    refine WPL.valG (v_move (v := .int .i64 _) rfl) ?_
    refine WPL.efG (x_call Try.call19 (rLayer_ct xA xc L hL a) [] [0, 1, 2] rfl (fun w hw => hw.rd_row (i := 0) (l := L) (enc := encN) rfl rfl encN_len) (τ := fun _ => [_, _, _]) (fun _ => rfl)) (fun _ => ?_)
    refine WPL.fact (fun _ => ?_)
    refine WPL.valG (v_is (b := true) (v_eql rfl rfl) (decide_eq_true rfl)) ?_
    refine WPL.val (v_pickT (u := .bool _) rfl rfl) ?_
    refine WPL.val (v_move (v := .bool _) rfl) ?_
    refine WPL.valG (v_move (v := .slice _ _ _) rfl) ?_
    refine WPL.valG (v_move (v := .int .i64 _) rfl) ?_
    refine WPL.valG (v_move (v := .int .i64 _) rfl) ?_
    refine WPL.efG (x_call Try.call20 (before_ct A c L hL hcap a b) [] [0, 1, 2] rfl (fun w hw => hw.rd hz not_foots_nil) (τ := fun _ => [_, _, _]) (fun _ => rfl)) (fun _ => ?_)
    refine WPL.fact (fun _ => ?_)
    refine WPL.valG (v_move (v := .int .i64 _) rfl) ?_
    refine WPL.valG (v_geq rfl rfl) ?_
    refine WPL.valG (v_move (v := .bool _) rfl) ?_
    refine WPL.split 61 rfl (fun h61 => ?_) (fun h61 => ?_)
    ·
      refine WPL.valG (v_move (v := .int .i64 _) rfl) ?_
      refine WPL.valG (v_geq rfl rfl) ?_
      refine WPL.valG (v_pickT (u := .bool _) rfl rfl) ?_
      refine WPL.valG (v_move (v := .bool _) rfl) ?_
      refine WPL.split 65 rfl (fun h65 => ?_) (fun h65 => ?_)
      ·
        refine WPL.valG (v_move (v := .int .i64 _) rfl) ?_
        refine WPL.valG (v_move (v := .int .i64 _) rfl) ?_
        refine WPL.valG (v_lss rfl rfl) ?_
        refine WPL.valG (v_pickT (u := .bool _) rfl rfl) ?_
        refine WPL.valG (v_is (b := true) (v_eqB Try.underlying4 rfl rfl) (by unfold befP; rw [beq_iff_eq]; first | exact decide_eq_decide.2 (by omega) | exact decide_eq_false (by omega))) ?_
        refine WPL.val (v_pickT (u := .bool _) rfl rfl) ?_
        refine WPL.val (v_assign (v := .bool _) rfl) ?_
        refine WPL.nil (onto_of ?_)
        exact WP.ret1 Try.results3 (fun _ h => h) (fun w hw => ⟨(), rfl, trivial, hw.sel [] (by decide)⟩)
      ·
        refine WPL.skipG ?_
        refine WPL.skipG ?_
        refine WPL.skipG ?_
        refine WPL.valG (v_pickF (v := .bool _) rfl rfl) ?_
        refine WPL.valG (v_is (b := true) (v_eqB Try.underlying4 rfl rfl) (by unfold befP; rw [beq_iff_eq]; first | exact decide_eq_decide.2 (by omega) | exact decide_eq_false (by omega))) ?_
        refine WPL.val (v_pickT (u := .bool _) rfl rfl) ?_
        refine WPL.val (v_assign (v := .bool _) rfl) ?_
        refine WPL.nil (onto_of ?_)
        exact WP.ret1 Try.results3 (fun _ h => h) (fun w hw => ⟨(), rfl, trivial, hw.sel [] (by decide)⟩)
    ·
      refine WPL.skipG ?_
      refine WPL.skipG ?_
      refine WPL.valG (v_pickF (v := .bool _) rfl rfl) ?_
      refine WPL.valG (v_move (v := .bool _) rfl) ?_
      refine WPL.skipG ?_
      refine WPL.skipG ?_
      refine WPL.skipG ?_
      refine WPL.valG (v_pickF (v := .bool _) rfl rfl) ?_
      refine WPL.valG (v_is (b := true) (v_eqB Try.underlying4 rfl rfl) (by unfold befP; rw [beq_iff_eq]; first | exact decide_eq_decide.2 (by omega) | exact decide_eq_false (by omega))) ?_
      refine WPL.val (v_pickT (u := .bool _) rfl rfl) ?_
      refine WPL.val (v_assign (v := .bool _) rfl) ?_
      refine WPL.nil (onto_of ?_)
      exact WP.ret1 Try.results3 (fun _ h => h) (fun w hw => ⟨(), rfl, trivial, hw.sel [] (by decide)⟩)
end Go.Proofs.Ytmjdmlgdffoimab
