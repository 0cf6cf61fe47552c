/- The law's own: works, of; and the great rows of Share. -/
import Derived.Test.YtabdcfobdehhiaaFlexRefSizes
namespace Go.Proofs.Ytabdcfobdehhiaa
open Go.RowKit

theorem CellsAt.one {w : World} {b o o' j : Nat} {us : List Value} {u : Value} (h : CellsAt w b o us) (hj : us[j]? = some u) (ho : o' = o + j) : CellsAt w b o' [u] := by
  subst ho
  intro i v hi
  match i, hi with
  | 0, hi => cases hi; exact h j u hj
  | i + 1, hi => simp at hi

theorem share_big (A : Option Addr) (c n : Nat) (m : Int) (hl : 64 < n) (w : World) :
    Calls Try.prog 22 #[.int .i64 m, .slice A n c] w fun e w' => e = .returned (.slice none 0 0) ∧ w = w' := by
  refine enter_pure Try.func22 rfl Try.ntmps22 (by simp) ?_
  refine WP.seq ?_
  refine WP.region ?_
  refine WPL.val (v_assign (v := .slice none 0 0) rfl) ?_
  refine WPL.nil (onto_of ?_)
  refine WP.seq ?_
  refine WP.seq ?_
  refine WP.region ?_
  refine WPL.val (v_move (v := .slice _ _ _) rfl) ?_
  refine WPL.val (v_len Try.underlying32 rfl) ?_
  refine WPL.val (v_gtr rfl rfl) ?_
  refine WPL.nil (onto_of ?_)
  refine WP.condP rfl (fun h13 => ?_) (fun h => absurd (by omega) h)
  refine WP.seq ?_
  refine WP.region ?_
  refine WPL.val (v_assign (v := .slice none 0 0) rfl) ?_
  refine WPL.nil (onto_of ?_)
  exact WP.ret1 Try.results22 (fun _ h => h) (fun w hw => ⟨rfl, hw.symm⟩)
theorem rshare_big (A : Option Addr) (c n : Nat) (m : Int) (hl : 64 < n) (w : World) :
    Calls Try.prog 23 #[.int .i64 m, .slice A n c] w fun e w' => e = .returned (.slice none 0 0) ∧ w = w' := by
  refine enter_pure Try.func23 rfl Try.ntmps23 (by simp) ?_
  refine WP.seq ?_
  refine WP.region ?_
  refine WPL.val (v_assign (v := .slice none 0 0) rfl) ?_
  refine WPL.nil (onto_of ?_)
  refine WP.seq ?_
  refine WP.seq ?_
  refine WP.region ?_
  refine WPL.val (v_move (v := .slice _ _ _) rfl) ?_
  refine WPL.val (v_len Try.underlying32 rfl) ?_
  refine WPL.val (v_gtr rfl rfl) ?_
  refine WPL.nil (onto_of ?_)
  refine WP.condP rfl (fun h14 => ?_) (fun h => absurd (by omega) h)
  refine WP.seq ?_
  refine WP.region ?_
  refine WPL.val (v_assign (v := .slice none 0 0) rfl) ?_
  refine WPL.nil (onto_of ?_)
  exact WP.ret1 Try.results23 (fun _ h => h) (fun w hw => ⟨rfl, hw.symm⟩)
theorem ex_sizes : sizes [⟨10, 0, 1000, 1, 0⟩, ⟨10, 0, 1000, 2, 0⟩] 35 = [15, 20] := by decide +kernel
theorem ex_share : share 10 [1, 1, 1] = [3, 3, 4] := by decide +kernel
theorem ex_fit : FItem.fit ⟨0, 5, 9, 0, 0⟩ 11 = 9 := by decide +kernel
theorem works_ct : Ct Try.prog 15 #[] [] (fun _ => True) (X := Unit) (fun _ => .bool true) (fun _ => True) (fun _ => []) := by
  refine Ct.intro Try.func15 rfl Try.ntmps15 (by simp) (fun w0 _ => ?_)
  refine WP.seq ?_
  refine WP.region ?_
  refine WPL.val (v_assign (v := .bool false) rfl) ?_
  refine WPL.nil (onto_of ?_)
  refine WP.seq ?_
  refine WP.region ?_
  refine WPL.val (v_struct (us := [.int .i64 _, .int .i64 _, .int .i64 _, .int .i64 _, .int .i64 _]) (pl := [(0, 1), (1, 1), (2, 1), (3, 1), (4, 1)]) Try.underlying28 Try.zeroValue28 rfl (by kernel_rfl) rfl rfl (by kernel_rfl)) ?_
  refine WPL.val (v_struct (us := [.int .i64 _, .int .i64 _, .int .i64 _, .int .i64 _, .int .i64 _]) (pl := [(0, 1), (1, 1), (2, 1), (3, 1), (4, 1)]) Try.underlying28 Try.zeroValue28 rfl (by kernel_rfl) rfl rfl (by kernel_rfl)) ?_
  refine WPL.ef (x_buildSlice (us := [.int .i64 _, .int .i64 _, .int .i64 _, .int .i64 _, .int .i64 _, .int .i64 _, .int .i64 _, .int .i64 _, .int .i64 _, .int .i64 _]) (σ' := fun _ => [_]) Try.underlying22 Try.sizeOf28 Try.zeroValue28 rfl rfl rfl (by decide) (by decide) (fun _ => rfl)) (fun g5 => ?_)
  refine WPL.ef (x_call Try.call20 (sizes_ct (some ⟨g5, 0, none⟩) 2 [⟨10, 0, 1000, 1, 0⟩, ⟨10, 0, 1000, 2, 0⟩] 35 (by decide)) [] [0] rfl (fun w hw => hw.rd_row (i := 0) rfl rfl (fun _ => rfl)) (τ := fun _ => [_, _]) (fun _ => rfl)) (fun ⟨A1, c1⟩ => ?_)
  refine WPL.fact (fun _ => ?_)
  rw [ex_sizes]
  refine WPL.holds (fun w hw => hw.row_pos (i := 1) rfl (by decide)) (fun ⟨b1, hA⟩ => ?_)
  subst hA
  refine WPL.val (v_assign (v := .slice _ _ _) rfl) ?_
  refine WPL.nil (onto_of ?_)
  refine WP.seq ?_
  refine WP.region ?_
  refine WPL.ef (x_buildSlice (us := [.int .i64 _, .int .i64 _, .int .i64 _]) (σ' := fun _ => [_, _, _]) Try.underlying32 Try.sizeOf3 Try.zeroValue3 rfl rfl rfl (by decide) (by decide) (fun _ => rfl)) (fun g7 => ?_)
  refine WPL.ef (x_call Try.call22 (share_ct (some ⟨g7, 0, none⟩) 3 10 [1, 1, 1] (by decide)) [] [0, 1, 2] rfl (fun w hw => hw.rd_row1 (i := 2) rfl) (τ := fun _ => [_, _, _, _]) (fun _ => rfl)) (fun ⟨A2, c2⟩ => ?_)
  refine WPL.fact (fun _ => ?_)
  rw [ex_share]
  refine WPL.holds (fun w hw => hw.row_pos (i := 3) rfl (by decide)) (fun ⟨b2, hA⟩ => ?_)
  subst hA
  refine WPL.val (v_assign (v := .slice _ _ _) rfl) ?_
  refine WPL.nil (onto_of ?_)
  refine WP.seq ?_
  refine WP.region ?_
  refine WPL.val (v_move (v := .slice _ _ _) rfl) ?_
  refine WPL.val (v_len Try.underlying32 rfl) ?_
  refine WPL.val (v_lit (b := true) (v_eql rfl rfl) (by decide)) ?_
  refine WPL.val (v_move (v := .bool _) rfl) ?_
  refine WPL.valG (v_move (v := .slice _ _ _) rfl) ?_
  refine WPL.valG (v_index (j := 0) Try.underlying32 Try.sizeOf3 rfl rfl rfl (by decide)) ?_
  refine WPL.valG (v_load1 (u := .int .i64 _) Try.isAgg3 rfl (fun w hw => hw.row_at1 (i := 1) (k := 0) rfl rfl (by decide))) ?_
  refine WPL.valG (v_lit (b := true) (v_eql rfl rfl) (by decide)) ?_
  refine WPL.val (v_pickT (u := .bool _) rfl rfl) ?_
  refine WPL.val (v_move (v := .bool _) rfl) ?_
  refine WPL.valG (v_move (v := .slice _ _ _) rfl) ?_
  refine WPL.valG (v_index (j := 1) Try.underlying32 Try.sizeOf3 rfl rfl rfl (by decide)) ?_
  refine WPL.valG (v_load1 (u := .int .i64 _) Try.isAgg3 rfl (fun w hw => hw.row_at1 (i := 1) (k := 1) rfl rfl (by decide))) ?_
  refine WPL.valG (v_lit (b := true) (v_eql rfl rfl) (by decide)) ?_
  refine WPL.val (v_pickT (u := .bool _) rfl rfl) ?_
  refine WPL.val (v_move (v := .bool _) rfl) ?_
  refine WPL.valG (v_move (v := .slice _ _ _) rfl) ?_
  refine WPL.valG (v_len Try.underlying32 rfl) ?_
  refine WPL.valG (v_lit (b := true) (v_eql rfl rfl) (by decide)) ?_
  refine WPL.val (v_pickT (u := .bool _) rfl rfl) ?_
  refine WPL.val (v_move (v := .bool _) rfl) ?_
  refine WPL.valG (v_move (v := .slice _ _ _) rfl) ?_
  refine WPL.valG (v_index (j := 0) Try.underlying32 Try.sizeOf3 rfl rfl rfl (by decide)) ?_
  refine WPL.valG (v_load1 (u := .int .i64 _) Try.isAgg3 rfl (fun w hw => hw.row_at1 (i := 3) (k := 0) rfl rfl (by decide))) ?_
  refine WPL.valG (v_lit (b := true) (v_eql rfl rfl) (by decide)) ?_
  refine WPL.val (v_pickT (u := .bool _) rfl rfl) ?_
  refine WPL.val (v_move (v := .bool _) rfl) ?_
  refine WPL.valG (v_move (v := .slice _ _ _) rfl) ?_
  refine WPL.valG (v_index (j := 2) Try.underlying32 Try.sizeOf3 rfl rfl rfl (by decide)) ?_
  refine WPL.valG (v_load1 (u := .int .i64 _) Try.isAgg3 rfl (fun w hw => hw.row_at1 (i := 3) (k := 2) rfl rfl (by decide))) ?_
  refine WPL.valG (v_lit (b := true) (v_eql rfl rfl) (by decide)) ?_
  refine WPL.val (v_pickT (u := .bool _) rfl rfl) ?_
  refine WPL.val (v_move (v := .bool _) rfl) ?_
  refine WPL.valG (v_struct (us := [.int .i64 _, .int .i64 _, .int .i64 _, .int .i64 _, .int .i64 _]) (pl := [(0, 1), (1, 1), (2, 1), (3, 1), (4, 1)]) Try.underlying28 Try.zeroValue28 rfl (by kernel_rfl) rfl rfl (by kernel_rfl)) ?_
  refine WPL.efG (x_call Try.call17 (fit_ct ⟨0, 5, 9, 0, 0⟩ 11) [] [0, 1, 2, 3] rfl (fun w hw => trivial) (τ := fun _ => [_, _, _, _]) (fun _ => rfl)) (fun _ => ?_)
  refine WPL.fact (fun _ => ?_)
  rw [ex_fit]
  refine WPL.valG (v_lit (b := true) (v_eql rfl rfl) (by decide)) ?_
  refine WPL.val (v_pickT (u := .bool _) rfl rfl) ?_
  refine WPL.val (v_assign (v := .bool _) rfl) ?_
  refine WPL.nil (onto_of ?_)
  exact WP.ret1 Try.results15 (fun _ h => h) (fun w hw => ⟨(), rfl, trivial, hw.sel [] (by decide)⟩)
theorem of_ct (A : Option Addr) (c : Nat) (l : List FItem) (hl : l.length ≤ 100) :
    Ct Try.prog 16 #[.slice A l.length c] [] (fun w => RdE w A 5 FItem.enc l) (X := Option Addr × Nat) (fun p => .slice p.1 l.length p.2) (fun _ => True) (fun p => [ritI p.1 l.length p.2 l]) := by
  refine Ct.intro Try.func16 rfl Try.ntmps16 (by simp) (fun w0 hz => ?_)
  refine WP.seq ?_
  refine WP.region ?_
  refine WPL.val (v_assign (v := .slice none 0 0) rfl) ?_
  refine WPL.nil (onto_of ?_)
  refine WP.seq ?_
  refine WP.region ?_
  refine WPL.val (v_assign (v := .slice none 0 0) rfl) ?_
  refine WPL.nil (onto_of ?_)
  refine WP.seq ?_
  refine WP.seq ?_
  refine WP.pre ?_ (fun w hw => hw.nilRow 30 5)
  refine WP.region ?_
  refine WPL.val (v_assign (v := .int .i64 (0)) rfl) ?_
  refine WPL.nil (onto_of ?_)
  refine WP.block ?_
  refine WP.loopK (X := Nat × Option Addr × Nat) [0] (fun p => [(3, .slice p.2.1 p.1 p.2.2), (4, .int .i64 (p.1 : Int))]) (fun p w => p.1 ≤ l.length ∧ St w0 (foots []) [ritI p.2.1 p.1 p.2.2 (l.take p.1)] w) (fun p => l.length - p.1) (0, none, 0) ⟨rfl, rfl, trivial⟩ (fun w hw => ⟨by omega, hw⟩) (fun p ρ0 => ?_)
  obtain ⟨k, A1, c1⟩ := p
  dsimp only
  refine WP.fact (fun hk => ?_)
  refine WP.seq ?_
  refine WP.seq ?_
  refine WP.region ?_
  refine WPL.val (v_move (v := .int .i64 _) rfl) ?_
  refine WPL.val (v_move (v := .slice _ _ _) rfl) ?_
  refine WPL.val (v_len Try.underlying22 rfl) ?_
  refine WPL.val (v_lss rfl rfl) ?_
  refine WPL.nil (onto_of ?_)
  refine WP.condP rfl (fun h8 => ?_) (fun h8 => ?_)
  ·
    have hk' : k < l.length := by omega
    obtain ⟨x, hx⟩ : ∃ x, l[k]? = some x := ⟨_, List.getElem?_eq_getElem hk'⟩
    obtain ⟨b, o, rfl, hc⟩ := hz k x hx
    have htl : (l.take k).length = k := by simp; omega
    refine WP.skip (onto_of ?_)
    refine WP.seq ?_
    refine WP.block ?_
    refine WP.drawSel none [] [(0, true), (1, true), (2, true), (3, true), (4, true), (5, true), (6, true), (7, true), (8, true), (9, true), (10, true), (11, true), (12, true), (13, true), (14, true), (15, true), (16, true), (17, true), (18, true), (19, true), (20, true), (21, true), (22, true), (23, true), (24, true), (25, true), (26, true), (27, false), (28, false), (29, true)] mixed (by kernel_rfl) (by decide) ?_
    refine WPD.take rfl (v_move (v := .slice _ _ _) rfl) ?_ (fun _ h => h.sel [] (by decide))
    refine WPD.take rfl (v_move (v := .slice _ _ _) rfl) ?_ (fun _ h => h.sel [] (by decide))
    refine WPD.take rfl (v_move (v := .int .i64 _) rfl) ?_ (fun _ h => h.sel [] (by decide))
    refine WPD.take rfl (v_index Try.underlying22 Try.sizeOf28 rfl rfl rfl (by omega)) ?_ (fun _ h => h.sel [] (by decide))
    refine WPD.take rfl (v_field (off := 0) Try.underlying28 rfl Try.sizeOf3 rfl) ?_ (fun _ h => h.sel [] (by decide))
    refine WPD.take rfl (v_load1 (u := .int .i64 _) Try.isAgg3 rfl (fun w hw => hw.old_at (hc.one (j := 0) rfl (by omega)) (not_foots_nil _))) ?_ (fun _ h => h.sel [] (by decide))
    refine WPD.take rfl (v_move (v := .slice _ _ _) rfl) ?_ (fun _ h => h.sel [] (by decide))
    refine WPD.take rfl (v_move (v := .int .i64 _) rfl) ?_ (fun _ h => h.sel [] (by decide))
    refine WPD.take rfl (v_index Try.underlying22 Try.sizeOf28 rfl rfl rfl (by omega)) ?_ (fun _ h => h.sel [] (by decide))
    refine WPD.take rfl (v_field (off := 1) Try.underlying28 rfl Try.sizeOf3 rfl) ?_ (fun _ h => h.sel [] (by decide))
    refine WPD.take rfl (v_load1 (u := .int .i64 _) Try.isAgg3 rfl (fun w hw => hw.old_at (hc.one (j := 1) rfl (by omega)) (not_foots_nil _))) ?_ (fun _ h => h.sel [] (by decide))
    refine WPD.take rfl (v_move (v := .slice _ _ _) rfl) ?_ (fun _ h => h.sel [] (by decide))
    refine WPD.take rfl (v_move (v := .int .i64 _) rfl) ?_ (fun _ h => h.sel [] (by decide))
    refine WPD.take rfl (v_index Try.underlying22 Try.sizeOf28 rfl rfl rfl (by omega)) ?_ (fun _ h => h.sel [] (by decide))
    refine WPD.take rfl (v_field (off := 2) Try.underlying28 rfl Try.sizeOf3 rfl) ?_ (fun _ h => h.sel [] (by decide))
    refine WPD.take rfl (v_load1 (u := .int .i64 _) Try.isAgg3 rfl (fun w hw => hw.old_at (hc.one (j := 2) rfl (by omega)) (not_foots_nil _))) ?_ (fun _ h => h.sel [] (by decide))
    refine WPD.take rfl (v_move (v := .slice _ _ _) rfl) ?_ (fun _ h => h.sel [] (by decide))
    refine WPD.take rfl (v_move (v := .int .i64 _) rfl) ?_ (fun _ h => h.sel [] (by decide))
    refine WPD.take rfl (v_index Try.underlying22 Try.sizeOf28 rfl rfl rfl (by omega)) ?_ (fun _ h => h.sel [] (by decide))
    refine WPD.take rfl (v_field (off := 3) Try.underlying28 rfl Try.sizeOf3 rfl) ?_ (fun _ h => h.sel [] (by decide))
    refine WPD.take rfl (v_load1 (u := .int .i64 _) Try.isAgg3 rfl (fun w hw => hw.old_at (hc.one (j := 3) rfl (by omega)) (not_foots_nil _))) ?_ (fun _ h => h.sel [] (by decide))
    refine WPD.take rfl (v_move (v := .slice _ _ _) rfl) ?_ (fun _ h => h.sel [] (by decide))
    refine WPD.take rfl (v_move (v := .int .i64 _) rfl) ?_ (fun _ h => h.sel [] (by decide))
    refine WPD.take rfl (v_index Try.underlying22 Try.sizeOf28 rfl rfl rfl (by omega)) ?_ (fun _ h => h.sel [] (by decide))
    refine WPD.take rfl (v_field (off := 4) Try.underlying28 rfl Try.sizeOf3 rfl) ?_ (fun _ h => h.sel [] (by decide))
    refine WPD.take rfl (v_load1 (u := .int .i64 _) Try.isAgg3 rfl (fun w hw => hw.old_at (hc.one (j := 4) rfl (by omega)) (not_foots_nil _))) ?_ (fun _ h => h.sel [] (by decide))
    refine WPD.take rfl (v_struct (us := [.int .i64 _, .int .i64 _, .int .i64 _, .int .i64 _, .int .i64 _]) (pl := [(0, 1), (1, 1), (2, 1), (3, 1), (4, 1)]) Try.underlying30 Try.zeroValue30 rfl (by kernel_rfl) rfl rfl (by kernel_rfl)) ?_ (fun _ h => h.sel [] (by decide))
    refine WPD.ef rfl (x_buildSlice (us := [.int .i64 _, .int .i64 _, .int .i64 _, .int .i64 _, .int .i64 _]) (σ' := fun _ => [_, _]) Try.underlying24 Try.sizeOf30 Try.zeroValue30 rfl rfl rfl (by decide) (by decide) (fun _ => rfl)) (fun _ _ _ h => h.sel [] (by decide)) (fun g38 => ?_)
    refine WPD.ef rfl (x_append (sz := 5) (σ' := fun _ => [_, _]) Try.underlying24 info30 rfl (by decide) rfl rfl (i := 0) rfl (fun w hw => hw.src_row (i := 1) rfl) rfl (by simp [Value.oneCell']) (by omega) (by omega) (fun _ => rfl)) (fun _ _ _ h => h.sel [] (by decide)) (fun ⟨A39, c39⟩ => ?_)
    refine WPD.take rfl (v_assign (v := .slice _ _ _) rfl) ?_ (fun _ h => h.sel [] (by decide))
    refine WPD.nil (onto_of ?_)
    refine WP.region ?_
    refine WPL.val (v_move (v := .int .i64 _) rfl) ?_
    refine WPL.val (v_add rfl rfl (by omega)) ?_
    refine WPL.val (v_assign (v := .int .i64 _) rfl) ?_
    exact WPL.nil fun w hw => ⟨rfl, (k + 1, A39, c39), (by simp only; omega), ⟨rfl, rfl, (via (.slice _ _ _) rfl rfl), trivial⟩, by simp only; omega, by simp only [take_snoc hx, ritI_snoc]; exact (hw.sel [0] (by decide))⟩
  ·
    obtain rfl : k = l.length := by omega
    rw [List.take_length]
    refine WP.exit (onto_of ?_)
    refine WP.seq ?_
    refine WP.region ?_
    refine WPL.val (v_move (v := .slice _ _ _) rfl) ?_
    refine WPL.val (v_assign (v := .slice _ _ _) rfl) ?_
    refine WPL.nil (onto_of ?_)
    exact WP.ret1 Try.results16 (fun _ h => h) (fun w hw => ⟨(A1, c1), rfl, trivial, hw⟩)
end Go.Proofs.Ytabdcfobdehhiaa
