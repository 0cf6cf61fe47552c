/- The laws FlexSizes, FlexShares: the walk. -/
import Derived.Test.YtabdcfobdehhiaaFlexWorks
namespace Go.Proofs.Ytabdcfobdehhiaa
open Go.RowKit

theorem Ct.nil_of {f : FuncId} {args : Array Value} {Fact : World → Prop} (h : ∀ w, Calls Try.prog f args w fun e w' => e = .returned (.slice none 0 0) ∧ w = w') {l : List Int} (hl : l = []) :
    Ct Try.prog f args [] Fact (X := Option Addr × Nat) (fun p => intsV p.1 p.2 l) (fun _ => True) (fun p => [intsI p.1 p.2 l]) := by
  subst hl
  intro w _ _ _
  refine (h w).mono ?_
  rintro e w' ⟨rfl, rfl⟩
  refine ⟨(none, 0), rfl, trivial, ?_⟩
  have := (St.refl w).nilRow 3 1
  rw [foots_nil]
  exact this
def sizesX (l : List FItem) (room : Int) : List Int := if l.length ≤ 64 then sizes l room else []
def shareX (n : Int) (w : List Int) : List Int := if w.length ≤ 64 then share n w else []
theorem sizesX_ct (A : Option Addr) (c : Nat) (l : List FItem) (room : Int) : Ct Try.prog 20 #[.slice A l.length c, .int .i64 room] [] (fun w => RdE w A 5 FItem.enc l) (X := Option Addr × Nat) (fun p => intsV p.1 p.2 (sizesX l room)) (fun _ => True)
      (fun p => [intsI p.1 p.2 (sizesX l room)]) := by
  by_cases hl : l.length ≤ 64
  · have h := sizes_ct A c l room hl
    unfold sizesX; rw [if_pos hl]
    unfold intsV intsI; rw [sizes_length]
    exact h
  · exact Ct.nil_of (sizes_big A c l.length room (by omega)) (by unfold sizesX; rw [if_neg hl])
theorem rsizesX_ct (A : Option Addr) (c : Nat) (l : List FItem) (room : Int) : Ct Try.prog 21 #[.slice A l.length c, .int .i64 room] [] (fun w => RdE w A 5 FItem.enc l) (X := Option Addr × Nat) (fun p => intsV p.1 p.2 (sizesX l room)) (fun _ => True)
      (fun p => [intsI p.1 p.2 (sizesX l room)]) := by
  by_cases hl : l.length ≤ 64
  · have h := rsizes_ct A c l room hl
    unfold sizesX; rw [if_pos hl]
    unfold intsV intsI; rw [sizes_length]
    exact h
  · exact Ct.nil_of (rsizes_big A c l.length room (by omega)) (by unfold sizesX; rw [if_neg hl])
theorem shareX_ct (A : Option Addr) (c : Nat) (n : Int) (zs : List Int) : Ct Try.prog 22 #[.int .i64 n, .slice A zs.length c] [] (fun w => RdI w A zs) (X := Option Addr × Nat) (fun p => intsV p.1 p.2 (shareX n zs)) (fun _ => True)
      (fun p => [intsI p.1 p.2 (shareX n zs)]) := by
  by_cases hl : zs.length ≤ 64
  · have h := share_ct A c n zs hl
    unfold shareX; rw [if_pos hl]
    unfold intsV intsI; rw [share_length]
    exact h
  · exact Ct.nil_of (share_big A c zs.length n (by omega)) (by unfold shareX; rw [if_neg hl])
theorem rshareX_ct (A : Option Addr) (c : Nat) (n : Int) (zs : List Int) : Ct Try.prog 23 #[.int .i64 n, .slice A zs.length c] [] (fun w => RdI w A zs) (X := Option Addr × Nat) (fun p => intsV p.1 p.2 (shareX n zs)) (fun _ => True)
      (fun p => [intsI p.1 p.2 (shareX n zs)]) := by
  by_cases hl : zs.length ≤ 64
  · have h := rshare_ct A c n zs hl
    unfold shareX; rw [if_pos hl]
    unfold intsV intsI; rw [share_length]
    exact h
  · exact Ct.nil_of (rshare_big A c zs.length n (by omega)) (by unfold shareX; rw [if_neg hl])
theorem sizesX_length (l : List FItem) (room : Int) : (sizesX l room).length ≤ 64 := by
  unfold sizesX; split
  · rw [sizes_length]; assumption
  · simp
theorem shareX_length (n : Int) (w : List Int) : (shareX n w).length ≤ 64 := by
  unfold shareX; split
  · rw [share_length]; assumption
  · simp

theorem lawSizes_ct (A : Option Addr) (c : Nat) (l : List FItem) (room n : Int) (hm : l.length ≤ 9223372036854775807) :
    Ct Try.prog 3 #[.slice A l.length c, .int .i64 room, .int .i64 n] [] (fun w => RdE w A 5 FItem.enc l) (X := Unit) (fun _ => .bool true) (fun _ => True) (fun _ => []) := by
  refine Ct.intro Try.func3 rfl Try.ntmps3 (by simp) (fun w0 hz => ?_)
  refine WP.seq ?_
  refine WP.region ?_
  refine WPL.val (v_assign (v := .bool false) rfl) ?_
  refine WPL.nil (onto_of ?_)
  refine WP.seq ?_
  refine WP.region ?_
  refine WPL.ef (x_call Try.call15 works_ct [] [] rfl (fun w hw => trivial) (τ := fun _ => []) (fun _ => rfl)) (fun _ => ?_)
  refine WPL.fact (fun _ => ?_)
  refine WPL.val (v_assign (v := .bool _) rfl) ?_
  refine WPL.nil (onto_of ?_)
  refine WP.seq ?_
  refine WP.seq ?_
  refine WP.region ?_
  refine WPL.val (v_move (v := .bool _) rfl) ?_
  refine WPL.val (v_not rfl) ?_
  refine WPL.nil (onto_of ?_)
  refine WP.condF rfl ?_
  refine WP.skip (onto_of ?_)
  refine WP.seq ?_
  refine WP.seq ?_
  refine WP.region ?_
  refine WPL.val (v_move (v := .slice _ _ _) rfl) ?_
  refine WPL.val (v_len Try.underlying22 rfl) ?_
  refine WPL.val (v_gtr rfl rfl) ?_
  refine WPL.nil (onto_of ?_)
  refine WP.condP rfl (fun h14 => ?_) (fun h14 => ?_)
  ·
    refine WP.seq ?_
    refine WP.region ?_
    refine WPL.val (v_move (v := .bool _) rfl) ?_
    refine WPL.val (v_assign (v := .bool _) rfl) ?_
    refine WPL.nil (onto_of ?_)
    exact WP.ret1 Try.results3 (fun _ h => h) (fun w hw => ⟨(), by first | rfl | exact congrArg Value.bool (decide_eq_true rfl), trivial, hw.sel [] (by decide)⟩)
  ·
    refine WP.skip (onto_of ?_)
    refine WP.seq ?_
    refine WP.region ?_
    refine WPL.val (v_move (v := .slice _ _ _) rfl) ?_
    refine WPL.ef (x_call Try.call16 (of_ct A c l (by omega)) [] [] rfl (fun w hw => hw.rd hz not_foots_nil) (τ := fun _ => [_]) (fun _ => rfl)) (fun ⟨A1, c1⟩ => ?_)
    refine WPL.fact (fun _ => ?_)
    refine WPL.val (v_assign (v := .slice _ _ _) rfl) ?_
    refine WPL.nil (onto_of ?_)
    refine WP.seq ?_
    refine WP.seq ?_
    refine WP.drawSel none [0] [(0, true), (1, true), (2, true), (3, true), (4, true), (5, true), (6, true), (7, true), (9, true), (10, true), (11, true), (12, true), (8, false), (13, false), (14, true), (15, true)] mixed (by kernel_rfl) (by decide) ?_
    refine WPD.take rfl (v_move (v := .slice _ _ _) rfl) ?_ (fun _ h => h.sel [0] (by decide))
    refine WPD.take rfl (v_len Try.underlying22 rfl) ?_ (fun _ h => h.sel [0] (by decide))
    refine WPD.take rfl (v_gtr rfl rfl) ?_ (fun _ h => h.sel [0] (by decide))
    refine WPD.take rfl (v_move (v := .bool _) rfl) ?_ (fun _ h => h.sel [0] (by decide))
    refine WPD.split 21 rfl (fun h21 => ?_) (fun h21 => ?_)
    ·
      obtain ⟨x, hx⟩ : ∃ x, l[0]? = some x := ⟨_, List.getElem?_eq_getElem (by omega)⟩
      obtain ⟨b, o, rfl, hc⟩ := hz 0 x hx
      refine WPD.holds (fun w hw => hw.row_pos (i := 0) rfl (by omega)) (fun ⟨xb, hA⟩ => ?_)
      subst hA
      refine WPD.take rfl (v_move (v := .slice _ _ _) rfl) ?_ (fun _ h => h.sel [0] (by decide))
      refine WPD.take rfl (v_index (j := 0) Try.underlying22 Try.sizeOf28 rfl rfl rfl (by omega)) ?_ (fun _ h => h.sel [0] (by decide))
      refine WPD.take rfl (v_loadA (cs := [.int .i64 _, .int .i64 _, .int .i64 _, .int .i64 _, .int .i64 _]) Try.isAgg28 Try.sizeOf28 rfl (fun w hw => hw.old_at hc (not_foots_nil _))) ?_ (fun _ h => h.sel [0] (by decide))
      refine WPD.take rfl (v_move (v := .int .i64 _) rfl) ?_ (fun _ h => h.sel [0] (by decide))
      refine WPD.take rfl (v_move (v := .slice _ _ _) rfl) ?_ (fun _ h => h.sel [0] (by decide))
      refine WPD.take rfl (v_index (j := 0) Try.underlying24 Try.sizeOf30 rfl rfl rfl (by omega)) ?_ (fun _ h => h.sel [0] (by decide))
      refine WPD.take rfl (v_loadA (cs := [.int .i64 _, .int .i64 _, .int .i64 _, .int .i64 _, .int .i64 _]) Try.isAgg30 Try.sizeOf30 rfl (fun w hw => hw.row_at (i := 0) rfl _ (fun jj u hu => by have h := flat_at FItem.enc 5 (fun _ => rfl) _ 0 jj x u hx hu; rw [Nat.zero_mul] at h; exact h))) ?_ (fun _ h => h.sel [0] (by decide))
      refine WPD.take rfl (v_move (v := .int .i64 _) rfl) ?_ (fun _ h => h.sel [0] (by decide))
      refine WPD.ef rfl (x_call Try.call17 (fit_ct x n) [] [0] rfl (fun w hw => trivial) (τ := fun _ => [_]) (fun _ => rfl)) (fun _ _ _ h => h.2.sel [0] (by decide)) (fun _ => ?_)
      refine WPD.fact (fun _ => ?_)
      refine WPD.ef rfl (x_call Try.call18 (rfit_ct x n) [] [0] rfl (fun w hw => trivial) (τ := fun _ => [_]) (fun _ => rfl)) (fun _ _ _ h => h.2.sel [0] (by decide)) (fun _ => ?_)
      refine WPD.fact (fun _ => ?_)
      refine WPD.take rfl (v_neq rfl rfl) ?_ (fun _ h => h.sel [0] (by decide))
      refine WPD.take rfl (v_pickT (u := .bool _) rfl rfl) ?_ (fun _ h => h.sel [0] (by decide))
      refine WPD.nil (onto_of ?_)
      refine WP.condP rfl (fun h33 => ?_) (fun h33 => ?_)
      ·
        exact absurd rfl h33
      ·
        refine WP.skip (onto_of ?_)
        refine WP.seq ?_
        refine WP.region ?_
        refine WPL.val (v_move (v := .bool _) rfl) ?_
        refine WPL.val (v_move (v := .bool _) rfl) ?_
        refine WPL.valG (v_move (v := .slice _ _ _) rfl) ?_
        refine WPL.valG (v_move (v := .int .i64 _) rfl) ?_
        refine WPL.efG (x_call Try.call20 (sizesX_ct _ c l room) [] [0] rfl (fun w hw => hw.rd hz not_foots_nil) (τ := fun _ => [_, _]) (fun _ => rfl)) (fun ⟨A2, c2⟩ => ?_)
        refine WPL.fact (fun _ => ?_)
        refine WPL.valG (v_move (v := .slice _ _ _) rfl) ?_
        refine WPL.valG (v_move (v := .int .i64 _) rfl) ?_
        refine WPL.efG (x_call Try.call21 (rsizesX_ct _ c1 l room) [] [0, 1] rfl (fun w hw => hw.rd_row (i := 0) rfl rfl (fun _ => rfl)) (τ := fun _ => [_, _, _]) (fun _ => rfl)) (fun ⟨A3, c3⟩ => ?_)
        refine WPL.fact (fun _ => ?_)
        refine WPL.efG (x_call Try.call19 (row_ct A2 A3 c2 c3 (sizesX l room) (sizesX l room) (Nat.le_trans (sizesX_length _ _) (by decide))) [] [0, 1, 2] rfl (fun w hw => ⟨hw.rd_row1 (i := 1) rfl, hw.rd_row1 (i := 2) rfl⟩) (τ := fun _ => [_, _, _]) (fun _ => rfl)) (fun _ => ?_)
        refine WPL.fact (fun _ => ?_)
        refine WPL.val (v_pickT (u := .bool _) rfl rfl) ?_
        refine WPL.val (v_assign (v := .bool _) rfl) ?_
        refine WPL.nil (onto_of ?_)
        exact WP.ret1 Try.results3 (fun _ h => h) (fun w hw => ⟨(), by first | rfl | exact congrArg Value.bool (decide_eq_true rfl), trivial, hw.sel [] (by decide)⟩)
    ·
      refine WPD.skip rfl ?_ (fun _ h => h.sel [0] (by decide))
      refine WPD.skip rfl ?_ (fun _ h => h.sel [0] (by decide))
      refine WPD.skip rfl ?_ (fun _ h => h.sel [0] (by decide))
      refine WPD.skip rfl ?_ (fun _ h => h.sel [0] (by decide))
      refine WPD.skip rfl ?_ (fun _ h => h.sel [0] (by decide))
      refine WPD.skip rfl ?_ (fun _ h => h.sel [0] (by decide))
      refine WPD.skip rfl ?_ (fun _ h => h.sel [0] (by decide))
      refine WPD.skip rfl ?_ (fun _ h => h.sel [0] (by decide))
      refine WPD.skipA rfl ?_ (fun _ h => h.sel [0] (by decide))
      refine WPD.skipA rfl ?_ (fun _ h => h.sel [0] (by decide))
      refine WPD.skip rfl ?_ (fun _ h => h.sel [0] (by decide))
      refine WPD.take rfl (v_pickF (v := .bool _) rfl rfl) ?_ (fun _ h => h.sel [0] (by decide))
      refine WPD.nil (onto_of ?_)
      refine WP.condF rfl ?_
      refine WP.skip (onto_of ?_)
      refine WP.seq ?_
      refine WP.region ?_
      refine WPL.val (v_move (v := .bool _) rfl) ?_
      refine WPL.val (v_move (v := .bool _) rfl) ?_
      refine WPL.valG (v_move (v := .slice _ _ _) rfl) ?_
      refine WPL.valG (v_move (v := .int .i64 _) rfl) ?_
      refine WPL.efG (x_call Try.call20 (sizesX_ct _ c l room) [] [0] rfl (fun w hw => hw.rd hz not_foots_nil) (τ := fun _ => [_, _]) (fun _ => rfl)) (fun ⟨A2, c2⟩ => ?_)
      refine WPL.fact (fun _ => ?_)
      refine WPL.valG (v_move (v := .slice _ _ _) rfl) ?_
      refine WPL.valG (v_move (v := .int .i64 _) rfl) ?_
      refine WPL.efG (x_call Try.call21 (rsizesX_ct _ c1 l room) [] [0, 1] rfl (fun w hw => hw.rd_row (i := 0) rfl rfl (fun _ => rfl)) (τ := fun _ => [_, _, _]) (fun _ => rfl)) (fun ⟨A3, c3⟩ => ?_)
      refine WPL.fact (fun _ => ?_)
      refine WPL.efG (x_call Try.call19 (row_ct A2 A3 c2 c3 (sizesX l room) (sizesX l room) (Nat.le_trans (sizesX_length _ _) (by decide))) [] [0, 1, 2] rfl (fun w hw => ⟨hw.rd_row1 (i := 1) rfl, hw.rd_row1 (i := 2) rfl⟩) (τ := fun _ => [_, _, _]) (fun _ => rfl)) (fun _ => ?_)
      refine WPL.fact (fun _ => ?_)
      refine WPL.val (v_pickT (u := .bool _) rfl rfl) ?_
      refine WPL.val (v_assign (v := .bool _) rfl) ?_
      refine WPL.nil (onto_of ?_)
      exact WP.ret1 Try.results3 (fun _ h => h) (fun w hw => ⟨(), by first | rfl | exact congrArg Value.bool (decide_eq_true rfl), trivial, hw.sel [] (by decide)⟩)
end Go.Proofs.Ytabdcfobdehhiaa
