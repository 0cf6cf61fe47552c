/- Row, of the document's layer 6. -/
import Derived.Test.YtmjdmlgdffoimabCall
namespace Go.Proofs.Ytmjdmlgdffoimab
open Go.RowKit

theorem take_more' {zs ys : List Int} {k : Nat} {x : Int} (h : zs.take k = ys.take k) (hx : zs[k]? = some x) (hy : ys[k]? = some x) : zs.take (k + 1) = ys.take (k + 1) := by rw [List.take_add_one, List.take_add_one, h, hx, hy]
theorem take_all' {zs ys : List Int} {k : Nat} (h : zs.take k = ys.take k) (hk : zs.length ≤ k) (hl : zs.length = ys.length) : zs = ys := by rw [List.take_of_length_le hk, List.take_of_length_le (by omega)] at h; exact h
theorem row_ct (A B : Option Addr) (c d : Nat) (zs ys : List Int) (hs : zs.length ≤ 9223372036854775807) : Ct Try.prog 15 #[.slice A zs.length c, .slice B ys.length d] [] (fun w => RdI w A zs ∧ RdI w B ys) (X := Unit) (fun _ => .bool (decide (zs = ys))) (fun _ => True) (fun _ => []) := by
  refine Ct.intro Try.func15 rfl Try.ntmps15 (by simp) (fun w0 ⟨hz, hy⟩ => ?_)
  refine WP.seq ?_
  refine WP.region ?_
  refine WPL.val (v_assign (v := .bool false) rfl) ?_
  refine WPL.nil (onto_of ?_)
  refine WP.seq ?_
  refine WP.seq ?_
  refine WP.region ?_
  refine WPL.val (v_move (v := .slice _ _ _) rfl) ?_
  refine WPL.val (v_len Try.underlying26 rfl) ?_
  refine WPL.val (v_move (v := .slice _ _ _) rfl) ?_
  refine WPL.val (v_len Try.underlying26 rfl) ?_
  refine WPL.val (v_neq rfl rfl) ?_
  refine WPL.nil (onto_of ?_)
  refine WP.condP rfl (fun h10 => ?_) (fun h10 => ?_)
  ·
    have hne : ¬ zs = ys := fun e => h10 (by rw [e])
    refine WP.seq ?_
    refine WP.region ?_
    refine WPL.val (v_assign (v := .bool false) rfl) ?_
    refine WPL.nil (onto_of ?_)
    exact WP.ret1 Try.results15 (fun _ h => h) (fun w hw => ⟨(), by first | exact congrArg Value.bool (decide_eq_false hne).symm | exact congrArg Value.bool (decide_eq_true he).symm, trivial, hw⟩)
  ·
    have hll : zs.length = ys.length := by omega
    refine WP.skip (onto_of ?_)
    refine WP.seq ?_
    refine WP.seq ?_
    refine WP.region ?_
    refine WPL.val (v_assign (v := .int .i64 (0)) rfl) ?_
    refine WPL.nil (onto_of ?_)
    refine WP.block ?_
    refine WP.loopK (X := Nat) [0, 1] (fun k => [(5, .int .i64 (k : Int))]) (fun k w => (k ≤ zs.length ∧ zs.take k = ys.take k) ∧ St w0 (foots []) [] w) (fun k => zs.length - k) 0 ⟨rfl, trivial⟩ (fun w hw => ⟨⟨by omega, by simp⟩, hw⟩) (fun k ρ0 => ?_)
    refine WP.fact (fun ⟨hk, ht⟩ => ?_)
    refine WP.seq ?_
    refine WP.seq ?_
    refine WP.region ?_
    refine WPL.val (v_move (v := .int .i64 _) rfl) ?_
    refine WPL.val (v_move (v := .slice _ _ _) rfl) ?_
    refine WPL.val (v_len Try.underlying26 rfl) ?_
    refine WPL.val (v_lss rfl rfl) ?_
    refine WPL.nil (onto_of ?_)
    refine WP.condP rfl (fun h14 => ?_) (fun h14 => ?_)
    ·
      have hk' : k < zs.length := by omega
      obtain ⟨x, hx⟩ : ∃ x, zs[k]? = some x := ⟨_, List.getElem?_eq_getElem hk'⟩
      obtain ⟨y, hy'⟩ : ∃ y, ys[k]? = some y := ⟨_, List.getElem?_eq_getElem (by omega)⟩
      obtain ⟨b, o, rfl, hc⟩ := hz k x hx
      obtain ⟨b', o', rfl, hc'⟩ := hy k y hy'
      refine WP.skip (onto_of ?_)
      refine WP.seq ?_
      refine WP.block ?_
      refine WP.seq ?_
      refine WP.drawS none [(0, true), (1, true), (2, true), (3, true), (4, true), (5, true), (6, true), (7, true), (8, true)] mixed (by kernel_rfl) (by decide) (fun _ h => h.drawn) ?_
      refine WPD.take rfl (v_move (v := .slice _ _ _) rfl) ?_ (fun _ h => h)
      refine WPD.take rfl (v_move (v := .int .i64 _) rfl) ?_ (fun _ h => h)
      refine WPD.take rfl (v_index Try.underlying26 Try.sizeOf3 rfl rfl rfl (by omega)) ?_ (fun _ h => h)
      refine WPD.take rfl (v_load1 (u := .int .i64 _) Try.isAgg3 rfl (fun w hw => hw.old_at hc (not_foots_nil _))) ?_ (fun _ h => h)
      refine WPD.take rfl (v_move (v := .slice _ _ _) rfl) ?_ (fun _ h => h)
      refine WPD.take rfl (v_move (v := .int .i64 _) rfl) ?_ (fun _ h => h)
      refine WPD.take rfl (v_index Try.underlying26 Try.sizeOf3 rfl rfl rfl (by omega)) ?_ (fun _ h => h)
      refine WPD.take rfl (v_load1 (u := .int .i64 _) Try.isAgg3 rfl (fun w hw => hw.old_at hc' (not_foots_nil _))) ?_ (fun _ h => h)
      refine WPD.take rfl (v_neq rfl rfl) ?_ (fun _ h => h)
      refine WPD.nil (onto_of ?_)
      refine WP.condP rfl (fun h25 => ?_) (fun h25 => ?_)
      ·
        have hne : ¬ zs = ys := fun e => h25 (by rw [e, hy'] at hx; exact (Option.some.inj hx).symm)
        refine WP.seq ?_
        refine WP.region ?_
        refine WPL.val (v_assign (v := .bool false) rfl) ?_
        refine WPL.nil (onto_of ?_)
        exact WP.ret1 Try.results15 (fun _ h => h) (fun w hw => ⟨(), by first | exact congrArg Value.bool (decide_eq_false hne).symm | exact congrArg Value.bool (decide_eq_true he).symm, trivial, hw⟩)
      ·
        have hx2 : ys[k]? = some x := by rw [hy', show y = x by omega]
        refine WP.skip (onto_of ?_)
        refine WP.region ?_
        refine WPL.val (v_move (v := .int .i64 _) rfl) ?_
        refine WPL.val (v_add rfl rfl (by omega)) ?_
        refine WPL.val (v_assign (v := .int .i64 _) rfl) ?_
        exact WPL.nil fun w hw => ⟨rfl, k + 1, (by omega), ⟨rfl, (via (.slice _ _ _) rfl rfl), (via (.slice _ _ _) rfl rfl), trivial⟩, ⟨by omega, take_more' ht hx hx2⟩, hw⟩
    ·
      have he : zs = ys := take_all' ht (by omega) hll
      refine WP.exit (onto_of ?_)
      refine WP.seq ?_
      refine WP.region ?_
      refine WPL.val (v_assign (v := .bool true) rfl) ?_
      refine WPL.nil (onto_of ?_)
      exact WP.ret1 Try.results15 (fun _ h => h) (fun w hw => ⟨(), by first | exact congrArg Value.bool (decide_eq_false hne).symm | exact congrArg Value.bool (decide_eq_true he).symm, trivial, hw⟩)
theorem rowT_ct (A B : Option Addr) (c d : Nat) (zs ys : List Int) (hs : zs.length ≤ 9223372036854775807) (e : zs = ys) : Ct Try.prog 15 #[.slice A zs.length c, .slice B ys.length d] [] (fun w => RdI w A zs ∧ RdI w B ys) (X := Unit) (fun _ => .bool true) (fun _ => True) (fun _ => []) := by
  have h := row_ct A B c d zs ys hs
  rw [decide_eq_true e] at h
  exact h
end Go.Proofs.Ytmjdmlgdffoimab
