/- TreeStyles. -/
import Derived.Test.YtmjdmlgdffoimaaTreeLeast
namespace Go.Proofs.Ytmjdmlgdffoimaa
open Go.RowKit

section
variable {F : Forest (List Value)}
theorem setR_ne {id : Int} {s : List Value} (h : (setR validB F id s).2 ≠ 0) : (setR validB F id s).1 = F := by
  unfold setR at h ⊢
  repeat' split
  all_goals first | rfl | (exfalso; simp_all; done)
theorem setR_eq {id : Int} {s : List Value} (h : (setR validB F id s).2 = 0) : hasF F id = true ∧ (setR validB F id s).1 = setG F id s := by
  unfold setR at h ⊢
  split at h
  · cases h
  · rename_i h1
    split at h
    · cases h
    · rename_i h2
      exact ⟨by simpa using h1, by rw [if_neg h1, if_neg h2]⟩
theorem sty_movR (z : List Value) (id up at_ x : Int) : styF z (movR F id up at_).1 x = styF z F x := by
  unfold movR
  repeat' split
  all_goals first | rfl | skip
  simp only [styF, movG]
  cases F x <;> rfl
theorem sty_set {z : List Value} {id : Int} {s : List Value} (h : hasF F id = true) (x : Int) : styF z (setG F id s) x = if x = id then s else styF z F x := by
  unfold styF setG
  by_cases hx : x = id
  · subst hx
    obtain ⟨b, hb⟩ := some_has h
    simp [hb]
  · simp [hx]
end
set_option maxRecDepth 100000 in
set_option maxHeartbeats 2000000 in
theorem lawStyles_ct (A : Option Addr) (c : Nat) (l : List AC) (id : Int) (s : List Value) (hs : SOk s) (other up : Int) : Ct Try.prog 8 #[.slice A l.length c, .int .i64 id, .agg s.toArray, .int .i64 other, .int .i64 up] [] (fun w => RdE w A 59 encA l) (X := Unit) (fun _ => .bool true) (fun _ => True) (fun _ => []) := by
  refine Ct.intro Try.func8 rfl Try.ntmps8 (by simp) (fun w0 hz => ?_)
  refine WP.seq ?_
  refine WP.region ?_
  refine WPL.ef (x_boxA (us := s) (σ' := fun _ => [_]) rfl (fun _ => rfl)) (fun b7 => ?_)
  refine WPL.val (v_assign (v := .bool false) rfl) ?_
  refine WPL.nil (onto_of ?_)
  refine WP.seq ?_
  refine WP.region ?_
  refine WPL.ef (x_call Try.call10 works_ct [] [0] rfl (fun w hw => trivial) (τ := fun _ => [_]) (fun _ => rfl)) (fun _ => ?_)
  refine WPL.fact (fun _ => ?_)
  refine WPL.val (v_assign (v := .bool _) rfl) ?_
  refine WPL.nil (onto_of ?_)
  refine WP.seq ?_
  refine WP.seq ?_
  refine WP.region ?_
  refine WPL.val (v_move (v := .bool _) rfl) ?_
  refine WPL.val (v_not rfl) ?_
  refine WPL.nil (onto_of ?_)
  refine WP.condF rfl ?_
  refine WP.skip (onto_of ?_)
  refine WP.seq ?_
  refine WP.seq ?_
  refine WP.region ?_
  refine WPL.val (v_move (v := .slice _ _ _) rfl) ?_
  refine WPL.val (v_len Try.underlying22 rfl) ?_
  refine WPL.val (v_gtr rfl rfl) ?_
  refine WPL.val (v_move (v := .bool _) rfl) ?_
  refine WPL.split 22 rfl (fun h22 => ?_) (fun h22 => ?_)
  ·
    refine WPL.skipG ?_
    refine WPL.skipG ?_
    refine WPL.skipG ?_
    refine WPL.val (v_pickT (u := .bool _) rfl rfl) ?_
    refine WPL.nil (onto_of ?_)
    refine WP.condT rfl ?_
    refine WP.seq ?_
    refine WP.region ?_
    refine WPL.val (v_move (v := .bool _) rfl) ?_
    refine WPL.val (v_assign (v := .bool _) rfl) ?_
    refine WPL.nil (onto_of ?_)
    exact WP.ret1 Try.results8 (fun _ h => h) (fun w hw => ⟨(), rfl, trivial, hw.sel [] (by decide)⟩)
  ·
    refine WPL.valG (v_move (v := .int .i64 _) rfl) ?_
    refine WPL.valG (v_move (v := .int .i64 _) rfl) ?_
    refine WPL.valG (v_eql rfl rfl) ?_
    refine WPL.val (v_pickF (v := .bool _) rfl rfl) ?_
    refine WPL.nil (onto_of ?_)
    refine WP.condP rfl (fun h26 => ?_) (fun h26 => ?_)
    ·
      refine WP.seq ?_
      refine WP.region ?_
      refine WPL.val (v_move (v := .bool _) rfl) ?_
      refine WPL.val (v_assign (v := .bool _) rfl) ?_
      refine WPL.nil (onto_of ?_)
      exact WP.ret1 Try.results8 (fun _ h => h) (fun w hw => ⟨(), rfl, trivial, hw.sel [] (by decide)⟩)
    ·
      refine WP.skip (onto_of ?_)
      refine WP.seq ?_
      have hio : other ≠ id := fun e => h26 e.symm
      refine WP.region ?_
      refine WPL.ef (x_call Try.call11 new_ct [] [0] rfl (fun w hw => trivial) (τ := fun _ => [_, _]) (fun _ => rfl)) (fun ⟨tp, mb, nb⟩ => ?_)
      refine WPL.fact (fun _ => ?_)
      refine WPL.val (v_assign (v := .pointer _) rfl) ?_
      refine WPL.nil (onto_of ?_)
      refine WP.seq ?_
      refine WP.seq ?_
      refine WP.region ?_
      refine WPL.val (v_assign (v := .int .i64 (0)) rfl) ?_
      refine WPL.nil (onto_of ?_)
      refine WP.block ?_
      refine WP.loopK (X := Nat × List PE) [0, 1, 3, 4, 7, 11, 12] (fun p => [(13, .int .i64 (p.1 : Int))]) (fun p w => (p.1 ≤ l.length ∧ FoR p.2 = AF (l.take p.1) ∧ LOk p.2) ∧ St w0 (foots []) [.cl b7 43 s, treeI tp mb p.2] w) (fun p => l.length - p.1) (0, [newE 0 nb (-1)]) ⟨rfl, trivial⟩ (fun w hw => ⟨⟨Nat.zero_le _, (newE_ok nb).1, (newE_ok nb).2⟩, (hw.sel [0, 1] (by decide))⟩) (fun p ρ0 => ?_)
      obtain ⟨k, es⟩ := p
      dsimp only
      refine WP.fact (fun ⟨hkl, hFo, hk⟩ => ?_)
      refine WP.seq ?_
      refine WP.seq ?_
      refine WP.region ?_
      refine WPL.val (v_move (v := .int .i64 _) rfl) ?_
      refine WPL.val (v_move (v := .slice _ _ _) rfl) ?_
      refine WPL.val (v_len Try.underlying22 rfl) ?_
      refine WPL.val (v_lss rfl rfl) ?_
      refine WPL.nil (onto_of ?_)
      refine WP.condP rfl (fun h32 => ?_) (fun h32 => ?_)
      ·
        obtain ⟨x, hx⟩ : ∃ x, l[k]? = some x := ⟨_, List.getElem?_eq_getElem (by omega)⟩
        obtain ⟨ab, ao, rfl, hc⟩ := hz k x hx
        obtain ⟨d, hF⟩ := AF_wf (l.take k)
        rw [← hFo] at hF
        refine WP.skip (onto_of ?_)
        refine WP.seq ?_
        refine WP.block ?_
        refine WP.region ?_
        refine WPL.val (v_move (v := .pointer _) rfl) ?_
        refine WPL.val (v_move (v := .slice _ _ _) rfl) ?_
        refine WPL.val (v_move (v := .int .i64 _) rfl) ?_
        refine WPL.val (v_index Try.underlying22 Try.sizeOf45 rfl rfl rfl (by omega)) ?_
        refine WPL.val (v_loadA (cs := encA x) Try.isAgg45 Try.sizeOf45 rfl (fun w hw => hw.old_at hc (not_foots_nil _)) (encA_len x)) ?_
        refine WPL.ef (x_call Try.call28 (do_ct tp mb es hk hF x.1 x.2) [1] [0] rfl (fun w hw => trivial) (τ := fun _ => [_, _]) (fun _ => rfl)) (fun es1 => ?_)
        refine WPL.fact (fun hf => ?_)
        refine WPL.nil (onto_of ?_)
        refine WP.region ?_
        refine WPL.val (v_move (v := .int .i64 _) rfl) ?_
        refine WPL.val (v_add rfl rfl (by omega)) ?_
        refine WPL.val (v_assign (v := .int .i64 _) rfl) ?_
        exact WPL.nil fun w hw => ⟨rfl, (k + 1, es1), (by simp only; omega), ⟨rfl, (via (.slice _ _ _) rfl rfl), (via (.int .i64 _) rfl rfl), (via (.int .i64 _) rfl rfl), (via (.int .i64 _) rfl rfl), rfl, (via (.bool _) rfl rfl), (via (.pointer _) rfl rfl), trivial⟩, ⟨⟨by simp only; omega, by rw [AF_snoc hx, ← hFo]; exact hf.1, hf.2⟩, (hw.sel [0, 1] (by decide))⟩⟩
      ·
        obtain rfl : k = l.length := by omega
        rw [List.take_of_length_le (Nat.le_refl _)] at hFo
        obtain ⟨d, hF⟩ := AF_wf l
        rw [← hFo] at hF
        refine WP.exit (onto_of ?_)
        refine WP.seq ?_
        refine WP.region ?_
        refine WPL.val (v_move (v := .pointer _) rfl) ?_
        refine WPL.val (v_move (v := .int .i64 _) rfl) ?_
        refine WPL.ef (x_call Try.call20 (style_ct tp mb es hk other) [1] [0] rfl (fun w hw => trivial) (τ := fun _ => [_, _]) (fun _ => rfl)) (fun _ => ?_)
        refine WPL.fact (fun _ => ?_)
        refine WPL.ef (x_alloc (us := zeroS) (σ' := fun _ => [_, _, _]) Try.zeroValue43 rfl (fun _ => rfl)) (fun b14 => ?_)
        refine WPL.ef0 (x_storeW (us := (styF zeroS (FoR es) other)) (σ' := [_, _, _]) Try.sizeOf43 rfl rfl (i := 2) rfl (SOk.len (hk.styOk other)) rfl (SOk.one (hk.styOk other)) (SOk.len (hk.styOk other))) (fun _ => ?_)
        refine WPL.nil (onto_of ?_)
        refine WP.seq ?_
        refine WP.region ?_
        refine WPL.val (v_move (v := .pointer _) rfl) ?_
        refine WPL.val (v_move (v := .int .i64 _) rfl) ?_
        refine WPL.val (v_loadA (cs := s) Try.isAgg43 Try.sizeOf43 rfl (fun w hw => hw.cl_at (i := 0) rfl 0 (whole _)) (SOk.len hs)) ?_
        refine WPL.ef (x_call Try.call33 (set_ct tp mb es hk id s hs) [1] [0, 2] rfl (fun w hw => trivial) (τ := fun _ => [_, _, _]) (fun _ => rfl)) (fun es1 => ?_)
        refine WPL.fact (fun hf1 => ?_)
        refine WPL.val (v_assign (v := .int .i64 _) rfl) ?_
        refine WPL.nil (onto_of ?_)
        refine WP.seq ?_
        refine WP.seq ?_
        refine WP.region ?_
        refine WPL.val (v_move (v := .int .i64 _) rfl) ?_
        refine WPL.val (v_neq rfl rfl) ?_
        refine WPL.nil (onto_of ?_)
        refine WP.condP rfl (fun h49 => ?_) (fun h49 => ?_)
        ·
          have hsame : FoR es1 = FoR es := by rw [hf1.1]; exact setR_ne h49
          refine WP.seq ?_
          refine WP.drawSel none [0, 1, 2] [(0, true), (1, true), (2, true), (3, true), (5, true), (4, false), (6, true), (7, true), (8, true)] mixed (by kernel_rfl) (by decide) ?_
          refine WPD.take rfl (v_move (v := .bool _) rfl) ?_ (fun _ h => h.sel [0, 1, 2] (by decide))
          refine WPD.take rfl (v_move (v := .bool _) rfl) ?_ (fun _ h => h.sel [0, 1, 2] (by decide))
          refine WPD.take rfl (v_move (v := .pointer _) rfl) ?_ (fun _ h => h.sel [0, 1, 2] (by decide))
          refine WPD.take rfl (v_move (v := .int .i64 _) rfl) ?_ (fun _ h => h.sel [0, 1, 2] (by decide))
          refine WPD.take rfl (v_loadA (cs := (styF zeroS (FoR es) other)) Try.isAgg43 Try.sizeOf43 rfl (fun w hw => hw.cl_at (i := 1) rfl 0 (whole _)) (SOk.len (hk.styOk other))) ?_ (fun _ h => h.sel [0, 1, 2] (by decide))
          refine WPD.ef rfl (x_call Try.call20 (style_ct tp mb es1 hf1.2 other) [2] [0, 1] rfl (fun w hw => trivial) (τ := fun _ => [_, _, _]) (fun _ => rfl)) (fun _ _ _ h => h.2.sel [0, 1, 2] (by decide)) (fun _ => ?_)
          refine WPD.fact (fun _ => ?_)
          refine WPD.take rfl (v_is (b := true) (v_eqA leaf43 (by kernel_rfl) (fun _ => rfl) rfl rfl (hf1.2.styOk other).leaves (hk.styOk other).leaves) (by rw [hsame]; exact eqv_self _)) ?_ (fun _ h => h.sel [0, 1, 2] (by decide))
          refine WPD.take rfl (v_pickT (u := .bool _) rfl rfl) ?_ (fun _ h => h.sel [0, 1, 2] (by decide))
          refine WPD.take rfl (v_assign (v := .bool _) rfl) ?_ (fun _ h => h.sel [0, 1, 2] (by decide))
          refine WPD.nil (onto_of ?_)
          exact WP.ret1 Try.results8 (fun _ h => h) (fun w hw => ⟨(), rfl, trivial, hw.sel [] (by decide)⟩)
        ·
          obtain ⟨hid, hset⟩ := setR_eq (F := FoR es) (id := id) (s := s) (Decidable.not_not.1 h49)
          have hF1 : WF (FoR es1) d := by rw [hf1.1, hset]; exact hF.set id s
          refine WP.skip (onto_of ?_)
          refine WP.seq ?_
          refine WP.region ?_
          refine WPL.val (v_move (v := .pointer _) rfl) ?_
          refine WPL.val (v_move (v := .int .i64 _) rfl) ?_
          refine WPL.val (v_move (v := .int .i64 _) rfl) ?_
          refine WPL.ef (x_call Try.call31 (move_ct tp mb es1 hf1.2 hF1 id up 0) [2] [0, 1] rfl (fun w hw => trivial) (τ := fun _ => [_, _, _]) (fun _ => rfl)) (fun es2 => ?_)
          refine WPL.fact (fun hf2 => ?_)
          refine WPL.nil (onto_of ?_)
          refine WP.seq ?_
          refine WP.drawSel none [0, 1, 2] [(0, true), (1, true), (2, true), (3, true), (5, true), (4, false), (6, true), (7, true), (8, true), (9, true), (10, true), (12, true), (11, false), (13, true), (14, true), (15, true)] mixed (by kernel_rfl) (by decide) ?_
          refine WPD.take rfl (v_move (v := .bool _) rfl) ?_ (fun _ h => h.sel [0, 1, 2] (by decide))
          refine WPD.take rfl (v_move (v := .bool _) rfl) ?_ (fun _ h => h.sel [0, 1, 2] (by decide))
          refine WPD.take rfl (v_move (v := .pointer _) rfl) ?_ (fun _ h => h.sel [0, 1, 2] (by decide))
          refine WPD.take rfl (v_move (v := .int .i64 _) rfl) ?_ (fun _ h => h.sel [0, 1, 2] (by decide))
          refine WPD.take rfl (v_loadA (cs := s) Try.isAgg43 Try.sizeOf43 rfl (fun w hw => hw.cl_at (i := 0) rfl 0 (whole _)) (SOk.len hs)) ?_ (fun _ h => h.sel [0, 1, 2] (by decide))
          refine WPD.ef rfl (x_call Try.call20 (style_ct tp mb es2 hf2.2 id) [2] [0, 1] rfl (fun w hw => trivial) (τ := fun _ => [_, _, _]) (fun _ => rfl)) (fun _ _ _ h => h.2.sel [0, 1, 2] (by decide)) (fun _ => ?_)
          refine WPD.fact (fun _ => ?_)
          refine WPD.take rfl (v_is (b := true) (v_eqA leaf43 (by kernel_rfl) (fun _ => rfl) rfl rfl (hf2.2.styOk id).leaves hs.leaves) (by rw [hf2.1, sty_movR, hf1.1, hset, sty_set hid, if_pos rfl]; exact eqv_self _)) ?_ (fun _ h => h.sel [0, 1, 2] (by decide))
          refine WPD.take rfl (v_pickT (u := .bool _) rfl rfl) ?_ (fun _ h => h.sel [0, 1, 2] (by decide))
          refine WPD.take rfl (v_move (v := .bool _) rfl) ?_ (fun _ h => h.sel [0, 1, 2] (by decide))
          refine WPD.take rfl (v_move (v := .pointer _) rfl) ?_ (fun _ h => h.sel [0, 1, 2] (by decide))
          refine WPD.take rfl (v_move (v := .int .i64 _) rfl) ?_ (fun _ h => h.sel [0, 1, 2] (by decide))
          refine WPD.take rfl (v_loadA (cs := (styF zeroS (FoR es) other)) Try.isAgg43 Try.sizeOf43 rfl (fun w hw => hw.cl_at (i := 1) rfl 0 (whole _)) (SOk.len (hk.styOk other))) ?_ (fun _ h => h.sel [0, 1, 2] (by decide))
          refine WPD.ef rfl (x_call Try.call20 (style_ct tp mb es2 hf2.2 other) [2] [0, 1] rfl (fun w hw => trivial) (τ := fun _ => [_, _, _]) (fun _ => rfl)) (fun _ _ _ h => h.2.sel [0, 1, 2] (by decide)) (fun _ => ?_)
          refine WPD.fact (fun _ => ?_)
          refine WPD.take rfl (v_is (b := true) (v_eqA leaf43 (by kernel_rfl) (fun _ => rfl) rfl rfl (hf2.2.styOk other).leaves (hk.styOk other).leaves) (by rw [hf2.1, sty_movR, hf1.1, hset, sty_set hid, if_neg hio]; exact eqv_self _)) ?_ (fun _ h => h.sel [0, 1, 2] (by decide))
          refine WPD.take rfl (v_pickT (u := .bool _) rfl rfl) ?_ (fun _ h => h.sel [0, 1, 2] (by decide))
          refine WPD.take rfl (v_assign (v := .bool _) rfl) ?_ (fun _ h => h.sel [0, 1, 2] (by decide))
          refine WPD.nil (onto_of ?_)
          exact WP.ret1 Try.results8 (fun _ h => h) (fun w hw => ⟨(), rfl, trivial, hw.sel [] (by decide)⟩)
end Go.Proofs.Ytmjdmlgdffoimaa
