/- The law FlexAlike: the walk. -/
import Derived.Test.YtabdcfobdehhiaaFlexLawF
namespace Go.Proofs.Ytabdcfobdehhiaa
open Go.RowKit

theorem sum_rep (n : Nat) (c : Int) : ∀ k : Nat, k ≤ n → ((List.replicate n c).take k).sum = k * c
  | 0, _ => by simp
  | k + 1, hk => by
    have ih := sum_rep n c k (by omega)
    rw [take_snoc (l := List.replicate n c) (i := k) (e := c) (by rw [List.getElem?_replicate, if_pos (by omega)]), List.sum_append, ih, Int.natCast_add, Int.add_mul]; simp
theorem tot_rep (x : FItem) (n : Nat) : tot (List.replicate n x) n = n * basic x := by
  unfold tot
  rw [List.map_take, List.map_replicate]
  exact sum_rep n (basic x) n (Nat.le_refl _)
theorem alike_sizes {x : FItem} {n : Nat} (room : Int) (hn : 1 ≤ n ∧ n ≤ 64) : ∃ c : Int, ∀ (i : Nat) (s : Int), (sizes (List.replicate n x) room)[i]? = some s → c ≤ s ∧ s ≤ c + 1 := by
  have hlot := lot_bd room
  have hX : (0 ≤ x.sound.base ∧ x.sound.base ≤ 1048576) ∧ (0 ≤ x.sound.low ∧ x.sound.low ≤ 1048576) ∧ (0 ≤ x.sound.high ∧ x.sound.high ≤ 1048576) ∧ (0 ≤ x.sound.grow ∧ x.sound.grow ≤ 1000) ∧ (0 ≤ x.sound.shrink ∧ x.sound.shrink ≤ 1000) :=
    ⟨cl20_bd _, cl20_bd _, cl20_bd _, cl1k_bd _, cl1k_bd _⟩
  unfold sizes
  generalize hg : grows (List.replicate n x) room = g
  have hgr : g = decide (n * basic x < lot room) := by rw [← hg]; unfold grows; rw [List.length_replicate, tot_rep]
  rw [List.map_replicate]
  have key : ∃ c : Int, ∀ (i : Nat) (e : FE), (final g (lot room) (List.replicate n (start g x)))[i]? = some e → c ≤ e.size ∧ e.size ≤ c + 1 := by
    cases hf : (start g x).fr with
    | true =>
      refine ⟨basic x, fun i e he => ?_⟩
      have hat : ∀ (i : Nat) (e : FE), (List.replicate n (start g x))[i]? = some e → e = start g x := fun i e he => List.eq_of_mem_replicate (List.mem_of_getElem? he)
      rw [final_done (kth_none (fun i e he => by rw [hat i e he]; exact hf) _)] at he
      rw [hat i e he]
      exact ⟨Int.le_refl _, by show basic x ≤ basic x + 1; omega⟩
    | false =>
      have hst : start g x = ⟨x.sound, basic x, false⟩ := by rw [← hf]; rfl
      rw [hst]
      refine alike_go hn ⟨hlot.1, hlot.2⟩ hX (by rw [fit_sound]) ?_
      unfold start at hf
      cases hgc : g with
      | true =>
        rw [hgc] at hgr hf
        have h1 := of_decide_eq_true hgr.symm
        simp only [if_true, Bool.or_eq_false_iff, decide_eq_false_iff_not] at hf ⊢
        omega
      | false =>
        rw [hgc] at hgr hf
        have h1 := of_decide_eq_false hgr.symm
        simp only [Bool.false_eq_true, if_false, Bool.or_eq_false_iff, decide_eq_false_iff_not] at hf ⊢
        omega
  obtain ⟨c, hc⟩ := key
  refine ⟨c, fun i s hs => ?_⟩
  rw [List.getElem?_map] at hs
  cases he : (final g (lot room) (List.replicate n (start g x)))[i]? with
  | none => rw [he] at hs; cases hs
  | some e =>
    rw [he] at hs
    obtain rfl : e.size = s := by simpa using hs
    exact hc i e he
theorem rep_snoc {α : Type} (k : Nat) (x : α) : List.replicate (k + 1) x = List.replicate k x ++ [x] := List.replicate_succ'

set_option maxRecDepth 100000 in
theorem lawAlike_ct (x : FItem) (n room : Int) :
    Ct Try.prog 7 #[.agg x.enc.toArray, .int .i64 n, .int .i64 room] [] (fun _ => True) (X := Unit) (fun _ => .bool true) (fun _ => True) (fun _ => []) := by
  refine Ct.intro Try.func7 rfl Try.ntmps7 (by simp) (fun w0 _ => ?_)
  refine WP.seq ?_
  refine WP.region ?_
  refine WPL.ef (x_boxA (us := [.int .i64 _, .int .i64 _, .int .i64 _, .int .i64 _, .int .i64 _]) (σ' := fun _ => [_]) rfl (fun _ => rfl)) (fun b3 => ?_)
  refine WPL.val (v_assign (v := .bool false) rfl) ?_
  refine WPL.nil (onto_of ?_)
  refine WP.seq ?_
  refine WP.region ?_
  refine WPL.ef (x_call Try.call15 works_ct [] [0] rfl (fun w hw => trivial) (τ := fun _ => [_]) (fun _ => rfl)) (fun _ => ?_)
  refine WPL.fact (fun _ => ?_)
  refine WPL.val (v_assign (v := .bool _) rfl) ?_
  refine WPL.nil (onto_of ?_)
  refine WP.seq ?_
  refine WP.seq ?_
  refine WP.region ?_
  refine WPL.val (v_move (v := .bool _) rfl) ?_
  refine WPL.val (v_not rfl) ?_
  refine WPL.nil (onto_of ?_)
  refine WP.condF rfl ?_
  refine WP.skip (onto_of ?_)
  refine WP.seq ?_
  refine WP.seq ?_
  refine WP.region ?_
  refine WPL.val (v_move (v := .int .i64 _) rfl) ?_
  refine WPL.val (v_lss rfl rfl) ?_
  refine WPL.val (v_move (v := .bool _) rfl) ?_
  refine WPL.split 19 rfl (fun h19 => ?_) (fun h19 => ?_)
  ·
    refine WPL.skipG ?_
    refine WPL.skipG ?_
    refine WPL.val (v_pickT (u := .bool _) rfl rfl) ?_
    refine WPL.nil (onto_of ?_)
    refine WP.condT rfl ?_
    refine WP.seq ?_
    refine WP.region ?_
    refine WPL.val (v_move (v := .bool _) rfl) ?_
    refine WPL.val (v_assign (v := .bool _) rfl) ?_
    refine WPL.nil (onto_of ?_)
    exact WP.ret1 Try.results7 (fun _ h => h) (fun w hw => ⟨(), rfl, trivial, hw.sel [] (by decide)⟩)
  ·
    refine WPL.valG (v_move (v := .int .i64 _) rfl) ?_
    refine WPL.valG (v_gtr rfl rfl) ?_
    refine WPL.val (v_pickF (v := .bool _) rfl rfl) ?_
    refine WPL.nil (onto_of ?_)
    refine WP.condP rfl (fun h22 => ?_) (fun h22 => ?_)
    ·
      refine WP.seq ?_
      refine WP.region ?_
      refine WPL.val (v_move (v := .bool _) rfl) ?_
      refine WPL.val (v_assign (v := .bool _) rfl) ?_
      refine WPL.nil (onto_of ?_)
      exact WP.ret1 Try.results7 (fun _ h => h) (fun w hw => ⟨(), rfl, trivial, hw.sel [] (by decide)⟩)
    ·
      obtain ⟨N, rfl⟩ : ∃ N : Nat, n = (N : Int) := ⟨n.toNat, by omega⟩
      refine WP.skip (onto_of ?_)
      refine WP.seq ?_
      refine WP.region ?_
      refine WPL.val (v_assign (v := .slice none 0 0) rfl) ?_
      refine WPL.nil (onto_of ?_)
      refine WP.seq ?_
      refine WP.seq ?_
      refine WP.pre ?_ (fun w hw => hw.nilRow 28 5)
      refine WP.region ?_
      refine WPL.val (v_assign (v := .int .i64 (0)) rfl) ?_
      refine WPL.nil (onto_of ?_)
      refine WP.block ?_
      refine WP.loopK (X := Nat × Option Addr × Nat) [1, 2, 3, 7] (fun p => [(8, itmV p.2.1 p.2.2 (List.replicate p.1 x)), (9, .int .i64 (p.1 : Int))]) (fun p w => p.1 ≤ N ∧ St w0 (foots []) [.cl b3 28 [.int .i64 x.base, .int .i64 x.low, .int .i64 x.high, .int .i64 x.grow, .int .i64 x.shrink], itmI p.2.1 p.2.2 (List.replicate p.1 x)] w) (fun p => N - p.1) (0, none, 0) ⟨rfl, rfl, trivial⟩ (fun w hw => ⟨by omega, hw⟩) (fun p ρ0 => ?_)
      obtain ⟨k, A1, c1⟩ := p
      dsimp only
      refine WP.fact (fun hk => ?_)
      refine WP.seq ?_
      refine WP.seq ?_
      refine WP.region ?_
      refine WPL.val (v_move (v := .int .i64 _) rfl) ?_
      refine WPL.val (v_move (v := .int .i64 _) rfl) ?_
      refine WPL.val (v_lss rfl rfl) ?_
      refine WPL.nil (onto_of ?_)
      refine WP.condP rfl (fun h26 => ?_) (fun h26 => ?_)
      ·
        have hlr : (List.replicate k x).length = k := by simp
        refine WP.skip (onto_of ?_)
        refine WP.seq ?_
        refine WP.block ?_
        refine WP.region ?_
        refine WPL.val (v_move (v := .slice _ _ _) rfl) ?_
        refine WPL.val (v_loadA (cs := [.int .i64 _, .int .i64 _, .int .i64 _, .int .i64 _, .int .i64 _]) Try.isAgg28 Try.sizeOf28 rfl (fun w hw => hw.cl_at (i := 0) rfl _ rfl)) ?_
        refine WPL.ef (x_buildSlice (us := [.int .i64 _, .int .i64 _, .int .i64 _, .int .i64 _, .int .i64 _]) (σ' := fun _ => [_, _, _]) Try.underlying22 Try.sizeOf28 Try.zeroValue28 rfl rfl rfl (by decide) (by decide) (fun _ => rfl)) (fun g31 => ?_)
        refine WPL.ef (x_append (sz := 5) (σ' := fun _ => [_, _, _]) Try.underlying22 info28 rfl (by decide) rfl rfl (i := 1) rfl (fun w hw => hw.src_row (i := 2) rfl) rfl (by simp [Value.oneCell']) (by omega) (by omega) (fun _ => rfl)) (fun ⟨A32, c32⟩ => ?_)
        refine WPL.val (v_assign (v := .slice _ _ _) rfl) ?_
        refine WPL.nil (onto_of ?_)
        refine WP.region ?_
        refine WPL.val (v_move (v := .int .i64 _) rfl) ?_
        refine WPL.val (v_add rfl rfl (by omega)) ?_
        refine WPL.val (v_assign (v := .int .i64 _) rfl) ?_
        exact WPL.nil fun w hw => ⟨rfl, (k + 1, A32, c32), (by simp only; omega), ⟨(by rw [rep_snoc, itmV_snoc]; rfl), rfl, (via (.int .i64 _) rfl rfl), (via (.int .i64 _) rfl rfl), rfl, (via (.bool _) rfl rfl), trivial⟩, by simp only; omega, by simp only [rep_snoc, itmI_snoc]; exact (hw.sel [0, 1] (by decide))⟩
      ·
        obtain rfl : N = k := by omega
        refine WP.exit (onto_of ?_)
        refine WP.seq ?_
        refine WP.region ?_
        refine WPL.val (v_move (v := .slice _ _ _) rfl) ?_
        refine WPL.val (v_move (v := .int .i64 _) rfl) ?_
        refine WPL.ef (x_call Try.call20 (sizes_ct A1 c1 (List.replicate N x) room (by simp; omega)) [] [0, 1] rfl (fun w hw => hw.rd_row (i := 1) rfl rfl (fun _ => rfl)) (τ := fun _ => [_, _, _]) (fun _ => rfl)) (fun ⟨A2, c2⟩ => ?_)
        refine WPL.fact (fun _ => ?_)
        refine WPL.val (v_assign (v := .slice _ _ _) rfl) ?_
        refine WPL.nil (onto_of ?_)
        refine WP.seq ?_
        refine WP.region ?_
        refine WPL.val (v_assign (v := .int .i64 (1073741824)) rfl) ?_
        refine WPL.nil (onto_of ?_)
        refine WP.seq ?_
        refine WP.region ?_
        refine WPL.val (v_assign (v := .int .i64 (0)) rfl) ?_
        refine WPL.nil (onto_of ?_)
        refine WP.seq ?_
        refine WP.seq ?_
        obtain ⟨c, hc⟩ := alike_sizes (x := x) room (show 1 ≤ N ∧ N ≤ 64 by omega)
        have hsl := sizes_length (List.replicate N x) room
        rw [List.length_replicate] at hsl
        refine WP.region ?_
        refine WPL.val (v_assign (v := .int .i64 (0)) rfl) ?_
        refine WPL.nil (onto_of ?_)
        refine WP.block ?_
        refine WP.loopK (X := Nat × Int × Int) [1, 7, 10] (fun p => [(11, .int .i64 p.2.1), (12, .int .i64 p.2.2), (13, .int .i64 (p.1 : Int))]) (fun p w => (p.1 ≤ N ∧ ((p.1 = 0 ∧ p.2.1 = 1073741824 ∧ p.2.2 = 0) ∨ (1 ≤ p.1 ∧ (c ≤ p.2.1 ∧ p.2.1 ≤ c + 1) ∧ (c ≤ p.2.2 ∧ p.2.2 ≤ c + 1) ∧ (0 ≤ p.2.1 ∧ p.2.1 ≤ 1048576) ∧ (0 ≤ p.2.2 ∧ p.2.2 ≤ 1048576)))) ∧ St w0 (foots []) [.row 3 1 A2 (List.replicate N x).length c2 ((sizes (List.replicate N x) room).map (Value.int .i64))] w) (fun p => N - p.1) (0, 1073741824, 0) ⟨rfl, rfl, rfl, trivial⟩ (fun w hw => ⟨⟨by omega, .inl ⟨rfl, rfl, rfl⟩⟩, hw.sel [2] (by decide)⟩) (fun p ρ0 => ?_)
        obtain ⟨k, lv, hv⟩ := p
        dsimp only
        refine WP.fact (fun ⟨hk, hin⟩ => ?_)
        refine WP.seq ?_
        refine WP.seq ?_
        refine WP.region ?_
        refine WPL.val (v_move (v := .int .i64 _) rfl) ?_
        refine WPL.val (v_move (v := .slice _ _ _) rfl) ?_
        refine WPL.val (v_len Try.underlying32 rfl) ?_
        refine WPL.val (v_lss rfl rfl) ?_
        refine WPL.nil (onto_of ?_)
        refine WP.condP rfl (fun h39 => ?_) (fun h39 => ?_)
        ·
          have hlr : (List.replicate N x).length = N := by simp
          have hkl : k < N := by omega
          obtain ⟨sv, hs⟩ : ∃ sv, (sizes (List.replicate N x) room)[k]? = some sv := ⟨_, List.getElem?_eq_getElem (by omega)⟩
          have hsb := sizes_bd hs
          have hcs := hc k sv hs
          refine WP.holds (fun w hw => hw.row_pos (i := 0) rfl (by omega)) (fun ⟨sb, hA⟩ => ?_)
          subst hA
          refine WP.skip (onto_of ?_)
          refine WP.seq ?_
          refine WP.block ?_
          refine WP.seq ?_
          refine WP.region ?_
          refine WPL.val (v_move (v := .int .i64 _) rfl) ?_
          refine WPL.val (v_move (v := .slice _ _ _) rfl) ?_
          refine WPL.val (v_move (v := .int .i64 _) rfl) ?_
          refine WPL.val (v_index Try.underlying32 Try.sizeOf3 rfl rfl rfl (by omega)) ?_
          refine WPL.val (v_load1 (u := .int .i64 _) Try.isAgg3 rfl (fun w hw => hw.row_at1 (i := 0) rfl (ints_at hs) (by omega))) ?_
          refine WPL.val (v_min rfl rfl) ?_
          refine WPL.val (v_assign (v := .int .i64 _) rfl) ?_
          refine WPL.nil (onto_of ?_)
          refine WP.region ?_
          refine WPL.val (v_move (v := .int .i64 _) rfl) ?_
          refine WPL.val (v_move (v := .slice _ _ _) rfl) ?_
          refine WPL.val (v_move (v := .int .i64 _) rfl) ?_
          refine WPL.val (v_index Try.underlying32 Try.sizeOf3 rfl rfl rfl (by omega)) ?_
          refine WPL.val (v_load1 (u := .int .i64 _) Try.isAgg3 rfl (fun w hw => hw.row_at1 (i := 0) rfl (ints_at hs) (by omega))) ?_
          refine WPL.val (v_max rfl rfl) ?_
          refine WPL.val (v_assign (v := .int .i64 _) rfl) ?_
          refine WPL.nil (onto_of ?_)
          refine WP.region ?_
          refine WPL.val (v_move (v := .int .i64 _) rfl) ?_
          refine WPL.val (v_add rfl rfl (by omega)) ?_
          refine WPL.val (v_assign (v := .int .i64 _) rfl) ?_
          exact WPL.nil fun w hw => ⟨rfl, (k + 1, min lv sv, max hv sv), (by simp only; omega), ⟨rfl, rfl, rfl, (via (.int .i64 _) rfl rfl), (via (.bool _) rfl rfl), (via (.slice _ _ _) rfl rfl), trivial⟩, ⟨by simp only; omega, by simp only; omega⟩, hw⟩
        ·
          have hlr : (List.replicate N x).length = N := by simp
          have hkN : k = N := by omega
          refine WP.exit (onto_of ?_)
          refine WP.seq ?_
          refine WP.region ?_
          refine WPL.val (v_move (v := .bool _) rfl) ?_
          refine WPL.val (v_move (v := .bool _) rfl) ?_
          refine WPL.valG (v_move (v := .slice _ _ _) rfl) ?_
          refine WPL.valG (v_len Try.underlying32 rfl) ?_
          refine WPL.valG (v_move (v := .int .i64 _) rfl) ?_
          refine WPL.valG (v_lit (b := true) (v_eql rfl rfl) (decide_eq_true (by simp))) ?_
          refine WPL.val (v_pickT (u := .bool _) rfl rfl) ?_
          refine WPL.val (v_move (v := .bool _) rfl) ?_
          refine WPL.valG (v_move (v := .int .i64 _) rfl) ?_
          refine WPL.valG (v_move (v := .int .i64 _) rfl) ?_
          refine WPL.valG (v_sub rfl rfl (by omega)) ?_
          refine WPL.valG (v_lit (b := true) (v_leq rfl rfl) (decide_eq_true (by omega))) ?_
          refine WPL.val (v_pickT (u := .bool _) rfl rfl) ?_
          refine WPL.val (v_assign (v := .bool _) rfl) ?_
          refine WPL.nil (onto_of ?_)
          exact WP.ret1 Try.results7 (fun _ h => h) (fun w hw => ⟨(), rfl, trivial, hw.sel [] (by decide)⟩)
end Go.Proofs.Ytabdcfobdehhiaa
