/- The document's layer 8, but for Sizes; and Row. -/
import Derived.Test.YtabdcfobdehhiaaFlexItem
namespace Go.Proofs.Ytabdcfobdehhiaa
open Go.RowKit

theorem to_any (n m : Int) (w : World) : Calls Try.prog 35 #[.int .i64 n, .int .i64 m] w fun e w' => e = .returned (.int .i64 (min (max n 0) m)) ∧ w = w' := by
  refine enter_pure Try.func35 rfl Try.ntmps35 (by simp) ?_
  refine WP.seq ?_
  refine WP.region ?_
  refine WPL.val (v_assign (v := .int .i64 (0)) rfl) ?_
  refine WPL.nil (onto_of ?_)
  refine WP.seq ?_
  refine WP.region ?_
  refine WPL.val (v_move (v := .int .i64 _) rfl) ?_
  refine WPL.val (v_max rfl rfl) ?_
  refine WPL.val (v_move (v := .int .i64 _) rfl) ?_
  refine WPL.val (v_min rfl rfl) ?_
  refine WPL.val (v_assign (v := .int .i64 _) rfl) ?_
  refine WPL.nil (onto_of ?_)
  exact WP.ret1 Try.results35 (fun _ h => h) (fun w hw => ⟨rfl, hw.symm⟩)
theorem to_eq {n m v : Int} (h : min (max n 0) m = v) (w : World) : Calls Try.prog 35 #[.int .i64 n, .int .i64 m] w fun e w' => e = .returned (.int .i64 v) ∧ w = w' := by
  subst h; exact to_any n m w
theorem to_20 (n : Int) (w : World) : Calls Try.prog 35 #[.int .i64 n, .int .i64 1048576] w fun e w' => e = .returned (.int .i64 (cl20 n)) ∧ w = w' := to_eq (by unfold cl20; omega) w
theorem to_1k (n : Int) (w : World) : Calls Try.prog 35 #[.int .i64 n, .int .i64 1000] w fun e w' => e = .returned (.int .i64 (cl1k n)) ∧ w = w' := to_eq (by unfold cl1k; omega) w
theorem to_lot (n : Int) (w : World) : Calls Try.prog 35 #[.int .i64 n, .int .i64 67108864] w fun e w' => e = .returned (.int .i64 (lot n)) ∧ w = w' := to_eq (by unfold lot; omega) w
theorem to_wgt (n : Int) (w : World) : Calls Try.prog 35 #[.int .i64 n, .int .i64 1073741824] w fun e w' => e = .returned (.int .i64 (wgt n)) ∧ w = w' := to_eq (by unfold wgt; omega) w
theorem rsound_ct (x : FItem) : Ct Try.prog 32 #[.agg x.enc.toArray] [] (fun _ => True) (X := Unit) (fun _ => .agg x.sound.enc.toArray) (fun _ => True) (fun _ => []) := by
  refine Ct.intro Try.func32 rfl Try.ntmps32 (by simp) (fun w0 _ => ?_)
  refine WP.seq ?_
  refine WP.region ?_
  refine WPL.ef (x_boxA (us := [.int .i64 _, .int .i64 _, .int .i64 _, .int .i64 _, .int .i64 _]) (σ' := fun _ => [_]) rfl (fun _ => rfl)) (fun b1 => ?_)
  refine WPL.ef (x_alloc (us := [_, _, _, _, _]) (σ' := fun _ => [_, _]) Try.zeroValue30 rfl (fun _ => rfl)) (fun b2 => ?_)
  refine WPL.nil (onto_of ?_)
  refine WP.seq ?_
  refine WP.drawS (some 16) [(0, true), (1, true), (2, true), (3, true), (4, true), (5, true), (6, true), (7, true), (8, true), (9, true), (10, true), (11, true), (12, true), (13, true), (14, true), (15, true), (16, false)] mixed (by kernel_rfl) (by decide) (fun _ h => h.drawn) ?_
  refine WPD.take rfl (v_fieldL (o' := 0) Try.underlying30 rfl Try.sizeOf3 rfl rfl) ?_ (fun _ h => h)
  refine WPD.take rfl (v_load1 (u := .int .i64 _) Try.isAgg3 rfl (fun w hw => hw.cl_at (i := 0) rfl _ rfl)) ?_ (fun _ h => h)
  refine WPD.take rfl (v_call Try.call35 (fun w hw => to_20 _ _)) ?_ (fun _ h => h)
  refine WPD.take rfl (v_fieldL (o' := 1) Try.underlying30 rfl Try.sizeOf3 rfl rfl) ?_ (fun _ h => h)
  refine WPD.take rfl (v_load1 (u := .int .i64 _) Try.isAgg3 rfl (fun w hw => hw.cl_at (i := 0) rfl _ rfl)) ?_ (fun _ h => h)
  refine WPD.take rfl (v_call Try.call35 (fun w hw => to_20 _ _)) ?_ (fun _ h => h)
  refine WPD.take rfl (v_fieldL (o' := 2) Try.underlying30 rfl Try.sizeOf3 rfl rfl) ?_ (fun _ h => h)
  refine WPD.take rfl (v_load1 (u := .int .i64 _) Try.isAgg3 rfl (fun w hw => hw.cl_at (i := 0) rfl _ rfl)) ?_ (fun _ h => h)
  refine WPD.take rfl (v_call Try.call35 (fun w hw => to_20 _ _)) ?_ (fun _ h => h)
  refine WPD.take rfl (v_fieldL (o' := 3) Try.underlying30 rfl Try.sizeOf3 rfl rfl) ?_ (fun _ h => h)
  refine WPD.take rfl (v_load1 (u := .int .i64 _) Try.isAgg3 rfl (fun w hw => hw.cl_at (i := 0) rfl _ rfl)) ?_ (fun _ h => h)
  refine WPD.take rfl (v_call Try.call35 (fun w hw => to_1k _ _)) ?_ (fun _ h => h)
  refine WPD.take rfl (v_fieldL (o' := 4) Try.underlying30 rfl Try.sizeOf3 rfl rfl) ?_ (fun _ h => h)
  refine WPD.take rfl (v_load1 (u := .int .i64 _) Try.isAgg3 rfl (fun w hw => hw.cl_at (i := 0) rfl _ rfl)) ?_ (fun _ h => h)
  refine WPD.take rfl (v_call Try.call35 (fun w hw => to_1k _ _)) ?_ (fun _ h => h)
  refine WPD.take rfl (v_struct (us := [.int .i64 _, .int .i64 _, .int .i64 _, .int .i64 _, .int .i64 _]) (pl := [(0, 1), (1, 1), (2, 1), (3, 1), (4, 1)]) Try.underlying30 Try.zeroValue30 rfl (by kernel_rfl) rfl rfl (by kernel_rfl)) ?_ (fun _ h => h)
  refine WPD.ef0 rfl (x_storeA (us := [.int .i64 _, .int .i64 _, .int .i64 _, .int .i64 _, .int .i64 _]) (σ' := [_, .cl _ _ [_, _, _, _, _]]) Try.sizeOf30 rfl rfl (i := 1) rfl (Nat.le_of_ble_eq_true rfl) rfl (by simp [Value.oneCell'])) (fun h => absurd rfl h) (fun _ => ?_)
  refine WPD.nil (onto_of ?_)
  exact WP.retC (us := [_, _, _, _, _]) Try.results32 rfl Try.isAgg30 Try.sizeOf30 (fun w hw => hw.cl_at (i := 1) rfl 0 rfl) rfl (fun _ h => h) (fun w hw => ⟨(), rfl, trivial, hw.sel [] (by decide)⟩)
theorem rfit_ct (x : FItem) (n : Int) : Ct Try.prog 18 #[.agg x.enc.toArray, .int .i64 n] [] (fun _ => True) (X := Unit) (fun _ => .int .i64 (x.fit n)) (fun _ => True) (fun _ => []) := by
  refine Ct.intro Try.func18 rfl Try.ntmps18 (by simp) (fun w0 _ => ?_)
  refine WP.seq ?_
  refine WP.region ?_
  refine WPL.ef (x_boxA (us := [.int .i64 _, .int .i64 _, .int .i64 _, .int .i64 _, .int .i64 _]) (σ' := fun _ => [_]) rfl (fun _ => rfl)) (fun b2 => ?_)
  refine WPL.val (v_assign (v := .int .i64 (0)) rfl) ?_
  refine WPL.nil (onto_of ?_)
  refine WP.seq ?_
  refine WP.region ?_
  refine WPL.val (v_loadA (cs := [.int .i64 _, .int .i64 _, .int .i64 _, .int .i64 _, .int .i64 _]) Try.isAgg30 Try.sizeOf30 rfl (fun w hw => hw.cl_at (i := 0) rfl _ rfl)) ?_
  refine WPL.ef (x_call Try.call32 (rsound_ct x) [] [0] rfl (fun w hw => trivial) (τ := fun _ => [_]) (fun _ => rfl)) (fun _ => ?_)
  refine WPL.fact (fun _ => ?_)
  refine WPL.ef0 (x_storeA (us := [.int .i64 _, .int .i64 _, .int .i64 _, .int .i64 _, .int .i64 _]) (σ' := [.cl _ _ [_, _, _, _, _]]) Try.sizeOf30 rfl rfl (i := 0) rfl (Nat.le_of_ble_eq_true rfl) rfl (by simp [Value.oneCell'])) (fun _ => ?_)
  refine WPL.nil (onto_of ?_)
  refine WP.seq ?_
  refine WP.region ?_
  refine WPL.val (v_fieldL (o' := 1) Try.underlying30 rfl Try.sizeOf3 rfl rfl) ?_
  refine WPL.val (v_load1 (u := .int .i64 _) Try.isAgg3 rfl (fun w hw => hw.cl_at (i := 0) rfl _ rfl)) ?_
  refine WPL.val (v_move (v := .int .i64 _) rfl) ?_
  refine WPL.val (v_fieldL (o' := 2) Try.underlying30 rfl Try.sizeOf3 rfl rfl) ?_
  refine WPL.val (v_load1 (u := .int .i64 _) Try.isAgg3 rfl (fun w hw => hw.cl_at (i := 0) rfl _ rfl)) ?_
  refine WPL.val (v_min rfl rfl) ?_
  refine WPL.val (v_max rfl rfl) ?_
  refine WPL.val (v_assign (v := .int .i64 _) rfl) ?_
  refine WPL.nil (onto_of ?_)
  exact WP.ret1 Try.results18 (fun _ h => h) (fun w hw => ⟨(), rfl, trivial, hw.sel [] (by decide)⟩)
theorem row_ct (A B : Option Addr) (c d : Nat) (zs ys : List Int) (hs : zs.length ≤ 9223372036854775807) : Ct Try.prog 19 #[.slice A zs.length c, .slice B ys.length d] [] (fun w => RdI w A zs ∧ RdI w B ys) (X := Unit) (fun _ => .bool (decide (zs = ys))) (fun _ => True) (fun _ => []) := by
  refine Ct.intro Try.func19 rfl Try.ntmps19 (by simp) (fun w0 ⟨hz, hy⟩ => ?_)
  refine WP.seq ?_
  refine WP.region ?_
  refine WPL.val (v_assign (v := .bool false) rfl) ?_
  refine WPL.nil (onto_of ?_)
  refine WP.seq ?_
  refine WP.seq ?_
  refine WP.region ?_
  refine WPL.val (v_move (v := .slice _ _ _) rfl) ?_
  refine WPL.val (v_len Try.underlying32 rfl) ?_
  refine WPL.val (v_move (v := .slice _ _ _) rfl) ?_
  refine WPL.val (v_len Try.underlying32 rfl) ?_
  refine WPL.val (v_neq rfl rfl) ?_
  refine WPL.nil (onto_of ?_)
  refine WP.condP rfl (fun h10 => ?_) (fun h10 => ?_)
  ·
    have hne : ¬ zs = ys := fun e => h10 (by rw [e])
    refine WP.seq ?_
    refine WP.region ?_
    refine WPL.val (v_assign (v := .bool false) rfl) ?_
    refine WPL.nil (onto_of ?_)
    exact WP.ret1 Try.results19 (fun _ h => h) (fun w hw => ⟨(), by first | exact congrArg Value.bool (decide_eq_false hne).symm | exact congrArg Value.bool (decide_eq_true he).symm, trivial, hw⟩)
  ·
    have hll : zs.length = ys.length := by omega
    refine WP.skip (onto_of ?_)
    refine WP.seq ?_
    refine WP.seq ?_
    refine WP.region ?_
    refine WPL.val (v_assign (v := .int .i64 (0)) rfl) ?_
    refine WPL.nil (onto_of ?_)
    refine WP.block ?_
    refine WP.loopK (X := Nat) [0, 1] (fun k => [(5, .int .i64 (k : Int))]) (fun k w => (k ≤ zs.length ∧ zs.take k = ys.take k) ∧ St w0 (foots []) [] w) (fun k => zs.length - k) 0 ⟨rfl, trivial⟩ (fun w hw => ⟨⟨by omega, by simp⟩, hw⟩) (fun k ρ0 => ?_)
    refine WP.fact (fun ⟨hk, ht⟩ => ?_)
    refine WP.seq ?_
    refine WP.seq ?_
    refine WP.region ?_
    refine WPL.val (v_move (v := .int .i64 _) rfl) ?_
    refine WPL.val (v_move (v := .slice _ _ _) rfl) ?_
    refine WPL.val (v_len Try.underlying32 rfl) ?_
    refine WPL.val (v_lss rfl rfl) ?_
    refine WPL.nil (onto_of ?_)
    refine WP.condP rfl (fun h14 => ?_) (fun h14 => ?_)
    ·
      have hk' : k < zs.length := by omega
      obtain ⟨x, hx⟩ : ∃ x, zs[k]? = some x := ⟨_, List.getElem?_eq_getElem hk'⟩
      obtain ⟨y, hy'⟩ : ∃ y, ys[k]? = some y := ⟨_, List.getElem?_eq_getElem (by omega)⟩
      obtain ⟨b, o, rfl, hc⟩ := hz k x hx
      obtain ⟨b', o', rfl, hc'⟩ := hy k y hy'
      refine WP.skip (onto_of ?_)
      refine WP.seq ?_
      refine WP.block ?_
      refine WP.seq ?_
      refine WP.drawS none [(0, true), (1, true), (2, true), (3, true), (4, true), (5, true), (6, true), (7, true), (8, true)] mixed (by kernel_rfl) (by decide) (fun _ h => h.drawn) ?_
      refine WPD.take rfl (v_move (v := .slice _ _ _) rfl) ?_ (fun _ h => h)
      refine WPD.take rfl (v_move (v := .int .i64 _) rfl) ?_ (fun _ h => h)
      refine WPD.take rfl (v_index Try.underlying32 Try.sizeOf3 rfl rfl rfl (by omega)) ?_ (fun _ h => h)
      refine WPD.take rfl (v_load1 (u := .int .i64 _) Try.isAgg3 rfl (fun w hw => hw.old_at hc (not_foots_nil _))) ?_ (fun _ h => h)
      refine WPD.take rfl (v_move (v := .slice _ _ _) rfl) ?_ (fun _ h => h)
      refine WPD.take rfl (v_move (v := .int .i64 _) rfl) ?_ (fun _ h => h)
      refine WPD.take rfl (v_index Try.underlying32 Try.sizeOf3 rfl rfl rfl (by omega)) ?_ (fun _ h => h)
      refine WPD.take rfl (v_load1 (u := .int .i64 _) Try.isAgg3 rfl (fun w hw => hw.old_at hc' (not_foots_nil _))) ?_ (fun _ h => h)
      refine WPD.take rfl (v_neq rfl rfl) ?_ (fun _ h => h)
      refine WPD.nil (onto_of ?_)
      refine WP.condP rfl (fun h25 => ?_) (fun h25 => ?_)
      ·
        have hne : ¬ zs = ys := fun e => h25 (by rw [e, hy'] at hx; exact (Option.some.inj hx).symm)
        refine WP.seq ?_
        refine WP.region ?_
        refine WPL.val (v_assign (v := .bool false) rfl) ?_
        refine WPL.nil (onto_of ?_)
        exact WP.ret1 Try.results19 (fun _ h => h) (fun w hw => ⟨(), by first | exact congrArg Value.bool (decide_eq_false hne).symm | exact congrArg Value.bool (decide_eq_true he).symm, trivial, hw⟩)
      ·
        have hx2 : ys[k]? = some x := by rw [hy', show y = x by omega]
        refine WP.skip (onto_of ?_)
        refine WP.region ?_
        refine WPL.val (v_move (v := .int .i64 _) rfl) ?_
        refine WPL.val (v_add rfl rfl (by omega)) ?_
        refine WPL.val (v_assign (v := .int .i64 _) rfl) ?_
        exact WPL.nil fun w hw => ⟨rfl, k + 1, (by omega), ⟨rfl, (via (.slice _ _ _) rfl rfl), (via (.slice _ _ _) rfl rfl), trivial⟩, ⟨by omega, take_more ht hx hx2⟩, hw⟩
    ·
      have he : zs = ys := take_all ht (by omega) hll
      refine WP.exit (onto_of ?_)
      refine WP.seq ?_
      refine WP.region ?_
      refine WPL.val (v_assign (v := .bool true) rfl) ?_
      refine WPL.nil (onto_of ?_)
      exact WP.ret1 Try.results19 (fun _ h => h) (fun w hw => ⟨(), by first | exact congrArg Value.bool (decide_eq_false hne).symm | exact congrArg Value.bool (decide_eq_true he).symm, trivial, hw⟩)
set_option maxRecDepth 100000 in
theorem rshare_ct (A : Option Addr) (c : Nat) (n : Int) (zs : List Int) (hl : zs.length ≤ 64) :
    Ct Try.prog 23 #[.int .i64 n, .slice A zs.length c] [] (fun w => RdI w A zs) (X := Option Addr × Nat) (fun p => .slice p.1 zs.length p.2) (fun _ => True)
      (fun p => [.row 3 1 p.1 zs.length p.2 ((share n zs).map (Value.int .i64))]) := by
  refine Ct.intro Try.func23 rfl Try.ntmps23 (by simp) (fun w0 hz => ?_)
  refine WP.seq ?_
  refine WP.region ?_
  refine WPL.val (v_assign (v := .slice none 0 0) rfl) ?_
  refine WPL.nil (onto_of ?_)
  refine WP.seq ?_
  refine WP.seq ?_
  refine WP.region ?_
  refine WPL.val (v_move (v := .slice _ _ _) rfl) ?_
  refine WPL.val (v_len Try.underlying32 rfl) ?_
  refine WPL.val (v_gtr rfl rfl) ?_
  refine WPL.nil (onto_of ?_)
  refine WP.condP rfl (fun h => absurd h (by omega)) (fun h14 => ?_)
  refine WP.skip (onto_of ?_)
  refine WP.seq ?_
  refine WP.region ?_
  refine WPL.val (v_move (v := .int .i64 _) rfl) ?_
  refine WPL.val (v_call Try.call35 (fun w hw => to_lot _ _)) ?_
  refine WPL.val (v_assign (v := .int .i64 _) rfl) ?_
  refine WPL.nil (onto_of ?_)
  refine WP.seq ?_
  refine WP.region ?_
  refine WPL.val (v_assign (v := .int .i64 (0)) rfl) ?_
  refine WPL.nil (onto_of ?_)
  refine WP.seq ?_
  refine WP.seq ?_
  refine WP.region ?_
  refine WPL.val (v_assign (v := .int .i64 (0)) rfl) ?_
  refine WPL.nil (onto_of ?_)
  refine WP.block ?_
  refine WP.loopK (X := Nat) [0, 1] (fun k => [(5, .int .i64 (psum zs k)), (6, .int .i64 (k : Int))]) (fun k w => k ≤ zs.length ∧ St w0 (foots []) [] w) (fun k => zs.length - k) 0 ⟨by rw [psum_zero]; rfl, rfl, trivial⟩ (fun w hw => ⟨by omega, hw⟩) (fun k ρ0 => ?_)
  refine WP.fact (fun hk => ?_)
  refine WP.seq ?_
  refine WP.seq ?_
  refine WP.region ?_
  refine WPL.val (v_move (v := .int .i64 _) rfl) ?_
  refine WPL.val (v_move (v := .slice _ _ _) rfl) ?_
  refine WPL.val (v_len Try.underlying32 rfl) ?_
  refine WPL.val (v_lss rfl rfl) ?_
  refine WPL.nil (onto_of ?_)
  refine WP.condP rfl (fun h20 => ?_) (fun h20 => ?_)
  ·
    have hk' : k < zs.length := by omega
    obtain ⟨x, hx⟩ : ∃ x, zs[k]? = some x := ⟨_, List.getElem?_eq_getElem hk'⟩
    obtain ⟨b, o, rfl, hc⟩ := hz k x hx
    have hb1 := psum_bd zs k
    have hb2 := wgt_bd x
    refine WP.skip (onto_of ?_)
    refine WP.seq ?_
    refine WP.block ?_
    refine WP.region ?_
    refine WPL.val (v_move (v := .int .i64 _) rfl) ?_
    refine WPL.val (v_move (v := .slice _ _ _) rfl) ?_
    refine WPL.val (v_move (v := .int .i64 _) rfl) ?_
    refine WPL.val (v_index Try.underlying32 Try.sizeOf3 rfl rfl rfl (by omega)) ?_
    refine WPL.val (v_load1 (u := .int .i64 _) Try.isAgg3 rfl (fun w hw => hw.old_at hc (not_foots_nil _))) ?_
    refine WPL.val (v_call Try.call35 (fun w hw => to_wgt _ _)) ?_
    refine WPL.val (v_add rfl rfl (by omega)) ?_
    rw [← psum_succ zs k x hx]
    refine WPL.val (v_assign (v := .int .i64 _) rfl) ?_
    refine WPL.nil (onto_of ?_)
    refine WP.region ?_
    refine WPL.val (v_move (v := .int .i64 _) rfl) ?_
    refine WPL.val (v_add rfl rfl (by omega)) ?_
    refine WPL.val (v_assign (v := .int .i64 _) rfl) ?_
    exact WPL.nil fun w hw => ⟨rfl, k + 1, (by omega), ⟨rfl, rfl, (via (.int .i64 _) rfl rfl), (via (.slice _ _ _) rfl rfl), trivial⟩, by omega, hw⟩
  ·
    obtain rfl : k = zs.length := by omega
    refine WP.exit (onto_of ?_)
    refine WP.seq ?_
    refine WP.region ?_
    refine WPL.val (v_move (v := .slice _ _ _) rfl) ?_
    refine WPL.val (v_len Try.underlying32 rfl) ?_
    refine WPL.ef (x_make1 (n := zs.length) (σ' := fun _ => [_]) Try.underlying32 int_info rfl rfl rfl rfl rfl (by omega) (by omega) (fun _ => rfl)) (fun g32 => ?_)
    refine WPL.val (v_assign (v := .slice _ _ _) rfl) ?_
    refine WPL.nil (onto_of ?_)
    refine WP.seq ?_
    refine WP.region ?_
    refine WPL.val (v_assign (v := .int .i64 (0)) rfl) ?_
    refine WPL.nil (onto_of ?_)
    refine WP.seq ?_
    refine WP.region ?_
    refine WPL.val (v_assign (v := .int .i64 (0)) rfl) ?_
    refine WPL.nil (onto_of ?_)
    refine WP.seq ?_
    refine WP.seq ?_
    refine WP.region ?_
    refine WPL.val (v_assign (v := .int .i64 (0)) rfl) ?_
    refine WPL.nil (onto_of ?_)
    refine WP.block ?_
    refine WP.loopK (X := Nat) [0, 1, 5, 7] (fun k => [(8, .int .i64 (psum zs k)), (9, .int .i64 (pmark n zs k)), (10, .int .i64 (k : Int))]) (fun k w => k ≤ zs.length ∧ St w0 (foots []) [.row 3 1 (some ⟨g32, 0, none⟩) zs.length zs.length ((shares n zs k).map (Value.int .i64))] w) (fun k => zs.length - k) 0 ⟨by rw [psum_zero]; rfl, by rw [pmark_zero]; rfl, rfl, trivial⟩ (fun w hw => ⟨by omega, by rw [shares_zero]; simpa using hw⟩) (fun k ρ0 => ?_)
    refine WP.fact (fun hk => ?_)
    refine WP.seq ?_
    refine WP.seq ?_
    refine WP.region ?_
    refine WPL.val (v_move (v := .int .i64 _) rfl) ?_
    refine WPL.val (v_move (v := .slice _ _ _) rfl) ?_
    refine WPL.val (v_len Try.underlying32 rfl) ?_
    refine WPL.val (v_lss rfl rfl) ?_
    refine WPL.val (v_move (v := .bool _) rfl) ?_
    refine WPL.split 37 rfl (fun h37 => ?_) (fun h37 => ?_)
    ·
      refine WPL.valG (v_move (v := .int .i64 _) rfl) ?_
      refine WPL.valG (v_gtr rfl rfl) ?_
      refine WPL.val (v_pickT (u := .bool _) rfl rfl) ?_
      refine WPL.nil (onto_of ?_)
      refine WP.condP rfl (fun h40 => ?_) (fun h40 => ?_)
      ·
        have hk' : k < zs.length := by omega
        obtain ⟨x, hx⟩ : ∃ x, zs[k]? = some x := ⟨_, List.getElem?_eq_getElem hk'⟩
        obtain ⟨b, o, rfl, hc⟩ := hz k x hx
        have hb1 := psum_bd zs k
        have hb2 := wgt_bd x
        have hm1 := lot_mul n zs (k + 1) hl (by omega)
        have hp1 := pmark_bd n zs (k + 1) hl (by omega)
        have hp2 := pmark_bd n zs k hl (by omega)
        refine WP.skip (onto_of ?_)
        refine WP.seq ?_
        refine WP.block ?_
        refine WP.seq ?_
        refine WP.region ?_
        refine WPL.val (v_move (v := .int .i64 _) rfl) ?_
        refine WPL.val (v_move (v := .slice _ _ _) rfl) ?_
        refine WPL.val (v_move (v := .int .i64 _) rfl) ?_
        refine WPL.val (v_index Try.underlying32 Try.sizeOf3 rfl rfl rfl (by omega)) ?_
        refine WPL.val (v_load1 (u := .int .i64 _) Try.isAgg3 rfl (fun w hw => hw.old_at hc (not_foots_nil _))) ?_
        refine WPL.val (v_call Try.call35 (fun w hw => to_wgt _ _)) ?_
        refine WPL.val (v_add rfl rfl (by omega)) ?_
        rw [← psum_succ zs k x hx]
        refine WPL.val (v_assign (v := .int .i64 _) rfl) ?_
        refine WPL.nil (onto_of ?_)
        refine WP.seq ?_
        refine WP.region ?_
        refine WPL.val (v_move (v := .int .i64 _) rfl) ?_
        refine WPL.val (v_move (v := .int .i64 _) rfl) ?_
        refine WPL.val (v_mul rfl rfl (by omega)) ?_
        refine WPL.val (v_move (v := .int .i64 _) rfl) ?_
        refine WPL.val (v_quo rfl rfl (by omega) (by omega) (by omega)) ?_
        rw [show lot n * psum zs (k + 1) / psum zs zs.length = pmark n zs (k + 1) from (pmark_eq n zs (k + 1) (by omega)).symm]
        refine WPL.val (v_assign (v := .int .i64 _) rfl) ?_
        refine WPL.nil (onto_of ?_)
        refine WP.seq ?_
        refine WP.region ?_
        refine WPL.val (v_move (v := .slice _ _ _) rfl) ?_
        refine WPL.val (v_move (v := .int .i64 _) rfl) ?_
        refine WPL.val (v_move (v := .int .i64 _) rfl) ?_
        refine WPL.val (v_move (v := .int .i64 _) rfl) ?_
        refine WPL.val (v_sub rfl rfl (by omega)) ?_
        refine WPL.val (v_index Try.underlying32 Try.sizeOf3 rfl rfl rfl (by omega)) ?_
        refine WPL.ef0 (x_storeRow' (u := .int .i64 _) (xs' := (shares n zs (k + 1)).map (Value.int .i64)) (σ' := [_]) Try.sizeOf3 rfl rfl (i := 0) rfl (by simp [shares_length]; omega) (by rw [← shares_succ n zs k (by omega), List.map_set]; congr 1; omega) rfl) (fun _ => ?_)
        refine WPL.nil (onto_of ?_)
        refine WP.region ?_
        refine WPL.val (v_move (v := .int .i64 _) rfl) ?_
        refine WPL.val (v_assign (v := .int .i64 _) rfl) ?_
        refine WPL.nil (onto_of ?_)
        refine WP.region ?_
        refine WPL.val (v_move (v := .int .i64 _) rfl) ?_
        refine WPL.val (v_add rfl rfl (by omega)) ?_
        refine WPL.val (v_assign (v := .int .i64 _) rfl) ?_
        exact WPL.nil fun w hw => ⟨rfl, k + 1, (by omega), ⟨rfl, rfl, rfl, (via (.int .i64 _) rfl rfl), (via (.slice _ _ _) rfl rfl), (via (.int .i64 _) rfl rfl), (via (.slice _ _ _) rfl rfl), trivial⟩, by omega, hw⟩
      ·
        have hfin : shares n zs k = share n zs := shares_none n zs k (by have := psum_bd zs zs.length; omega)
        refine WP.exit (onto_of ?_)
        refine WP.seq ?_
        refine WP.region ?_
        refine WPL.val (v_move (v := .slice _ _ _) rfl) ?_
        refine WPL.val (v_assign (v := .slice _ _ _) rfl) ?_
        refine WPL.nil (onto_of ?_)
        exact WP.ret1 Try.results23 (fun _ h => h) (fun w hw => ⟨(some ⟨g32, 0, none⟩, zs.length), rfl, trivial, by rw [← hfin]; exact hw⟩)
    ·
      have hkl : k = zs.length := by omega
      have hfin : shares n zs k = share n zs := by rw [hkl]; exact shares_all n zs
      refine WPL.skipG ?_
      refine WPL.skipG ?_
      refine WPL.val (v_pickF (v := .bool _) rfl rfl) ?_
      refine WPL.nil (onto_of ?_)
      refine WP.condF rfl ?_
      refine WP.exit (onto_of ?_)
      refine WP.seq ?_
      refine WP.region ?_
      refine WPL.val (v_move (v := .slice _ _ _) rfl) ?_
      refine WPL.val (v_assign (v := .slice _ _ _) rfl) ?_
      refine WPL.nil (onto_of ?_)
      exact WP.ret1 Try.results23 (fun _ h => h) (fun w hw => ⟨(some ⟨g32, 0, none⟩, zs.length), rfl, trivial, by rw [← hfin]; exact hw⟩)
end Go.Proofs.Ytabdcfobdehhiaa
