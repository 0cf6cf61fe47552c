/- flex's items: what sound and Clamp compute; the document's too. -/
import Derived.Test.YtabdcfobdehhiaaFlexShare
namespace Go.Proofs.Ytabdcfobdehhiaa
open Go.RowKit

structure FItem where
  base : Int
  low : Int
  high : Int
  grow : Int
  shrink : Int
abbrev FItem.enc (x : FItem) : List Value := [.int .i64 x.base, .int .i64 x.low, .int .i64 x.high, .int .i64 x.grow, .int .i64 x.shrink]
def cl20 (n : Int) : Int := max 0 (min n 1048576)
def cl1k (n : Int) : Int := max 0 (min n 1000)
def FItem.sound (x : FItem) : FItem := ⟨cl20 x.base, cl20 x.low, cl20 x.high, cl1k x.grow, cl1k x.shrink⟩
def FItem.fit (x : FItem) (n : Int) : Int := max (cl20 x.low) (min n (cl20 x.high))
theorem clamp_20 (n : Int) : clamp n 0 1048576 = cl20 n := by rw [clamp_in (by omega) (by omega) (by omega)]; rfl
theorem clamp_1k (n : Int) : clamp n 0 1000 = cl1k n := by rw [clamp_in (by omega) (by omega) (by omega)]; rfl
theorem cl20_bd (n : Int) : 0 ≤ cl20 n ∧ cl20 n ≤ 1048576 := by unfold cl20; omega
theorem cl1k_bd (n : Int) : 0 ≤ cl1k n ∧ cl1k n ≤ 1000 := by unfold cl1k; omega

theorem sound_ct (x : FItem) : Ct Try.prog 31 #[.agg x.enc.toArray] [] (fun _ => True) (X := Unit) (fun _ => .agg x.sound.enc.toArray) (fun _ => True) (fun _ => []) := by
  refine Ct.intro Try.func31 rfl Try.ntmps31 (by simp) (fun w0 _ => ?_)
  refine WP.seq ?_
  refine WP.region ?_
  refine WPL.ef (x_boxA (us := [.int .i64 _, .int .i64 _, .int .i64 _, .int .i64 _, .int .i64 _]) (σ' := fun _ => [_]) rfl (fun _ => rfl)) (fun b1 => ?_)
  refine WPL.ef (x_alloc (us := [_, _, _, _, _]) (σ' := fun _ => [_, _]) Try.zeroValue28 rfl (fun _ => rfl)) (fun b2 => ?_)
  refine WPL.nil (onto_of ?_)
  refine WP.seq ?_
  refine WP.seq ?_
  refine WP.region ?_
  refine WPL.val (v_fieldL (o' := 0) Try.underlying28 rfl Try.sizeOf3 rfl rfl) ?_
  refine WPL.val (v_fieldL (o' := 1) Try.underlying28 rfl Try.sizeOf3 rfl rfl) ?_
  refine WPL.val (v_fieldL (o' := 2) Try.underlying28 rfl Try.sizeOf3 rfl rfl) ?_
  refine WPL.ef (x_buildSlice (us := [.pointer _, .pointer _, .pointer _]) (σ' := fun _ => [_, _, _]) Try.underlying102 Try.sizeOf101 Try.zeroValue101 rfl rfl rfl (by decide) (by decide) (fun _ => rfl)) (fun g10 => ?_)
  refine WPL.val (v_len Try.underlying102 rfl) ?_
  refine WPL.val (v_move (v := .int .i64 (0)) rfl) ?_
  refine WPL.nil (onto_of ?_)
  refine WP.block ?_
  refine WP.loopN 4 ?_
  refine WPR.succ ?_
  refine WP.seq ?_
  refine WP.region ?_
  refine WPL.val (v_lit (b := true) (v_lss rfl rfl) (by decide)) ?_
  refine WPL.nil (onto_of ?_)
  refine WP.seq ?_
  refine WP.condT rfl ?_
  refine WP.skip (onto_of ?_)
  refine WP.seq ?_
  refine WP.block ?_
  refine WP.seq ?_
  refine WP.region ?_
  refine WPL.val (v_index (j := 0) Try.underlying102 Try.sizeOf101 rfl rfl rfl (by omega)) ?_
  refine WPL.val (v_load1 (u := .pointer _) Try.isAgg101 rfl (fun w hw => hw.row_at1 (i := 2) (k := 0) rfl rfl (by decide))) ?_
  refine WPL.val (v_assign (v := .pointer _) rfl) ?_
  refine WPL.nil (onto_of ?_)
  refine WP.region ?_
  refine WPL.val (v_move (v := .pointer _) rfl) ?_
  refine WPL.val (v_move (v := .pointer _) rfl) ?_
  refine WPL.val (v_nil rfl) ?_
  refine WPL.val (v_load1 (u := .int .i64 _) Try.isAgg3 rfl (fun w hw => hw.cl_at (i := 0) rfl _ rfl)) ?_
  refine WPL.val (v_call Try.call36 (fun w hw => clamp_eq (clamp_20 _) _)) ?_
  refine WPL.val (v_nil rfl) ?_
  refine WPL.ef0 (x_store (u := .int .i64 _) (σ' := [.cl _ _ [_, _, _, _, _], _, _]) Try.sizeOf3 rfl rfl (i := 0) rfl (Nat.lt_of_lt_of_le (Nat.lt_succ_self _) (Nat.le_of_ble_eq_true rfl)) rfl) (fun _ => ?_)
  refine WPL.nil (onto_of ?_)
  refine WP.region ?_
  refine WPL.val (v_addL (k := 1) rfl rfl) ?_
  refine WPL.val (v_move (v := .int .i64 _) rfl) ?_
  refine WPL.nil (rounds_of ?_)
  refine WPR.succ ?_
  refine WP.seq ?_
  refine WP.region ?_
  refine WPL.val (v_lit (b := true) (v_lss rfl rfl) (by decide)) ?_
  refine WPL.nil (onto_of ?_)
  refine WP.seq ?_
  refine WP.condT rfl ?_
  refine WP.skip (onto_of ?_)
  refine WP.seq ?_
  refine WP.block ?_
  refine WP.seq ?_
  refine WP.region ?_
  refine WPL.val (v_index (j := 1) Try.underlying102 Try.sizeOf101 rfl rfl rfl (by omega)) ?_
  refine WPL.val (v_load1 (u := .pointer _) Try.isAgg101 rfl (fun w hw => hw.row_at1 (i := 2) (k := 1) rfl rfl (by decide))) ?_
  refine WPL.val (v_assign (v := .pointer _) rfl) ?_
  refine WPL.nil (onto_of ?_)
  refine WP.region ?_
  refine WPL.val (v_move (v := .pointer _) rfl) ?_
  refine WPL.val (v_move (v := .pointer _) rfl) ?_
  refine WPL.val (v_nil rfl) ?_
  refine WPL.val (v_load1 (u := .int .i64 _) Try.isAgg3 rfl (fun w hw => hw.cl_at (i := 0) rfl _ rfl)) ?_
  refine WPL.val (v_call Try.call36 (fun w hw => clamp_eq (clamp_20 _) _)) ?_
  refine WPL.val (v_nil rfl) ?_
  refine WPL.ef0 (x_store (u := .int .i64 _) (σ' := [.cl _ _ [_, _, _, _, _], _, _]) Try.sizeOf3 rfl rfl (i := 0) rfl (Nat.lt_of_lt_of_le (Nat.lt_succ_self _) (Nat.le_of_ble_eq_true rfl)) rfl) (fun _ => ?_)
  refine WPL.nil (onto_of ?_)
  refine WP.region ?_
  refine WPL.val (v_addL (k := 2) rfl rfl) ?_
  refine WPL.val (v_move (v := .int .i64 _) rfl) ?_
  refine WPL.nil (rounds_of ?_)
  refine WPR.succ ?_
  refine WP.seq ?_
  refine WP.region ?_
  refine WPL.val (v_lit (b := true) (v_lss rfl rfl) (by decide)) ?_
  refine WPL.nil (onto_of ?_)
  refine WP.seq ?_
  refine WP.condT rfl ?_
  refine WP.skip (onto_of ?_)
  refine WP.seq ?_
  refine WP.block ?_
  refine WP.seq ?_
  refine WP.region ?_
  refine WPL.val (v_index (j := 2) Try.underlying102 Try.sizeOf101 rfl rfl rfl (by omega)) ?_
  refine WPL.val (v_load1 (u := .pointer _) Try.isAgg101 rfl (fun w hw => hw.row_at1 (i := 2) (k := 2) rfl rfl (by decide))) ?_
  refine WPL.val (v_assign (v := .pointer _) rfl) ?_
  refine WPL.nil (onto_of ?_)
  refine WP.region ?_
  refine WPL.val (v_move (v := .pointer _) rfl) ?_
  refine WPL.val (v_move (v := .pointer _) rfl) ?_
  refine WPL.val (v_nil rfl) ?_
  refine WPL.val (v_load1 (u := .int .i64 _) Try.isAgg3 rfl (fun w hw => hw.cl_at (i := 0) rfl _ rfl)) ?_
  refine WPL.val (v_call Try.call36 (fun w hw => clamp_eq (clamp_20 _) _)) ?_
  refine WPL.val (v_nil rfl) ?_
  refine WPL.ef0 (x_store (u := .int .i64 _) (σ' := [.cl _ _ [_, _, _, _, _], _, _]) Try.sizeOf3 rfl rfl (i := 0) rfl (Nat.lt_of_lt_of_le (Nat.lt_succ_self _) (Nat.le_of_ble_eq_true rfl)) rfl) (fun _ => ?_)
  refine WPL.nil (onto_of ?_)
  refine WP.region ?_
  refine WPL.val (v_addL (k := 3) rfl rfl) ?_
  refine WPL.val (v_move (v := .int .i64 _) rfl) ?_
  refine WPL.nil (rounds_of ?_)
  refine WPR.succ ?_
  refine WP.seq ?_
  refine WP.region ?_
  refine WPL.val (v_lit (b := false) (v_lss rfl rfl) (by decide)) ?_
  refine WPL.nil (onto_of ?_)
  refine WP.seq ?_
  refine WP.condF rfl ?_
  refine WP.exit (onto_of ?_)
  refine WP.seq ?_
  refine WP.seq ?_
  refine WP.region ?_
  refine WPL.val (v_fieldL (o' := 3) Try.underlying28 rfl Try.sizeOf3 rfl rfl) ?_
  refine WPL.val (v_fieldL (o' := 4) Try.underlying28 rfl Try.sizeOf3 rfl rfl) ?_
  refine WPL.ef (x_buildSlice (us := [.pointer _, .pointer _]) (σ' := fun _ => [_, _, _, _]) Try.underlying102 Try.sizeOf101 Try.zeroValue101 rfl rfl rfl (by decide) (by decide) (fun _ => rfl)) (fun g25 => ?_)
  refine WPL.val (v_len Try.underlying102 rfl) ?_
  refine WPL.val (v_move (v := .int .i64 (0)) rfl) ?_
  refine WPL.nil (onto_of ?_)
  refine WP.block ?_
  refine WP.loopN 3 ?_
  refine WPR.succ ?_
  refine WP.seq ?_
  refine WP.region ?_
  refine WPL.val (v_lit (b := true) (v_lss rfl rfl) (by decide)) ?_
  refine WPL.nil (onto_of ?_)
  refine WP.seq ?_
  refine WP.condT rfl ?_
  refine WP.skip (onto_of ?_)
  refine WP.seq ?_
  refine WP.block ?_
  refine WP.seq ?_
  refine WP.region ?_
  refine WPL.val (v_index (j := 0) Try.underlying102 Try.sizeOf101 rfl rfl rfl (by omega)) ?_
  refine WPL.val (v_load1 (u := .pointer _) Try.isAgg101 rfl (fun w hw => hw.row_at1 (i := 3) (k := 0) rfl rfl (by decide))) ?_
  refine WPL.val (v_assign (v := .pointer _) rfl) ?_
  refine WPL.nil (onto_of ?_)
  refine WP.region ?_
  refine WPL.val (v_move (v := .pointer _) rfl) ?_
  refine WPL.val (v_move (v := .pointer _) rfl) ?_
  refine WPL.val (v_nil rfl) ?_
  refine WPL.val (v_load1 (u := .int .i64 _) Try.isAgg3 rfl (fun w hw => hw.cl_at (i := 0) rfl _ rfl)) ?_
  refine WPL.val (v_call Try.call36 (fun w hw => clamp_eq (clamp_1k _) _)) ?_
  refine WPL.val (v_nil rfl) ?_
  refine WPL.ef0 (x_store (u := .int .i64 _) (σ' := [.cl _ _ [_, _, _, _, _], _, _, _]) Try.sizeOf3 rfl rfl (i := 0) rfl (Nat.lt_of_lt_of_le (Nat.lt_succ_self _) (Nat.le_of_ble_eq_true rfl)) rfl) (fun _ => ?_)
  refine WPL.nil (onto_of ?_)
  refine WP.region ?_
  refine WPL.val (v_addL (k := 1) rfl rfl) ?_
  refine WPL.val (v_move (v := .int .i64 _) rfl) ?_
  refine WPL.nil (rounds_of ?_)
  refine WPR.succ ?_
  refine WP.seq ?_
  refine WP.region ?_
  refine WPL.val (v_lit (b := true) (v_lss rfl rfl) (by decide)) ?_
  refine WPL.nil (onto_of ?_)
  refine WP.seq ?_
  refine WP.condT rfl ?_
  refine WP.skip (onto_of ?_)
  refine WP.seq ?_
  refine WP.block ?_
  refine WP.seq ?_
  refine WP.region ?_
  refine WPL.val (v_index (j := 1) Try.underlying102 Try.sizeOf101 rfl rfl rfl (by omega)) ?_
  refine WPL.val (v_load1 (u := .pointer _) Try.isAgg101 rfl (fun w hw => hw.row_at1 (i := 3) (k := 1) rfl rfl (by decide))) ?_
  refine WPL.val (v_assign (v := .pointer _) rfl) ?_
  refine WPL.nil (onto_of ?_)
  refine WP.region ?_
  refine WPL.val (v_move (v := .pointer _) rfl) ?_
  refine WPL.val (v_move (v := .pointer _) rfl) ?_
  refine WPL.val (v_nil rfl) ?_
  refine WPL.val (v_load1 (u := .int .i64 _) Try.isAgg3 rfl (fun w hw => hw.cl_at (i := 0) rfl _ rfl)) ?_
  refine WPL.val (v_call Try.call36 (fun w hw => clamp_eq (clamp_1k _) _)) ?_
  refine WPL.val (v_nil rfl) ?_
  refine WPL.ef0 (x_store (u := .int .i64 _) (σ' := [.cl _ _ [_, _, _, _, _], _, _, _]) Try.sizeOf3 rfl rfl (i := 0) rfl (Nat.lt_of_lt_of_le (Nat.lt_succ_self _) (Nat.le_of_ble_eq_true rfl)) rfl) (fun _ => ?_)
  refine WPL.nil (onto_of ?_)
  refine WP.region ?_
  refine WPL.val (v_addL (k := 2) rfl rfl) ?_
  refine WPL.val (v_move (v := .int .i64 _) rfl) ?_
  refine WPL.nil (rounds_of ?_)
  refine WPR.succ ?_
  refine WP.seq ?_
  refine WP.region ?_
  refine WPL.val (v_lit (b := false) (v_lss rfl rfl) (by decide)) ?_
  refine WPL.nil (onto_of ?_)
  refine WP.seq ?_
  refine WP.condF rfl ?_
  refine WP.exit (onto_of ?_)
  refine WP.seq ?_
  refine WP.region ?_
  refine WPL.val (v_loadA (cs := [.int .i64 _, .int .i64 _, .int .i64 _, .int .i64 _, .int .i64 _]) Try.isAgg28 Try.sizeOf28 rfl (fun w hw => hw.cl_at (i := 0) rfl _ rfl)) ?_
  refine WPL.ef0 (x_storeA (us := [.int .i64 _, .int .i64 _, .int .i64 _, .int .i64 _, .int .i64 _]) (σ' := [_, .cl _ _ [_, _, _, _, _], _, _]) Try.sizeOf28 rfl rfl (i := 1) rfl (Nat.le_of_ble_eq_true rfl) rfl (by simp [Value.oneCell'])) (fun _ => ?_)
  refine WPL.nil (onto_of ?_)
  exact WP.retC (us := [_, _, _, _, _]) Try.results31 rfl Try.isAgg28 Try.sizeOf28 (fun w hw => hw.cl_at (i := 1) rfl 0 rfl) rfl (fun _ h => h) (fun w hw => ⟨(), rfl, trivial, hw.sel [] (by decide)⟩)
theorem fit_ct (x : FItem) (n : Int) : Ct Try.prog 17 #[.agg x.enc.toArray, .int .i64 n] [] (fun _ => True) (X := Unit) (fun _ => .int .i64 (x.fit n)) (fun _ => True) (fun _ => []) := by
  refine Ct.intro Try.func17 rfl Try.ntmps17 (by simp) (fun w0 _ => ?_)
  refine WP.seq ?_
  refine WP.region ?_
  refine WPL.ef (x_boxA (us := [.int .i64 _, .int .i64 _, .int .i64 _, .int .i64 _, .int .i64 _]) (σ' := fun _ => [_]) rfl (fun _ => rfl)) (fun b2 => ?_)
  refine WPL.val (v_assign (v := .int .i64 (0)) rfl) ?_
  refine WPL.nil (onto_of ?_)
  refine WP.seq ?_
  refine WP.region ?_
  refine WPL.val (v_loadA (cs := [.int .i64 _, .int .i64 _, .int .i64 _, .int .i64 _, .int .i64 _]) Try.isAgg28 Try.sizeOf28 rfl (fun w hw => hw.cl_at (i := 0) rfl _ rfl)) ?_
  refine WPL.ef (x_call Try.call31 (sound_ct x) [] [0] rfl (fun w hw => trivial) (τ := fun _ => [_]) (fun _ => rfl)) (fun _ => ?_)
  refine WPL.fact (fun _ => ?_)
  refine WPL.ef0 (x_storeA (us := [.int .i64 _, .int .i64 _, .int .i64 _, .int .i64 _, .int .i64 _]) (σ' := [.cl _ _ [_, _, _, _, _]]) Try.sizeOf28 rfl rfl (i := 0) rfl (Nat.le_of_ble_eq_true rfl) rfl (by simp [Value.oneCell'])) (fun _ => ?_)
  refine WPL.nil (onto_of ?_)
  refine WP.seq ?_
  refine WP.region ?_
  refine WPL.val (v_fieldL (o' := 1) Try.underlying28 rfl Try.sizeOf3 rfl rfl) ?_
  refine WPL.val (v_load1 (u := .int .i64 _) Try.isAgg3 rfl (fun w hw => hw.cl_at (i := 0) rfl _ rfl)) ?_
  refine WPL.val (v_move (v := .int .i64 _) rfl) ?_
  refine WPL.val (v_fieldL (o' := 2) Try.underlying28 rfl Try.sizeOf3 rfl rfl) ?_
  refine WPL.val (v_load1 (u := .int .i64 _) Try.isAgg3 rfl (fun w hw => hw.cl_at (i := 0) rfl _ rfl)) ?_
  refine WPL.val (v_min rfl rfl) ?_
  refine WPL.val (v_max rfl rfl) ?_
  refine WPL.val (v_assign (v := .int .i64 _) rfl) ?_
  refine WPL.nil (onto_of ?_)
  exact WP.ret1 Try.results17 (fun _ h => h) (fun w hw => ⟨(), rfl, trivial, hw.sel [] (by decide)⟩)
end Go.Proofs.Ytabdcfobdehhiaa
