/- The laws of layer 13: the walks. -/
import Derived.Test.YtabdcfobdehhiaaRecPlain
import Derived.Test.YtabdcfobdehhiaaRecRow
import Derived.Test.YtabdcfobdehhiaaRecPut
namespace Go.Proofs.Ytabdcfobdehhiaa
open Go.RowKit

def sW : List Value := [.int .i64 1, .int .i64 0, .int .i64 0, .int .i64 1, .int .i64 640, .int .i64 0, .int .i64 0, .int .i64 0, .int .i64 0, .int .i64 0, .int .i64 0, .int .i64 0, .int .i64 0, .int .i64 0, .int .i64 0, .int .i64 0, .int .i64 0, .int .i64 0, .int .i64 0, .int .i64 0, .int .i64 0, .int .i64 0, .int .i64 0, .int .i64 0, .int .i64 0, .int .i64 0, .int .i64 0, .int .i64 0, .int .i64 0, .int .i64 0, .int .i64 0, .int .i64 0, .int .i64 0, .int .i64 0, .int .i64 0, .int .i64 0, .int .i64 0, .int .i64 0, .int .i64 0, .int .i64 0, .int .i64 0, .int .i64 0, .int .i64 0, .int .i64 0, .int .i64 0, .bool false, .int .i64 0, .bool false, .int .i64 0, .int .i64 0, .int .i64 0, .bool false, .bool true, .int .i64 3, .int .i64 4]
theorem sW_ok : SOk sW := SOk.of_leaves rfl
theorem sW_valid : validB sW = true := by rfl
theorem sW_get : getS (nums sW) = (sW, 0) := by rw [getS_nums sW_ok, sW_valid]; rfl
def s9 : List Value := zeroS.set 0 (.int .i64 9)
theorem s9_ok : SOk s9 := SOk.of_leaves rfl
theorem s9_valid : validB s9 = false := by rfl
def sG : List Value := zeroS.set 46 (.int .i64 (-1))
theorem sG_ok : SOk sG := SOk.of_leaves rfl
theorem sG_valid : validB sG = false := by rfl
theorem nums_short {cs : List Value} (hs : SOk cs) : (nums cs).length ≤ 1000 := by rw [nums_len hs]; omega
theorem nums_short' {cs : List Value} (hs : SOk cs) : (nums cs).length ≤ 9223372036854775807 := by rw [nums_len hs]; omega
theorem back1 {cs : List Value} (hs : SOk cs) : (validB cs != decide ((getS (nums cs)).2 = 0)) = false := by rw [getS_nums hs]; cases validB cs <;> rfl
theorem back2 {cs : List Value} (hs : SOk cs) (h : (getS (nums cs)).2 = 0) : (!eqv (getS (nums cs)).1 cs) = false := by
  rw [getS_nums hs] at h ⊢
  split at h
  · rename_i e; rw [if_pos e]; simp only [eqv_self]; rfl
  · cases h
theorem back3 {cs ds : List Value} (h1 : SOk cs) (h2 : SOk ds) : (decide (nums cs = nums ds) != eqv cs ds) = false := by
  have : decide (nums cs = nums ds) = eqv cs ds := by
    by_cases e : cs = ds
    · rw [e, eqv_self]; exact decide_eq_true rfl
    · rw [eqv_ne e]; exact decide_eq_false fun h => e ((nums_inj h1 h2).1 h)
  rw [this]; cases eqv cs ds <;> rfl
theorem back4 {ls : List Int} (h : (getS ls).2 ≠ 0) : eqv (getS ls).1 zeroS = true := by rw [getS_bad h]; exact eqv_self _
theorem ok_valid {ls : List Int} (h : (getS ls).2 = 0) : validB (getS ls).1 = true := by
  obtain ⟨_, _, h3, h4⟩ := getS_ok h
  simp only [h4]; exact h3
theorem SOk.setI {cs : List Value} (hs : SOk cs) (j : Nat) (hj : isBit j = false) (z : Int) : SOk (cs.set j (.int .i64 z)) := by
  refine SOk.of_dec (f := fun i => if i = j then z else val cs i) (g := fun i => bval cs i) (by rw [List.length_set, hs.len]) fun i hi => ?_
  by_cases e : i = j
  · subst e
    rw [List.getElem?_set_self (by rw [hs.len]; exact hi), hj]; simp
  · rw [List.getElem?_set_ne (Ne.symm e)]
    cases hb : isBit i with
    | false => rw [hs.int i hi hb]; simp [e]
    | true => rw [hs.bit i hi hb]; simp
def mineB (k : Nat) : Bool := k == 15 || k == 16 || k == 46 || k == 48
theorem val_setI (cs : List Value) (j : Nat) (v : Value) (i : Nat) (h : i ≠ j) : val (cs.set j v) i = val cs i := by
  unfold val
  rw [List.getD_eq_getElem?_getD, List.getD_eq_getElem?_getD, List.getElem?_set_ne (Ne.symm h)]
theorem val_setS (cs : List Value) (hs : SOk cs) (j : Nat) (z : Int) (h : j < 55) : val (cs.set j (.int .i64 z)) j = z := by
  unfold val
  rw [List.getD_eq_getElem?_getD, List.getElem?_set_self (by rw [hs.len]; exact h)]
  rfl
def oneS (cs : List Value) (gap z k n : Int) : List Value := (((cs.set 46 (.int .i64 gap)).set 48 (.int .i64 z)).set 15 (.int .i64 k)).set 16 (.int .i64 n)
theorem oneS_ok {cs : List Value} (hs : SOk cs) (gap z k n : Int) : SOk (oneS cs gap z k n) := (((hs.setI 46 rfl gap).setI 48 rfl z).setI 15 rfl k).setI 16 rfl n
theorem oneS_other (cs : List Value) (gap z k n : Int) (i : Nat) (h : mineB i = false) : val (oneS cs gap z k n) i = val cs i := by
  simp only [mineB, Bool.or_eq_false_iff, beq_eq_false_iff_ne] at h
  unfold oneS
  rw [val_setI _ _ _ _ h.1.1.2, val_setI _ _ _ _ h.1.1.1, val_setI _ _ _ _ h.2, val_setI _ _ _ _ h.1.2]
theorem oneS_46 {cs : List Value} (hs : SOk cs) (gap z k n : Int) : val (oneS cs gap z k n) 46 = gap := by
  unfold oneS
  rw [val_setI _ _ _ _ (by decide), val_setI _ _ _ _ (by decide), val_setI _ _ _ _ (by decide), val_setS _ hs _ _ (by decide)]
theorem oneS_48 {cs : List Value} (hs : SOk cs) (gap z k n : Int) : val (oneS cs gap z k n) 48 = z := by
  unfold oneS
  rw [val_setI _ _ _ _ (by decide), val_setI _ _ _ _ (by decide), val_setS _ (hs.setI 46 rfl gap) _ _ (by decide)]
theorem oneS_15 {cs : List Value} (hs : SOk cs) (gap z k n : Int) : val (oneS cs gap z k n) 15 = k := by
  unfold oneS
  rw [val_setI _ _ _ _ (by decide), val_setS _ ((hs.setI 46 rfl gap).setI 48 rfl z) _ _ (by decide)]
theorem oneS_16 {cs : List Value} (hs : SOk cs) (gap z k n : Int) : val (oneS cs gap z k n) 16 = n := by
  unfold oneS
  rw [val_setS _ (((hs.setI 46 rfl gap).setI 48 rfl z).setI 15 rfl k) _ _ (by decide)]
theorem limit_bd {ls : List Int} (h : (getS ls).2 = 0) {k : Nat} {x : Int} (hx : ls[k]? = some x) : -1099511627776 ≤ x ∧ x ≤ 1099511627776 := by
  obtain ⟨h1, h2, h3, h4⟩ := getS_ok h
  have hk := (List.getElem?_eq_some_iff.1 hx).1
  have hb := valid_bd (decS_ok ls) h3 k (by omega)
  have h5 := nums_at (decS_ok ls) (j := k) (by omega)
  rw [nums_dec h1 h2, hx] at h5
  rw [Option.some.inj h5]
  exact hb
theorem ok_in {ls : List Int} (h : (getS ls).2 = 0) : (0 ≤ val (getS ls).1 0 ∧ val (getS ls).1 0 ≤ 3) ∧ (0 ≤ val (getS ls).1 39 ∧ val (getS ls).1 39 ≤ 1000) ∧ 0 ≤ val (getS ls).1 34 := by
  have hv := ok_valid h
  generalize (getS ls).1 = cs at hv
  unfold validB kindsB at hv
  simp only [Bool.and_eq_true] at hv
  obtain ⟨⟨⟨⟨⟨⟨⟨⟨k0, _⟩, _⟩, _⟩, _⟩, hsiz⟩, h39⟩, _⟩, _⟩ := hv
  unfold sizesB sizesOf at hsiz
  rw [← all_any (fun n : Int => within n 0 1048576), List.all_eq_true] at hsiz
  have h34 := within_val (hsiz (val cs 34) (List.mem_map.2 ⟨34, by decide, rfl⟩))
  exact ⟨within_val k0, within_val h39, h34.1⟩

set_option maxRecDepth 100000 in
theorem works_ct : Ct Try.prog 24 #[] [] (fun _ => True) (X := Unit) (fun _ => .bool true) (fun _ => True) (fun _ => []) := by
  refine Ct.intro Try.func24 rfl Try.ntmps24 (by simp) (fun w0 _ => ?_)
  refine WP.seq ?_
  refine WP.region ?_
  refine WPL.val (v_assign (v := .bool false) rfl) ?_
  refine WPL.nil (onto_of ?_)
  refine WP.seq ?_
  refine WP.region ?_
  refine WPL.val (v_struct (us := [.int .i64 _, .int .i64 _]) (pl := [(0, 1), (1, 1)]) Try.underlying48 Try.zeroValue48 rfl (by kernel_rfl) rfl rfl (by kernel_rfl)) ?_
  refine WPL.val (v_array (us := [.int .i64 _, .int .i64 _]) Try.underlying55 Try.zeroValue55 Try.sizeOf3 rfl rfl rfl) ?_
  refine WPL.val (v_struct (us := sW) (pl := [(0, 1), (1, 1), (2, 1), (3, 2), (5, 2), (7, 2), (9, 2), (11, 2), (13, 2), (15, 8), (23, 8), (31, 4), (35, 4), (39, 1), (40, 1), (41, 2), (43, 1), (44, 1), (45, 1), (46, 1), (47, 1), (48, 1), (49, 1), (50, 1), (51, 1), (52, 1), (53, 2)]) Try.underlying57 Try.zeroValue57 rfl (by kernel_rfl) rfl rfl (by kernel_rfl)) ?_
  refine WPL.ef (x_alloc (us := zeroS) (σ' := fun _ => [_]) Try.zeroValue57 rfl (fun _ => rfl)) (fun b1 => ?_)
  refine WPL.ef0 (x_storeW (us := sW) (σ' := [_]) Try.sizeOf57 rfl rfl (i := 0) rfl (SOk.len sW_ok) rfl (SOk.one sW_ok) (SOk.len sW_ok)) (fun _ => ?_)
  refine WPL.nil (onto_of ?_)
  refine WP.seq ?_
  refine WP.region ?_
  refine WPL.val (v_loadA (cs := sW) Try.isAgg57 Try.sizeOf57 rfl (fun w hw => hw.cl_at (i := 0) rfl 0 (whole _)) (SOk.len sW_ok)) ?_
  refine WPL.ef (x_call Try.call27 (put_ct sW sW_ok) [] [0] rfl (fun w hw => trivial) (τ := fun _ => [_, _]) (fun _ => rfl)) (fun ⟨A1, c1⟩ => ?_)
  refine WPL.fact (fun _ => ?_)
  refine WPL.val (v_assign (v := .slice _ _ _) rfl) ?_
  refine WPL.nil (onto_of ?_)
  refine WP.seq ?_
  refine WP.region ?_
  refine WPL.val (v_move (v := .slice _ _ _) rfl) ?_
  refine WPL.ef (x_call Try.call29 (by have h := get_ct A1 c1 (nums sW) (nums_short sW_ok); simp only [sW_get] at h; exact h) [] [0, 1] rfl (fun w hw => hw.rd_row1 (i := 1) rfl) (τ := fun _ => [_, _]) (fun _ => rfl)) (fun _ => ?_)
  refine WPL.fact (fun _ => ?_)
  refine WPL.val (v_move rfl) ?_
  refine WPL.val (v_extract (v := .agg _) rfl rfl) ?_
  refine WPL.val (v_extract (v := .int .i64 _) rfl rfl) ?_
  refine WPL.ef (x_alloc (us := zeroS) (σ' := fun _ => [_, _, _]) Try.zeroValue57 rfl (fun _ => rfl)) (fun b3 => ?_)
  refine WPL.ef0 (x_storeW (us := sW) (σ' := [_, _, _]) Try.sizeOf57 rfl rfl (i := 2) rfl (SOk.len sW_ok) rfl (SOk.one sW_ok) (SOk.len sW_ok)) (fun _ => ?_)
  refine WPL.val (v_assign (v := .int .i64 _) rfl) ?_
  refine WPL.nil (onto_of ?_)
  refine WP.seq ?_
  refine WP.holds (fun w hw => hw.row_pos (i := 1) rfl (by decide)) (fun ⟨lb, hA⟩ => ?_)
  subst hA
  refine WP.region ?_
  refine WPL.val (v_move (v := .slice _ _ _) rfl) ?_
  refine WPL.val (v_len Try.underlying32 rfl) ?_
  refine WPL.val (v_lit (b := true) (v_eql rfl rfl) (by decide)) ?_
  refine WPL.val (v_move (v := .bool _) rfl) ?_
  refine WPL.val (v_pickT (u := .bool _) rfl rfl) ?_
  refine WPL.val (v_move (v := .bool _) rfl) ?_
  refine WPL.valG (v_move (v := .slice _ _ _) rfl) ?_
  refine WPL.valG (v_index (j := 0) Try.underlying32 Try.sizeOf3 rfl rfl rfl (by decide)) ?_
  refine WPL.valG (v_load1 (u := .int .i64 _) Try.isAgg3 rfl (fun w hw => hw.row_at1 (i := 1) (k := 0) rfl rfl (by decide))) ?_
  refine WPL.valG (v_lit (b := true) (v_eql rfl rfl) (by decide)) ?_
  refine WPL.val (v_pickT (u := .bool _) rfl rfl) ?_
  refine WPL.val (v_move (v := .bool _) rfl) ?_
  refine WPL.valG (v_move (v := .slice _ _ _) rfl) ?_
  refine WPL.valG (v_index (j := 4) Try.underlying32 Try.sizeOf3 rfl rfl rfl (by decide)) ?_
  refine WPL.valG (v_load1 (u := .int .i64 _) Try.isAgg3 rfl (fun w hw => hw.row_at1 (i := 1) (k := 4) rfl rfl (by decide))) ?_
  refine WPL.valG (v_lit (b := true) (v_eql rfl rfl) (by decide)) ?_
  refine WPL.val (v_pickT (u := .bool _) rfl rfl) ?_
  refine WPL.val (v_move (v := .bool _) rfl) ?_
  refine WPL.valG (v_move (v := .slice _ _ _) rfl) ?_
  refine WPL.valG (v_index (j := 54) Try.underlying32 Try.sizeOf3 rfl rfl rfl (by decide)) ?_
  refine WPL.valG (v_load1 (u := .int .i64 _) Try.isAgg3 rfl (fun w hw => hw.row_at1 (i := 1) (k := 54) rfl rfl (by decide))) ?_
  refine WPL.valG (v_lit (b := true) (v_eql rfl rfl) (by decide)) ?_
  refine WPL.val (v_pickT (u := .bool _) rfl rfl) ?_
  refine WPL.val (v_move (v := .bool _) rfl) ?_
  refine WPL.valG (v_loadA (cs := sW) Try.isAgg57 Try.sizeOf57 rfl (fun w hw => hw.cl_at (i := 2) rfl 0 (whole _)) (SOk.len sW_ok)) ?_
  refine WPL.valG (v_loadA (cs := sW) Try.isAgg57 Try.sizeOf57 rfl (fun w hw => hw.cl_at (i := 0) rfl 0 (whole _)) (SOk.len sW_ok)) ?_
  refine WPL.valG (v_is (b := true) (v_eqA leaf57 (by kernel_rfl) (fun _ => rfl) rfl rfl sW_ok.leaves sW_ok.leaves) (eqv_self _)) ?_
  refine WPL.val (v_pickT (u := .bool _) rfl rfl) ?_
  refine WPL.val (v_move (v := .bool _) rfl) ?_
  refine WPL.valG (v_move (v := .int .i64 _) rfl) ?_
  refine WPL.valG (v_is (b := true) (v_eql rfl rfl) (by decide)) ?_
  refine WPL.val (v_pickT (u := .bool _) rfl rfl) ?_
  refine WPL.val (v_move (v := .bool _) rfl) ?_
  refine WPL.valG (v_loadA (cs := sW) Try.isAgg57 Try.sizeOf57 rfl (fun w hw => hw.cl_at (i := 0) rfl 0 (whole _)) (SOk.len sW_ok)) ?_
  refine WPL.efG (x_call Try.call26 (by have h := valid_ct sW sW_ok; rw [sW_valid] at h; exact h) [] [0, 1, 2] rfl (fun w hw => trivial) (τ := fun _ => [_, _, _]) (fun _ => rfl)) (fun _ => ?_)
  refine WPL.fact (fun _ => ?_)
  refine WPL.val (v_pickT (u := .bool _) rfl rfl) ?_
  refine WPL.val (v_move (v := .bool _) rfl) ?_
  refine WPL.valG (v_struct (us := s9) (pl := [(0, 1), (1, 1), (2, 1), (3, 2), (5, 2), (7, 2), (9, 2), (11, 2), (13, 2), (15, 8), (23, 8), (31, 4), (35, 4), (39, 1), (40, 1), (41, 2), (43, 1), (44, 1), (45, 1), (46, 1), (47, 1), (48, 1), (49, 1), (50, 1), (51, 1), (52, 1), (53, 2)]) Try.underlying57 Try.zeroValue57 rfl (by kernel_rfl) rfl rfl (by kernel_rfl)) ?_
  refine WPL.efG (x_call Try.call26 (by have h := valid_ct s9 s9_ok; rw [s9_valid] at h; exact h) [] [0, 1, 2] rfl (fun w hw => trivial) (τ := fun _ => [_, _, _]) (fun _ => rfl)) (fun _ => ?_)
  refine WPL.fact (fun _ => ?_)
  refine WPL.valG (v_not rfl) ?_
  refine WPL.val (v_pickT (u := .bool _) rfl rfl) ?_
  refine WPL.val (v_assign (v := .bool _) rfl) ?_
  refine WPL.nil (onto_of ?_)
  exact WP.ret1 Try.results24 (fun _ h => h) (fun w hw => ⟨(), rfl, trivial, hw.sel [] (by decide)⟩)

set_option maxRecDepth 100000 in
theorem lawPuts_ct (cs : List Value) (hs : SOk cs) : Ct Try.prog 10 #[.agg cs.toArray] [] (fun _ => True) (X := Unit) (fun _ => .bool true) (fun _ => True) (fun _ => []) := by
  refine Ct.intro Try.func10 rfl Try.ntmps10 (by simp) (fun w0 _ => ?_)
  refine WP.seq ?_
  refine WP.region ?_
  refine WPL.ef (x_boxA (us := cs) (σ' := fun _ => [_]) rfl (fun _ => rfl)) (fun b1 => ?_)
  refine WPL.val (v_assign (v := .bool false) rfl) ?_
  refine WPL.nil (onto_of ?_)
  refine WP.seq ?_
  refine WP.region ?_
  refine WPL.ef (x_call Try.call24 works_ct [] [0] rfl (fun w hw => trivial) (τ := fun _ => [_]) (fun _ => rfl)) (fun _ => ?_)
  refine WPL.fact (fun _ => ?_)
  refine WPL.val (v_assign (v := .bool _) rfl) ?_
  refine WPL.nil (onto_of ?_)
  refine WP.seq ?_
  refine WP.seq ?_
  refine WP.region ?_
  refine WPL.val (v_move (v := .bool _) rfl) ?_
  refine WPL.val (v_not rfl) ?_
  refine WPL.nil (onto_of ?_)
  refine WP.condF rfl ?_
  refine WP.skip (onto_of ?_)
  refine WP.seq ?_
  refine WP.region ?_
  refine WPL.val (v_loadA (cs := cs) Try.isAgg57 Try.sizeOf57 rfl (fun w hw => hw.cl_at (i := 0) rfl 0 (whole _)) (SOk.len hs)) ?_
  refine WPL.ef (x_call Try.call25 (rvalid_ct cs hs) [] [0] rfl (fun w hw => trivial) (τ := fun _ => [_]) (fun _ => rfl)) (fun _ => ?_)
  refine WPL.fact (fun _ => ?_)
  refine WPL.val (v_assign (v := .bool _) rfl) ?_
  refine WPL.nil (onto_of ?_)
  refine WP.seq ?_
  refine WP.drawSel none [0] [(0, true), (1, true), (2, true), (4, true), (3, false), (5, true), (6, true), (7, true), (8, true), (10, true), (9, false), (11, false), (12, false), (13, true), (14, true)] mixed (by kernel_rfl) (by decide) ?_
  refine WPD.take rfl (v_move (v := .bool _) rfl) ?_ (fun _ h => h.sel [0] (by decide))
  refine WPD.take rfl (v_move (v := .bool _) rfl) ?_ (fun _ h => h.sel [0] (by decide))
  refine WPD.take rfl (v_loadA (cs := cs) Try.isAgg57 Try.sizeOf57 rfl (fun w hw => hw.cl_at (i := 0) rfl 0 (whole _)) (SOk.len hs)) ?_ (fun _ h => h.sel [0] (by decide))
  refine WPD.take rfl (v_move (v := .bool _) rfl) ?_ (fun _ h => h.sel [0] (by decide))
  refine WPD.ef rfl (x_call Try.call26 (valid_ct cs hs) [] [0] rfl (fun w hw => trivial) (τ := fun _ => [_]) (fun _ => rfl)) (fun _ _ _ h => h.2.sel [0] (by decide)) (fun _ => ?_)
  refine WPD.fact (fun _ => ?_)
  refine WPD.take rfl (v_is (b := true) (v_eqB Try.underlying4 rfl rfl) (beq_self_eq_true _)) ?_ (fun _ h => h.sel [0] (by decide))
  refine WPD.take rfl (v_pickT (u := .bool _) rfl rfl) ?_ (fun _ h => h.sel [0] (by decide))
  refine WPD.take rfl (v_move (v := .bool _) rfl) ?_ (fun _ h => h.sel [0] (by decide))
  refine WPD.take rfl (v_loadA (cs := cs) Try.isAgg57 Try.sizeOf57 rfl (fun w hw => hw.cl_at (i := 0) rfl 0 (whole _)) (SOk.len hs)) ?_ (fun _ h => h.sel [0] (by decide))
  refine WPD.take rfl (v_loadA (cs := cs) Try.isAgg57 Try.sizeOf57 rfl (fun w hw => hw.cl_at (i := 0) rfl 0 (whole _)) (SOk.len hs)) ?_ (fun _ h => h.sel [0] (by decide))
  refine WPD.ef rfl (x_call Try.call27 (put_ct cs hs) [] [0] rfl (fun w hw => trivial) (τ := fun _ => [_, _]) (fun _ => rfl)) (fun _ _ _ h => h.2.sel [0] (by decide)) (fun ⟨A1, c1⟩ => ?_)
  refine WPD.fact (fun _ => ?_)
  refine WPD.ef rfl (x_call Try.call28 (rput_ct cs hs) [] [0, 1] rfl (fun w hw => trivial) (τ := fun _ => [_, _, _]) (fun _ => rfl)) (fun _ _ _ h => h.2.sel [0] (by decide)) (fun ⟨A2, c2⟩ => ?_)
  refine WPD.fact (fun _ => ?_)
  refine WPD.ef rfl (x_call Try.call19 (rowT_ct A1 A2 c1 c2 (nums cs) (nums cs) (nums_short' hs) rfl) [] [0, 1, 2] rfl (fun w hw => ⟨hw.rd_row1 (i := 1) rfl, hw.rd_row1 (i := 2) rfl⟩) (τ := fun _ => [_, _, _]) (fun _ => rfl)) (fun _ _ _ h => h.2.sel [0] (by decide)) (fun _ => ?_)
  refine WPD.fact (fun _ => ?_)
  refine WPD.take rfl (v_pickT (u := .bool _) rfl rfl) ?_ (fun _ h => h.sel [0] (by decide))
  refine WPD.take rfl (v_assign (v := .bool _) rfl) ?_ (fun _ h => h.sel [0] (by decide))
  refine WPD.nil (onto_of ?_)
  exact WP.ret1 Try.results10 (fun _ h => h) (fun w hw => ⟨(), rfl, trivial, hw.sel [] (by decide)⟩)

set_option maxRecDepth 100000 in
theorem lawGets_ct (A : Option Addr) (c : Nat) (ls : List Int) (hlc : ls.length ≤ c) : Ct Try.prog 11 #[.slice A ls.length c] [] (fun w => RdI w A ls) (X := Unit) (fun _ => .bool true) (fun _ => True) (fun _ => []) := by
  refine Ct.intro Try.func11 rfl Try.ntmps11 (by simp) (fun w0 hz => ?_)
  refine WP.seq ?_
  refine WP.region ?_
  refine WPL.val (v_assign (v := .bool false) rfl) ?_
  refine WPL.nil (onto_of ?_)
  refine WP.seq ?_
  refine WP.region ?_
  refine WPL.ef (x_call Try.call24 works_ct [] [] rfl (fun w hw => trivial) (τ := fun _ => []) (fun _ => rfl)) (fun _ => ?_)
  refine WPL.fact (fun _ => ?_)
  refine WPL.val (v_assign (v := .bool _) rfl) ?_
  refine WPL.nil (onto_of ?_)
  refine WP.seq ?_
  refine WP.seq ?_
  refine WP.region ?_
  refine WPL.val (v_move (v := .bool _) rfl) ?_
  refine WPL.val (v_not rfl) ?_
  refine WPL.nil (onto_of ?_)
  refine WP.condF rfl ?_
  refine WP.skip (onto_of ?_)
  refine WP.seq ?_
  refine WP.seq ?_
  refine WP.region ?_
  refine WPL.val (v_move (v := .slice _ _ _) rfl) ?_
  refine WPL.val (v_len Try.underlying32 rfl) ?_
  refine WPL.val (v_gtr rfl rfl) ?_
  refine WPL.nil (onto_of ?_)
  refine WP.condP rfl (fun h13 => ?_) (fun h13 => ?_)
  ·
    refine WP.seq ?_
    refine WP.region ?_
    refine WPL.val (v_move (v := .bool _) rfl) ?_
    refine WPL.val (v_assign (v := .bool _) rfl) ?_
    refine WPL.nil (onto_of ?_)
    exact WP.ret1 Try.results11 (fun _ h => h) (fun w hw => ⟨(), rfl, trivial, hw.sel [] (by decide)⟩)
  ·
    refine WP.skip (onto_of ?_)
    refine WP.seq ?_
    refine WP.region ?_
    refine WPL.val (v_move (v := .slice _ _ _) rfl) ?_
    refine WPL.ef (x_call Try.call29 (get_ct A c ls (by omega)) [] [] rfl (fun w hw => hw.rd hz not_foots_nil) (τ := fun _ => []) (fun _ => rfl)) (fun _ => ?_)
    refine WPL.fact (fun _ => ?_)
    refine WPL.val (v_move rfl) ?_
    refine WPL.val (v_extract (v := .agg _) rfl rfl) ?_
    refine WPL.val (v_extract (v := .int .i64 _) rfl rfl) ?_
    refine WPL.ef (x_alloc (us := zeroS) (σ' := fun _ => [_]) Try.zeroValue57 rfl (fun _ => rfl)) (fun b4 => ?_)
    refine WPL.ef0 (x_storeW (us := (getS ls).1) (σ' := [_]) Try.sizeOf57 rfl rfl (i := 0) rfl (SOk.len (getS_SOk ls)) rfl (SOk.one (getS_SOk ls)) (SOk.len (getS_SOk ls))) (fun _ => ?_)
    refine WPL.val (v_assign (v := .int .i64 _) rfl) ?_
    refine WPL.nil (onto_of ?_)
    refine WP.seq ?_
    refine WP.region ?_
    refine WPL.val (v_move (v := .slice _ _ _) rfl) ?_
    refine WPL.ef (x_call Try.call30 (rget_ct A c ls (by omega) hlc) [] [0] rfl (fun w hw => hw.rd hz not_foots_nil) (τ := fun _ => [_]) (fun _ => rfl)) (fun _ => ?_)
    refine WPL.fact (fun _ => ?_)
    refine WPL.val (v_move rfl) ?_
    refine WPL.val (v_extract (v := .agg _) rfl rfl) ?_
    refine WPL.val (v_extract (v := .int .i64 _) rfl rfl) ?_
    refine WPL.ef (x_alloc (us := zeroS) (σ' := fun _ => [_, _]) Try.zeroValue57 rfl (fun _ => rfl)) (fun b6 => ?_)
    refine WPL.ef0 (x_storeW (us := (getS ls).1) (σ' := [_, _]) Try.sizeOf57 rfl rfl (i := 1) rfl (SOk.len (getS_SOk ls)) rfl (SOk.one (getS_SOk ls)) (SOk.len (getS_SOk ls))) (fun _ => ?_)
    refine WPL.val (v_assign (v := .int .i64 _) rfl) ?_
    refine WPL.nil (onto_of ?_)
    refine WP.seq ?_
    refine WP.region ?_
    refine WPL.val (v_move (v := .bool _) rfl) ?_
    refine WPL.val (v_move (v := .bool _) rfl) ?_
    refine WPL.valG (v_loadA (cs := (getS ls).1) Try.isAgg57 Try.sizeOf57 rfl (fun w hw => hw.cl_at (i := 0) rfl 0 (whole _)) (SOk.len (getS_SOk ls))) ?_
    refine WPL.valG (v_loadA (cs := (getS ls).1) Try.isAgg57 Try.sizeOf57 rfl (fun w hw => hw.cl_at (i := 1) rfl 0 (whole _)) (SOk.len (getS_SOk ls))) ?_
    refine WPL.valG (v_is (b := true) (v_eqA leaf57 (by kernel_rfl) (fun _ => rfl) rfl rfl (getS_SOk ls).leaves (getS_SOk ls).leaves) (eqv_self _)) ?_
    refine WPL.val (v_pickT (u := .bool _) rfl rfl) ?_
    refine WPL.val (v_move (v := .bool _) rfl) ?_
    refine WPL.valG (v_move (v := .int .i64 _) rfl) ?_
    refine WPL.valG (v_move (v := .int .i64 _) rfl) ?_
    refine WPL.valG (v_is (b := true) (v_eql rfl rfl) (decide_eq_true rfl)) ?_
    refine WPL.val (v_pickT (u := .bool _) rfl rfl) ?_
    refine WPL.val (v_assign (v := .bool _) rfl) ?_
    refine WPL.nil (onto_of ?_)
    exact WP.ret1 Try.results11 (fun _ h => h) (fun w hw => ⟨(), rfl, trivial, hw.sel [] (by decide)⟩)

set_option maxRecDepth 100000 in
set_option maxHeartbeats 2000000 in
theorem lawBack_ct (cs ds : List Value) (hs : SOk cs) (ht : SOk ds) (A : Option Addr) (c : Nat) (ls : List Int) : Ct Try.prog 12 #[.agg cs.toArray, .agg ds.toArray, .slice A ls.length c] [] (fun w => RdI w A ls) (X := Unit) (fun _ => .bool true) (fun _ => True) (fun _ => []) := by
  refine Ct.intro Try.func12 rfl Try.ntmps12 (by simp) (fun w0 hz => ?_)
  refine WP.seq ?_
  refine WP.region ?_
  refine WPL.ef (x_boxA (us := cs) (σ' := fun _ => [_]) rfl (fun _ => rfl)) (fun b3 => ?_)
  refine WPL.ef (x_boxA (us := ds) (σ' := fun _ => [_, _]) rfl (fun _ => rfl)) (fun b4 => ?_)
  refine WPL.val (v_assign (v := .bool false) rfl) ?_
  refine WPL.nil (onto_of ?_)
  refine WP.seq ?_
  refine WP.region ?_
  refine WPL.ef (x_call Try.call24 works_ct [] [0, 1] rfl (fun w hw => trivial) (τ := fun _ => [_, _]) (fun _ => rfl)) (fun _ => ?_)
  refine WPL.fact (fun _ => ?_)
  refine WPL.val (v_assign (v := .bool _) rfl) ?_
  refine WPL.nil (onto_of ?_)
  refine WP.seq ?_
  refine WP.seq ?_
  refine WP.region ?_
  refine WPL.val (v_move (v := .bool _) rfl) ?_
  refine WPL.val (v_not rfl) ?_
  refine WPL.nil (onto_of ?_)
  refine WP.condF rfl ?_
  refine WP.skip (onto_of ?_)
  refine WP.seq ?_
  refine WP.seq ?_
  refine WP.region ?_
  refine WPL.val (v_move (v := .slice _ _ _) rfl) ?_
  refine WPL.val (v_len Try.underlying32 rfl) ?_
  refine WPL.val (v_gtr rfl rfl) ?_
  refine WPL.nil (onto_of ?_)
  refine WP.condP rfl (fun h19 => ?_) (fun h19 => ?_)
  ·
    refine WP.seq ?_
    refine WP.region ?_
    refine WPL.val (v_move (v := .bool _) rfl) ?_
    refine WPL.val (v_assign (v := .bool _) rfl) ?_
    refine WPL.nil (onto_of ?_)
    exact WP.ret1 Try.results12 (fun _ h => h) (fun w hw => ⟨(), rfl, trivial, hw.sel [] (by decide)⟩)
  ·
    refine WP.skip (onto_of ?_)
    refine WP.seq ?_
    refine WP.region ?_
    refine WPL.val (v_loadA (cs := cs) Try.isAgg57 Try.sizeOf57 rfl (fun w hw => hw.cl_at (i := 0) rfl 0 (whole _)) (SOk.len hs)) ?_
    refine WPL.ef (x_call Try.call27 (put_ct cs hs) [] [0, 1] rfl (fun w hw => trivial) (τ := fun _ => [_, _, _]) (fun _ => rfl)) (fun ⟨A1, c1⟩ => ?_)
    refine WPL.fact (fun _ => ?_)
    refine WPL.val (v_assign (v := .slice _ _ _) rfl) ?_
    refine WPL.nil (onto_of ?_)
    refine WP.seq ?_
    refine WP.region ?_
    refine WPL.val (v_loadA (cs := ds) Try.isAgg57 Try.sizeOf57 rfl (fun w hw => hw.cl_at (i := 1) rfl 0 (whole _)) (SOk.len ht)) ?_
    refine WPL.ef (x_call Try.call27 (put_ct ds ht) [] [0, 1, 2] rfl (fun w hw => trivial) (τ := fun _ => [_, _, _, _]) (fun _ => rfl)) (fun ⟨A2, c2⟩ => ?_)
    refine WPL.fact (fun _ => ?_)
    refine WPL.val (v_assign (v := .slice _ _ _) rfl) ?_
    refine WPL.nil (onto_of ?_)
    refine WP.seq ?_
    refine WP.region ?_
    refine WPL.val (v_move (v := .slice _ _ _) rfl) ?_
    refine WPL.ef (x_call Try.call29 (get_ct A1 c1 (nums cs) (nums_short hs)) [] [0, 1, 2, 3] rfl (fun w hw => hw.rd_row1 (i := 2) rfl) (τ := fun _ => [_, _, _, _]) (fun _ => rfl)) (fun _ => ?_)
    refine WPL.fact (fun _ => ?_)
    refine WPL.val (v_move rfl) ?_
    refine WPL.val (v_extract (v := .agg _) rfl rfl) ?_
    refine WPL.val (v_extract (v := .int .i64 _) rfl rfl) ?_
    refine WPL.ef (x_alloc (us := zeroS) (σ' := fun _ => [_, _, _, _, _]) Try.zeroValue57 rfl (fun _ => rfl)) (fun b10 => ?_)
    refine WPL.ef0 (x_storeW (us := (getS (nums cs)).1) (σ' := [_, _, _, _, _]) Try.sizeOf57 rfl rfl (i := 4) rfl (SOk.len (getS_SOk (nums cs))) rfl (SOk.one (getS_SOk (nums cs))) (SOk.len (getS_SOk (nums cs)))) (fun _ => ?_)
    refine WPL.val (v_assign (v := .int .i64 _) rfl) ?_
    refine WPL.nil (onto_of ?_)
    refine WP.seq ?_
    refine WP.seq ?_
    refine WP.drawSel none [0, 1, 2, 3, 4] [(0, true), (2, true), (3, true), (1, false), (4, true), (5, true), (6, true), (7, true), (8, true), (9, true), (10, true), (11, true), (12, true), (13, true), (14, true), (15, true), (16, true), (18, true), (19, true), (20, true), (17, false), (21, true), (22, true)] mixed (by kernel_rfl) (by decide) ?_
    refine WPD.take rfl (v_loadA (cs := cs) Try.isAgg57 Try.sizeOf57 rfl (fun w hw => hw.cl_at (i := 0) rfl 0 (whole _)) (SOk.len hs)) ?_ (fun _ h => h.sel [0, 1, 2, 3, 4] (by decide))
    refine WPD.take rfl (v_move (v := .int .i64 _) rfl) ?_ (fun _ h => h.sel [0, 1, 2, 3, 4] (by decide))
    refine WPD.take rfl (v_eql rfl rfl) ?_ (fun _ h => h.sel [0, 1, 2, 3, 4] (by decide))
    refine WPD.ef rfl (x_call Try.call26 (valid_ct cs hs) [] [0, 1, 2, 3, 4] rfl (fun w hw => trivial) (τ := fun _ => [_, _, _, _, _]) (fun _ => rfl)) (fun _ _ _ h => h.2.sel [0, 1, 2, 3, 4] (by decide)) (fun _ => ?_)
    refine WPD.fact (fun _ => ?_)
    refine WPD.take rfl (v_is (b := false) (v_neB Try.underlying4 rfl rfl) (back1 hs)) ?_ (fun _ h => h.sel [0, 1, 2, 3, 4] (by decide))
    refine WPD.take rfl (v_move (v := .bool _) rfl) ?_ (fun _ h => h.sel [0, 1, 2, 3, 4] (by decide))
    refine WPD.take rfl (v_move (v := .int .i64 _) rfl) ?_ (fun _ h => h.sel [0, 1, 2, 3, 4] (by decide))
    refine WPD.take rfl (v_eql rfl rfl) ?_ (fun _ h => h.sel [0, 1, 2, 3, 4] (by decide))
    refine WPD.take rfl (v_move (v := .bool _) rfl) ?_ (fun _ h => h.sel [0, 1, 2, 3, 4] (by decide))
    refine WPD.split 38 rfl (fun h38 => ?_) (fun h38 => ?_)
    ·
      refine WPD.take rfl (v_loadA (cs := (getS (nums cs)).1) Try.isAgg57 Try.sizeOf57 rfl (fun w hw => hw.cl_at (i := 4) rfl 0 (whole _)) (SOk.len (getS_SOk (nums cs)))) ?_ (fun _ h => h.sel [0, 1, 2, 3, 4] (by decide))
      refine WPD.take rfl (v_loadA (cs := cs) Try.isAgg57 Try.sizeOf57 rfl (fun w hw => hw.cl_at (i := 0) rfl 0 (whole _)) (SOk.len hs)) ?_ (fun _ h => h.sel [0, 1, 2, 3, 4] (by decide))
      refine WPD.take rfl (v_is (b := false) (v_neA leaf57 (by kernel_rfl) (fun _ => rfl) rfl rfl (getS_SOk (nums cs)).leaves hs.leaves) (back2 hs h38)) ?_ (fun _ h => h.sel [0, 1, 2, 3, 4] (by decide))
      refine WPD.take rfl (v_pickT (u := .bool _) rfl rfl) ?_ (fun _ h => h.sel [0, 1, 2, 3, 4] (by decide))
      refine WPD.take rfl (v_pickF (v := .bool _) rfl rfl) ?_ (fun _ h => h.sel [0, 1, 2, 3, 4] (by decide))
      refine WPD.take rfl (v_move (v := .bool _) rfl) ?_ (fun _ h => h.sel [0, 1, 2, 3, 4] (by decide))
      refine WPD.take rfl (v_move (v := .slice _ _ _) rfl) ?_ (fun _ h => h.sel [0, 1, 2, 3, 4] (by decide))
      refine WPD.take rfl (v_move (v := .slice _ _ _) rfl) ?_ (fun _ h => h.sel [0, 1, 2, 3, 4] (by decide))
      refine WPD.take rfl (v_loadA (cs := cs) Try.isAgg57 Try.sizeOf57 rfl (fun w hw => hw.cl_at (i := 0) rfl 0 (whole _)) (SOk.len hs)) ?_ (fun _ h => h.sel [0, 1, 2, 3, 4] (by decide))
      refine WPD.take rfl (v_loadA (cs := ds) Try.isAgg57 Try.sizeOf57 rfl (fun w hw => hw.cl_at (i := 1) rfl 0 (whole _)) (SOk.len ht)) ?_ (fun _ h => h.sel [0, 1, 2, 3, 4] (by decide))
      refine WPD.take rfl (v_eqA leaf57 (by kernel_rfl) (fun _ => rfl) rfl rfl hs.leaves ht.leaves) ?_ (fun _ h => h.sel [0, 1, 2, 3, 4] (by decide))
      refine WPD.ef rfl (x_call Try.call19 (row_ct A1 A2 c1 c2 (nums cs) (nums ds) (nums_short' hs)) [] [0, 1, 2, 3, 4] rfl (fun w hw => ⟨hw.rd_row1 (i := 2) rfl, hw.rd_row1 (i := 3) rfl⟩) (τ := fun _ => [_, _, _, _, _]) (fun _ => rfl)) (fun _ _ _ h => h.2.sel [0, 1, 2, 3, 4] (by decide)) (fun _ => ?_)
      refine WPD.fact (fun _ => ?_)
      refine WPD.take rfl (v_is (b := false) (v_neB Try.underlying4 rfl rfl) (back3 hs ht)) ?_ (fun _ h => h.sel [0, 1, 2, 3, 4] (by decide))
      refine WPD.take rfl (v_pickF (v := .bool _) rfl rfl) ?_ (fun _ h => h.sel [0, 1, 2, 3, 4] (by decide))
      refine WPD.nil (onto_of ?_)
      refine WP.condF rfl ?_
      refine WP.skip (onto_of ?_)
      refine WP.seq ?_
      refine WP.region ?_
      refine WPL.val (v_move (v := .slice _ _ _) rfl) ?_
      refine WPL.ef (x_call Try.call29 (get_ct A c ls (by omega)) [] [0, 1, 2, 3, 4] rfl (fun w hw => hw.rd hz not_foots_nil) (τ := fun _ => [_, _, _, _, _]) (fun _ => rfl)) (fun _ => ?_)
      refine WPL.fact (fun _ => ?_)
      refine WPL.val (v_move rfl) ?_
      refine WPL.val (v_extract (v := .agg _) rfl rfl) ?_
      refine WPL.val (v_extract (v := .int .i64 _) rfl rfl) ?_
      refine WPL.ef (x_alloc (us := zeroS) (σ' := fun _ => [_, _, _, _, _, _]) Try.zeroValue57 rfl (fun _ => rfl)) (fun b12 => ?_)
      refine WPL.ef0 (x_storeW (us := (getS ls).1) (σ' := [_, _, _, _, _, _]) Try.sizeOf57 rfl rfl (i := 5) rfl (SOk.len (getS_SOk ls)) rfl (SOk.one (getS_SOk ls)) (SOk.len (getS_SOk ls))) (fun _ => ?_)
      refine WPL.val (v_assign (v := .int .i64 _) rfl) ?_
      refine WPL.nil (onto_of ?_)
      refine WP.seq ?_
      refine WP.region ?_
      refine WPL.val (v_move (v := .bool _) rfl) ?_
      refine WPL.val (v_move (v := .bool _) rfl) ?_
      refine WPL.valG (v_move (v := .int .i64 _) rfl) ?_
      refine WPL.valG (v_neq rfl rfl) ?_
      refine WPL.valG (v_move (v := .bool _) rfl) ?_
      refine WPL.split 62 rfl (fun h62 => ?_) (fun h62 => ?_)
      ·
        refine WPL.valG (v_loadA (cs := (getS ls).1) Try.isAgg57 Try.sizeOf57 rfl (fun w hw => hw.cl_at (i := 5) rfl 0 (whole _)) (SOk.len (getS_SOk ls))) ?_
        refine WPL.valG (v_struct (parts := []) (us := zeroS) (pl := [(0, 1), (1, 1), (2, 1), (3, 2), (5, 2), (7, 2), (9, 2), (11, 2), (13, 2), (15, 8), (23, 8), (31, 4), (35, 4), (39, 1), (40, 1), (41, 2), (43, 1), (44, 1), (45, 1), (46, 1), (47, 1), (48, 1), (49, 1), (50, 1), (51, 1), (52, 1), (53, 2)]) Try.underlying57 Try.zeroValue57 rfl (by kernel_rfl) rfl rfl (by kernel_rfl)) ?_
        refine WPL.valG (v_is (b := true) (v_eqA leaf57 (by kernel_rfl) (fun _ => rfl) rfl rfl (getS_SOk ls).leaves zeroS_ok.leaves) (back4 h62)) ?_
        refine WPL.valG (v_pickT (u := .bool _) rfl rfl) ?_
        refine WPL.valG (v_move (v := .bool _) rfl) ?_
        refine WPL.skipG ?_
        refine WPL.skipG ?_
        refine WPL.skipG ?_
        refine WPL.skipG ?_
        refine WPL.skipG ?_
        refine WPL.skipG ?_
        refine WPL.skipG ?_
        refine WPL.skipG ?_
        refine WPL.skipG ?_
        refine WPL.skipG ?_
        refine WPL.skipG ?_
        refine WPL.skipG ?_
        refine WPL.valG (v_pickT (u := .bool _) rfl rfl) ?_
        refine WPL.val (v_pickT (u := .bool _) rfl rfl) ?_
        refine WPL.val (v_assign (v := .bool _) rfl) ?_
        refine WPL.nil (onto_of ?_)
        exact WP.ret1 Try.results12 (fun _ h => h) (fun w hw => ⟨(), rfl, trivial, hw.sel [] (by decide)⟩)
      ·
        refine WPL.skipG ?_
        refine WPL.skipG ?_
        refine WPL.skipG ?_
        refine WPL.valG (v_pickF (v := .bool _) rfl rfl) ?_
        refine WPL.valG (v_move (v := .bool _) rfl) ?_
        refine WPL.valG (v_move (v := .int .i64 _) rfl) ?_
        refine WPL.valG (v_is (b := true) (v_eql rfl rfl) (decide_eq_true (Decidable.not_not.1 h62))) ?_
        refine WPL.valG (v_move (v := .bool _) rfl) ?_
        refine WPL.valG (v_loadA (cs := (getS ls).1) Try.isAgg57 Try.sizeOf57 rfl (fun w hw => hw.cl_at (i := 5) rfl 0 (whole _)) (SOk.len (getS_SOk ls))) ?_
        refine WPL.efG (x_call Try.call27 (put_ct (getS ls).1 (getS_SOk ls)) [] [0, 1, 2, 3, 4, 5] rfl (fun w hw => trivial) (τ := fun _ => [_, _, _, _, _, _, _]) (fun _ => rfl)) (fun ⟨A3, c3⟩ => ?_)
        refine WPL.fact (fun _ => ?_)
        refine WPL.valG (v_move (v := .slice _ _ _) rfl) ?_
        refine WPL.efG (x_call Try.call19 (rowT_ct A3 A c3 c (nums (getS ls).1) ls (nums_short' (getS_SOk ls)) (nums_decS (Decidable.not_not.1 h62))) [] [0, 1, 2, 3, 4, 5, 6] rfl (fun w hw => ⟨hw.rd_row1 (i := 6) rfl, hw.rd hz not_foots_nil⟩) (τ := fun _ => [_, _, _, _, _, _, _]) (fun _ => rfl)) (fun _ => ?_)
        refine WPL.fact (fun _ => ?_)
        refine WPL.valG (v_pickT (u := .bool _) rfl rfl) ?_
        refine WPL.valG (v_move (v := .bool _) rfl) ?_
        refine WPL.valG (v_loadA (cs := (getS ls).1) Try.isAgg57 Try.sizeOf57 rfl (fun w hw => hw.cl_at (i := 5) rfl 0 (whole _)) (SOk.len (getS_SOk ls))) ?_
        refine WPL.efG (x_call Try.call26 (by have h := valid_ct (getS ls).1 (getS_SOk ls); rw [ok_valid (Decidable.not_not.1 h62)] at h; exact h) [] [0, 1, 2, 3, 4, 5, 6] rfl (fun w hw => trivial) (τ := fun _ => [_, _, _, _, _, _, _]) (fun _ => rfl)) (fun _ => ?_)
        refine WPL.fact (fun _ => ?_)
        refine WPL.valG (v_pickT (u := .bool _) rfl rfl) ?_
        refine WPL.valG (v_pickF (v := .bool _) rfl rfl) ?_
        refine WPL.val (v_pickT (u := .bool _) rfl rfl) ?_
        refine WPL.val (v_assign (v := .bool _) rfl) ?_
        refine WPL.nil (onto_of ?_)
        exact WP.ret1 Try.results12 (fun _ h => h) (fun w hw => ⟨(), rfl, trivial, hw.sel [] (by decide)⟩)
    ·
      refine WPD.skip rfl ?_ (fun _ h => h.sel [0, 1, 2, 3, 4] (by decide))
      refine WPD.skip rfl ?_ (fun _ h => h.sel [0, 1, 2, 3, 4] (by decide))
      refine WPD.skip rfl ?_ (fun _ h => h.sel [0, 1, 2, 3, 4] (by decide))
      refine WPD.take rfl (v_pickF (v := .bool _) rfl rfl) ?_ (fun _ h => h.sel [0, 1, 2, 3, 4] (by decide))
      refine WPD.take rfl (v_pickF (v := .bool _) rfl rfl) ?_ (fun _ h => h.sel [0, 1, 2, 3, 4] (by decide))
      refine WPD.take rfl (v_move (v := .bool _) rfl) ?_ (fun _ h => h.sel [0, 1, 2, 3, 4] (by decide))
      refine WPD.take rfl (v_move (v := .slice _ _ _) rfl) ?_ (fun _ h => h.sel [0, 1, 2, 3, 4] (by decide))
      refine WPD.take rfl (v_move (v := .slice _ _ _) rfl) ?_ (fun _ h => h.sel [0, 1, 2, 3, 4] (by decide))
      refine WPD.take rfl (v_loadA (cs := cs) Try.isAgg57 Try.sizeOf57 rfl (fun w hw => hw.cl_at (i := 0) rfl 0 (whole _)) (SOk.len hs)) ?_ (fun _ h => h.sel [0, 1, 2, 3, 4] (by decide))
      refine WPD.take rfl (v_loadA (cs := ds) Try.isAgg57 Try.sizeOf57 rfl (fun w hw => hw.cl_at (i := 1) rfl 0 (whole _)) (SOk.len ht)) ?_ (fun _ h => h.sel [0, 1, 2, 3, 4] (by decide))
      refine WPD.take rfl (v_eqA leaf57 (by kernel_rfl) (fun _ => rfl) rfl rfl hs.leaves ht.leaves) ?_ (fun _ h => h.sel [0, 1, 2, 3, 4] (by decide))
      refine WPD.ef rfl (x_call Try.call19 (row_ct A1 A2 c1 c2 (nums cs) (nums ds) (nums_short' hs)) [] [0, 1, 2, 3, 4] rfl (fun w hw => ⟨hw.rd_row1 (i := 2) rfl, hw.rd_row1 (i := 3) rfl⟩) (τ := fun _ => [_, _, _, _, _]) (fun _ => rfl)) (fun _ _ _ h => h.2.sel [0, 1, 2, 3, 4] (by decide)) (fun _ => ?_)
      refine WPD.fact (fun _ => ?_)
      refine WPD.take rfl (v_is (b := false) (v_neB Try.underlying4 rfl rfl) (back3 hs ht)) ?_ (fun _ h => h.sel [0, 1, 2, 3, 4] (by decide))
      refine WPD.take rfl (v_pickF (v := .bool _) rfl rfl) ?_ (fun _ h => h.sel [0, 1, 2, 3, 4] (by decide))
      refine WPD.nil (onto_of ?_)
      refine WP.condF rfl ?_
      refine WP.skip (onto_of ?_)
      refine WP.seq ?_
      refine WP.region ?_
      refine WPL.val (v_move (v := .slice _ _ _) rfl) ?_
      refine WPL.ef (x_call Try.call29 (get_ct A c ls (by omega)) [] [0, 1, 2, 3, 4] rfl (fun w hw => hw.rd hz not_foots_nil) (τ := fun _ => [_, _, _, _, _]) (fun _ => rfl)) (fun _ => ?_)
      refine WPL.fact (fun _ => ?_)
      refine WPL.val (v_move rfl) ?_
      refine WPL.val (v_extract (v := .agg _) rfl rfl) ?_
      refine WPL.val (v_extract (v := .int .i64 _) rfl rfl) ?_
      refine WPL.ef (x_alloc (us := zeroS) (σ' := fun _ => [_, _, _, _, _, _]) Try.zeroValue57 rfl (fun _ => rfl)) (fun b12 => ?_)
      refine WPL.ef0 (x_storeW (us := (getS ls).1) (σ' := [_, _, _, _, _, _]) Try.sizeOf57 rfl rfl (i := 5) rfl (SOk.len (getS_SOk ls)) rfl (SOk.one (getS_SOk ls)) (SOk.len (getS_SOk ls))) (fun _ => ?_)
      refine WPL.val (v_assign (v := .int .i64 _) rfl) ?_
      refine WPL.nil (onto_of ?_)
      refine WP.seq ?_
      refine WP.region ?_
      refine WPL.val (v_move (v := .bool _) rfl) ?_
      refine WPL.val (v_move (v := .bool _) rfl) ?_
      refine WPL.valG (v_move (v := .int .i64 _) rfl) ?_
      refine WPL.valG (v_neq rfl rfl) ?_
      refine WPL.valG (v_move (v := .bool _) rfl) ?_
      refine WPL.split 62 rfl (fun h62 => ?_) (fun h62 => ?_)
      ·
        refine WPL.valG (v_loadA (cs := (getS ls).1) Try.isAgg57 Try.sizeOf57 rfl (fun w hw => hw.cl_at (i := 5) rfl 0 (whole _)) (SOk.len (getS_SOk ls))) ?_
        refine WPL.valG (v_struct (parts := []) (us := zeroS) (pl := [(0, 1), (1, 1), (2, 1), (3, 2), (5, 2), (7, 2), (9, 2), (11, 2), (13, 2), (15, 8), (23, 8), (31, 4), (35, 4), (39, 1), (40, 1), (41, 2), (43, 1), (44, 1), (45, 1), (46, 1), (47, 1), (48, 1), (49, 1), (50, 1), (51, 1), (52, 1), (53, 2)]) Try.underlying57 Try.zeroValue57 rfl (by kernel_rfl) rfl rfl (by kernel_rfl)) ?_
        refine WPL.valG (v_is (b := true) (v_eqA leaf57 (by kernel_rfl) (fun _ => rfl) rfl rfl (getS_SOk ls).leaves zeroS_ok.leaves) (back4 h62)) ?_
        refine WPL.valG (v_pickT (u := .bool _) rfl rfl) ?_
        refine WPL.valG (v_move (v := .bool _) rfl) ?_
        refine WPL.skipG ?_
        refine WPL.skipG ?_
        refine WPL.skipG ?_
        refine WPL.skipG ?_
        refine WPL.skipG ?_
        refine WPL.skipG ?_
        refine WPL.skipG ?_
        refine WPL.skipG ?_
        refine WPL.skipG ?_
        refine WPL.skipG ?_
        refine WPL.skipG ?_
        refine WPL.skipG ?_
        refine WPL.valG (v_pickT (u := .bool _) rfl rfl) ?_
        refine WPL.val (v_pickT (u := .bool _) rfl rfl) ?_
        refine WPL.val (v_assign (v := .bool _) rfl) ?_
        refine WPL.nil (onto_of ?_)
        exact WP.ret1 Try.results12 (fun _ h => h) (fun w hw => ⟨(), rfl, trivial, hw.sel [] (by decide)⟩)
      ·
        refine WPL.skipG ?_
        refine WPL.skipG ?_
        refine WPL.skipG ?_
        refine WPL.valG (v_pickF (v := .bool _) rfl rfl) ?_
        refine WPL.valG (v_move (v := .bool _) rfl) ?_
        refine WPL.valG (v_move (v := .int .i64 _) rfl) ?_
        refine WPL.valG (v_is (b := true) (v_eql rfl rfl) (decide_eq_true (Decidable.not_not.1 h62))) ?_
        refine WPL.valG (v_move (v := .bool _) rfl) ?_
        refine WPL.valG (v_loadA (cs := (getS ls).1) Try.isAgg57 Try.sizeOf57 rfl (fun w hw => hw.cl_at (i := 5) rfl 0 (whole _)) (SOk.len (getS_SOk ls))) ?_
        refine WPL.efG (x_call Try.call27 (put_ct (getS ls).1 (getS_SOk ls)) [] [0, 1, 2, 3, 4, 5] rfl (fun w hw => trivial) (τ := fun _ => [_, _, _, _, _, _, _]) (fun _ => rfl)) (fun ⟨A3, c3⟩ => ?_)
        refine WPL.fact (fun _ => ?_)
        refine WPL.valG (v_move (v := .slice _ _ _) rfl) ?_
        refine WPL.efG (x_call Try.call19 (rowT_ct A3 A c3 c (nums (getS ls).1) ls (nums_short' (getS_SOk ls)) (nums_decS (Decidable.not_not.1 h62))) [] [0, 1, 2, 3, 4, 5, 6] rfl (fun w hw => ⟨hw.rd_row1 (i := 6) rfl, hw.rd hz not_foots_nil⟩) (τ := fun _ => [_, _, _, _, _, _, _]) (fun _ => rfl)) (fun _ => ?_)
        refine WPL.fact (fun _ => ?_)
        refine WPL.valG (v_pickT (u := .bool _) rfl rfl) ?_
        refine WPL.valG (v_move (v := .bool _) rfl) ?_
        refine WPL.valG (v_loadA (cs := (getS ls).1) Try.isAgg57 Try.sizeOf57 rfl (fun w hw => hw.cl_at (i := 5) rfl 0 (whole _)) (SOk.len (getS_SOk ls))) ?_
        refine WPL.efG (x_call Try.call26 (by have h := valid_ct (getS ls).1 (getS_SOk ls); rw [ok_valid (Decidable.not_not.1 h62)] at h; exact h) [] [0, 1, 2, 3, 4, 5, 6] rfl (fun w hw => trivial) (τ := fun _ => [_, _, _, _, _, _, _]) (fun _ => rfl)) (fun _ => ?_)
        refine WPL.fact (fun _ => ?_)
        refine WPL.valG (v_pickT (u := .bool _) rfl rfl) ?_
        refine WPL.valG (v_pickF (v := .bool _) rfl rfl) ?_
        refine WPL.val (v_pickT (u := .bool _) rfl rfl) ?_
        refine WPL.val (v_assign (v := .bool _) rfl) ?_
        refine WPL.nil (onto_of ?_)
        exact WP.ret1 Try.results12 (fun _ h => h) (fun w hw => ⟨(), rfl, trivial, hw.sel [] (by decide)⟩)

set_option maxRecDepth 100000 in
set_option maxHeartbeats 2000000 in
theorem lawOne_ct (cs : List Value) (hs : SOk cs) (gap z k0 n0 : Int) : Ct Try.prog 13 #[.agg cs.toArray, .int .i64 gap, .int .i64 z, .agg #[.int .i64 k0, .int .i64 n0]] [] (fun _ => True) (X := Unit) (fun _ => .bool true) (fun _ => True) (fun _ => []) := by
  refine Ct.intro Try.func13 rfl Try.ntmps13 (by simp) (fun w0 _ => ?_)
  refine WP.seq ?_
  refine WP.region ?_
  refine WPL.ef (x_boxA (us := cs) (σ' := fun _ => [_]) rfl (fun _ => rfl)) (fun b4 => ?_)
  refine WPL.ef (x_boxA (us := [.int .i64 _, .int .i64 _]) (σ' := fun _ => [_, _]) rfl (fun _ => rfl)) (fun b7 => ?_)
  refine WPL.val (v_assign (v := .bool false) rfl) ?_
  refine WPL.nil (onto_of ?_)
  refine WP.seq ?_
  refine WP.region ?_
  refine WPL.ef (x_call Try.call24 works_ct [] [0, 1] rfl (fun w hw => trivial) (τ := fun _ => [_, _]) (fun _ => rfl)) (fun _ => ?_)
  refine WPL.fact (fun _ => ?_)
  refine WPL.val (v_assign (v := .bool _) rfl) ?_
  refine WPL.nil (onto_of ?_)
  refine WP.seq ?_
  refine WP.seq ?_
  refine WP.region ?_
  refine WPL.val (v_move (v := .bool _) rfl) ?_
  refine WPL.val (v_not rfl) ?_
  refine WPL.nil (onto_of ?_)
  refine WP.condF rfl ?_
  refine WP.skip (onto_of ?_)
  refine WP.seq ?_
  refine WP.region ?_
  refine WPL.val (v_loadA (cs := cs) Try.isAgg57 Try.sizeOf57 rfl (fun w hw => hw.cl_at (i := 0) rfl 0 (whole _)) (SOk.len hs)) ?_
  refine WPL.ef (x_call Try.call27 (put_ct cs hs) [] [0, 1] rfl (fun w hw => trivial) (τ := fun _ => [_, _, _]) (fun _ => rfl)) (fun ⟨A1, c1⟩ => ?_)
  refine WPL.fact (fun _ => ?_)
  refine WPL.val (v_assign (v := .slice _ _ _) rfl) ?_
  refine WPL.nil (onto_of ?_)
  refine WP.seq ?_
  refine WP.region ?_
  refine WPL.val (v_loadA (cs := cs) Try.isAgg57 Try.sizeOf57 rfl (fun w hw => hw.cl_at (i := 0) rfl 0 (whole _)) (SOk.len hs)) ?_
  refine WPL.ef (x_alloc (us := zeroS) (σ' := fun _ => [_, _, _, _]) Try.zeroValue57 rfl (fun _ => rfl)) (fun b11 => ?_)
  refine WPL.ef0 (x_storeW (us := cs) (σ' := [_, _, _, _]) Try.sizeOf57 rfl rfl (i := 3) rfl (SOk.len hs) rfl (SOk.one hs) (SOk.len hs)) (fun _ => ?_)
  refine WPL.nil (onto_of ?_)
  refine WP.seq ?_
  refine WP.region ?_
  refine WPL.val (v_move (v := .int .i64 _) rfl) ?_
  refine WPL.val (v_fieldL (o' := 46) Try.underlying57 rfl Try.sizeOf3 rfl rfl) ?_
  refine WPL.ef0 (x_store (u := .int .i64 _) (σ' := [_, _, _, _]) Try.sizeOf3 rfl rfl (i := 3) rfl (by simp [hs.len]) rfl) (fun _ => ?_)
  refine WPL.nil (onto_of ?_)
  refine WP.seq ?_
  refine WP.region ?_
  refine WPL.val (v_move (v := .int .i64 _) rfl) ?_
  refine WPL.val (v_fieldL (o' := 48) Try.underlying57 rfl Try.sizeOf3 rfl rfl) ?_
  refine WPL.ef0 (x_store (u := .int .i64 _) (σ' := [_, _, _, _]) Try.sizeOf3 rfl rfl (i := 3) rfl (by simp [hs.len]) rfl) (fun _ => ?_)
  refine WPL.nil (onto_of ?_)
  refine WP.seq ?_
  refine WP.region ?_
  refine WPL.val (v_loadA (cs := [.int .i64 _, .int .i64 _]) Try.isAgg48 Try.sizeOf48 rfl (fun w hw => hw.cl_at (i := 1) rfl _ rfl)) ?_
  refine WPL.val (v_fieldL (o' := 15) Try.underlying57 rfl Try.sizeOf49 rfl rfl) ?_
  refine WPL.val (v_indexA (j := 0) Try.underlying49 Try.sizeOf48 rfl rfl rfl (by decide)) ?_
  refine WPL.ef0 (x_storeA (us := [.int .i64 k0, .int .i64 n0]) (σ' := [_, _, _, _]) Try.sizeOf48 rfl rfl (i := 3) rfl (by simp [hs.len]) rfl (by simp [Value.oneCell'])) (fun _ => ?_)
  rw [show setL ((cs.set 46 (.int .i64 gap)).set 48 (.int .i64 z)) 15 [.int .i64 k0, .int .i64 n0] = oneS cs gap z k0 n0 from rfl]
  refine WPL.nil (onto_of ?_)
  refine WP.seq ?_
  refine WP.region ?_
  refine WPL.val (v_loadA (cs := (oneS cs gap z k0 n0)) Try.isAgg57 Try.sizeOf57 rfl (fun w hw => hw.cl_at (i := 3) rfl 0 (whole _)) (SOk.len (oneS_ok hs gap z k0 n0))) ?_
  refine WPL.ef (x_call Try.call27 (put_ct (oneS cs gap z k0 n0) (oneS_ok hs gap z k0 n0)) [] [0, 1, 2, 3] rfl (fun w hw => trivial) (τ := fun _ => [_, _, _, _, _]) (fun _ => rfl)) (fun ⟨A2, c2⟩ => ?_)
  refine WPL.fact (fun _ => ?_)
  refine WPL.val (v_assign (v := .slice _ _ _) rfl) ?_
  refine WPL.nil (onto_of ?_)
  refine WP.seq ?_
  refine WP.seq ?_
  refine WP.region ?_
  refine WPL.val (v_move (v := .slice _ _ _) rfl) ?_
  refine WPL.val (v_len Try.underlying32 rfl) ?_
  refine WPL.val (v_is (b := false) (v_neq rfl rfl) (by rw [nums_len hs]; rfl)) ?_
  refine WPL.val (v_move (v := .bool _) rfl) ?_
  refine WPL.valG (v_move (v := .slice _ _ _) rfl) ?_
  refine WPL.valG (v_len Try.underlying32 rfl) ?_
  refine WPL.valG (v_is (b := false) (v_neq rfl rfl) (by rw [nums_len (oneS_ok hs gap z k0 n0)]; rfl)) ?_
  refine WPL.val (v_pickF (v := .bool _) rfl rfl) ?_
  refine WPL.nil (onto_of ?_)
  refine WP.condF rfl ?_
  refine WP.skip (onto_of ?_)
  refine WP.seq ?_
  refine WP.seq ?_
  refine WP.holds (fun w hw => hw.row_pos (i := 2) rfl (by rw [nums_len hs]; decide)) (fun ⟨lb1, hA⟩ => ?_)
  subst hA
  refine WP.holds (fun w hw => hw.row_pos (i := 4) rfl (by rw [nums_len (oneS_ok hs gap z k0 n0)]; decide)) (fun ⟨lb2, hA⟩ => ?_)
  subst hA
  have hn1 := nums_len hs
  have hn2 := nums_len (oneS_ok hs gap z k0 n0)
  refine WP.region ?_
  refine WPL.val (v_assign (v := .int .i64 (0)) rfl) ?_
  refine WPL.nil (onto_of ?_)
  refine WP.block ?_
  refine WP.loopK (X := Nat) [1, 2, 7, 9, 10, 12] (fun k => [(13, .int .i64 (k : Int))]) (fun k w => k ≤ 55 ∧ St w0 (foots []) [.cl b7 48 [.int .i64 k0, .int .i64 n0], .row 3 1 (some ⟨lb1, 0, none⟩) (nums cs).length c1 ((nums cs).map (Value.int .i64)), .row 3 1 (some ⟨lb2, 0, none⟩) (nums (oneS cs gap z k0 n0)).length c2 ((nums (oneS cs gap z k0 n0)).map (Value.int .i64))] w) (fun k => 55 - k) 0 ⟨rfl, trivial⟩ (fun w hw => ⟨by omega, (hw.sel [1, 2, 4] (by decide))⟩) (fun k ρ0 => ?_)
  refine WP.fact (fun hk => ?_)
  refine WP.seq ?_
  refine WP.seq ?_
  refine WP.region ?_
  refine WPL.val (v_move (v := .int .i64 _) rfl) ?_
  refine WPL.val (v_lss rfl rfl) ?_
  refine WPL.nil (onto_of ?_)
  refine WP.condP rfl (fun h39 => ?_) (fun h39 => ?_)
  ·
    have hk55 : k < 55 := by omega
    refine WP.skip (onto_of ?_)
    refine WP.seq ?_
    refine WP.block ?_
    refine WP.midS [1, 2, 7, 9, 10, 12, 13] [(14, .bool (mineB k))] ?_ (fun ρ0 => ?_)
    ·
      refine WP.region ?_
      refine WPL.val (v_move (v := .int .i64 _) rfl) ?_
      refine WPL.val (v_eql rfl rfl) ?_
      refine WPL.val (v_move (v := .bool _) rfl) ?_
      refine WPL.split 44 rfl (fun h44 => ?_) (fun h44 => ?_)
      ·
        refine WPL.skipG ?_
        refine WPL.skipG ?_
        refine WPL.val (v_pickT (u := .bool _) rfl rfl) ?_
        refine WPL.val (v_move (v := .bool _) rfl) ?_
        refine WPL.skipG ?_
        refine WPL.skipG ?_
        refine WPL.val (v_pickT (u := .bool _) rfl rfl) ?_
        refine WPL.val (v_move (v := .bool _) rfl) ?_
        refine WPL.skipG ?_
        refine WPL.skipG ?_
        refine WPL.val (v_pickT (u := .bool _) rfl rfl) ?_
        refine WPL.val (v_assign (v := .bool _) rfl) ?_
        exact WPL.nil fun w hw => ⟨rfl, ⟨(congrArg Value.bool (by rw [Bool.eq_iff_iff]; simp only [mineB, Bool.or_eq_true, beq_iff_eq, decide_eq_true_eq, true_iff]; omega)), (via (.int .i64 _) rfl rfl), (via (.int .i64 _) rfl rfl), rfl, (via (.bool _) rfl rfl), (via (.slice _ _ _) rfl rfl), (via (.slice _ _ _) rfl rfl), (via (.int .i64 _) rfl rfl), trivial⟩, hw⟩
      ·
        refine WPL.valG (v_move (v := .int .i64 _) rfl) ?_
        refine WPL.valG (v_eql rfl rfl) ?_
        refine WPL.val (v_pickF (v := .bool _) rfl rfl) ?_
        refine WPL.val (v_move (v := .bool _) rfl) ?_
        refine WPL.split 48 rfl (fun h48 => ?_) (fun h48 => ?_)
        ·
          refine WPL.skipG ?_
          refine WPL.skipG ?_
          refine WPL.val (v_pickT (u := .bool _) rfl rfl) ?_
          refine WPL.val (v_move (v := .bool _) rfl) ?_
          refine WPL.skipG ?_
          refine WPL.skipG ?_
          refine WPL.val (v_pickT (u := .bool _) rfl rfl) ?_
          refine WPL.val (v_assign (v := .bool _) rfl) ?_
          exact WPL.nil fun w hw => ⟨rfl, ⟨(congrArg Value.bool (by rw [Bool.eq_iff_iff]; simp only [mineB, Bool.or_eq_true, beq_iff_eq, decide_eq_true_eq, true_iff]; omega)), (via (.int .i64 _) rfl rfl), (via (.int .i64 _) rfl rfl), rfl, (via (.bool _) rfl rfl), (via (.slice _ _ _) rfl rfl), (via (.slice _ _ _) rfl rfl), (via (.int .i64 _) rfl rfl), trivial⟩, hw⟩
        ·
          refine WPL.valG (v_move (v := .int .i64 _) rfl) ?_
          refine WPL.valG (v_eql rfl rfl) ?_
          refine WPL.val (v_pickF (v := .bool _) rfl rfl) ?_
          refine WPL.val (v_move (v := .bool _) rfl) ?_
          refine WPL.split 52 rfl (fun h52 => ?_) (fun h52 => ?_)
          ·
            refine WPL.skipG ?_
            refine WPL.skipG ?_
            refine WPL.val (v_pickT (u := .bool _) rfl rfl) ?_
            refine WPL.val (v_assign (v := .bool _) rfl) ?_
            exact WPL.nil fun w hw => ⟨rfl, ⟨(congrArg Value.bool (by rw [Bool.eq_iff_iff]; simp only [mineB, Bool.or_eq_true, beq_iff_eq, decide_eq_true_eq, true_iff]; omega)), (via (.int .i64 _) rfl rfl), (via (.int .i64 _) rfl rfl), rfl, (via (.bool _) rfl rfl), (via (.slice _ _ _) rfl rfl), (via (.slice _ _ _) rfl rfl), (via (.int .i64 _) rfl rfl), trivial⟩, hw⟩
          ·
            refine WPL.valG (v_move (v := .int .i64 _) rfl) ?_
            refine WPL.valG (v_eql rfl rfl) ?_
            refine WPL.val (v_pickF (v := .bool _) rfl rfl) ?_
            refine WPL.val (v_assign (v := .bool _) rfl) ?_
            exact WPL.nil fun w hw => ⟨rfl, ⟨(congrArg Value.bool (by rw [Bool.eq_iff_iff]; simp only [mineB, Bool.or_eq_true, beq_iff_eq, decide_eq_true_eq, true_iff]; omega)), (via (.int .i64 _) rfl rfl), (via (.int .i64 _) rfl rfl), rfl, (via (.bool _) rfl rfl), (via (.slice _ _ _) rfl rfl), (via (.slice _ _ _) rfl rfl), (via (.int .i64 _) rfl rfl), trivial⟩, hw⟩
    ·
      refine WP.seq ?_
      refine WP.drawS none [(0, true), (1, true), (2, true), (3, true), (4, true), (5, true), (6, true), (7, true), (8, true), (9, true), (10, true), (11, true), (12, true)] mixed (by kernel_rfl) (by decide) (fun _ h => h.drawn) ?_
      refine WPD.take rfl (v_move (v := .bool _) rfl) ?_ (fun _ h => h)
      refine WPD.take rfl (v_not rfl) ?_ (fun _ h => h)
      refine WPD.take rfl (v_move (v := .bool _) rfl) ?_ (fun _ h => h)
      refine WPD.splitB 58 rfl (fun h58 => ?_) (fun h58 => ?_)
      ·
        refine WPD.take rfl (v_move (v := .slice _ _ _) rfl) ?_ (fun _ h => h)
        refine WPD.take rfl (v_move (v := .int .i64 _) rfl) ?_ (fun _ h => h)
        refine WPD.take rfl (v_index Try.underlying32 Try.sizeOf3 rfl rfl rfl (by omega)) ?_ (fun _ h => h)
        refine WPD.take rfl (v_load1 (u := .int .i64 _) Try.isAgg3 rfl (fun w hw => hw.row_at1 (i := 1) rfl (intAt (nums_at hs (j := k) (by omega))) (by omega))) ?_ (fun _ h => h)
        refine WPD.take rfl (v_move (v := .slice _ _ _) rfl) ?_ (fun _ h => h)
        refine WPD.take rfl (v_move (v := .int .i64 _) rfl) ?_ (fun _ h => h)
        refine WPD.take rfl (v_index Try.underlying32 Try.sizeOf3 rfl rfl rfl (by omega)) ?_ (fun _ h => h)
        refine WPD.take rfl (v_load1 (u := .int .i64 _) Try.isAgg3 rfl (fun w hw => hw.row_at1 (i := 2) rfl (intAt (nums_at (oneS_ok hs gap z k0 n0) (j := k) (by omega))) (by omega))) ?_ (fun _ h => h)
        refine WPD.take rfl (v_is (b := false) (v_neq rfl rfl) (decide_eq_false (fun h => h (oneS_other cs gap z k0 n0 k (by simpa using h58)).symm))) ?_ (fun _ h => h)
        refine WPD.take rfl (v_pickT (u := .bool _) rfl rfl) ?_ (fun _ h => h)
        refine WPD.nil (onto_of ?_)
        refine WP.condF rfl ?_
        refine WP.skip (onto_of ?_)
        refine WP.region ?_
        refine WPL.val (v_move (v := .int .i64 _) rfl) ?_
        refine WPL.val (v_add rfl rfl (by omega)) ?_
        refine WPL.val (v_assign (v := .int .i64 _) rfl) ?_
        exact WPL.nil fun w hw => ⟨rfl, k + 1, (by omega), ⟨rfl, (via (.int .i64 _) rfl rfl), (via (.int .i64 _) rfl rfl), rfl, (via (.bool _) rfl rfl), (via (.slice _ _ _) rfl rfl), (via (.slice _ _ _) rfl rfl), trivial⟩, by omega, (hw.sel [0, 1, 2] (by decide))⟩
      ·
        refine WPD.skip rfl ?_ (fun _ h => h)
        refine WPD.skip rfl ?_ (fun _ h => h)
        refine WPD.skip rfl ?_ (fun _ h => h)
        refine WPD.skip rfl ?_ (fun _ h => h)
        refine WPD.skip rfl ?_ (fun _ h => h)
        refine WPD.skip rfl ?_ (fun _ h => h)
        refine WPD.skip rfl ?_ (fun _ h => h)
        refine WPD.skip rfl ?_ (fun _ h => h)
        refine WPD.skip rfl ?_ (fun _ h => h)
        refine WPD.take rfl (v_pickF (v := .bool _) rfl rfl) ?_ (fun _ h => h)
        refine WPD.nil (onto_of ?_)
        refine WP.condF rfl ?_
        refine WP.skip (onto_of ?_)
        refine WP.region ?_
        refine WPL.val (v_move (v := .int .i64 _) rfl) ?_
        refine WPL.val (v_add rfl rfl (by omega)) ?_
        refine WPL.val (v_assign (v := .int .i64 _) rfl) ?_
        exact WPL.nil fun w hw => ⟨rfl, k + 1, (by omega), ⟨rfl, (via (.int .i64 _) rfl rfl), (via (.int .i64 _) rfl rfl), rfl, (via (.bool _) rfl rfl), (via (.slice _ _ _) rfl rfl), (via (.slice _ _ _) rfl rfl), trivial⟩, by omega, (hw.sel [0, 1, 2] (by decide))⟩
  ·
    obtain rfl : k = 55 := by omega
    refine WP.exit (onto_of ?_)
    refine WP.seq ?_
    refine WP.drawS none [(0, true), (1, true), (2, true), (3, true), (4, true), (5, true), (6, true), (7, true), (8, true), (9, true), (10, true), (11, true), (12, true), (13, true), (14, true), (15, true), (16, true), (17, true), (18, true), (19, true), (20, true), (21, true), (22, true), (23, true), (24, true), (25, true), (26, true), (27, true), (28, true), (29, true), (30, true), (31, true)] mixed (by kernel_rfl) (by decide) (fun _ h => h.drawn) ?_
    refine WPD.take rfl (v_move (v := .bool _) rfl) ?_ (fun _ h => h)
    refine WPD.take rfl (v_move (v := .bool _) rfl) ?_ (fun _ h => h)
    refine WPD.take rfl (v_move (v := .slice _ _ _) rfl) ?_ (fun _ h => h)
    refine WPD.take rfl (v_index (j := 46) Try.underlying32 Try.sizeOf3 rfl rfl rfl (by omega)) ?_ (fun _ h => h)
    refine WPD.take rfl (v_load1 (u := .int .i64 _) Try.isAgg3 rfl (fun w hw => hw.row_at1 (i := 2) rfl (intAt (nums_at (oneS_ok hs gap z k0 n0) (j := 46) (by omega))) (by omega))) ?_ (fun _ h => h)
    refine WPD.take rfl (v_move (v := .int .i64 _) rfl) ?_ (fun _ h => h)
    refine WPD.take rfl (v_is (b := true) (v_eql rfl rfl) (decide_eq_true (oneS_46 hs gap z k0 n0))) ?_ (fun _ h => h)
    refine WPD.take rfl (v_pickT (u := .bool _) rfl rfl) ?_ (fun _ h => h)
    refine WPD.take rfl (v_move (v := .bool _) rfl) ?_ (fun _ h => h)
    refine WPD.take rfl (v_move (v := .slice _ _ _) rfl) ?_ (fun _ h => h)
    refine WPD.take rfl (v_index (j := 48) Try.underlying32 Try.sizeOf3 rfl rfl rfl (by omega)) ?_ (fun _ h => h)
    refine WPD.take rfl (v_load1 (u := .int .i64 _) Try.isAgg3 rfl (fun w hw => hw.row_at1 (i := 2) rfl (intAt (nums_at (oneS_ok hs gap z k0 n0) (j := 48) (by omega))) (by omega))) ?_ (fun _ h => h)
    refine WPD.take rfl (v_move (v := .int .i64 _) rfl) ?_ (fun _ h => h)
    refine WPD.take rfl (v_is (b := true) (v_eql rfl rfl) (decide_eq_true (oneS_48 hs gap z k0 n0))) ?_ (fun _ h => h)
    refine WPD.take rfl (v_pickT (u := .bool _) rfl rfl) ?_ (fun _ h => h)
    refine WPD.take rfl (v_move (v := .bool _) rfl) ?_ (fun _ h => h)
    refine WPD.take rfl (v_move (v := .slice _ _ _) rfl) ?_ (fun _ h => h)
    refine WPD.take rfl (v_index (j := 15) Try.underlying32 Try.sizeOf3 rfl rfl rfl (by omega)) ?_ (fun _ h => h)
    refine WPD.take rfl (v_load1 (u := .int .i64 _) Try.isAgg3 rfl (fun w hw => hw.row_at1 (i := 2) rfl (intAt (nums_at (oneS_ok hs gap z k0 n0) (j := 15) (by omega))) (by omega))) ?_ (fun _ h => h)
    refine WPD.take rfl (v_fieldL (o' := 0) Try.underlying48 rfl Try.sizeOf46 rfl rfl) ?_ (fun _ h => h)
    refine WPD.take rfl (v_load1 (u := .int .i64 _) Try.isAgg46 rfl (fun w hw => hw.cl_at (i := 0) rfl _ rfl)) ?_ (fun _ h => h)
    refine WPD.take rfl (v_is (b := true) (v_eql rfl rfl) (decide_eq_true (oneS_15 hs gap z k0 n0))) ?_ (fun _ h => h)
    refine WPD.take rfl (v_pickT (u := .bool _) rfl rfl) ?_ (fun _ h => h)
    refine WPD.take rfl (v_move (v := .bool _) rfl) ?_ (fun _ h => h)
    refine WPD.take rfl (v_move (v := .slice _ _ _) rfl) ?_ (fun _ h => h)
    refine WPD.take rfl (v_index (j := 16) Try.underlying32 Try.sizeOf3 rfl rfl rfl (by omega)) ?_ (fun _ h => h)
    refine WPD.take rfl (v_load1 (u := .int .i64 _) Try.isAgg3 rfl (fun w hw => hw.row_at1 (i := 2) rfl (intAt (nums_at (oneS_ok hs gap z k0 n0) (j := 16) (by omega))) (by omega))) ?_ (fun _ h => h)
    refine WPD.take rfl (v_fieldL (o' := 1) Try.underlying48 rfl Try.sizeOf3 rfl rfl) ?_ (fun _ h => h)
    refine WPD.take rfl (v_load1 (u := .int .i64 _) Try.isAgg3 rfl (fun w hw => hw.cl_at (i := 0) rfl _ rfl)) ?_ (fun _ h => h)
    refine WPD.take rfl (v_is (b := true) (v_eql rfl rfl) (decide_eq_true (oneS_16 hs gap z k0 n0))) ?_ (fun _ h => h)
    refine WPD.take rfl (v_pickT (u := .bool _) rfl rfl) ?_ (fun _ h => h)
    refine WPD.take rfl (v_assign (v := .bool _) rfl) ?_ (fun _ h => h)
    refine WPD.nil (onto_of ?_)
    exact WP.ret1 Try.results13 (fun _ h => h) (fun w hw => ⟨(), rfl, trivial, hw.sel [] (by decide)⟩)

set_option maxRecDepth 100000 in
set_option maxHeartbeats 2000000 in
theorem lawLimits_ct (A : Option Addr) (c : Nat) (ls : List Int) : Ct Try.prog 14 #[.slice A ls.length c] [] (fun w => RdI w A ls) (X := Unit) (fun _ => .bool true) (fun _ => True) (fun _ => []) := by
  refine Ct.intro Try.func14 rfl Try.ntmps14 (by simp) (fun w0 hz => ?_)
  refine WP.seq ?_
  refine WP.region ?_
  refine WPL.val (v_assign (v := .bool false) rfl) ?_
  refine WPL.nil (onto_of ?_)
  refine WP.seq ?_
  refine WP.region ?_
  refine WPL.ef (x_call Try.call24 works_ct [] [] rfl (fun w hw => trivial) (τ := fun _ => []) (fun _ => rfl)) (fun _ => ?_)
  refine WPL.fact (fun _ => ?_)
  refine WPL.val (v_assign (v := .bool _) rfl) ?_
  refine WPL.nil (onto_of ?_)
  refine WP.seq ?_
  refine WP.seq ?_
  refine WP.region ?_
  refine WPL.val (v_move (v := .bool _) rfl) ?_
  refine WPL.val (v_not rfl) ?_
  refine WPL.nil (onto_of ?_)
  refine WP.condF rfl ?_
  refine WP.skip (onto_of ?_)
  refine WP.seq ?_
  refine WP.seq ?_
  refine WP.region ?_
  refine WPL.val (v_move (v := .slice _ _ _) rfl) ?_
  refine WPL.val (v_len Try.underlying32 rfl) ?_
  refine WPL.val (v_gtr rfl rfl) ?_
  refine WPL.nil (onto_of ?_)
  refine WP.condP rfl (fun h12 => ?_) (fun h12 => ?_)
  ·
    refine WP.seq ?_
    refine WP.region ?_
    refine WPL.val (v_move (v := .bool _) rfl) ?_
    refine WPL.val (v_assign (v := .bool _) rfl) ?_
    refine WPL.nil (onto_of ?_)
    exact WP.ret1 Try.results14 (fun _ h => h) (fun w hw => ⟨(), rfl, trivial, hw.sel [] (by decide)⟩)
  ·
    refine WP.skip (onto_of ?_)
    refine WP.seq ?_
    refine WP.region ?_
    refine WPL.val (v_move (v := .slice _ _ _) rfl) ?_
    refine WPL.ef (x_call Try.call29 (get_ct A c ls (by omega)) [] [] rfl (fun w hw => hw.rd hz not_foots_nil) (τ := fun _ => []) (fun _ => rfl)) (fun _ => ?_)
    refine WPL.fact (fun _ => ?_)
    refine WPL.val (v_move rfl) ?_
    refine WPL.val (v_extract (v := .agg _) rfl rfl) ?_
    refine WPL.val (v_extract (v := .int .i64 _) rfl rfl) ?_
    refine WPL.ef (x_alloc (us := zeroS) (σ' := fun _ => [_]) Try.zeroValue57 rfl (fun _ => rfl)) (fun b4 => ?_)
    refine WPL.ef0 (x_storeW (us := (getS ls).1) (σ' := [_]) Try.sizeOf57 rfl rfl (i := 0) rfl (SOk.len (getS_SOk ls)) rfl (SOk.one (getS_SOk ls)) (SOk.len (getS_SOk ls))) (fun _ => ?_)
    refine WPL.val (v_assign (v := .int .i64 _) rfl) ?_
    refine WPL.nil (onto_of ?_)
    refine WP.seq ?_
    refine WP.seq ?_
    refine WP.region ?_
    refine WPL.val (v_move (v := .int .i64 _) rfl) ?_
    refine WPL.val (v_neq rfl rfl) ?_
    refine WPL.nil (onto_of ?_)
    refine WP.condP rfl (fun h20 => ?_) (fun h20 => ?_)
    ·
      refine WP.seq ?_
      refine WP.region ?_
      refine WPL.val (v_move (v := .bool _) rfl) ?_
      refine WPL.val (v_move (v := .bool _) rfl) ?_
      refine WPL.valG (v_struct (us := sG) (pl := [(0, 1), (1, 1), (2, 1), (3, 2), (5, 2), (7, 2), (9, 2), (11, 2), (13, 2), (15, 8), (23, 8), (31, 4), (35, 4), (39, 1), (40, 1), (41, 2), (43, 1), (44, 1), (45, 1), (46, 1), (47, 1), (48, 1), (49, 1), (50, 1), (51, 1), (52, 1), (53, 2)]) Try.underlying57 Try.zeroValue57 rfl (by kernel_rfl) rfl rfl (by kernel_rfl)) ?_
      refine WPL.efG (x_call Try.call26 (by have h := valid_ct sG sG_ok; rw [sG_valid] at h; exact h) [] [0] rfl (fun w hw => trivial) (τ := fun _ => [_]) (fun _ => rfl)) (fun _ => ?_)
      refine WPL.fact (fun _ => ?_)
      refine WPL.valG (v_not rfl) ?_
      refine WPL.val (v_pickT (u := .bool _) rfl rfl) ?_
      refine WPL.val (v_move (v := .bool _) rfl) ?_
      refine WPL.valG (v_move (v := .slice _ _ _) rfl) ?_
      refine WPL.valG (v_len Try.underlying32 rfl) ?_
      refine WPL.valG (v_lss rfl rfl) ?_
      refine WPL.valG (v_move (v := .int .i64 _) rfl) ?_
      refine WPL.valG (v_eql rfl rfl) ?_
      refine WPL.valG (v_is (b := true) (v_eqB Try.underlying4 rfl rfl) (by have h := getS_short ls; rw [beq_iff_eq, decide_eq_decide]; omega)) ?_
      refine WPL.val (v_pickT (u := .bool _) rfl rfl) ?_
      refine WPL.val (v_assign (v := .bool _) rfl) ?_
      refine WPL.nil (onto_of ?_)
      exact WP.ret1 Try.results14 (fun _ h => h) (fun w hw => ⟨(), rfl, trivial, hw.sel [] (by decide)⟩)
    ·
      have hok : (getS ls).2 = 0 := Decidable.not_not.1 h20
      have hl55 := (getS_ok hok).1
      have hin := ok_in hok
      refine WP.skip (onto_of ?_)
      refine WP.seq ?_
      refine WP.seq ?_
      refine WP.region ?_
      refine WPL.val (v_assign (v := .int .i64 (0)) rfl) ?_
      refine WPL.nil (onto_of ?_)
      refine WP.block ?_
      refine WP.loopK (X := Nat) [0, 3, 4] (fun k => [(6, .int .i64 (k : Int))]) (fun k w => k ≤ ls.length ∧ St w0 (foots []) [.cl b4 57 (getS ls).1] w) (fun k => ls.length - k) 0 ⟨rfl, trivial⟩ (fun w hw => ⟨by omega, hw⟩) (fun k ρ0 => ?_)
      refine WP.fact (fun hk => ?_)
      refine WP.seq ?_
      refine WP.seq ?_
      refine WP.region ?_
      refine WPL.val (v_move (v := .int .i64 _) rfl) ?_
      refine WPL.val (v_move (v := .slice _ _ _) rfl) ?_
      refine WPL.val (v_len Try.underlying32 rfl) ?_
      refine WPL.val (v_lss rfl rfl) ?_
      refine WPL.nil (onto_of ?_)
      refine WP.condP rfl (fun h38 => ?_) (fun h38 => ?_)
      ·
        have hk' : k < ls.length := by omega
        obtain ⟨x, hx⟩ : ∃ x, ls[k]? = some x := ⟨_, List.getElem?_eq_getElem hk'⟩
        obtain ⟨b, o, rfl, hc⟩ := hz k x hx
        have hbd := limit_bd hok hx
        refine WP.skip (onto_of ?_)
        refine WP.seq ?_
        refine WP.block ?_
        refine WP.seq ?_
        refine WP.region ?_
        refine WPL.val (v_move (v := .slice _ _ _) rfl) ?_
        refine WPL.val (v_move (v := .int .i64 _) rfl) ?_
        refine WPL.val (v_index Try.underlying32 Try.sizeOf3 rfl rfl rfl (by omega)) ?_
        refine WPL.val (v_load1 (u := .int .i64 _) Try.isAgg3 rfl (fun w hw => hw.old_at hc (not_foots_nil _))) ?_
        refine WPL.val (v_is (b := false) (v_gtr rfl rfl) (decide_eq_false (by omega))) ?_
        refine WPL.val (v_move (v := .bool _) rfl) ?_
        refine WPL.valG (v_move (v := .slice _ _ _) rfl) ?_
        refine WPL.valG (v_move (v := .int .i64 _) rfl) ?_
        refine WPL.valG (v_index Try.underlying32 Try.sizeOf3 rfl rfl rfl (by omega)) ?_
        refine WPL.valG (v_load1 (u := .int .i64 _) Try.isAgg3 rfl (fun w hw => hw.old_at hc (not_foots_nil _))) ?_
        refine WPL.valG (v_is (b := false) (v_lss rfl rfl) (decide_eq_false (by omega))) ?_
        refine WPL.val (v_pickF (v := .bool _) rfl rfl) ?_
        refine WPL.nil (onto_of ?_)
        refine WP.condF rfl ?_
        refine WP.skip (onto_of ?_)
        refine WP.region ?_
        refine WPL.val (v_move (v := .int .i64 _) rfl) ?_
        refine WPL.val (v_add rfl rfl (by omega)) ?_
        refine WPL.val (v_assign (v := .int .i64 _) rfl) ?_
        exact WPL.nil fun w hw => ⟨rfl, k + 1, (by omega), ⟨rfl, (via (.slice _ _ _) rfl rfl), (via (.bool _) rfl rfl), rfl, trivial⟩, by omega, hw⟩
      ·
        refine WP.exit (onto_of ?_)
        refine WP.seq ?_
        refine WP.region ?_
        refine WPL.val (v_move (v := .bool _) rfl) ?_
        refine WPL.val (v_move (v := .bool _) rfl) ?_
        refine WPL.valG (v_loadA (cs := (getS ls).1) Try.isAgg57 Try.sizeOf57 rfl (fun w hw => hw.cl_at (i := 0) rfl 0 (whole _)) (SOk.len (getS_SOk ls))) ?_
        refine WPL.efG (x_call Try.call26 (by have h := valid_ct (getS ls).1 (getS_SOk ls); rw [ok_valid hok] at h; exact h) [] [0] rfl (fun w hw => trivial) (τ := fun _ => [_]) (fun _ => rfl)) (fun _ => ?_)
        refine WPL.fact (fun _ => ?_)
        refine WPL.val (v_pickT (u := .bool _) rfl rfl) ?_
        refine WPL.val (v_move (v := .bool _) rfl) ?_
        refine WPL.valG (v_move (v := .slice _ _ _) rfl) ?_
        refine WPL.valG (v_len Try.underlying32 rfl) ?_
        refine WPL.valG (v_is (b := true) (v_eql rfl rfl) (decide_eq_true (by omega))) ?_
        refine WPL.val (v_pickT (u := .bool _) rfl rfl) ?_
        refine WPL.val (v_move (v := .bool _) rfl) ?_
        refine WPL.valG (v_fieldL (o' := 0) Try.underlying57 rfl Try.sizeOf43 rfl rfl) ?_
        refine WPL.valG (v_load1 (u := .int .i64 _) Try.isAgg43 rfl (fun w hw => hw.cl_at (i := 0) rfl 0 (cell_of ((getS_SOk ls).int 0 (by decide) (by decide))))) ?_
        refine WPL.valG (v_is (b := true) (v_geq rfl rfl) (decide_eq_true hin.1.1)) ?_
        refine WPL.val (v_pickT (u := .bool _) rfl rfl) ?_
        refine WPL.val (v_move (v := .bool _) rfl) ?_
        refine WPL.valG (v_fieldL (o' := 0) Try.underlying57 rfl Try.sizeOf43 rfl rfl) ?_
        refine WPL.valG (v_load1 (u := .int .i64 _) Try.isAgg43 rfl (fun w hw => hw.cl_at (i := 0) rfl 0 (cell_of ((getS_SOk ls).int 0 (by decide) (by decide))))) ?_
        refine WPL.valG (v_is (b := true) (v_leq rfl rfl) (decide_eq_true hin.1.2)) ?_
        refine WPL.val (v_pickT (u := .bool _) rfl rfl) ?_
        refine WPL.val (v_move (v := .bool _) rfl) ?_
        refine WPL.valG (v_fieldL (o' := 39) Try.underlying57 rfl Try.sizeOf3 rfl rfl) ?_
        refine WPL.valG (v_load1 (u := .int .i64 _) Try.isAgg3 rfl (fun w hw => hw.cl_at (i := 0) rfl 39 (cell_of ((getS_SOk ls).int 39 (by decide) (by decide))))) ?_
        refine WPL.valG (v_is (b := true) (v_geq rfl rfl) (decide_eq_true hin.2.1.1)) ?_
        refine WPL.val (v_pickT (u := .bool _) rfl rfl) ?_
        refine WPL.val (v_move (v := .bool _) rfl) ?_
        refine WPL.valG (v_fieldL (o' := 39) Try.underlying57 rfl Try.sizeOf3 rfl rfl) ?_
        refine WPL.valG (v_load1 (u := .int .i64 _) Try.isAgg3 rfl (fun w hw => hw.cl_at (i := 0) rfl 39 (cell_of ((getS_SOk ls).int 39 (by decide) (by decide))))) ?_
        refine WPL.valG (v_is (b := true) (v_leq rfl rfl) (decide_eq_true hin.2.1.2)) ?_
        refine WPL.val (v_pickT (u := .bool _) rfl rfl) ?_
        refine WPL.val (v_move (v := .bool _) rfl) ?_
        refine WPL.valG (v_fieldL (o' := 31) Try.underlying57 rfl Try.sizeOf50 rfl rfl) ?_
        refine WPL.valG (v_indexA (j := 3) Try.underlying50 Try.sizeOf3 rfl rfl rfl (by decide)) ?_
        refine WPL.valG (v_load1 (u := .int .i64 _) Try.isAgg3 rfl (fun w hw => hw.cl_at (i := 0) rfl 34 (cell_of ((getS_SOk ls).int 34 (by decide) (by decide))))) ?_
        refine WPL.valG (v_is (b := true) (v_geq rfl rfl) (decide_eq_true hin.2.2)) ?_
        refine WPL.val (v_pickT (u := .bool _) rfl rfl) ?_
        refine WPL.val (v_assign (v := .bool _) rfl) ?_
        refine WPL.nil (onto_of ?_)
        exact WP.ret1 Try.results14 (fun _ h => h) (fun w hw => ⟨(), rfl, trivial, hw.sel [] (by decide)⟩)
end Go.Proofs.Ytabdcfobdehhiaa
