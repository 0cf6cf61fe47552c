/- The document's layer 13: Get. -/
import Derived.Test.YtabdcfobdehhiaaRecRef
namespace Go.Proofs.Ytabdcfobdehhiaa
open Go.RowKit

theorem rlength_ct (b o n c : Nat) (u v : Int) (hn : 2 ≤ n) : Ct Try.prog 58 #[.slice (some ⟨b, o, none⟩) n c] [] (fun w => CellsAt w b o [.int .i64 u, .int .i64 v]) (X := Unit) (fun _ => .agg #[.int .i64 u, .int .i64 v]) (fun _ => True) (fun _ => []) := by
  refine Ct.intro Try.func58 rfl Try.ntmps58 (by simp) (fun w0 hc => ?_)
  refine WP.seq ?_
  refine WP.region ?_
  refine WPL.ef (x_alloc (us := [_, _]) (σ' := fun _ => [_]) Try.zeroValue48 rfl (fun _ => rfl)) (fun b2 => ?_)
  refine WPL.nil (onto_of ?_)
  refine WP.seq ?_
  refine WP.drawS (some 7) [(0, true), (1, true), (2, true), (3, true), (4, true), (5, true), (6, true), (7, false)] mixed (by kernel_rfl) (by decide) (fun _ h => h.drawn) ?_
  refine WPD.take rfl (v_move (v := .slice _ _ _) rfl) ?_ (fun _ h => h)
  refine WPD.take rfl (v_index (j := 0) Try.underlying32 Try.sizeOf3 rfl rfl rfl (by omega)) ?_ (fun _ h => h)
  refine WPD.take rfl (v_load1 (u := .int .i64 _) Try.isAgg3 rfl (fun w hw => hw.old_at (cellOne hc (j := 0) rfl) (not_foots_nil _))) ?_ (fun _ h => h)
  refine WPD.take rfl (v_move (v := .slice _ _ _) rfl) ?_ (fun _ h => h)
  refine WPD.take rfl (v_index (j := 1) Try.underlying32 Try.sizeOf3 rfl rfl rfl (by omega)) ?_ (fun _ h => h)
  refine WPD.take rfl (v_load1 (u := .int .i64 _) Try.isAgg3 rfl (fun w hw => hw.old_at (cellOne hc (j := 1) rfl) (not_foots_nil _))) ?_ (fun _ h => h)
  refine WPD.take rfl (v_struct (us := [.int .i64 _, .int .i64 _]) (pl := [(0, 1), (1, 1)]) Try.underlying48 Try.zeroValue48 rfl (by kernel_rfl) rfl rfl (by kernel_rfl)) ?_ (fun _ h => h)
  refine WPD.ef0 rfl (x_storeW (us := [.int .i64 _, .int .i64 _]) (σ' := [.cl _ _ [_, _]]) Try.sizeOf48 rfl rfl (i := 0) rfl rfl rfl (by simp [Value.oneCell'])) (fun h => absurd rfl h) (fun _ => ?_)
  refine WPD.nil (onto_of ?_)
  exact WP.retC (us := [_, _]) Try.results58 rfl Try.isAgg48 Try.sizeOf48 (fun w hw => hw.cl_at (i := 0) rfl 0 rfl) rfl (fun _ h => h) (fun w hw => ⟨(), rfl, trivial, hw.sel [] (by decide)⟩)
def addP (p : Nat → Bool) (j : Nat) : Nat → Bool := fun i => Nat.beq i j || p i
def mix (ls : List Int) (p : Nat → Bool) : List Value := (List.range 55).map fun j => if p j then dec ls j else if isBit j then .bool false else .int .i64 0
theorem mix_at (ls : List Int) (p : Nat → Bool) (j : Nat) (hj : j < 55) : (mix ls p)[j]? = some (if p j then dec ls j else if isBit j then .bool false else .int .i64 0) := by simp [mix, hj]
theorem mix_len (ls : List Int) (p : Nat → Bool) : (mix ls p).length = 55 := by simp [mix]
theorem mix_set1 (ls : List Int) (p : Nat → Bool) (j : Nat) {u : Value} (hj : j < 55) (hu : u = dec ls j) : (mix ls p).set j u = mix ls (addP p j) := by
  apply List.ext_getElem?
  intro i
  by_cases hi : i < 55
  · rw [mix_at _ _ _ hi]
    by_cases e : i = j
    · subst e
      rw [List.getElem?_set_self (by rw [mix_len]; exact hi), hu]
      simp [addP]
    · rw [List.getElem?_set_ne (Ne.symm e), mix_at _ _ _ hi]
      have : Nat.beq i j = false := by rw [Bool.eq_false_iff]; intro h; exact e (Nat.eq_of_beq_eq_true h)
      simp [addP, this]
  · rw [List.getElem?_eq_none (by rw [List.length_set, mix_len]; omega), List.getElem?_eq_none (by rw [mix_len]; omega)]
theorem mix_set2 (ls : List Int) (p : Nat → Bool) (j : Nat) {u v : Value} (hj : j + 1 < 55) (hu : u = dec ls j) (hv : v = dec ls (j + 1)) : setL (mix ls p) j [u, v] = mix ls (addP (addP p j) (j + 1)) := by
  show ((mix ls p).set j u).set (j + 1) v = _
  rw [mix_set1 ls p j (by omega) hu, mix_set1 ls _ (j + 1) hj hv]
theorem mix_all (ls : List Int) (p : Nat → Bool) (h : ∀ j, j < 55 → p j = true) : mix ls p = decS ls := by
  apply List.ext_getElem?
  intro i
  by_cases hi : i < 55
  · rw [mix_at _ _ _ hi, h i hi, decS_at ls i hi]; rfl
  · rw [List.getElem?_eq_none (by rw [mix_len]; omega), List.getElem?_eq_none (by rw [decS_len]; omega)]
theorem mix_ok (ls : List Int) (p : Nat → Bool) : ∀ u ∈ mix ls p, u.oneCell' = true := by
  intro u hu
  obtain ⟨j, _, rfl⟩ := List.mem_map.1 hu
  split
  · unfold dec; split <;> rfl
  · split <;> rfl
set_option maxRecDepth 100000 in
theorem mix_zero (ls : List Int) : fillL zeroS [(0, [.int .i64 (lv ls 0)]), (1, [.int .i64 (lv ls 1)]), (2, [.int .i64 (lv ls 2)])] = mix ls (addP (addP (addP (fun _ => false) 0) 1) 2) := rfl
theorem bads55 (ls : List Int) : bads ls 55 = (!within (lv ls 45) 0 1 || !within (lv ls 47) 0 1 || !within (lv ls 51) 0 1 || !within (lv ls 52) 0 1) := rfl
theorem cutAddr_one {b o l c : Nat} (h : c ≠ l) : cutAddr (some ⟨b, o, none⟩) l c 1 = some ⟨b, o + l, none⟩ := by
  unfold cutAddr
  rw [if_neg h]
  simp [Addr.add]

set_option maxRecDepth 100000 in
set_option maxHeartbeats 2000000 in
theorem rget_ct (A : Option Addr) (c : Nat) (ls : List Int) (hl : ls.length ≤ 1000) (hlc : ls.length ≤ c) :
    Ct Try.prog 30 #[.slice A ls.length c] [] (fun w => RdI w A ls) (X := Unit) (fun _ => .tuple #[.agg (getS ls).1.toArray, .int .i64 (getS ls).2]) (fun _ => True) (fun _ => []) := by
  refine Ct.intro Try.func30 rfl Try.ntmps30 (by simp) (fun w0 hz => ?_)
  refine WP.seq ?_
  refine WP.region ?_
  refine WPL.ef (x_alloc (us := zeroS) (σ' := fun _ => [_]) Try.zeroValue57 rfl (fun _ => rfl)) (fun b2 => ?_)
  refine WPL.val (v_assign (v := .int .i64 (0)) rfl) ?_
  refine WPL.nil (onto_of ?_)
  refine WP.seq ?_
  refine WP.seq ?_
  refine WP.region ?_
  refine WPL.val (v_move (v := .slice _ _ _) rfl) ?_
  refine WPL.val (v_len Try.underlying32 rfl) ?_
  refine WPL.val (v_lss rfl rfl) ?_
  refine WPL.nil (onto_of ?_)
  refine WP.condP rfl (fun h9 => ?_) (fun h9 => ?_)
  ·
    have hget : getS ls = (zeroS, 10) := by unfold getS; rw [if_pos (by omega)]
    refine WP.seq ?_
    refine WP.region ?_
    refine WPL.val (v_struct (parts := []) (us := zeroS) (pl := [(0, 1), (1, 1), (2, 1), (3, 2), (5, 2), (7, 2), (9, 2), (11, 2), (13, 2), (15, 8), (23, 8), (31, 4), (35, 4), (39, 1), (40, 1), (41, 2), (43, 1), (44, 1), (45, 1), (46, 1), (47, 1), (48, 1), (49, 1), (50, 1), (51, 1), (52, 1), (53, 2)]) Try.underlying57 Try.zeroValue57 rfl (by kernel_rfl) rfl rfl (by kernel_rfl)) ?_
    refine WPL.ef0 (x_storeW (us := _) (σ' := [_]) Try.sizeOf57 rfl rfl (i := 0) rfl rfl rfl zeroS_ok.one) (fun _ => ?_)
    refine WPL.val (v_assign (v := .int .i64 (10)) rfl) ?_
    refine WPL.nil (onto_of ?_)
    simp only [hget]
    exact WP.retCT (us := zeroS) Try.results30 rfl Try.isAgg57 Try.sizeOf57 (fun w hw => hw.cl_at (i := 0) rfl 0 (whole _)) rfl (fun _ h => h) (fun w hw => ⟨(), rfl, trivial, hw.sel [] (by decide)⟩)
  ·
    refine WP.skip (onto_of ?_)
    refine WP.seq ?_
    refine WP.seq ?_
    refine WP.region ?_
    refine WPL.val (v_move (v := .slice _ _ _) rfl) ?_
    refine WPL.val (v_len Try.underlying32 rfl) ?_
    refine WPL.val (v_gtr rfl rfl) ?_
    refine WPL.nil (onto_of ?_)
    refine WP.condP rfl (fun h13 => ?_) (fun h13 => ?_)
    ·
      have hget : getS ls = (zeroS, 11) := by unfold getS; rw [if_neg (by omega), if_pos (by omega)]
      refine WP.seq ?_
      refine WP.region ?_
      refine WPL.val (v_struct (parts := []) (us := zeroS) (pl := [(0, 1), (1, 1), (2, 1), (3, 2), (5, 2), (7, 2), (9, 2), (11, 2), (13, 2), (15, 8), (23, 8), (31, 4), (35, 4), (39, 1), (40, 1), (41, 2), (43, 1), (44, 1), (45, 1), (46, 1), (47, 1), (48, 1), (49, 1), (50, 1), (51, 1), (52, 1), (53, 2)]) Try.underlying57 Try.zeroValue57 rfl (by kernel_rfl) rfl rfl (by kernel_rfl)) ?_
      refine WPL.ef0 (x_storeW (us := _) (σ' := [_]) Try.sizeOf57 rfl rfl (i := 0) rfl rfl rfl zeroS_ok.one) (fun _ => ?_)
      refine WPL.val (v_assign (v := .int .i64 (11)) rfl) ?_
      refine WPL.nil (onto_of ?_)
      simp only [hget]
      exact WP.retCT (us := zeroS) Try.results30 rfl Try.isAgg57 Try.sizeOf57 (fun w hw => hw.cl_at (i := 0) rfl 0 (whole _)) rfl (fun _ h => h) (fun w hw => ⟨(), rfl, trivial, hw.sel [] (by decide)⟩)
    ·
      refine WP.skip (onto_of ?_)
      refine WP.seq ?_
      have hl55 : ls.length = 55 := by omega
      obtain ⟨b, o, rfl, -⟩ := hz 0 _ (lv_at hl55 0 (by decide))
      have hat : ∀ j, j < 55 → CellsAt w0 b (o + j) [.int .i64 (lv ls j)] := fun j hj => by
        obtain ⟨b1, o1, e, hc⟩ := hz j _ (lv_at hl55 j hj)
        cases e
        simpa using hc
      have hat2 : ∀ j, j + 1 < 55 → CellsAt w0 b (o + j) [.int .i64 (lv ls j), .int .i64 (lv ls (j + 1))] := fun j hj i u hi => by
        match i, hi with
        | 0, hi => exact hat j (by omega) 0 u hi
        | 1, hi => exact hat (j + 1) (by omega) 0 u hi
      refine WP.drawSel (some 11) [0] [(0, true), (1, true), (2, true), (3, true), (4, true), (5, true), (6, true), (7, true), (8, true), (9, true), (10, false), (11, false)] mixed (by kernel_rfl) (by decide) ?_
      refine WPD.take rfl (v_move (v := .slice _ _ _) rfl) ?_ (fun _ h => h.sel [0] (by decide))
      refine WPD.take rfl (v_index (j := 0) Try.underlying32 Try.sizeOf3 rfl rfl rfl (by omega)) ?_ (fun _ h => h.sel [0] (by decide))
      refine WPD.take rfl (v_load1 (u := .int .i64 _) Try.isAgg3 rfl (fun w hw => hw.old_at (hat 0 (by decide)) (not_foots_nil _))) ?_ (fun _ h => h.sel [0] (by decide))
      refine WPD.take rfl (v_move (v := .slice _ _ _) rfl) ?_ (fun _ h => h.sel [0] (by decide))
      refine WPD.take rfl (v_index (j := 1) Try.underlying32 Try.sizeOf3 rfl rfl rfl (by omega)) ?_ (fun _ h => h.sel [0] (by decide))
      refine WPD.take rfl (v_load1 (u := .int .i64 _) Try.isAgg3 rfl (fun w hw => hw.old_at (hat 1 (by decide)) (not_foots_nil _))) ?_ (fun _ h => h.sel [0] (by decide))
      refine WPD.take rfl (v_move (v := .slice _ _ _) rfl) ?_ (fun _ h => h.sel [0] (by decide))
      refine WPD.take rfl (v_index (j := 2) Try.underlying32 Try.sizeOf3 rfl rfl rfl (by omega)) ?_ (fun _ h => h.sel [0] (by decide))
      refine WPD.take rfl (v_load1 (u := .int .i64 _) Try.isAgg3 rfl (fun w hw => hw.old_at (hat 2 (by decide)) (not_foots_nil _))) ?_ (fun _ h => h.sel [0] (by decide))
      refine WPD.take rfl (v_struct (us := mix ls (addP (addP (addP (fun _ => false) 0) 1) 2)) (pl := [(0, 1), (1, 1), (2, 1), (3, 2), (5, 2), (7, 2), (9, 2), (11, 2), (13, 2), (15, 8), (23, 8), (31, 4), (35, 4), (39, 1), (40, 1), (41, 2), (43, 1), (44, 1), (45, 1), (46, 1), (47, 1), (48, 1), (49, 1), (50, 1), (51, 1), (52, 1), (53, 2)]) Try.underlying57 Try.zeroValue57 rfl (by kernel_rfl) rfl (mix_zero ls) (by kernel_rfl)) ?_ (fun _ h => h.sel [0] (by decide))
      refine WPD.ef rfl (x_alloc (us := zeroS) (σ' := fun _ => [_, _]) Try.zeroValue57 rfl (fun _ => rfl)) (fun _ _ _ h => h.sel [0] (by decide)) (fun b4 => ?_)
      refine WPD.ef0 rfl (x_storeW (us := mix ls (addP (addP (addP (fun _ => false) 0) 1) 2)) (σ' := [_, _]) Try.sizeOf57 rfl rfl (i := 1) rfl (mix_len _ _) rfl (mix_ok _ _) (mix_len _ _)) (fun h => absurd rfl h) (fun _ => ?_)
      refine WPD.nil (onto_of ?_)
      refine WP.seq ?_
      refine WP.region ?_
      refine WPL.val (v_move (v := .slice _ _ _) rfl) ?_
      refine WPL.val (v_slice (kh := 0) (l := 3) (h := ls.length) Try.underlying32 Try.sizeOf3 rfl ⟨rfl, rfl⟩ rfl (by omega) hlc) ?_
      rw [cutAddr_one (by omega)]
      refine WPL.ef (x_call Try.call58 (rlength_ct b (o + 3) (ls.length - 3) (c - 3) (lv ls 3) (lv ls 4) (by omega)) [] [0, 1] rfl (fun w hw => hw.old_at (hat2 3 (by decide)) (not_foots_nil _)) (τ := fun _ => [_, _]) (fun _ => rfl)) (fun _ => ?_)
      refine WPL.fact (fun _ => ?_)
      refine WPL.val (v_fieldL (o' := 3) Try.underlying57 rfl Try.sizeOf48 rfl rfl) ?_
      refine WPL.ef0 (x_storeA (us := [.int .i64 _, .int .i64 _]) (σ' := [_, _]) Try.sizeOf48 rfl rfl (i := 1) rfl (Nat.le_of_ble_eq_true rfl) rfl (by simp [Value.oneCell'])) (fun _ => ?_)
      rw [mix_set2 ls _ 3 (u := .int .i64 (lv ls 3)) (v := .int .i64 (lv ls 4)) (by decide) rfl rfl]
      refine WPL.nil (onto_of ?_)
      refine WP.seq ?_
      refine WP.region ?_
      refine WPL.val (v_move (v := .slice _ _ _) rfl) ?_
      refine WPL.val (v_slice (kh := 0) (l := 5) (h := ls.length) Try.underlying32 Try.sizeOf3 rfl ⟨rfl, rfl⟩ rfl (by omega) hlc) ?_
      rw [cutAddr_one (by omega)]
      refine WPL.ef (x_call Try.call58 (rlength_ct b (o + 5) (ls.length - 5) (c - 5) (lv ls 5) (lv ls 6) (by omega)) [] [0, 1] rfl (fun w hw => hw.old_at (hat2 5 (by decide)) (not_foots_nil _)) (τ := fun _ => [_, _]) (fun _ => rfl)) (fun _ => ?_)
      refine WPL.fact (fun _ => ?_)
      refine WPL.val (v_fieldL (o' := 5) Try.underlying57 rfl Try.sizeOf48 rfl rfl) ?_
      refine WPL.ef0 (x_storeA (us := [.int .i64 _, .int .i64 _]) (σ' := [_, _]) Try.sizeOf48 rfl rfl (i := 1) rfl (Nat.le_of_ble_eq_true rfl) rfl (by simp [Value.oneCell'])) (fun _ => ?_)
      rw [mix_set2 ls _ 5 (u := .int .i64 (lv ls 5)) (v := .int .i64 (lv ls 6)) (by decide) rfl rfl]
      refine WPL.nil (onto_of ?_)
      refine WP.seq ?_
      refine WP.region ?_
      refine WPL.val (v_move (v := .slice _ _ _) rfl) ?_
      refine WPL.val (v_slice (kh := 0) (l := 7) (h := ls.length) Try.underlying32 Try.sizeOf3 rfl ⟨rfl, rfl⟩ rfl (by omega) hlc) ?_
      rw [cutAddr_one (by omega)]
      refine WPL.ef (x_call Try.call58 (rlength_ct b (o + 7) (ls.length - 7) (c - 7) (lv ls 7) (lv ls 8) (by omega)) [] [0, 1] rfl (fun w hw => hw.old_at (hat2 7 (by decide)) (not_foots_nil _)) (τ := fun _ => [_, _]) (fun _ => rfl)) (fun _ => ?_)
      refine WPL.fact (fun _ => ?_)
      refine WPL.val (v_fieldL (o' := 7) Try.underlying57 rfl Try.sizeOf48 rfl rfl) ?_
      refine WPL.ef0 (x_storeA (us := [.int .i64 _, .int .i64 _]) (σ' := [_, _]) Try.sizeOf48 rfl rfl (i := 1) rfl (Nat.le_of_ble_eq_true rfl) rfl (by simp [Value.oneCell'])) (fun _ => ?_)
      rw [mix_set2 ls _ 7 (u := .int .i64 (lv ls 7)) (v := .int .i64 (lv ls 8)) (by decide) rfl rfl]
      refine WPL.nil (onto_of ?_)
      refine WP.seq ?_
      refine WP.region ?_
      refine WPL.val (v_move (v := .slice _ _ _) rfl) ?_
      refine WPL.val (v_slice (kh := 0) (l := 9) (h := ls.length) Try.underlying32 Try.sizeOf3 rfl ⟨rfl, rfl⟩ rfl (by omega) hlc) ?_
      rw [cutAddr_one (by omega)]
      refine WPL.ef (x_call Try.call58 (rlength_ct b (o + 9) (ls.length - 9) (c - 9) (lv ls 9) (lv ls 10) (by omega)) [] [0, 1] rfl (fun w hw => hw.old_at (hat2 9 (by decide)) (not_foots_nil _)) (τ := fun _ => [_, _]) (fun _ => rfl)) (fun _ => ?_)
      refine WPL.fact (fun _ => ?_)
      refine WPL.val (v_fieldL (o' := 9) Try.underlying57 rfl Try.sizeOf48 rfl rfl) ?_
      refine WPL.ef0 (x_storeA (us := [.int .i64 _, .int .i64 _]) (σ' := [_, _]) Try.sizeOf48 rfl rfl (i := 1) rfl (Nat.le_of_ble_eq_true rfl) rfl (by simp [Value.oneCell'])) (fun _ => ?_)
      rw [mix_set2 ls _ 9 (u := .int .i64 (lv ls 9)) (v := .int .i64 (lv ls 10)) (by decide) rfl rfl]
      refine WPL.nil (onto_of ?_)
      refine WP.seq ?_
      refine WP.region ?_
      refine WPL.val (v_move (v := .slice _ _ _) rfl) ?_
      refine WPL.val (v_slice (kh := 0) (l := 11) (h := ls.length) Try.underlying32 Try.sizeOf3 rfl ⟨rfl, rfl⟩ rfl (by omega) hlc) ?_
      rw [cutAddr_one (by omega)]
      refine WPL.ef (x_call Try.call58 (rlength_ct b (o + 11) (ls.length - 11) (c - 11) (lv ls 11) (lv ls 12) (by omega)) [] [0, 1] rfl (fun w hw => hw.old_at (hat2 11 (by decide)) (not_foots_nil _)) (τ := fun _ => [_, _]) (fun _ => rfl)) (fun _ => ?_)
      refine WPL.fact (fun _ => ?_)
      refine WPL.val (v_fieldL (o' := 11) Try.underlying57 rfl Try.sizeOf48 rfl rfl) ?_
      refine WPL.ef0 (x_storeA (us := [.int .i64 _, .int .i64 _]) (σ' := [_, _]) Try.sizeOf48 rfl rfl (i := 1) rfl (Nat.le_of_ble_eq_true rfl) rfl (by simp [Value.oneCell'])) (fun _ => ?_)
      rw [mix_set2 ls _ 11 (u := .int .i64 (lv ls 11)) (v := .int .i64 (lv ls 12)) (by decide) rfl rfl]
      refine WPL.nil (onto_of ?_)
      refine WP.seq ?_
      refine WP.region ?_
      refine WPL.val (v_move (v := .slice _ _ _) rfl) ?_
      refine WPL.val (v_slice (kh := 0) (l := 13) (h := ls.length) Try.underlying32 Try.sizeOf3 rfl ⟨rfl, rfl⟩ rfl (by omega) hlc) ?_
      rw [cutAddr_one (by omega)]
      refine WPL.ef (x_call Try.call58 (rlength_ct b (o + 13) (ls.length - 13) (c - 13) (lv ls 13) (lv ls 14) (by omega)) [] [0, 1] rfl (fun w hw => hw.old_at (hat2 13 (by decide)) (not_foots_nil _)) (τ := fun _ => [_, _]) (fun _ => rfl)) (fun _ => ?_)
      refine WPL.fact (fun _ => ?_)
      refine WPL.val (v_fieldL (o' := 13) Try.underlying57 rfl Try.sizeOf48 rfl rfl) ?_
      refine WPL.ef0 (x_storeA (us := [.int .i64 _, .int .i64 _]) (σ' := [_, _]) Try.sizeOf48 rfl rfl (i := 1) rfl (Nat.le_of_ble_eq_true rfl) rfl (by simp [Value.oneCell'])) (fun _ => ?_)
      rw [mix_set2 ls _ 13 (u := .int .i64 (lv ls 13)) (v := .int .i64 (lv ls 14)) (by decide) rfl rfl]
      refine WPL.nil (onto_of ?_)
      refine WP.seq ?_
      refine WP.seq ?_
      refine WP.region ?_
      refine WPL.val (v_assign (v := .int .i64 (0)) rfl) ?_
      refine WPL.nil (onto_of ?_)
      refine WP.block ?_
      refine WP.loopN 5 ?_
      refine WPR.succ ?_
      refine WP.seq ?_
      refine WP.seq ?_
      refine WP.region ?_
      refine WPL.val (v_move (v := .int .i64 _) rfl) ?_
      refine WPL.val (v_lit (b := true) (v_lss rfl rfl) (by decide)) ?_
      refine WPL.nil (onto_of ?_)
      refine WP.condT rfl ?_
      refine WP.skip (onto_of ?_)
      refine WP.seq ?_
      refine WP.block ?_
      refine WP.seq ?_
      refine WP.region ?_
      refine WPL.val (v_move (v := .int .i64 _) rfl) ?_
      refine WPL.val (v_move (v := .slice _ _ _) rfl) ?_
      refine WPL.val (v_move (v := .int .i64 _) rfl) ?_
      refine WPL.val (v_mul rfl rfl (by decide)) ?_
      refine WPL.val (v_addL (k := 15) rfl rfl) ?_
      refine WPL.val (v_slice (kh := 0) (l := 15) (h := ls.length) Try.underlying32 Try.sizeOf3 rfl ⟨rfl, rfl⟩ rfl (by omega) hlc) ?_
      rw [cutAddr_one (by omega)]
      refine WPL.ef (x_call Try.call58 (rlength_ct b (o + 15) (ls.length - 15) (c - 15) (lv ls 15) (lv ls 16) (by omega)) [] [0, 1] rfl (fun w hw => hw.old_at (hat2 15 (by decide)) (not_foots_nil _)) (τ := fun _ => [_, _]) (fun _ => rfl)) (fun _ => ?_)
      refine WPL.fact (fun _ => ?_)
      refine WPL.val (v_fieldL (o' := 15) Try.underlying57 rfl Try.sizeOf49 rfl rfl) ?_
      refine WPL.val (v_indexA (j := 0) Try.underlying49 Try.sizeOf48 rfl rfl rfl (by decide)) ?_
      refine WPL.ef0 (x_storeA (us := [.int .i64 _, .int .i64 _]) (σ' := [_, _]) Try.sizeOf48 rfl rfl (i := 1) rfl (Nat.le_of_ble_eq_true rfl) rfl (by simp [Value.oneCell'])) (fun _ => ?_)
      rw [mix_set2 ls _ 15 (u := .int .i64 (lv ls 15)) (v := .int .i64 (lv ls 16)) (by decide) rfl rfl]
      refine WPL.nil (onto_of ?_)
      refine WP.seq ?_
      refine WP.region ?_
      refine WPL.val (v_move (v := .int .i64 _) rfl) ?_
      refine WPL.val (v_move (v := .slice _ _ _) rfl) ?_
      refine WPL.val (v_move (v := .int .i64 _) rfl) ?_
      refine WPL.val (v_mul rfl rfl (by decide)) ?_
      refine WPL.val (v_addL (k := 23) rfl rfl) ?_
      refine WPL.val (v_slice (kh := 0) (l := 23) (h := ls.length) Try.underlying32 Try.sizeOf3 rfl ⟨rfl, rfl⟩ rfl (by omega) hlc) ?_
      rw [cutAddr_one (by omega)]
      refine WPL.ef (x_call Try.call58 (rlength_ct b (o + 23) (ls.length - 23) (c - 23) (lv ls 23) (lv ls 24) (by omega)) [] [0, 1] rfl (fun w hw => hw.old_at (hat2 23 (by decide)) (not_foots_nil _)) (τ := fun _ => [_, _]) (fun _ => rfl)) (fun _ => ?_)
      refine WPL.fact (fun _ => ?_)
      refine WPL.val (v_fieldL (o' := 23) Try.underlying57 rfl Try.sizeOf49 rfl rfl) ?_
      refine WPL.val (v_indexA (j := 0) Try.underlying49 Try.sizeOf48 rfl rfl rfl (by decide)) ?_
      refine WPL.ef0 (x_storeA (us := [.int .i64 _, .int .i64 _]) (σ' := [_, _]) Try.sizeOf48 rfl rfl (i := 1) rfl (Nat.le_of_ble_eq_true rfl) rfl (by simp [Value.oneCell'])) (fun _ => ?_)
      rw [mix_set2 ls _ 23 (u := .int .i64 (lv ls 23)) (v := .int .i64 (lv ls 24)) (by decide) rfl rfl]
      refine WPL.nil (onto_of ?_)
      refine WP.seq ?_
      refine WP.region ?_
      refine WPL.val (v_move (v := .int .i64 _) rfl) ?_
      refine WPL.val (v_move (v := .slice _ _ _) rfl) ?_
      refine WPL.val (v_move (v := .int .i64 _) rfl) ?_
      refine WPL.val (v_addL (k := 31) rfl rfl) ?_
      refine WPL.val (v_index (j := 31) Try.underlying32 Try.sizeOf3 rfl rfl rfl (by omega)) ?_
      refine WPL.val (v_load1 (u := .int .i64 _) Try.isAgg3 rfl (fun w hw => hw.old_at (hat 31 (by decide)) (not_foots_nil _))) ?_
      refine WPL.val (v_fieldL (o' := 31) Try.underlying57 rfl Try.sizeOf50 rfl rfl) ?_
      refine WPL.val (v_indexA (j := 0) Try.underlying50 Try.sizeOf3 rfl rfl rfl (by decide)) ?_
      refine WPL.ef0 (x_store (u := .int .i64 _) (σ' := [_, _]) Try.sizeOf3 rfl rfl (i := 1) rfl (Nat.lt_of_lt_of_le (Nat.lt_succ_self _) (Nat.le_of_ble_eq_true rfl)) rfl) (fun _ => ?_)
      rw [mix_set1 ls _ 31 (u := .int .i64 (lv ls 31)) (by decide) rfl]
      refine WPL.nil (onto_of ?_)
      refine WP.region ?_
      refine WPL.val (v_move (v := .int .i64 _) rfl) ?_
      refine WPL.val (v_move (v := .slice _ _ _) rfl) ?_
      refine WPL.val (v_move (v := .int .i64 _) rfl) ?_
      refine WPL.val (v_addL (k := 35) rfl rfl) ?_
      refine WPL.val (v_index (j := 35) Try.underlying32 Try.sizeOf3 rfl rfl rfl (by omega)) ?_
      refine WPL.val (v_load1 (u := .int .i64 _) Try.isAgg3 rfl (fun w hw => hw.old_at (hat 35 (by decide)) (not_foots_nil _))) ?_
      refine WPL.val (v_fieldL (o' := 35) Try.underlying57 rfl Try.sizeOf50 rfl rfl) ?_
      refine WPL.val (v_indexA (j := 0) Try.underlying50 Try.sizeOf3 rfl rfl rfl (by decide)) ?_
      refine WPL.ef0 (x_store (u := .int .i64 _) (σ' := [_, _]) Try.sizeOf3 rfl rfl (i := 1) rfl (Nat.lt_of_lt_of_le (Nat.lt_succ_self _) (Nat.le_of_ble_eq_true rfl)) rfl) (fun _ => ?_)
      rw [mix_set1 ls _ 35 (u := .int .i64 (lv ls 35)) (by decide) rfl]
      refine WPL.nil (onto_of ?_)
      refine WP.region ?_
      refine WPL.val (v_move (v := .int .i64 _) rfl) ?_
      refine WPL.val (v_addL (k := 1) rfl rfl) ?_
      refine WPL.val (v_assign (v := .int .i64 _) rfl) ?_
      refine WPL.nil (rounds_of ?_)
      refine WPR.succ ?_
      refine WP.seq ?_
      refine WP.seq ?_
      refine WP.region ?_
      refine WPL.val (v_move (v := .int .i64 _) rfl) ?_
      refine WPL.val (v_lit (b := true) (v_lss rfl rfl) (by decide)) ?_
      refine WPL.nil (onto_of ?_)
      refine WP.condT rfl ?_
      refine WP.skip (onto_of ?_)
      refine WP.seq ?_
      refine WP.block ?_
      refine WP.seq ?_
      refine WP.region ?_
      refine WPL.val (v_move (v := .int .i64 _) rfl) ?_
      refine WPL.val (v_move (v := .slice _ _ _) rfl) ?_
      refine WPL.val (v_move (v := .int .i64 _) rfl) ?_
      refine WPL.val (v_mul rfl rfl (by decide)) ?_
      refine WPL.val (v_addL (k := 17) rfl rfl) ?_
      refine WPL.val (v_slice (kh := 0) (l := 17) (h := ls.length) Try.underlying32 Try.sizeOf3 rfl ⟨rfl, rfl⟩ rfl (by omega) hlc) ?_
      rw [cutAddr_one (by omega)]
      refine WPL.ef (x_call Try.call58 (rlength_ct b (o + 17) (ls.length - 17) (c - 17) (lv ls 17) (lv ls 18) (by omega)) [] [0, 1] rfl (fun w hw => hw.old_at (hat2 17 (by decide)) (not_foots_nil _)) (τ := fun _ => [_, _]) (fun _ => rfl)) (fun _ => ?_)
      refine WPL.fact (fun _ => ?_)
      refine WPL.val (v_fieldL (o' := 15) Try.underlying57 rfl Try.sizeOf49 rfl rfl) ?_
      refine WPL.val (v_indexA (j := 1) Try.underlying49 Try.sizeOf48 rfl rfl rfl (by decide)) ?_
      refine WPL.ef0 (x_storeA (us := [.int .i64 _, .int .i64 _]) (σ' := [_, _]) Try.sizeOf48 rfl rfl (i := 1) rfl (Nat.le_of_ble_eq_true rfl) rfl (by simp [Value.oneCell'])) (fun _ => ?_)
      rw [mix_set2 ls _ 17 (u := .int .i64 (lv ls 17)) (v := .int .i64 (lv ls 18)) (by decide) rfl rfl]
      refine WPL.nil (onto_of ?_)
      refine WP.seq ?_
      refine WP.region ?_
      refine WPL.val (v_move (v := .int .i64 _) rfl) ?_
      refine WPL.val (v_move (v := .slice _ _ _) rfl) ?_
      refine WPL.val (v_move (v := .int .i64 _) rfl) ?_
      refine WPL.val (v_mul rfl rfl (by decide)) ?_
      refine WPL.val (v_addL (k := 25) rfl rfl) ?_
      refine WPL.val (v_slice (kh := 0) (l := 25) (h := ls.length) Try.underlying32 Try.sizeOf3 rfl ⟨rfl, rfl⟩ rfl (by omega) hlc) ?_
      rw [cutAddr_one (by omega)]
      refine WPL.ef (x_call Try.call58 (rlength_ct b (o + 25) (ls.length - 25) (c - 25) (lv ls 25) (lv ls 26) (by omega)) [] [0, 1] rfl (fun w hw => hw.old_at (hat2 25 (by decide)) (not_foots_nil _)) (τ := fun _ => [_, _]) (fun _ => rfl)) (fun _ => ?_)
      refine WPL.fact (fun _ => ?_)
      refine WPL.val (v_fieldL (o' := 23) Try.underlying57 rfl Try.sizeOf49 rfl rfl) ?_
      refine WPL.val (v_indexA (j := 1) Try.underlying49 Try.sizeOf48 rfl rfl rfl (by decide)) ?_
      refine WPL.ef0 (x_storeA (us := [.int .i64 _, .int .i64 _]) (σ' := [_, _]) Try.sizeOf48 rfl rfl (i := 1) rfl (Nat.le_of_ble_eq_true rfl) rfl (by simp [Value.oneCell'])) (fun _ => ?_)
      rw [mix_set2 ls _ 25 (u := .int .i64 (lv ls 25)) (v := .int .i64 (lv ls 26)) (by decide) rfl rfl]
      refine WPL.nil (onto_of ?_)
      refine WP.seq ?_
      refine WP.region ?_
      refine WPL.val (v_move (v := .int .i64 _) rfl) ?_
      refine WPL.val (v_move (v := .slice _ _ _) rfl) ?_
      refine WPL.val (v_move (v := .int .i64 _) rfl) ?_
      refine WPL.val (v_addL (k := 32) rfl rfl) ?_
      refine WPL.val (v_index (j := 32) Try.underlying32 Try.sizeOf3 rfl rfl rfl (by omega)) ?_
      refine WPL.val (v_load1 (u := .int .i64 _) Try.isAgg3 rfl (fun w hw => hw.old_at (hat 32 (by decide)) (not_foots_nil _))) ?_
      refine WPL.val (v_fieldL (o' := 31) Try.underlying57 rfl Try.sizeOf50 rfl rfl) ?_
      refine WPL.val (v_indexA (j := 1) Try.underlying50 Try.sizeOf3 rfl rfl rfl (by decide)) ?_
      refine WPL.ef0 (x_store (u := .int .i64 _) (σ' := [_, _]) Try.sizeOf3 rfl rfl (i := 1) rfl (Nat.lt_of_lt_of_le (Nat.lt_succ_self _) (Nat.le_of_ble_eq_true rfl)) rfl) (fun _ => ?_)
      rw [mix_set1 ls _ 32 (u := .int .i64 (lv ls 32)) (by decide) rfl]
      refine WPL.nil (onto_of ?_)
      refine WP.region ?_
      refine WPL.val (v_move (v := .int .i64 _) rfl) ?_
      refine WPL.val (v_move (v := .slice _ _ _) rfl) ?_
      refine WPL.val (v_move (v := .int .i64 _) rfl) ?_
      refine WPL.val (v_addL (k := 36) rfl rfl) ?_
      refine WPL.val (v_index (j := 36) Try.underlying32 Try.sizeOf3 rfl rfl rfl (by omega)) ?_
      refine WPL.val (v_load1 (u := .int .i64 _) Try.isAgg3 rfl (fun w hw => hw.old_at (hat 36 (by decide)) (not_foots_nil _))) ?_
      refine WPL.val (v_fieldL (o' := 35) Try.underlying57 rfl Try.sizeOf50 rfl rfl) ?_
      refine WPL.val (v_indexA (j := 1) Try.underlying50 Try.sizeOf3 rfl rfl rfl (by decide)) ?_
      refine WPL.ef0 (x_store (u := .int .i64 _) (σ' := [_, _]) Try.sizeOf3 rfl rfl (i := 1) rfl (Nat.lt_of_lt_of_le (Nat.lt_succ_self _) (Nat.le_of_ble_eq_true rfl)) rfl) (fun _ => ?_)
      rw [mix_set1 ls _ 36 (u := .int .i64 (lv ls 36)) (by decide) rfl]
      refine WPL.nil (onto_of ?_)
      refine WP.region ?_
      refine WPL.val (v_move (v := .int .i64 _) rfl) ?_
      refine WPL.val (v_addL (k := 2) rfl rfl) ?_
      refine WPL.val (v_assign (v := .int .i64 _) rfl) ?_
      refine WPL.nil (rounds_of ?_)
      refine WPR.succ ?_
      refine WP.seq ?_
      refine WP.seq ?_
      refine WP.region ?_
      refine WPL.val (v_move (v := .int .i64 _) rfl) ?_
      refine WPL.val (v_lit (b := true) (v_lss rfl rfl) (by decide)) ?_
      refine WPL.nil (onto_of ?_)
      refine WP.condT rfl ?_
      refine WP.skip (onto_of ?_)
      refine WP.seq ?_
      refine WP.block ?_
      refine WP.seq ?_
      refine WP.region ?_
      refine WPL.val (v_move (v := .int .i64 _) rfl) ?_
      refine WPL.val (v_move (v := .slice _ _ _) rfl) ?_
      refine WPL.val (v_move (v := .int .i64 _) rfl) ?_
      refine WPL.val (v_mul rfl rfl (by decide)) ?_
      refine WPL.val (v_addL (k := 19) rfl rfl) ?_
      refine WPL.val (v_slice (kh := 0) (l := 19) (h := ls.length) Try.underlying32 Try.sizeOf3 rfl ⟨rfl, rfl⟩ rfl (by omega) hlc) ?_
      rw [cutAddr_one (by omega)]
      refine WPL.ef (x_call Try.call58 (rlength_ct b (o + 19) (ls.length - 19) (c - 19) (lv ls 19) (lv ls 20) (by omega)) [] [0, 1] rfl (fun w hw => hw.old_at (hat2 19 (by decide)) (not_foots_nil _)) (τ := fun _ => [_, _]) (fun _ => rfl)) (fun _ => ?_)
      refine WPL.fact (fun _ => ?_)
      refine WPL.val (v_fieldL (o' := 15) Try.underlying57 rfl Try.sizeOf49 rfl rfl) ?_
      refine WPL.val (v_indexA (j := 2) Try.underlying49 Try.sizeOf48 rfl rfl rfl (by decide)) ?_
      refine WPL.ef0 (x_storeA (us := [.int .i64 _, .int .i64 _]) (σ' := [_, _]) Try.sizeOf48 rfl rfl (i := 1) rfl (Nat.le_of_ble_eq_true rfl) rfl (by simp [Value.oneCell'])) (fun _ => ?_)
      rw [mix_set2 ls _ 19 (u := .int .i64 (lv ls 19)) (v := .int .i64 (lv ls 20)) (by decide) rfl rfl]
      refine WPL.nil (onto_of ?_)
      refine WP.seq ?_
      refine WP.region ?_
      refine WPL.val (v_move (v := .int .i64 _) rfl) ?_
      refine WPL.val (v_move (v := .slice _ _ _) rfl) ?_
      refine WPL.val (v_move (v := .int .i64 _) rfl) ?_
      refine WPL.val (v_mul rfl rfl (by decide)) ?_
      refine WPL.val (v_addL (k := 27) rfl rfl) ?_
      refine WPL.val (v_slice (kh := 0) (l := 27) (h := ls.length) Try.underlying32 Try.sizeOf3 rfl ⟨rfl, rfl⟩ rfl (by omega) hlc) ?_
      rw [cutAddr_one (by omega)]
      refine WPL.ef (x_call Try.call58 (rlength_ct b (o + 27) (ls.length - 27) (c - 27) (lv ls 27) (lv ls 28) (by omega)) [] [0, 1] rfl (fun w hw => hw.old_at (hat2 27 (by decide)) (not_foots_nil _)) (τ := fun _ => [_, _]) (fun _ => rfl)) (fun _ => ?_)
      refine WPL.fact (fun _ => ?_)
      refine WPL.val (v_fieldL (o' := 23) Try.underlying57 rfl Try.sizeOf49 rfl rfl) ?_
      refine WPL.val (v_indexA (j := 2) Try.underlying49 Try.sizeOf48 rfl rfl rfl (by decide)) ?_
      refine WPL.ef0 (x_storeA (us := [.int .i64 _, .int .i64 _]) (σ' := [_, _]) Try.sizeOf48 rfl rfl (i := 1) rfl (Nat.le_of_ble_eq_true rfl) rfl (by simp [Value.oneCell'])) (fun _ => ?_)
      rw [mix_set2 ls _ 27 (u := .int .i64 (lv ls 27)) (v := .int .i64 (lv ls 28)) (by decide) rfl rfl]
      refine WPL.nil (onto_of ?_)
      refine WP.seq ?_
      refine WP.region ?_
      refine WPL.val (v_move (v := .int .i64 _) rfl) ?_
      refine WPL.val (v_move (v := .slice _ _ _) rfl) ?_
      refine WPL.val (v_move (v := .int .i64 _) rfl) ?_
      refine WPL.val (v_addL (k := 33) rfl rfl) ?_
      refine WPL.val (v_index (j := 33) Try.underlying32 Try.sizeOf3 rfl rfl rfl (by omega)) ?_
      refine WPL.val (v_load1 (u := .int .i64 _) Try.isAgg3 rfl (fun w hw => hw.old_at (hat 33 (by decide)) (not_foots_nil _))) ?_
      refine WPL.val (v_fieldL (o' := 31) Try.underlying57 rfl Try.sizeOf50 rfl rfl) ?_
      refine WPL.val (v_indexA (j := 2) Try.underlying50 Try.sizeOf3 rfl rfl rfl (by decide)) ?_
      refine WPL.ef0 (x_store (u := .int .i64 _) (σ' := [_, _]) Try.sizeOf3 rfl rfl (i := 1) rfl (Nat.lt_of_lt_of_le (Nat.lt_succ_self _) (Nat.le_of_ble_eq_true rfl)) rfl) (fun _ => ?_)
      rw [mix_set1 ls _ 33 (u := .int .i64 (lv ls 33)) (by decide) rfl]
      refine WPL.nil (onto_of ?_)
      refine WP.region ?_
      refine WPL.val (v_move (v := .int .i64 _) rfl) ?_
      refine WPL.val (v_move (v := .slice _ _ _) rfl) ?_
      refine WPL.val (v_move (v := .int .i64 _) rfl) ?_
      refine WPL.val (v_addL (k := 37) rfl rfl) ?_
      refine WPL.val (v_index (j := 37) Try.underlying32 Try.sizeOf3 rfl rfl rfl (by omega)) ?_
      refine WPL.val (v_load1 (u := .int .i64 _) Try.isAgg3 rfl (fun w hw => hw.old_at (hat 37 (by decide)) (not_foots_nil _))) ?_
      refine WPL.val (v_fieldL (o' := 35) Try.underlying57 rfl Try.sizeOf50 rfl rfl) ?_
      refine WPL.val (v_indexA (j := 2) Try.underlying50 Try.sizeOf3 rfl rfl rfl (by decide)) ?_
      refine WPL.ef0 (x_store (u := .int .i64 _) (σ' := [_, _]) Try.sizeOf3 rfl rfl (i := 1) rfl (Nat.lt_of_lt_of_le (Nat.lt_succ_self _) (Nat.le_of_ble_eq_true rfl)) rfl) (fun _ => ?_)
      rw [mix_set1 ls _ 37 (u := .int .i64 (lv ls 37)) (by decide) rfl]
      refine WPL.nil (onto_of ?_)
      refine WP.region ?_
      refine WPL.val (v_move (v := .int .i64 _) rfl) ?_
      refine WPL.val (v_addL (k := 3) rfl rfl) ?_
      refine WPL.val (v_assign (v := .int .i64 _) rfl) ?_
      refine WPL.nil (rounds_of ?_)
      refine WPR.succ ?_
      refine WP.seq ?_
      refine WP.seq ?_
      refine WP.region ?_
      refine WPL.val (v_move (v := .int .i64 _) rfl) ?_
      refine WPL.val (v_lit (b := true) (v_lss rfl rfl) (by decide)) ?_
      refine WPL.nil (onto_of ?_)
      refine WP.condT rfl ?_
      refine WP.skip (onto_of ?_)
      refine WP.seq ?_
      refine WP.block ?_
      refine WP.seq ?_
      refine WP.region ?_
      refine WPL.val (v_move (v := .int .i64 _) rfl) ?_
      refine WPL.val (v_move (v := .slice _ _ _) rfl) ?_
      refine WPL.val (v_move (v := .int .i64 _) rfl) ?_
      refine WPL.val (v_mul rfl rfl (by decide)) ?_
      refine WPL.val (v_addL (k := 21) rfl rfl) ?_
      refine WPL.val (v_slice (kh := 0) (l := 21) (h := ls.length) Try.underlying32 Try.sizeOf3 rfl ⟨rfl, rfl⟩ rfl (by omega) hlc) ?_
      rw [cutAddr_one (by omega)]
      refine WPL.ef (x_call Try.call58 (rlength_ct b (o + 21) (ls.length - 21) (c - 21) (lv ls 21) (lv ls 22) (by omega)) [] [0, 1] rfl (fun w hw => hw.old_at (hat2 21 (by decide)) (not_foots_nil _)) (τ := fun _ => [_, _]) (fun _ => rfl)) (fun _ => ?_)
      refine WPL.fact (fun _ => ?_)
      refine WPL.val (v_fieldL (o' := 15) Try.underlying57 rfl Try.sizeOf49 rfl rfl) ?_
      refine WPL.val (v_indexA (j := 3) Try.underlying49 Try.sizeOf48 rfl rfl rfl (by decide)) ?_
      refine WPL.ef0 (x_storeA (us := [.int .i64 _, .int .i64 _]) (σ' := [_, _]) Try.sizeOf48 rfl rfl (i := 1) rfl (Nat.le_of_ble_eq_true rfl) rfl (by simp [Value.oneCell'])) (fun _ => ?_)
      rw [mix_set2 ls _ 21 (u := .int .i64 (lv ls 21)) (v := .int .i64 (lv ls 22)) (by decide) rfl rfl]
      refine WPL.nil (onto_of ?_)
      refine WP.seq ?_
      refine WP.region ?_
      refine WPL.val (v_move (v := .int .i64 _) rfl) ?_
      refine WPL.val (v_move (v := .slice _ _ _) rfl) ?_
      refine WPL.val (v_move (v := .int .i64 _) rfl) ?_
      refine WPL.val (v_mul rfl rfl (by decide)) ?_
      refine WPL.val (v_addL (k := 29) rfl rfl) ?_
      refine WPL.val (v_slice (kh := 0) (l := 29) (h := ls.length) Try.underlying32 Try.sizeOf3 rfl ⟨rfl, rfl⟩ rfl (by omega) hlc) ?_
      rw [cutAddr_one (by omega)]
      refine WPL.ef (x_call Try.call58 (rlength_ct b (o + 29) (ls.length - 29) (c - 29) (lv ls 29) (lv ls 30) (by omega)) [] [0, 1] rfl (fun w hw => hw.old_at (hat2 29 (by decide)) (not_foots_nil _)) (τ := fun _ => [_, _]) (fun _ => rfl)) (fun _ => ?_)
      refine WPL.fact (fun _ => ?_)
      refine WPL.val (v_fieldL (o' := 23) Try.underlying57 rfl Try.sizeOf49 rfl rfl) ?_
      refine WPL.val (v_indexA (j := 3) Try.underlying49 Try.sizeOf48 rfl rfl rfl (by decide)) ?_
      refine WPL.ef0 (x_storeA (us := [.int .i64 _, .int .i64 _]) (σ' := [_, _]) Try.sizeOf48 rfl rfl (i := 1) rfl (Nat.le_of_ble_eq_true rfl) rfl (by simp [Value.oneCell'])) (fun _ => ?_)
      rw [mix_set2 ls _ 29 (u := .int .i64 (lv ls 29)) (v := .int .i64 (lv ls 30)) (by decide) rfl rfl]
      refine WPL.nil (onto_of ?_)
      refine WP.seq ?_
      refine WP.region ?_
      refine WPL.val (v_move (v := .int .i64 _) rfl) ?_
      refine WPL.val (v_move (v := .slice _ _ _) rfl) ?_
      refine WPL.val (v_move (v := .int .i64 _) rfl) ?_
      refine WPL.val (v_addL (k := 34) rfl rfl) ?_
      refine WPL.val (v_index (j := 34) Try.underlying32 Try.sizeOf3 rfl rfl rfl (by omega)) ?_
      refine WPL.val (v_load1 (u := .int .i64 _) Try.isAgg3 rfl (fun w hw => hw.old_at (hat 34 (by decide)) (not_foots_nil _))) ?_
      refine WPL.val (v_fieldL (o' := 31) Try.underlying57 rfl Try.sizeOf50 rfl rfl) ?_
      refine WPL.val (v_indexA (j := 3) Try.underlying50 Try.sizeOf3 rfl rfl rfl (by decide)) ?_
      refine WPL.ef0 (x_store (u := .int .i64 _) (σ' := [_, _]) Try.sizeOf3 rfl rfl (i := 1) rfl (Nat.lt_of_lt_of_le (Nat.lt_succ_self _) (Nat.le_of_ble_eq_true rfl)) rfl) (fun _ => ?_)
      rw [mix_set1 ls _ 34 (u := .int .i64 (lv ls 34)) (by decide) rfl]
      refine WPL.nil (onto_of ?_)
      refine WP.region ?_
      refine WPL.val (v_move (v := .int .i64 _) rfl) ?_
      refine WPL.val (v_move (v := .slice _ _ _) rfl) ?_
      refine WPL.val (v_move (v := .int .i64 _) rfl) ?_
      refine WPL.val (v_addL (k := 38) rfl rfl) ?_
      refine WPL.val (v_index (j := 38) Try.underlying32 Try.sizeOf3 rfl rfl rfl (by omega)) ?_
      refine WPL.val (v_load1 (u := .int .i64 _) Try.isAgg3 rfl (fun w hw => hw.old_at (hat 38 (by decide)) (not_foots_nil _))) ?_
      refine WPL.val (v_fieldL (o' := 35) Try.underlying57 rfl Try.sizeOf50 rfl rfl) ?_
      refine WPL.val (v_indexA (j := 3) Try.underlying50 Try.sizeOf3 rfl rfl rfl (by decide)) ?_
      refine WPL.ef0 (x_store (u := .int .i64 _) (σ' := [_, _]) Try.sizeOf3 rfl rfl (i := 1) rfl (Nat.lt_of_lt_of_le (Nat.lt_succ_self _) (Nat.le_of_ble_eq_true rfl)) rfl) (fun _ => ?_)
      rw [mix_set1 ls _ 38 (u := .int .i64 (lv ls 38)) (by decide) rfl]
      refine WPL.nil (onto_of ?_)
      refine WP.region ?_
      refine WPL.val (v_move (v := .int .i64 _) rfl) ?_
      refine WPL.val (v_addL (k := 4) rfl rfl) ?_
      refine WPL.val (v_assign (v := .int .i64 _) rfl) ?_
      refine WPL.nil (rounds_of ?_)
      refine WPR.succ ?_
      refine WP.seq ?_
      refine WP.seq ?_
      refine WP.region ?_
      refine WPL.val (v_move (v := .int .i64 _) rfl) ?_
      refine WPL.val (v_lit (b := false) (v_lss rfl rfl) (by decide)) ?_
      refine WPL.nil (onto_of ?_)
      refine WP.condF rfl ?_
      refine WP.exit (onto_of ?_)
      refine WP.seq ?_
      refine WP.region ?_
      refine WPL.val (v_move (v := .slice _ _ _) rfl) ?_
      refine WPL.val (v_index (j := 39) Try.underlying32 Try.sizeOf3 rfl rfl rfl (by omega)) ?_
      refine WPL.val (v_load1 (u := .int .i64 _) Try.isAgg3 rfl (fun w hw => hw.old_at (hat 39 (by decide)) (not_foots_nil _))) ?_
      refine WPL.val (v_fieldL (o' := 39) Try.underlying57 rfl Try.sizeOf3 rfl rfl) ?_
      refine WPL.ef0 (x_store (u := .int .i64 _) (σ' := [_, _]) Try.sizeOf3 rfl rfl (i := 1) rfl (Nat.lt_of_lt_of_le (Nat.lt_succ_self _) (Nat.le_of_ble_eq_true rfl)) rfl) (fun _ => ?_)
      rw [mix_set1 ls _ 39 (u := .int .i64 (lv ls 39)) (by decide) rfl]
      refine WPL.nil (onto_of ?_)
      refine WP.seq ?_
      refine WP.region ?_
      refine WPL.val (v_move (v := .slice _ _ _) rfl) ?_
      refine WPL.val (v_index (j := 40) Try.underlying32 Try.sizeOf3 rfl rfl rfl (by omega)) ?_
      refine WPL.val (v_load1 (u := .int .i64 _) Try.isAgg3 rfl (fun w hw => hw.old_at (hat 40 (by decide)) (not_foots_nil _))) ?_
      refine WPL.val (v_fieldL (o' := 40) Try.underlying57 rfl Try.sizeOf3 rfl rfl) ?_
      refine WPL.ef0 (x_store (u := .int .i64 _) (σ' := [_, _]) Try.sizeOf3 rfl rfl (i := 1) rfl (Nat.lt_of_lt_of_le (Nat.lt_succ_self _) (Nat.le_of_ble_eq_true rfl)) rfl) (fun _ => ?_)
      rw [mix_set1 ls _ 40 (u := .int .i64 (lv ls 40)) (by decide) rfl]
      refine WPL.nil (onto_of ?_)
      refine WP.seq ?_
      refine WP.region ?_
      refine WPL.val (v_move (v := .slice _ _ _) rfl) ?_
      refine WPL.val (v_slice (kh := 0) (l := 41) (h := ls.length) Try.underlying32 Try.sizeOf3 rfl ⟨rfl, rfl⟩ rfl (by omega) hlc) ?_
      rw [cutAddr_one (by omega)]
      refine WPL.ef (x_call Try.call58 (rlength_ct b (o + 41) (ls.length - 41) (c - 41) (lv ls 41) (lv ls 42) (by omega)) [] [0, 1] rfl (fun w hw => hw.old_at (hat2 41 (by decide)) (not_foots_nil _)) (τ := fun _ => [_, _]) (fun _ => rfl)) (fun _ => ?_)
      refine WPL.fact (fun _ => ?_)
      refine WPL.val (v_fieldL (o' := 41) Try.underlying57 rfl Try.sizeOf48 rfl rfl) ?_
      refine WPL.ef0 (x_storeA (us := [.int .i64 _, .int .i64 _]) (σ' := [_, _]) Try.sizeOf48 rfl rfl (i := 1) rfl (Nat.le_of_ble_eq_true rfl) rfl (by simp [Value.oneCell'])) (fun _ => ?_)
      rw [mix_set2 ls _ 41 (u := .int .i64 (lv ls 41)) (v := .int .i64 (lv ls 42)) (by decide) rfl rfl]
      refine WPL.nil (onto_of ?_)
      refine WP.seq ?_
      refine WP.region ?_
      refine WPL.val (v_move (v := .slice _ _ _) rfl) ?_
      refine WPL.val (v_index (j := 43) Try.underlying32 Try.sizeOf3 rfl rfl rfl (by omega)) ?_
      refine WPL.val (v_load1 (u := .int .i64 _) Try.isAgg3 rfl (fun w hw => hw.old_at (hat 43 (by decide)) (not_foots_nil _))) ?_
      refine WPL.val (v_fieldL (o' := 43) Try.underlying57 rfl Try.sizeOf51 rfl rfl) ?_
      refine WPL.ef0 (x_store (u := .int .i64 _) (σ' := [_, _]) Try.sizeOf51 rfl rfl (i := 1) rfl (Nat.lt_of_lt_of_le (Nat.lt_succ_self _) (Nat.le_of_ble_eq_true rfl)) rfl) (fun _ => ?_)
      rw [mix_set1 ls _ 43 (u := .int .i64 (lv ls 43)) (by decide) rfl]
      refine WPL.nil (onto_of ?_)
      refine WP.seq ?_
      refine WP.region ?_
      refine WPL.val (v_move (v := .slice _ _ _) rfl) ?_
      refine WPL.val (v_index (j := 44) Try.underlying32 Try.sizeOf3 rfl rfl rfl (by omega)) ?_
      refine WPL.val (v_load1 (u := .int .i64 _) Try.isAgg3 rfl (fun w hw => hw.old_at (hat 44 (by decide)) (not_foots_nil _))) ?_
      refine WPL.val (v_fieldL (o' := 44) Try.underlying57 rfl Try.sizeOf52 rfl rfl) ?_
      refine WPL.ef0 (x_store (u := .int .i64 _) (σ' := [_, _]) Try.sizeOf52 rfl rfl (i := 1) rfl (Nat.lt_of_lt_of_le (Nat.lt_succ_self _) (Nat.le_of_ble_eq_true rfl)) rfl) (fun _ => ?_)
      rw [mix_set1 ls _ 44 (u := .int .i64 (lv ls 44)) (by decide) rfl]
      refine WPL.nil (onto_of ?_)
      refine WP.seq ?_
      refine WP.region ?_
      refine WPL.val (v_move (v := .slice _ _ _) rfl) ?_
      refine WPL.val (v_index (j := 45) Try.underlying32 Try.sizeOf3 rfl rfl rfl (by omega)) ?_
      refine WPL.val (v_load1 (u := .int .i64 _) Try.isAgg3 rfl (fun w hw => hw.old_at (hat 45 (by decide)) (not_foots_nil _))) ?_
      refine WPL.val (v_eql rfl rfl) ?_
      refine WPL.val (v_fieldL (o' := 45) Try.underlying57 rfl Try.sizeOf4 rfl rfl) ?_
      refine WPL.ef0 (x_store (u := .bool _) (σ' := [_, _]) Try.sizeOf4 rfl rfl (i := 1) rfl (Nat.lt_of_lt_of_le (Nat.lt_succ_self _) (Nat.le_of_ble_eq_true rfl)) rfl) (fun _ => ?_)
      rw [mix_set1 ls _ 45 (u := .bool (decide (lv ls 45 = 1))) (by decide) rfl]
      refine WPL.nil (onto_of ?_)
      refine WP.seq ?_
      refine WP.region ?_
      refine WPL.val (v_move (v := .slice _ _ _) rfl) ?_
      refine WPL.val (v_index (j := 46) Try.underlying32 Try.sizeOf3 rfl rfl rfl (by omega)) ?_
      refine WPL.val (v_load1 (u := .int .i64 _) Try.isAgg3 rfl (fun w hw => hw.old_at (hat 46 (by decide)) (not_foots_nil _))) ?_
      refine WPL.val (v_fieldL (o' := 46) Try.underlying57 rfl Try.sizeOf3 rfl rfl) ?_
      refine WPL.ef0 (x_store (u := .int .i64 _) (σ' := [_, _]) Try.sizeOf3 rfl rfl (i := 1) rfl (Nat.lt_of_lt_of_le (Nat.lt_succ_self _) (Nat.le_of_ble_eq_true rfl)) rfl) (fun _ => ?_)
      rw [mix_set1 ls _ 46 (u := .int .i64 (lv ls 46)) (by decide) rfl]
      refine WPL.nil (onto_of ?_)
      refine WP.seq ?_
      refine WP.region ?_
      refine WPL.val (v_move (v := .slice _ _ _) rfl) ?_
      refine WPL.val (v_index (j := 47) Try.underlying32 Try.sizeOf3 rfl rfl rfl (by omega)) ?_
      refine WPL.val (v_load1 (u := .int .i64 _) Try.isAgg3 rfl (fun w hw => hw.old_at (hat 47 (by decide)) (not_foots_nil _))) ?_
      refine WPL.val (v_eql rfl rfl) ?_
      refine WPL.val (v_fieldL (o' := 47) Try.underlying57 rfl Try.sizeOf4 rfl rfl) ?_
      refine WPL.ef0 (x_store (u := .bool _) (σ' := [_, _]) Try.sizeOf4 rfl rfl (i := 1) rfl (Nat.lt_of_lt_of_le (Nat.lt_succ_self _) (Nat.le_of_ble_eq_true rfl)) rfl) (fun _ => ?_)
      rw [mix_set1 ls _ 47 (u := .bool (decide (lv ls 47 = 1))) (by decide) rfl]
      refine WPL.nil (onto_of ?_)
      refine WP.seq ?_
      refine WP.region ?_
      refine WPL.val (v_move (v := .slice _ _ _) rfl) ?_
      refine WPL.val (v_index (j := 48) Try.underlying32 Try.sizeOf3 rfl rfl rfl (by omega)) ?_
      refine WPL.val (v_load1 (u := .int .i64 _) Try.isAgg3 rfl (fun w hw => hw.old_at (hat 48 (by decide)) (not_foots_nil _))) ?_
      refine WPL.val (v_fieldL (o' := 48) Try.underlying57 rfl Try.sizeOf3 rfl rfl) ?_
      refine WPL.ef0 (x_store (u := .int .i64 _) (σ' := [_, _]) Try.sizeOf3 rfl rfl (i := 1) rfl (Nat.lt_of_lt_of_le (Nat.lt_succ_self _) (Nat.le_of_ble_eq_true rfl)) rfl) (fun _ => ?_)
      rw [mix_set1 ls _ 48 (u := .int .i64 (lv ls 48)) (by decide) rfl]
      refine WPL.nil (onto_of ?_)
      refine WP.seq ?_
      refine WP.region ?_
      refine WPL.val (v_move (v := .slice _ _ _) rfl) ?_
      refine WPL.val (v_index (j := 49) Try.underlying32 Try.sizeOf3 rfl rfl rfl (by omega)) ?_
      refine WPL.val (v_load1 (u := .int .i64 _) Try.isAgg3 rfl (fun w hw => hw.old_at (hat 49 (by decide)) (not_foots_nil _))) ?_
      refine WPL.val (v_fieldL (o' := 49) Try.underlying57 rfl Try.sizeOf53 rfl rfl) ?_
      refine WPL.ef0 (x_store (u := .int .i64 _) (σ' := [_, _]) Try.sizeOf53 rfl rfl (i := 1) rfl (Nat.lt_of_lt_of_le (Nat.lt_succ_self _) (Nat.le_of_ble_eq_true rfl)) rfl) (fun _ => ?_)
      rw [mix_set1 ls _ 49 (u := .int .i64 (lv ls 49)) (by decide) rfl]
      refine WPL.nil (onto_of ?_)
      refine WP.seq ?_
      refine WP.region ?_
      refine WPL.val (v_move (v := .slice _ _ _) rfl) ?_
      refine WPL.val (v_index (j := 50) Try.underlying32 Try.sizeOf3 rfl rfl rfl (by omega)) ?_
      refine WPL.val (v_load1 (u := .int .i64 _) Try.isAgg3 rfl (fun w hw => hw.old_at (hat 50 (by decide)) (not_foots_nil _))) ?_
      refine WPL.val (v_fieldL (o' := 50) Try.underlying57 rfl Try.sizeOf54 rfl rfl) ?_
      refine WPL.ef0 (x_store (u := .int .i64 _) (σ' := [_, _]) Try.sizeOf54 rfl rfl (i := 1) rfl (Nat.lt_of_lt_of_le (Nat.lt_succ_self _) (Nat.le_of_ble_eq_true rfl)) rfl) (fun _ => ?_)
      rw [mix_set1 ls _ 50 (u := .int .i64 (lv ls 50)) (by decide) rfl]
      refine WPL.nil (onto_of ?_)
      refine WP.seq ?_
      refine WP.region ?_
      refine WPL.val (v_move (v := .slice _ _ _) rfl) ?_
      refine WPL.val (v_index (j := 51) Try.underlying32 Try.sizeOf3 rfl rfl rfl (by omega)) ?_
      refine WPL.val (v_load1 (u := .int .i64 _) Try.isAgg3 rfl (fun w hw => hw.old_at (hat 51 (by decide)) (not_foots_nil _))) ?_
      refine WPL.val (v_eql rfl rfl) ?_
      refine WPL.val (v_fieldL (o' := 51) Try.underlying57 rfl Try.sizeOf4 rfl rfl) ?_
      refine WPL.ef0 (x_store (u := .bool _) (σ' := [_, _]) Try.sizeOf4 rfl rfl (i := 1) rfl (Nat.lt_of_lt_of_le (Nat.lt_succ_self _) (Nat.le_of_ble_eq_true rfl)) rfl) (fun _ => ?_)
      rw [mix_set1 ls _ 51 (u := .bool (decide (lv ls 51 = 1))) (by decide) rfl]
      refine WPL.nil (onto_of ?_)
      refine WP.seq ?_
      refine WP.region ?_
      refine WPL.val (v_move (v := .slice _ _ _) rfl) ?_
      refine WPL.val (v_index (j := 52) Try.underlying32 Try.sizeOf3 rfl rfl rfl (by omega)) ?_
      refine WPL.val (v_load1 (u := .int .i64 _) Try.isAgg3 rfl (fun w hw => hw.old_at (hat 52 (by decide)) (not_foots_nil _))) ?_
      refine WPL.val (v_eql rfl rfl) ?_
      refine WPL.val (v_fieldL (o' := 52) Try.underlying57 rfl Try.sizeOf4 rfl rfl) ?_
      refine WPL.ef0 (x_store (u := .bool _) (σ' := [_, _]) Try.sizeOf4 rfl rfl (i := 1) rfl (Nat.lt_of_lt_of_le (Nat.lt_succ_self _) (Nat.le_of_ble_eq_true rfl)) rfl) (fun _ => ?_)
      rw [mix_set1 ls _ 52 (u := .bool (decide (lv ls 52 = 1))) (by decide) rfl]
      refine WPL.nil (onto_of ?_)
      refine WP.seq ?_
      refine WP.region ?_
      refine WPL.val (v_move (v := .slice _ _ _) rfl) ?_
      refine WPL.val (v_index (j := 53) Try.underlying32 Try.sizeOf3 rfl rfl rfl (by omega)) ?_
      refine WPL.val (v_load1 (u := .int .i64 _) Try.isAgg3 rfl (fun w hw => hw.old_at (hat 53 (by decide)) (not_foots_nil _))) ?_
      refine WPL.val (v_fieldL (o' := 53) Try.underlying57 rfl Try.sizeOf55 rfl rfl) ?_
      refine WPL.val (v_indexA (j := 0) Try.underlying55 Try.sizeOf3 rfl rfl rfl (by decide)) ?_
      refine WPL.ef0 (x_store (u := .int .i64 _) (σ' := [_, _]) Try.sizeOf3 rfl rfl (i := 1) rfl (Nat.lt_of_lt_of_le (Nat.lt_succ_self _) (Nat.le_of_ble_eq_true rfl)) rfl) (fun _ => ?_)
      rw [mix_set1 ls _ 53 (u := .int .i64 (lv ls 53)) (by decide) rfl]
      refine WPL.nil (onto_of ?_)
      refine WP.seq ?_
      refine WP.region ?_
      refine WPL.val (v_move (v := .slice _ _ _) rfl) ?_
      refine WPL.val (v_index (j := 54) Try.underlying32 Try.sizeOf3 rfl rfl rfl (by omega)) ?_
      refine WPL.val (v_load1 (u := .int .i64 _) Try.isAgg3 rfl (fun w hw => hw.old_at (hat 54 (by decide)) (not_foots_nil _))) ?_
      refine WPL.val (v_fieldL (o' := 53) Try.underlying57 rfl Try.sizeOf55 rfl rfl) ?_
      refine WPL.val (v_indexA (j := 1) Try.underlying55 Try.sizeOf3 rfl rfl rfl (by decide)) ?_
      refine WPL.ef0 (x_store (u := .int .i64 _) (σ' := [_, _]) Try.sizeOf3 rfl rfl (i := 1) rfl (Nat.lt_of_lt_of_le (Nat.lt_succ_self _) (Nat.le_of_ble_eq_true rfl)) rfl) (fun _ => ?_)
      rw [mix_set1 ls _ 54 (u := .int .i64 (lv ls 54)) (by decide) rfl]
      refine WPL.nil (onto_of ?_)
      refine WP.seq ?_
      rw [mix_all ls (addP (addP (addP (addP (addP (addP (addP (addP (addP (addP (addP (addP (addP (addP (addP (addP (addP (addP (addP (addP (addP (addP (addP (addP (addP (addP (addP (addP (addP (addP (addP (addP (addP (addP (addP (addP (addP (addP (addP (addP (addP (addP (addP (addP (addP (addP (addP (addP (addP (addP (addP (addP (addP (addP (addP (fun _ => false) 0) 1) 2) 3) 4) 5) 6) 7) 8) 9) 10) 11) 12) 13) 14) 15) 16) 23) 24) 31) 35) 17) 18) 25) 26) 32) 36) 19) 20) 27) 28) 33) 37) 21) 22) 29) 30) 34) 38) 39) 40) 41) 42) 43) 44) 45) 46) 47) 48) 49) 50) 51) 52) 53) 54) (by decide)]
      refine WP.region ?_
      refine WPL.val (v_loadA (cs := decS ls) Try.isAgg57 Try.sizeOf57 rfl (fun w hw => hw.cl_at (i := 1) rfl 0 (whole _)) (decS_len ls)) ?_
      refine WPL.ef (x_call Try.call25 (rvalid_ct (decS ls) (decS_ok ls)) [] [0, 1] rfl (fun w hw => trivial) (τ := fun _ => [_, _]) (fun _ => rfl)) (fun _ => ?_)
      refine WPL.fact (fun _ => ?_)
      refine WPL.val (v_assign (v := .bool _) rfl) ?_
      refine WPL.nil (onto_of ?_)
      refine WP.seq ?_
      refine WP.seq ?_
      refine WP.region ?_
      refine WPL.val (v_move (v := .bool _) rfl) ?_
      refine WPL.val (v_not rfl) ?_
      refine WPL.val (v_move (v := .bool _) rfl) ?_
      refine WPL.splitB 157 rfl (fun h157 => ?_) (fun h157 => ?_)
      ·
        refine WPL.skipG ?_
        refine WPL.skipG ?_
        refine WPL.skipG ?_
        refine WPL.skipG ?_
        refine WPL.skipG ?_
        refine WPL.val (v_pickT (u := .bool _) rfl rfl) ?_
        refine WPL.val (v_move (v := .bool _) rfl) ?_
        refine WPL.skipG ?_
        refine WPL.skipG ?_
        refine WPL.skipG ?_
        refine WPL.skipG ?_
        refine WPL.skipG ?_
        refine WPL.val (v_pickT (u := .bool _) rfl rfl) ?_
        refine WPL.val (v_move (v := .bool _) rfl) ?_
        refine WPL.skipG ?_
        refine WPL.skipG ?_
        refine WPL.skipG ?_
        refine WPL.skipG ?_
        refine WPL.skipG ?_
        refine WPL.val (v_pickT (u := .bool _) rfl rfl) ?_
        refine WPL.val (v_move (v := .bool _) rfl) ?_
        refine WPL.skipG ?_
        refine WPL.skipG ?_
        refine WPL.skipG ?_
        refine WPL.skipG ?_
        refine WPL.skipG ?_
        refine WPL.val (v_pickT (u := .bool _) rfl rfl) ?_
        refine WPL.nil (onto_of ?_)
        have hget : getS ls = (zeroS, 11) := by unfold getS; rw [if_neg (by omega), if_neg (by omega), if_pos (by rw [bads55]; simp [*])]
        refine WP.condT rfl ?_
        refine WP.seq ?_
        refine WP.region ?_
        refine WPL.val (v_struct (parts := []) (us := zeroS) (pl := [(0, 1), (1, 1), (2, 1), (3, 2), (5, 2), (7, 2), (9, 2), (11, 2), (13, 2), (15, 8), (23, 8), (31, 4), (35, 4), (39, 1), (40, 1), (41, 2), (43, 1), (44, 1), (45, 1), (46, 1), (47, 1), (48, 1), (49, 1), (50, 1), (51, 1), (52, 1), (53, 2)]) Try.underlying57 Try.zeroValue57 rfl (by kernel_rfl) rfl rfl (by kernel_rfl)) ?_
        refine WPL.ef0 (x_storeW (us := _) (σ' := [_, _]) Try.sizeOf57 rfl rfl (i := 0) rfl rfl rfl zeroS_ok.one) (fun _ => ?_)
        refine WPL.val (v_assign (v := .int .i64 (11)) rfl) ?_
        refine WPL.nil (onto_of ?_)
        simp only [hget]
        exact WP.retCT (us := zeroS) Try.results30 rfl Try.isAgg57 Try.sizeOf57 (fun w hw => hw.cl_at (i := 0) rfl 0 (whole _)) rfl (fun _ h => h) (fun w hw => ⟨(), rfl, trivial, hw.sel [] (by decide)⟩)
      ·
        refine WPL.valG (v_move (v := .slice _ _ _) rfl) ?_
        refine WPL.valG (v_index (j := 45) Try.underlying32 Try.sizeOf3 rfl rfl rfl (by omega)) ?_
        refine WPL.valG (v_load1 (u := .int .i64 _) Try.isAgg3 rfl (fun w hw => hw.old_at (hat 45 (by decide)) (not_foots_nil _))) ?_
        refine WPL.valG (v_call Try.call37 (fun w hw => in37_any _ _ _ _)) ?_
        refine WPL.valG (v_not rfl) ?_
        refine WPL.val (v_pickF (v := .bool _) rfl rfl) ?_
        refine WPL.val (v_move (v := .bool _) rfl) ?_
        refine WPL.splitB 164 rfl (fun h164 => ?_) (fun h164 => ?_)
        ·
          refine WPL.skipG ?_
          refine WPL.skipG ?_
          refine WPL.skipG ?_
          refine WPL.skipG ?_
          refine WPL.skipG ?_
          refine WPL.val (v_pickT (u := .bool _) rfl rfl) ?_
          refine WPL.val (v_move (v := .bool _) rfl) ?_
          refine WPL.skipG ?_
          refine WPL.skipG ?_
          refine WPL.skipG ?_
          refine WPL.skipG ?_
          refine WPL.skipG ?_
          refine WPL.val (v_pickT (u := .bool _) rfl rfl) ?_
          refine WPL.val (v_move (v := .bool _) rfl) ?_
          refine WPL.skipG ?_
          refine WPL.skipG ?_
          refine WPL.skipG ?_
          refine WPL.skipG ?_
          refine WPL.skipG ?_
          refine WPL.val (v_pickT (u := .bool _) rfl rfl) ?_
          refine WPL.nil (onto_of ?_)
          have hget : getS ls = (zeroS, 11) := by unfold getS; rw [if_neg (by omega), if_neg (by omega), if_pos (by rw [bads55]; simp [*])]
          refine WP.condT rfl ?_
          refine WP.seq ?_
          refine WP.region ?_
          refine WPL.val (v_struct (parts := []) (us := zeroS) (pl := [(0, 1), (1, 1), (2, 1), (3, 2), (5, 2), (7, 2), (9, 2), (11, 2), (13, 2), (15, 8), (23, 8), (31, 4), (35, 4), (39, 1), (40, 1), (41, 2), (43, 1), (44, 1), (45, 1), (46, 1), (47, 1), (48, 1), (49, 1), (50, 1), (51, 1), (52, 1), (53, 2)]) Try.underlying57 Try.zeroValue57 rfl (by kernel_rfl) rfl rfl (by kernel_rfl)) ?_
          refine WPL.ef0 (x_storeW (us := _) (σ' := [_, _]) Try.sizeOf57 rfl rfl (i := 0) rfl rfl rfl zeroS_ok.one) (fun _ => ?_)
          refine WPL.val (v_assign (v := .int .i64 (11)) rfl) ?_
          refine WPL.nil (onto_of ?_)
          simp only [hget]
          exact WP.retCT (us := zeroS) Try.results30 rfl Try.isAgg57 Try.sizeOf57 (fun w hw => hw.cl_at (i := 0) rfl 0 (whole _)) rfl (fun _ h => h) (fun w hw => ⟨(), rfl, trivial, hw.sel [] (by decide)⟩)
        ·
          refine WPL.valG (v_move (v := .slice _ _ _) rfl) ?_
          refine WPL.valG (v_index (j := 47) Try.underlying32 Try.sizeOf3 rfl rfl rfl (by omega)) ?_
          refine WPL.valG (v_load1 (u := .int .i64 _) Try.isAgg3 rfl (fun w hw => hw.old_at (hat 47 (by decide)) (not_foots_nil _))) ?_
          refine WPL.valG (v_call Try.call37 (fun w hw => in37_any _ _ _ _)) ?_
          refine WPL.valG (v_not rfl) ?_
          refine WPL.val (v_pickF (v := .bool _) rfl rfl) ?_
          refine WPL.val (v_move (v := .bool _) rfl) ?_
          refine WPL.splitB 171 rfl (fun h171 => ?_) (fun h171 => ?_)
          ·
            refine WPL.skipG ?_
            refine WPL.skipG ?_
            refine WPL.skipG ?_
            refine WPL.skipG ?_
            refine WPL.skipG ?_
            refine WPL.val (v_pickT (u := .bool _) rfl rfl) ?_
            refine WPL.val (v_move (v := .bool _) rfl) ?_
            refine WPL.skipG ?_
            refine WPL.skipG ?_
            refine WPL.skipG ?_
            refine WPL.skipG ?_
            refine WPL.skipG ?_
            refine WPL.val (v_pickT (u := .bool _) rfl rfl) ?_
            refine WPL.nil (onto_of ?_)
            have hget : getS ls = (zeroS, 11) := by unfold getS; rw [if_neg (by omega), if_neg (by omega), if_pos (by rw [bads55]; simp [*])]
            refine WP.condT rfl ?_
            refine WP.seq ?_
            refine WP.region ?_
            refine WPL.val (v_struct (parts := []) (us := zeroS) (pl := [(0, 1), (1, 1), (2, 1), (3, 2), (5, 2), (7, 2), (9, 2), (11, 2), (13, 2), (15, 8), (23, 8), (31, 4), (35, 4), (39, 1), (40, 1), (41, 2), (43, 1), (44, 1), (45, 1), (46, 1), (47, 1), (48, 1), (49, 1), (50, 1), (51, 1), (52, 1), (53, 2)]) Try.underlying57 Try.zeroValue57 rfl (by kernel_rfl) rfl rfl (by kernel_rfl)) ?_
            refine WPL.ef0 (x_storeW (us := _) (σ' := [_, _]) Try.sizeOf57 rfl rfl (i := 0) rfl rfl rfl zeroS_ok.one) (fun _ => ?_)
            refine WPL.val (v_assign (v := .int .i64 (11)) rfl) ?_
            refine WPL.nil (onto_of ?_)
            simp only [hget]
            exact WP.retCT (us := zeroS) Try.results30 rfl Try.isAgg57 Try.sizeOf57 (fun w hw => hw.cl_at (i := 0) rfl 0 (whole _)) rfl (fun _ h => h) (fun w hw => ⟨(), rfl, trivial, hw.sel [] (by decide)⟩)
          ·
            refine WPL.valG (v_move (v := .slice _ _ _) rfl) ?_
            refine WPL.valG (v_index (j := 51) Try.underlying32 Try.sizeOf3 rfl rfl rfl (by omega)) ?_
            refine WPL.valG (v_load1 (u := .int .i64 _) Try.isAgg3 rfl (fun w hw => hw.old_at (hat 51 (by decide)) (not_foots_nil _))) ?_
            refine WPL.valG (v_call Try.call37 (fun w hw => in37_any _ _ _ _)) ?_
            refine WPL.valG (v_not rfl) ?_
            refine WPL.val (v_pickF (v := .bool _) rfl rfl) ?_
            refine WPL.val (v_move (v := .bool _) rfl) ?_
            refine WPL.splitB 178 rfl (fun h178 => ?_) (fun h178 => ?_)
            ·
              refine WPL.skipG ?_
              refine WPL.skipG ?_
              refine WPL.skipG ?_
              refine WPL.skipG ?_
              refine WPL.skipG ?_
              refine WPL.val (v_pickT (u := .bool _) rfl rfl) ?_
              refine WPL.nil (onto_of ?_)
              have hget : getS ls = (zeroS, 11) := by unfold getS; rw [if_neg (by omega), if_neg (by omega), if_pos (by rw [bads55]; simp [*])]
              refine WP.condT rfl ?_
              refine WP.seq ?_
              refine WP.region ?_
              refine WPL.val (v_struct (parts := []) (us := zeroS) (pl := [(0, 1), (1, 1), (2, 1), (3, 2), (5, 2), (7, 2), (9, 2), (11, 2), (13, 2), (15, 8), (23, 8), (31, 4), (35, 4), (39, 1), (40, 1), (41, 2), (43, 1), (44, 1), (45, 1), (46, 1), (47, 1), (48, 1), (49, 1), (50, 1), (51, 1), (52, 1), (53, 2)]) Try.underlying57 Try.zeroValue57 rfl (by kernel_rfl) rfl rfl (by kernel_rfl)) ?_
              refine WPL.ef0 (x_storeW (us := _) (σ' := [_, _]) Try.sizeOf57 rfl rfl (i := 0) rfl rfl rfl zeroS_ok.one) (fun _ => ?_)
              refine WPL.val (v_assign (v := .int .i64 (11)) rfl) ?_
              refine WPL.nil (onto_of ?_)
              simp only [hget]
              exact WP.retCT (us := zeroS) Try.results30 rfl Try.isAgg57 Try.sizeOf57 (fun w hw => hw.cl_at (i := 0) rfl 0 (whole _)) rfl (fun _ h => h) (fun w hw => ⟨(), rfl, trivial, hw.sel [] (by decide)⟩)
            ·
              refine WPL.valG (v_move (v := .slice _ _ _) rfl) ?_
              refine WPL.valG (v_index (j := 52) Try.underlying32 Try.sizeOf3 rfl rfl rfl (by omega)) ?_
              refine WPL.valG (v_load1 (u := .int .i64 _) Try.isAgg3 rfl (fun w hw => hw.old_at (hat 52 (by decide)) (not_foots_nil _))) ?_
              refine WPL.valG (v_call Try.call37 (fun w hw => in37_any _ _ _ _)) ?_
              refine WPL.valG (v_not rfl) ?_
              refine WPL.val (v_pickF (v := .bool _) rfl rfl) ?_
              refine WPL.nil (onto_of ?_)
              refine WP.cond rfl (fun h184 => ?_) (fun h184 => ?_)
              ·
                have hget : getS ls = (zeroS, 11) := by unfold getS; rw [if_neg (by omega), if_neg (by omega), if_pos (by rw [bads55]; simp [*])]
                refine WP.seq ?_
                refine WP.region ?_
                refine WPL.val (v_struct (parts := []) (us := zeroS) (pl := [(0, 1), (1, 1), (2, 1), (3, 2), (5, 2), (7, 2), (9, 2), (11, 2), (13, 2), (15, 8), (23, 8), (31, 4), (35, 4), (39, 1), (40, 1), (41, 2), (43, 1), (44, 1), (45, 1), (46, 1), (47, 1), (48, 1), (49, 1), (50, 1), (51, 1), (52, 1), (53, 2)]) Try.underlying57 Try.zeroValue57 rfl (by kernel_rfl) rfl rfl (by kernel_rfl)) ?_
                refine WPL.ef0 (x_storeW (us := _) (σ' := [_, _]) Try.sizeOf57 rfl rfl (i := 0) rfl rfl rfl zeroS_ok.one) (fun _ => ?_)
                refine WPL.val (v_assign (v := .int .i64 (11)) rfl) ?_
                refine WPL.nil (onto_of ?_)
                simp only [hget]
                exact WP.retCT (us := zeroS) Try.results30 rfl Try.isAgg57 Try.sizeOf57 (fun w hw => hw.cl_at (i := 0) rfl 0 (whole _)) rfl (fun _ h => h) (fun w hw => ⟨(), rfl, trivial, hw.sel [] (by decide)⟩)
              ·
                have hget : getS ls = (decS ls, 0) := by unfold getS; rw [if_neg (by omega), if_neg (by omega), if_neg (by rw [bads55]; simp only [Bool.not_eq_true]; simp [*])]
                refine WP.skip (onto_of ?_)
                refine WP.seq ?_
                refine WP.region ?_
                refine WPL.val (v_loadA (cs := decS ls) Try.isAgg57 Try.sizeOf57 rfl (fun w hw => hw.cl_at (i := 1) rfl 0 (whole _)) (decS_len ls)) ?_
                refine WPL.ef0 (x_storeW (us := decS ls) (σ' := [_, _]) Try.sizeOf57 rfl rfl (i := 0) rfl (decS_len ls) rfl (decS_ok ls).one (decS_len ls)) (fun _ => ?_)
                refine WPL.val (v_assign (v := .int .i64 (0)) rfl) ?_
                refine WPL.nil (onto_of ?_)
                simp only [hget]
                exact WP.retCT (us := (decS ls)) Try.results30 rfl Try.isAgg57 Try.sizeOf57 (fun w hw => hw.cl_at (i := 0) rfl 0 (whole _)) (decS_len ls) (fun _ h => h) (fun w hw => ⟨(), rfl, trivial, hw.sel [] (by decide)⟩)
end Go.Proofs.Ytabdcfobdehhiaa
