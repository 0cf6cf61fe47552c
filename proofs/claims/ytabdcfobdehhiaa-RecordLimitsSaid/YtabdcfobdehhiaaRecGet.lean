/- record.Get: what it computes. -/
import Derived.Test.YtabdcfobdehhiaaRecGetStyle
import Derived.Test.YtabdcfobdehhiaaRecValid
namespace Go.Proofs.Ytabdcfobdehhiaa
open Go.RowKit

def zeroS : List Value := [.int .i64 0, .int .i64 0, .int .i64 0, .int .i64 0, .int .i64 0, .int .i64 0, .int .i64 0, .int .i64 0, .int .i64 0, .int .i64 0, .int .i64 0, .int .i64 0, .int .i64 0, .int .i64 0, .int .i64 0, .int .i64 0, .int .i64 0, .int .i64 0, .int .i64 0, .int .i64 0, .int .i64 0, .int .i64 0, .int .i64 0, .int .i64 0, .int .i64 0, .int .i64 0, .int .i64 0, .int .i64 0, .int .i64 0, .int .i64 0, .int .i64 0, .int .i64 0, .int .i64 0, .int .i64 0, .int .i64 0, .int .i64 0, .int .i64 0, .int .i64 0, .int .i64 0, .int .i64 0, .int .i64 0, .int .i64 0, .int .i64 0, .int .i64 0, .int .i64 0, .bool false, .int .i64 0, .bool false, .int .i64 0, .int .i64 0, .int .i64 0, .bool false, .bool false, .int .i64 0, .int .i64 0]
def decS (ls : List Int) : List Value := got ls zeroS 55
def getS (ls : List Int) : List Value × Int :=
  if ls.length < 55 then (zeroS, 10) else if 55 < ls.length then (zeroS, 11) else if bads ls 55 || !validB (decS ls) then (zeroS, 11) else (decS ls, 0)
theorem zeroS_at : ∀ j, j < 55 → zeroS[j]? = some (if isBit j then .bool false else .int .i64 0) := fun j hj => match j, hj with
  | 0, _ => rfl
  | 1, _ => rfl
  | 2, _ => rfl
  | 3, _ => rfl
  | 4, _ => rfl
  | 5, _ => rfl
  | 6, _ => rfl
  | 7, _ => rfl
  | 8, _ => rfl
  | 9, _ => rfl
  | 10, _ => rfl
  | 11, _ => rfl
  | 12, _ => rfl
  | 13, _ => rfl
  | 14, _ => rfl
  | 15, _ => rfl
  | 16, _ => rfl
  | 17, _ => rfl
  | 18, _ => rfl
  | 19, _ => rfl
  | 20, _ => rfl
  | 21, _ => rfl
  | 22, _ => rfl
  | 23, _ => rfl
  | 24, _ => rfl
  | 25, _ => rfl
  | 26, _ => rfl
  | 27, _ => rfl
  | 28, _ => rfl
  | 29, _ => rfl
  | 30, _ => rfl
  | 31, _ => rfl
  | 32, _ => rfl
  | 33, _ => rfl
  | 34, _ => rfl
  | 35, _ => rfl
  | 36, _ => rfl
  | 37, _ => rfl
  | 38, _ => rfl
  | 39, _ => rfl
  | 40, _ => rfl
  | 41, _ => rfl
  | 42, _ => rfl
  | 43, _ => rfl
  | 44, _ => rfl
  | 45, _ => rfl
  | 46, _ => rfl
  | 47, _ => rfl
  | 48, _ => rfl
  | 49, _ => rfl
  | 50, _ => rfl
  | 51, _ => rfl
  | 52, _ => rfl
  | 53, _ => rfl
  | 54, _ => rfl
  | j + 55, h => absurd h (by omega)
theorem SOk.of_dec {cs : List Value} {f : Nat → Int} {g : Nat → Bool} (hl : cs.length = 55) (h : ∀ j, j < 55 → cs[j]? = some (if isBit j then .bool (g j) else .int .i64 (f j))) : SOk cs := by
  refine ⟨hl, fun j hj hb => ?_, fun j hj hb => ?_⟩
  · have h1 := h j hj
    rw [hb] at h1
    unfold val
    rw [List.getD_eq_getElem?_getD, h1]; rfl
  · have h1 := h j hj
    rw [hb] at h1
    unfold bval
    rw [List.getD_eq_getElem?_getD, h1]; rfl
theorem zeroS_ok : SOk zeroS := SOk.of_dec (f := fun _ => 0) (g := fun _ => false) rfl zeroS_at
theorem decS_len (ls : List Int) : (decS ls).length = 55 := by simp [decS, got, zeroS]
theorem decS_at (ls : List Int) (j : Nat) (hj : j < 55) : (decS ls)[j]? = some (dec ls j) := by
  have hz := zeroS_at j hj
  simp only [decS, got, List.getElem?_mapIdx, hz, Option.map_some, if_pos hj]
theorem decS_ok (ls : List Int) : SOk (decS ls) := SOk.of_dec (f := lv ls) (g := fun j => decide (lv ls j = 1)) (decS_len ls) fun j hj => by rw [decS_at ls j hj]; rfl
theorem SOk.one {cs : List Value} (hs : SOk cs) : ∀ u ∈ cs, u.oneCell' = true := fun u hu => by
  obtain ⟨j, hj⟩ := List.getElem?_of_mem hu
  have hlt := (List.getElem?_eq_some_iff.1 hj).1
  rw [hs.len] at hlt
  cases hb : isBit j with
  | false => rw [hs.int j hlt hb] at hj; cases hj; rfl
  | true => rw [hs.bit j hlt hb] at hj; cases hj; rfl
theorem St.newAt {w0 w : World} {σ : List HI} (h : St w0 (foots []) σ w) {i b : Nat} {t : TypeId} {cs : List Value} (hi : σ[i]? = some (.cl b t cs)) : w0.heap.size ≤ b := by
  rcases h.fresh _ (List.mem_of_getElem? hi) b rfl with h1 | h1
  · exact h1
  · exact absurd h1 (not_foots_nil b)
theorem far_of {w0 : World} {A : Option Addr} {ls : List Int} (hz : RdI w0 A ls) (h0 : 0 < ls.length) {bs : List Nat} (hb : ∀ b ∈ bs, w0.heap.size ≤ b) : Far A bs := by
  intro a e b hm
  obtain ⟨b', o, e', hc⟩ := hz 0 _ (List.getElem?_eq_getElem h0)
  rw [e] at e'
  cases e'
  have := cell_lt (hc 0 _ rfl)
  have := hb b hm
  show b' ≠ b
  omega
theorem whole (cs : List Value) : (cs.drop 0).take cs.length = cs := by simp
set_option maxRecDepth 100000 in
theorem get_ct (A : Option Addr) (c : Nat) (ls : List Int) (hl : ls.length ≤ 1000) :
    Ct Try.prog 29 #[.slice A ls.length c] [] (fun w => RdI w A ls) (X := Unit) (fun _ => .tuple #[.agg (getS ls).1.toArray, .int .i64 (getS ls).2]) (fun _ => True) (fun _ => []) := by
  refine Ct.intro Try.func29 rfl Try.ntmps29 (by simp) (fun w0 hz => ?_)
  refine WP.seq ?_
  refine WP.region ?_
  refine WPL.ef (x_box1 (u := .slice _ _ _) (σ' := fun _ => [_]) rfl (fun _ => rfl)) (fun b1 => ?_)
  refine WPL.ef (x_alloc (us := zeroS) (σ' := fun _ => [_, _]) Try.zeroValue57 rfl (fun _ => rfl)) (fun b2 => ?_)
  refine WPL.val (v_assign (v := .int .i64 (0)) rfl) ?_
  refine WPL.nil (onto_of ?_)
  refine WP.seq ?_
  refine WP.block ?_
  refine WP.seq ?_
  refine WP.region ?_
  refine WPL.val (v_load1 (u := .slice _ _ _) Try.isAgg32 rfl (fun w hw => hw.cl_at (i := 0) rfl _ rfl)) ?_
  refine WPL.val (v_len Try.underlying32 rfl) ?_
  refine WPL.val (v_lss rfl rfl) ?_
  refine WPL.val (v_assign (v := .bool _) rfl) ?_
  refine WPL.nil (onto_of ?_)
  refine WP.condP rfl (fun h7 => ?_) (fun h7 => ?_)
  ·
    have hget : getS ls = (zeroS, 10) := by unfold getS; rw [if_pos (by omega)]
    refine WP.seq ?_
    refine WP.region ?_
    refine WPL.val (v_struct (parts := []) (us := zeroS) (pl := [(0, 1), (1, 1), (2, 1), (3, 2), (5, 2), (7, 2), (9, 2), (11, 2), (13, 2), (15, 8), (23, 8), (31, 4), (35, 4), (39, 1), (40, 1), (41, 2), (43, 1), (44, 1), (45, 1), (46, 1), (47, 1), (48, 1), (49, 1), (50, 1), (51, 1), (52, 1), (53, 2)]) Try.underlying57 Try.zeroValue57 rfl (by kernel_rfl) rfl rfl (by kernel_rfl)) ?_
    refine WPL.ef0 (x_storeW (us := _) (σ' := [_, _]) Try.sizeOf57 rfl rfl (i := 1) rfl rfl rfl zeroS_ok.one) (fun _ => ?_)
    refine WPL.val (v_assign (v := .int .i64 (10)) rfl) ?_
    refine WPL.nil (onto_of ?_)
    simp only [hget]
    exact WP.retCT (us := zeroS) Try.results29 rfl Try.isAgg57 Try.sizeOf57 (fun w hw => hw.cl_at (i := 1) rfl 0 (whole _)) rfl (fun _ h => h) (fun w hw => ⟨(), rfl, trivial, hw.sel [] (by decide)⟩)
  ·
    refine WP.seq ?_
    refine WP.region ?_
    refine WPL.val (v_load1 (u := .slice _ _ _) Try.isAgg32 rfl (fun w hw => hw.cl_at (i := 0) rfl _ rfl)) ?_
    refine WPL.val (v_len Try.underlying32 rfl) ?_
    refine WPL.val (v_gtr rfl rfl) ?_
    refine WPL.val (v_assign (v := .bool _) rfl) ?_
    refine WPL.nil (onto_of ?_)
    refine WP.condP rfl (fun h12 => ?_) (fun h12 => ?_)
    ·
      have hget : getS ls = (zeroS, 11) := by unfold getS; rw [if_neg (by omega), if_pos (by omega)]
      refine WP.seq ?_
      refine WP.region ?_
      refine WPL.val (v_struct (parts := []) (us := zeroS) (pl := [(0, 1), (1, 1), (2, 1), (3, 2), (5, 2), (7, 2), (9, 2), (11, 2), (13, 2), (15, 8), (23, 8), (31, 4), (35, 4), (39, 1), (40, 1), (41, 2), (43, 1), (44, 1), (45, 1), (46, 1), (47, 1), (48, 1), (49, 1), (50, 1), (51, 1), (52, 1), (53, 2)]) Try.underlying57 Try.zeroValue57 rfl (by kernel_rfl) rfl rfl (by kernel_rfl)) ?_
      refine WPL.ef0 (x_storeW (us := _) (σ' := [_, _]) Try.sizeOf57 rfl rfl (i := 1) rfl rfl rfl zeroS_ok.one) (fun _ => ?_)
      refine WPL.val (v_assign (v := .int .i64 (11)) rfl) ?_
      refine WPL.nil (onto_of ?_)
      simp only [hget]
      exact WP.retCT (us := zeroS) Try.results29 rfl Try.isAgg57 Try.sizeOf57 (fun w hw => hw.cl_at (i := 1) rfl 0 (whole _)) rfl (fun _ h => h) (fun w hw => ⟨(), rfl, trivial, hw.sel [] (by decide)⟩)
    ·
      refine WP.skip (onto_of ?_)
      refine WP.seq ?_
      refine WP.region ?_
      refine WPL.ef (x_alloc (us := [_]) (σ' := fun _ => [_, _, _]) Try.zeroValue3 rfl (fun _ => rfl)) (fun b4 => ?_)
      refine WPL.ef0 (x_store (u := .int .i64 _) (σ' := [_, _, .cl _ _ [_]]) Try.sizeOf3 rfl rfl (i := 2) rfl (Nat.lt_of_lt_of_le (Nat.lt_succ_self _) (Nat.le_of_ble_eq_true rfl)) rfl) (fun _ => ?_)
      refine WPL.nil (onto_of ?_)
      refine WP.seq ?_
      refine WP.region ?_
      refine WPL.val (v_func) ?_
      refine WPL.val (v_struct (us := [_, .bool _]) (pl := [(0, 1), (1, 1)]) Try.underlying96 Try.zeroValue96 rfl (by kernel_rfl) rfl rfl (by kernel_rfl)) ?_
      refine WPL.ef (x_boxA (us := [_, .bool _]) (σ' := fun _ => [_, _, _, _]) rfl (fun _ => rfl)) (fun b19 => ?_)
      refine WPL.val (v_assign (v := .pointer _) rfl) ?_
      refine WPL.nil (onto_of ?_)
      refine WP.seq ?_
      refine WP.region ?_
      refine WPL.ef (x_alloc (us := zeroS) (σ' := fun _ => [_, _, _, _, _]) Try.zeroValue57 rfl (fun _ => rfl)) (fun b6 => ?_)
      refine WPL.nil (onto_of ?_)
      refine WP.seq ?_
      have hl55 : ls.length = 55 := by omega
      refine WP.holds (p := w0.heap.size ≤ b19 ∧ w0.heap.size ≤ b6 ∧ w0.heap.size ≤ b4 ∧ w0.heap.size ≤ b1) (fun w hw => ⟨hw.newAt (i := 3) rfl, hw.newAt (i := 4) rfl, hw.newAt (i := 2) rfl, hw.newAt (i := 0) rfl⟩) (fun ⟨n1, n2, n3, n4⟩ => ?_)
      have hfar : Far A [b19, b6, b4, b1] := far_of hz (by omega) (by simp only [List.mem_cons, List.not_mem_nil, or_false]; rintro b (rfl | rfl | rfl | rfl) <;> assumption)
      refine WP.region ?_
      refine WPL.val (v_move (v := .pointer _) rfl) ?_
      refine WPL.ef (x_call Try.call55 (getStyle_ct b19 b6 b4 b1 zeroS A c ls zeroS_ok hl55) [3, 4, 2, 0] [1] rfl (fun w hw => ⟨hw.rd hz not_foots_nil, hfar⟩) (τ := fun _ => [_, _, _, _, _]) (fun _ => rfl)) (fun _ => ?_)
      refine WPL.fact (fun _ => ?_)
      refine WPL.nil (onto_of ?_)
      refine WP.seq ?_
      refine WP.seq ?_
      refine WP.region ?_
      refine WPL.val (v_move (v := .pointer _) rfl) ?_
      refine WPL.val (v_nil rfl) ?_
      refine WPL.val (v_fieldL (o' := 1) Try.underlying96 rfl Try.sizeOf4 rfl rfl) ?_
      refine WPL.val (v_load1 (u := .bool _) Try.isAgg4 rfl (fun w hw => hw.cl_at (i := 1) rfl _ rfl)) ?_
      refine WPL.val (v_move (v := .bool _) rfl) ?_
      refine WPL.splitB 26 rfl (fun h26 => ?_) (fun h26 => ?_)
      ·
        have hget : getS ls = (zeroS, 11) := by unfold getS; rw [if_neg (by omega), if_neg (by omega), if_pos (by simp [*])]
        refine WPL.skipG ?_
        refine WPL.skipG ?_
        refine WPL.skipG ?_
        refine WPL.val (v_pickT (u := .bool _) rfl rfl) ?_
        refine WPL.nil (onto_of ?_)
        refine WP.condT rfl ?_
        refine WP.seq ?_
        refine WP.region ?_
        refine WPL.val (v_struct (parts := []) (us := zeroS) (pl := [(0, 1), (1, 1), (2, 1), (3, 2), (5, 2), (7, 2), (9, 2), (11, 2), (13, 2), (15, 8), (23, 8), (31, 4), (35, 4), (39, 1), (40, 1), (41, 2), (43, 1), (44, 1), (45, 1), (46, 1), (47, 1), (48, 1), (49, 1), (50, 1), (51, 1), (52, 1), (53, 2)]) Try.underlying57 Try.zeroValue57 rfl (by kernel_rfl) rfl rfl (by kernel_rfl)) ?_
        refine WPL.ef0 (x_storeW (us := _) (σ' := [_, _, _, _, _]) Try.sizeOf57 rfl rfl (i := 0) rfl rfl rfl zeroS_ok.one) (fun _ => ?_)
        refine WPL.val (v_assign (v := .int .i64 (11)) rfl) ?_
        refine WPL.nil (onto_of ?_)
        simp only [hget]
        exact WP.retCT (us := zeroS) Try.results29 rfl Try.isAgg57 Try.sizeOf57 (fun w hw => hw.cl_at (i := 0) rfl 0 (whole _)) rfl (fun _ h => h) (fun w hw => ⟨(), rfl, trivial, hw.sel [] (by decide)⟩)
      ·
        refine WPL.valG (v_loadA (cs := decS ls) Try.isAgg57 Try.sizeOf57 rfl (fun w hw => hw.cl_at (i := 2) rfl 0 (whole _)) (decS_len ls)) ?_
        refine WPL.efG (x_call Try.call26 (valid_ct (decS ls) (decS_ok ls)) [] [0, 1, 2, 3, 4] rfl (fun w hw => trivial) (τ := fun _ => [_, _, _, _, _]) (fun _ => rfl)) (fun _ => ?_)
        refine WPL.fact (fun _ => ?_)
        refine WPL.valG (v_not rfl) ?_
        refine WPL.val (v_pickF (v := .bool _) rfl rfl) ?_
        refine WPL.nil (onto_of ?_)
        refine WP.cond rfl (fun h30 => ?_) (fun h30 => ?_)
        ·
          have hget : getS ls = (zeroS, 11) := by unfold getS; rw [if_neg (by omega), if_neg (by omega), if_pos (by simp [*])]
          refine WP.seq ?_
          refine WP.region ?_
          refine WPL.val (v_struct (parts := []) (us := zeroS) (pl := [(0, 1), (1, 1), (2, 1), (3, 2), (5, 2), (7, 2), (9, 2), (11, 2), (13, 2), (15, 8), (23, 8), (31, 4), (35, 4), (39, 1), (40, 1), (41, 2), (43, 1), (44, 1), (45, 1), (46, 1), (47, 1), (48, 1), (49, 1), (50, 1), (51, 1), (52, 1), (53, 2)]) Try.underlying57 Try.zeroValue57 rfl (by kernel_rfl) rfl rfl (by kernel_rfl)) ?_
          refine WPL.ef0 (x_storeW (us := _) (σ' := [_, _, _, _, _]) Try.sizeOf57 rfl rfl (i := 0) rfl rfl rfl zeroS_ok.one) (fun _ => ?_)
          refine WPL.val (v_assign (v := .int .i64 (11)) rfl) ?_
          refine WPL.nil (onto_of ?_)
          simp only [hget]
          exact WP.retCT (us := zeroS) Try.results29 rfl Try.isAgg57 Try.sizeOf57 (fun w hw => hw.cl_at (i := 0) rfl 0 (whole _)) rfl (fun _ h => h) (fun w hw => ⟨(), rfl, trivial, hw.sel [] (by decide)⟩)
        ·
          have hget : getS ls = (decS ls, 0) := by unfold getS; rw [if_neg (by omega), if_neg (by omega), if_neg (by simp [*])]
          refine WP.skip (onto_of ?_)
          refine WP.seq ?_
          refine WP.region ?_
          refine WPL.val (v_loadA (cs := decS ls) Try.isAgg57 Try.sizeOf57 rfl (fun w hw => hw.cl_at (i := 2) rfl 0 (whole _)) (decS_len ls)) ?_
          refine WPL.ef0 (x_storeW (us := decS ls) (σ' := [_, _, _, _, _]) Try.sizeOf57 rfl rfl (i := 0) rfl (decS_len ls) rfl (decS_ok ls).one (decS_len ls)) (fun _ => ?_)
          refine WPL.val (v_assign (v := .int .i64 (0)) rfl) ?_
          refine WPL.nil (onto_of ?_)
          simp only [hget]
          exact WP.retCT (us := (decS ls)) Try.results29 rfl Try.isAgg57 Try.sizeOf57 (fun w hw => hw.cl_at (i := 0) rfl 0 (whole _)) (decS_len ls) (fun _ h => h) (fun w hw => ⟨(), rfl, trivial, hw.sel [] (by decide)⟩)
end Go.Proofs.Ytabdcfobdehhiaa
