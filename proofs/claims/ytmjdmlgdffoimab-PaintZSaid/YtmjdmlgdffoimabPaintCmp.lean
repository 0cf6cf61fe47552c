/- How two nodes of a layer are compared. -/
import Derived.Test.YtmjdmlgdffoimabPaintQ
import Derived.Test.YtmjdmlgdffoimabPaintLay
namespace Go.Proofs.Ytmjdmlgdffoimab

def cmpI (a b : Int) : Int := if a < b then -1 else if b < a then 1 else 0
def orI : List Int → Int
  | [] => 0
  | x :: l => if x = 0 then orI l else x
theorem orI_at : ∀ {l : List Int} {k : Nat} {x : Int}, (∀ y ∈ l.take k, y = 0) → l[k]? = some x → x ≠ 0 → orI l = x
  | [], _, _, _, h, _ => by simp at h
  | y :: l, 0, x, _, h, hx => by
    obtain rfl : y = x := by simpa using h
    rw [orI, if_neg hx]
  | y :: l, k + 1, x, h0, h, hx => by
    rw [orI, if_pos (h0 y (by simp))]
    exact orI_at (k := k) (fun z hz => h0 z (by simp [hz])) (by simpa using h) hx
theorem orI_zero : ∀ {l : List Int}, (∀ y ∈ l, y = 0) → orI l = 0
  | [], _ => rfl
  | y :: l, h => by rw [orI, if_pos (h y (by simp)), orI_zero (fun z hz => h z (by simp [hz]))]
theorem cmpI_spec (a b : Int) : (cmpI a b < 0 ↔ a < b) ∧ (cmpI a b = 0 ↔ a = b) := by
  unfold cmpI
  split
  · omega
  · split <;> omega
/-- As the program has it. -/
def cmpP (L : List PN) (a b : Int) : Int := if rankP L a = 0 ∧ rankP L b = 0 then a - b else orI [rankP L a - rankP L b, cmpI (zP L a) (zP L b), a - b]
theorem rank_bd (L : List PN) (x : Int) : -1 ≤ rankP L x ∧ rankP L x ≤ 1 := by unfold rankP; split; omega; split <;> omega
theorem cmpP_lt (L : List PN) (a b : Int) : cmpP L a b < 0 ↔ ltP L a b := by
  have h1 := rank_bd L a
  have h2 := rank_bd L b
  unfold cmpP ltP
  split
  · omega
  · have hs := cmpI_spec (zP L a) (zP L b)
    generalize cmpI (zP L a) (zP L b) = m at hs
    rw [show orI [rankP L a - rankP L b, m, a - b] = if rankP L a - rankP L b = 0 then (if m = 0 then (if a - b = 0 then 0 else a - b) else m) else rankP L a - rankP L b from rfl]
    split
    · split
      · split <;> omega
      · omega
    · omega
namespace Q
open Go.RowKit
theorem rank_ct (A : Option Addr) (c : Nat) (L : List PN) (mb : Option Nat) (x : Int) (hx0 : 0 ≤ x) (hx : x < L.length) : Ct Try.prog 25 #[.agg #[.slice A L.length c, .map mb], .int .i64 x] [] (fun w => RdN w A L) (X := Unit) (fun _ => .int .i64 (rankP L x)) (fun _ => True) (fun _ => []) := by
  obtain ⟨i, rfl⟩ : ∃ i : Nat, x = i := ⟨x.toNat, by omega⟩
  refine Ct.intro Try.func25 rfl Try.ntmps25 (by simp) (fun w0 hz => ?_)
  refine WP.seq ?_
  refine WP.region ?_
  refine WPL.ef (x_boxA (us := [.slice _ _ _, .map _]) (σ' := fun _ => [_]) rfl (fun _ => rfl)) (fun b2 => ?_)
  refine WPL.val (v_assign (v := .int .i64 (0)) rfl) ?_
  refine WPL.nil (onto_of ?_)
  refine WP.seq ?_
  obtain ⟨n, ab, ao, hn, rfl, hc⟩ := getNode hz (i := i) (by omega)
  have hlay := layN hn
  have hzz := zN hn
  refine WP.region ?_
  refine WPL.val (v_fieldL (o' := 0) Try.underlying45 rfl Try.sizeOf22 rfl rfl) ?_
  refine WPL.val (v_load1 (u := .slice _ _ _) Try.isAgg22 rfl (fun w hw => hw.cl_at (i := 0) rfl _ rfl)) ?_
  refine WPL.val (v_move (v := .int .i64 _) rfl) ?_
  refine WPL.val (v_index (j := i) Try.underlying22 Try.sizeOf39 rfl rfl rfl (by omega)) ?_
  refine WPL.val (v_loadA (cs := [.int .i64 _, .bool _, .int .i64 _]) Try.isAgg39 Try.sizeOf39 rfl (fun w hw => hw.old_at hc (not_foots_nil _))) ?_
  refine WPL.ef (x_alloc (us := [_, _, _]) (σ' := fun _ => [_, _]) Try.zeroValue39 rfl (fun _ => rfl)) (fun b5 => ?_)
  refine WPL.ef0 (x_storeW (us := [.int .i64 _, .bool _, .int .i64 _]) (σ' := [_, .cl _ _ [_, _, _]]) Try.sizeOf39 rfl rfl (i := 1) rfl rfl rfl (by simp [Value.oneCell'])) (fun _ => ?_)
  refine WPL.nil (onto_of ?_)
  refine WP.seq ?_
  refine WP.block ?_
  refine WP.seq ?_
  refine WP.region ?_
  refine WPL.val (v_fieldL (o' := 1) Try.underlying39 rfl Try.sizeOf4 rfl rfl) ?_
  refine WPL.val (v_load1 (u := .bool _) Try.isAgg4 rfl (fun w hw => hw.cl_at (i := 1) rfl _ rfl)) ?_
  refine WPL.val (v_not rfl) ?_
  refine WPL.val (v_assign (v := .bool _) rfl) ?_
  refine WPL.nil (onto_of ?_)
  refine WP.cond rfl (fun h11 => ?_) (fun h11 => ?_)
  ·
    have hr : rankP L (i : Int) = 0 := rank_no (by rw [hlay]; simpa using h11)
    refine WP.seq ?_
    refine WP.region ?_
    refine WPL.val (v_assign (v := .int .i64 (0)) rfl) ?_
    refine WPL.nil (onto_of ?_)
    exact WP.ret1 Try.results25 (fun _ h => h) (fun w hw => ⟨(), congrArg (Value.int .i64) (by rw [hr]), trivial, hw.sel [] (by decide)⟩)
  ·
    refine WP.seq ?_
    refine WP.region ?_
    refine WPL.val (v_fieldL (o' := 2) Try.underlying39 rfl Try.sizeOf3 rfl rfl) ?_
    refine WPL.val (v_load1 (u := .int .i64 _) Try.isAgg3 rfl (fun w hw => hw.cl_at (i := 1) rfl _ rfl)) ?_
    refine WPL.val (v_lss rfl rfl) ?_
    refine WPL.val (v_assign (v := .bool _) rfl) ?_
    refine WPL.nil (onto_of ?_)
    refine WP.condP rfl (fun h15 => ?_) (fun h15 => ?_)
    ·
      have hr : rankP L (i : Int) = -1 := by rw [rank_lay (by rw [hlay]; simpa using h11), if_pos (by rw [hzz]; exact h15)]
      refine WP.seq ?_
      refine WP.region ?_
      refine WPL.val (v_assign (v := .int .i64 (-1)) rfl) ?_
      refine WPL.nil (onto_of ?_)
      exact WP.ret1 Try.results25 (fun _ h => h) (fun w hw => ⟨(), congrArg (Value.int .i64) (by rw [hr]), trivial, hw.sel [] (by decide)⟩)
    ·
      have hr : rankP L (i : Int) = 1 := by rw [rank_lay (by rw [hlay]; simpa using h11), if_neg (by rw [hzz]; exact h15)]
      refine WP.skip (onto_of ?_)
      refine WP.seq ?_
      refine WP.region ?_
      refine WPL.val (v_assign (v := .int .i64 (1)) rfl) ?_
      refine WPL.nil (onto_of ?_)
      exact WP.ret1 Try.results25 (fun _ h => h) (fun w hw => ⟨(), congrArg (Value.int .i64) (by rw [hr]), trivial, hw.sel [] (by decide)⟩)
theorem nan_ct (x : Int) : Ct Try.prog 33 #[.int .i64 x] [] (fun _ => True) (X := Unit) (fun _ => .bool false) (fun _ => True) (fun _ => []) := by
  refine Ct.intro Try.func33 rfl Try.ntmps33 (by simp) (fun w0 _ => ?_)
  refine WP.seq ?_
  refine WP.region ?_
  refine WPL.val (v_assign (v := .bool false) rfl) ?_
  refine WPL.nil (onto_of ?_)
  refine WP.seq ?_
  refine WP.region ?_
  refine WPL.val (v_move (v := .int .i64 _) rfl) ?_
  refine WPL.val (v_move (v := .int .i64 _) rfl) ?_
  refine WPL.val (v_is (b := false) (v_neq rfl rfl) (decide_eq_false (fun h => h rfl))) ?_
  refine WPL.val (v_assign (v := .bool _) rfl) ?_
  refine WPL.nil (onto_of ?_)
  exact WP.ret1 Try.results33 (fun _ h => h) (fun w hw => ⟨(), rfl, trivial, hw⟩)
theorem compare_ct (x y : Int) : Ct Try.prog 27 #[.int .i64 x, .int .i64 y] [] (fun _ => True) (X := Unit) (fun _ => .int .i64 (cmpI x y)) (fun _ => True) (fun _ => []) := by
  refine Ct.intro Try.func27 rfl Try.ntmps27 (by simp) (fun w0 _ => ?_)
  refine WP.seq ?_
  refine WP.region ?_
  refine WPL.val (v_assign (v := .int .i64 (0)) rfl) ?_
  refine WPL.nil (onto_of ?_)
  refine WP.seq ?_
  refine WP.region ?_
  refine WPL.val (v_move (v := .int .i64 _) rfl) ?_
  refine WPL.ef (x_call Try.call33 (nan_ct x) [] [] rfl (fun w hw => trivial) (τ := fun _ => []) (fun _ => rfl)) (fun _ => ?_)
  refine WPL.fact (fun _ => ?_)
  refine WPL.val (v_assign (v := .bool _) rfl) ?_
  refine WPL.nil (onto_of ?_)
  refine WP.seq ?_
  refine WP.region ?_
  refine WPL.val (v_move (v := .int .i64 _) rfl) ?_
  refine WPL.ef (x_call Try.call33 (nan_ct y) [] [] rfl (fun w hw => trivial) (τ := fun _ => []) (fun _ => rfl)) (fun _ => ?_)
  refine WPL.fact (fun _ => ?_)
  refine WPL.val (v_assign (v := .bool _) rfl) ?_
  refine WPL.nil (onto_of ?_)
  refine WP.seq ?_
  refine WP.seq ?_
  refine WP.region ?_
  refine WPL.val (v_move (v := .bool _) rfl) ?_
  refine WPL.nil (onto_of ?_)
  refine WP.condF rfl ?_
  refine WP.skip (onto_of ?_)
  refine WP.seq ?_
  refine WP.seq ?_
  refine WP.region ?_
  refine WPL.val (v_move (v := .bool _) rfl) ?_
  refine WPL.nil (onto_of ?_)
  refine WP.condF rfl ?_
  refine WP.skip (onto_of ?_)
  refine WP.seq ?_
  refine WP.seq ?_
  refine WP.region ?_
  refine WPL.val (v_move (v := .int .i64 _) rfl) ?_
  refine WPL.val (v_move (v := .int .i64 _) rfl) ?_
  refine WPL.val (v_lss rfl rfl) ?_
  refine WPL.nil (onto_of ?_)
  refine WP.condP rfl (fun h16 => ?_) (fun h16 => ?_)
  ·
    have hr : cmpI x y = -1 := by rw [cmpI, if_pos h16]
    refine WP.seq ?_
    refine WP.region ?_
    refine WPL.val (v_assign (v := .int .i64 (-1)) rfl) ?_
    refine WPL.nil (onto_of ?_)
    exact WP.ret1 Try.results27 (fun _ h => h) (fun w hw => ⟨(), congrArg (Value.int .i64) (by rw [hr]), trivial, hw.sel [] (by decide)⟩)
  ·
    refine WP.skip (onto_of ?_)
    refine WP.seq ?_
    refine WP.seq ?_
    refine WP.region ?_
    refine WPL.val (v_move (v := .int .i64 _) rfl) ?_
    refine WPL.val (v_move (v := .int .i64 _) rfl) ?_
    refine WPL.val (v_gtr rfl rfl) ?_
    refine WPL.nil (onto_of ?_)
    refine WP.condP rfl (fun h19 => ?_) (fun h19 => ?_)
    ·
      have hr : cmpI x y = 1 := by rw [cmpI, if_neg h16, if_pos h19]
      refine WP.seq ?_
      refine WP.region ?_
      refine WPL.val (v_assign (v := .int .i64 (1)) rfl) ?_
      refine WPL.nil (onto_of ?_)
      exact WP.ret1 Try.results27 (fun _ h => h) (fun w hw => ⟨(), congrArg (Value.int .i64) (by rw [hr]), trivial, hw.sel [] (by decide)⟩)
    ·
      have hr : cmpI x y = 0 := by rw [cmpI, if_neg h16, if_neg h19]
      refine WP.skip (onto_of ?_)
      refine WP.seq ?_
      refine WP.region ?_
      refine WPL.val (v_assign (v := .int .i64 (0)) rfl) ?_
      refine WPL.nil (onto_of ?_)
      exact WP.ret1 Try.results27 (fun _ h => h) (fun w hw => ⟨(), congrArg (Value.int .i64) (by rw [hr]), trivial, hw.sel [] (by decide)⟩)
theorem or_ct (A : Option Addr) (c : Nat) (l : List Int) (hl : l.length ≤ 1000) : Ct Try.prog 26 #[.slice A l.length c] [] (fun w => RdI w A l) (X := Unit) (fun _ => .int .i64 (orI l)) (fun _ => True) (fun _ => []) := by
  refine Ct.intro Try.func26 rfl Try.ntmps26 (by simp) (fun w0 hz => ?_)
  refine WP.seq ?_
  refine WP.region ?_
  refine WPL.val (v_assign (v := .int .i64 (0)) rfl) ?_
  refine WPL.nil (onto_of ?_)
  refine WP.seq ?_
  refine WP.region ?_
  refine WPL.val (v_assign (v := .int .i64 (0)) rfl) ?_
  refine WPL.nil (onto_of ?_)
  refine WP.seq ?_
  refine WP.seq ?_
  refine WP.region ?_
  refine WPL.val (v_move (v := .slice _ _ _) rfl) ?_
  refine WPL.val (v_len Try.underlying26 rfl) ?_
  refine WPL.val (v_move (v := .int .i64 (0)) rfl) ?_
  refine WPL.nil (onto_of ?_)
  refine WP.block ?_
  refine WP.loopK (X := Nat) [3, 6, 7] (fun k => [(8, .int .i64 (k : Int))]) (fun k w => (k ≤ l.length ∧ ∀ y ∈ l.take k, y = 0) ∧ St w0 (foots []) [] w) (fun k => l.length - k) 0 ⟨rfl, trivial⟩ (fun w hw => ⟨⟨Nat.zero_le _, by simp⟩, hw⟩) (fun k ρ0 => ?_)
  refine WP.fact (fun ⟨hkl, hall⟩ => ?_)
  refine WP.seq ?_
  refine WP.region ?_
  refine WPL.val (v_lss rfl rfl) ?_
  refine WPL.nil (onto_of ?_)
  refine WP.seq ?_
  refine WP.condP rfl (fun h9 => ?_) (fun h9 => ?_)
  ·
    obtain ⟨y, hy⟩ : ∃ y, l[k]? = some y := ⟨_, List.getElem?_eq_getElem (by omega)⟩
    obtain ⟨ab, ao, rfl, hc⟩ := hz k y hy
    refine WP.skip (onto_of ?_)
    refine WP.seq ?_
    refine WP.block ?_
    refine WP.seq ?_
    refine WP.region ?_
    refine WPL.val (v_index (j := k) Try.underlying26 Try.sizeOf3 rfl rfl rfl (by omega)) ?_
    refine WPL.val (v_load1 (u := .int .i64 _) Try.isAgg3 rfl (fun w hw => hw.old_at hc (not_foots_nil _))) ?_
    refine WPL.val (v_assign (v := .int .i64 _) rfl) ?_
    refine WPL.nil (onto_of ?_)
    refine WP.seq ?_
    refine WP.region ?_
    refine WPL.val (v_move (v := .int .i64 _) rfl) ?_
    refine WPL.val (v_move (v := .int .i64 _) rfl) ?_
    refine WPL.val (v_neq rfl rfl) ?_
    refine WPL.nil (onto_of ?_)
    refine WP.condP rfl (fun h14 => ?_) (fun h14 => ?_)
    ·
      have hr : orI l = y := orI_at hall hy h14
      refine WP.seq ?_
      refine WP.region ?_
      refine WPL.val (v_move (v := .int .i64 _) rfl) ?_
      refine WPL.val (v_assign (v := .int .i64 _) rfl) ?_
      refine WPL.nil (onto_of ?_)
      exact WP.ret1 Try.results26 (fun _ h => h) (fun w hw => ⟨(), congrArg (Value.int .i64) (by rw [hr]), trivial, hw.sel [] (by decide)⟩)
    ·
      refine WP.skip (onto_of ?_)
      refine WP.region ?_
      refine WPL.val (v_add rfl rfl (by omega)) ?_
      refine WPL.val (v_move (v := .int .i64 _) rfl) ?_
      exact WPL.nil fun w hw => ⟨rfl, k + 1, (by omega), ⟨rfl, (via (.int .i64 _) rfl rfl), (via (.slice _ _ _) rfl rfl), (via (.int .i64 _) rfl rfl), trivial⟩, ⟨⟨by omega, fun z hz2 => by rw [take_snoc hy] at hz2; rcases List.mem_append.1 hz2 with h | h; exact hall z h; (obtain rfl : z = y := by simpa using h); omega⟩, hw⟩⟩
  ·
    obtain rfl : k = l.length := by omega
    rw [List.take_of_length_le (Nat.le_refl _)] at hall
    have hr := orI_zero hall
    refine WP.exit (onto_of ?_)
    refine WP.seq ?_
    refine WP.region ?_
    refine WPL.val (v_move (v := .int .i64 _) rfl) ?_
    refine WPL.val (v_assign (v := .int .i64 _) rfl) ?_
    refine WPL.nil (onto_of ?_)
    exact WP.ret1 Try.results26 (fun _ h => h) (fun w hw => ⟨(), congrArg (Value.int .i64) (by rw [hr]), trivial, hw.sel [] (by decide)⟩)
set_option maxHeartbeats 1000000 in
theorem cmp_ct (A : Option Addr) (c : Nat) (L : List PN) (mb : Option Nat) (pb lb : Nat) (x y : Int) (hx0 : 0 ≤ x) (hx : x < L.length) (hy0 : 0 ≤ y) (hy : y < L.length) (hL : L.length ≤ 1000) :
    Ct Try.prog 24 #[.int .i64 x, .int .i64 y, .pointer (some ⟨pb, 0, none⟩), .pointer (some ⟨lb, 0, none⟩)] [] (fun w => RdN w A L ∧ CellsAt w pb 0 [.slice A L.length c, .map mb] ∧ CellsAt w lb 0 [.slice A L.length c]) (X := Unit) (fun _ => .int .i64 (cmpP L x y)) (fun _ => True) (fun _ => []) := by
  obtain ⟨i, rfl⟩ : ∃ i : Nat, x = i := ⟨x.toNat, by omega⟩
  obtain ⟨j, rfl⟩ : ∃ j : Nat, y = j := ⟨y.toNat, by omega⟩
  have hri := rank_bd L (i : Int)
  have hrj := rank_bd L (j : Int)
  refine Ct.intro Try.func24 rfl Try.ntmps24 (by simp) (fun w0 ⟨hz, hp, hlb⟩ => ?_)
  refine WP.seq ?_
  refine WP.region ?_
  refine WPL.val (v_assign (v := .int .i64 (0)) rfl) ?_
  refine WPL.nil (onto_of ?_)
  refine WP.seq ?_
  refine WP.drawSel none [] [(0, true), (1, true), (3, true), (4, true), (2, false), (5, false), (6, true), (7, true)] mixed (by kernel_rfl) (by decide) ?_
  refine WPD.take rfl (v_loadA (cs := [.slice _ _ _, .map _]) Try.isAgg45 Try.sizeOf45 rfl (fun w hw => hw.old_at hp (not_foots_nil _))) ?_ (fun _ h => h.sel [] (by decide))
  refine WPD.take rfl (v_move (v := .int .i64 _) rfl) ?_ (fun _ h => h.sel [] (by decide))
  refine WPD.take rfl (v_loadA (cs := [.slice _ _ _, .map _]) Try.isAgg45 Try.sizeOf45 rfl (fun w hw => hw.old_at hp (not_foots_nil _))) ?_ (fun _ h => h.sel [] (by decide))
  refine WPD.take rfl (v_move (v := .int .i64 _) rfl) ?_ (fun _ h => h.sel [] (by decide))
  refine WPD.ef rfl (x_call Try.call25 (rank_ct A c L mb (i : Int) (by omega) (by omega)) [] [] rfl (fun w hw => hw.rd hz not_foots_nil) (τ := fun _ => []) (fun _ => rfl)) (fun _ _ _ h => h.2.sel [] (by decide)) (fun _ => ?_)
  refine WPD.fact (fun _ => ?_)
  refine WPD.ef rfl (x_call Try.call25 (rank_ct A c L mb (j : Int) (by omega) (by omega)) [] [] rfl (fun w hw => hw.rd hz not_foots_nil) (τ := fun _ => []) (fun _ => rfl)) (fun _ _ _ h => h.2.sel [] (by decide)) (fun _ => ?_)
  refine WPD.fact (fun _ => ?_)
  refine WPD.take rfl (v_assign (v := .int .i64 _) rfl) ?_ (fun _ h => h.sel [] (by decide))
  refine WPD.take rfl (v_assign (v := .int .i64 _) rfl) ?_ (fun _ h => h.sel [] (by decide))
  refine WPD.nil (onto_of ?_)
  refine WP.seq ?_
  refine WP.seq ?_
  refine WP.region ?_
  refine WPL.val (v_move (v := .int .i64 _) rfl) ?_
  refine WPL.val (v_eql rfl rfl) ?_
  refine WPL.val (v_move (v := .bool _) rfl) ?_
  refine WPL.split 17 rfl (fun h17 => ?_) (fun h17 => ?_)
  ·
    refine WPL.valG (v_move (v := .int .i64 _) rfl) ?_
    refine WPL.valG (v_eql rfl rfl) ?_
    refine WPL.val (v_pickT (u := .bool _) rfl rfl) ?_
    refine WPL.nil (onto_of ?_)
    refine WP.condP rfl (fun h20 => ?_) (fun h20 => ?_)
    ·
      have hr : cmpP L (i : Int) (j : Int) = (i : Int) - (j : Int) := by rw [cmpP, if_pos ⟨by omega, by omega⟩]
      refine WP.seq ?_
      refine WP.region ?_
      refine WPL.val (v_move (v := .int .i64 _) rfl) ?_
      refine WPL.val (v_move (v := .int .i64 _) rfl) ?_
      refine WPL.val (v_sub rfl rfl (by omega)) ?_
      refine WPL.val (v_assign (v := .int .i64 _) rfl) ?_
      refine WPL.nil (onto_of ?_)
      exact WP.ret1 Try.results24 (fun _ h => h) (fun w hw => ⟨(), congrArg (Value.int .i64) (by rw [hr]), trivial, hw.sel [] (by decide)⟩)
    ·
      have hor := (show ¬ (rankP L (i : Int) = 0 ∧ rankP L (j : Int) = 0) by omega)
      refine WP.skip (onto_of ?_)
      refine WP.seq ?_
      obtain ⟨n, ab, ao, hn, rfl, hc⟩ := getNode hz (i := i) (by omega)
      obtain ⟨n2, ab2, ao2, hn2, hA2, hc2⟩ := getNode hz (i := j) (by omega)
      cases hA2
      have hr : cmpP L (i : Int) (j : Int) = orI [rankP L (i : Int) - rankP L (j : Int), cmpI n.z n2.z, (i : Int) - (j : Int)] := by rw [cmpP, if_neg hor, zN hn, zN hn2]
      refine WP.drawSel none [] [(0, true), (1, true), (2, true), (3, true), (4, true), (5, true), (6, true), (7, true), (8, true), (9, true), (10, true), (11, true), (12, true), (14, true), (15, true), (16, true), (13, false), (17, false), (18, false), (19, true)] mixed (by kernel_rfl) (by decide) ?_
      refine WPD.take rfl (v_move (v := .int .i64 _) rfl) ?_ (fun _ h => h.sel [] (by decide))
      refine WPD.take rfl (v_move (v := .int .i64 _) rfl) ?_ (fun _ h => h.sel [] (by decide))
      refine WPD.take rfl (v_sub rfl rfl (by omega)) ?_ (fun _ h => h.sel [] (by decide))
      refine WPD.take rfl (v_load1 (u := .slice _ _ _) Try.isAgg22 rfl (fun w hw => hw.old_at hlb (not_foots_nil _))) ?_ (fun _ h => h.sel [] (by decide))
      refine WPD.take rfl (v_move (v := .int .i64 _) rfl) ?_ (fun _ h => h.sel [] (by decide))
      refine WPD.take rfl (v_index (j := i) Try.underlying22 Try.sizeOf39 rfl rfl rfl (by omega)) ?_ (fun _ h => h.sel [] (by decide))
      refine WPD.take rfl (v_field (off := 2) Try.underlying39 rfl Try.sizeOf3 rfl) ?_ (fun _ h => h.sel [] (by decide))
      refine WPD.take rfl (v_load1 (u := .int .i64 _) Try.isAgg3 rfl (fun w hw => hw.old_at (hc.one (j := 2) rfl (by omega)) (not_foots_nil _))) ?_ (fun _ h => h.sel [] (by decide))
      refine WPD.take rfl (v_load1 (u := .slice _ _ _) Try.isAgg22 rfl (fun w hw => hw.old_at hlb (not_foots_nil _))) ?_ (fun _ h => h.sel [] (by decide))
      refine WPD.take rfl (v_move (v := .int .i64 _) rfl) ?_ (fun _ h => h.sel [] (by decide))
      refine WPD.take rfl (v_index (j := j) Try.underlying22 Try.sizeOf39 rfl rfl rfl (by omega)) ?_ (fun _ h => h.sel [] (by decide))
      refine WPD.take rfl (v_field (off := 2) Try.underlying39 rfl Try.sizeOf3 rfl) ?_ (fun _ h => h.sel [] (by decide))
      refine WPD.take rfl (v_load1 (u := .int .i64 _) Try.isAgg3 rfl (fun w hw => hw.old_at (hc2.one (j := 2) rfl (by omega)) (not_foots_nil _))) ?_ (fun _ h => h.sel [] (by decide))
      refine WPD.take rfl (v_move (v := .int .i64 _) rfl) ?_ (fun _ h => h.sel [] (by decide))
      refine WPD.take rfl (v_move (v := .int .i64 _) rfl) ?_ (fun _ h => h.sel [] (by decide))
      refine WPD.take rfl (v_sub rfl rfl (by omega)) ?_ (fun _ h => h.sel [] (by decide))
      refine WPD.ef rfl (x_call Try.call27 (compare_ct n.z n2.z) [] [] rfl (fun w hw => trivial) (τ := fun _ => []) (fun _ => rfl)) (fun _ _ _ h => h.2.sel [] (by decide)) (fun _ => ?_)
      refine WPD.fact (fun _ => ?_)
      refine WPD.ef rfl (x_buildSlice (us := [.int .i64 _, .int .i64 _, .int .i64 _]) (σ' := fun _ => [_]) Try.underlying26 Try.sizeOf3 Try.zeroValue3 rfl rfl rfl (by decide) (by decide) (fun _ => rfl)) (fun _ _ _ h => h.sel [] (by decide)) (fun g41 => ?_)
      refine WPD.ef rfl (x_call Try.call26 (or_ct (some ⟨g41, 0, none⟩) 3 [rankP L (i : Int) - rankP L (j : Int), cmpI n.z n2.z, (i : Int) - (j : Int)] (by simp)) [] [0] rfl (fun w hw => hw.rd_row1 (i := 0) (f := Value.int .i64) rfl) (τ := fun _ => [_]) (fun _ => rfl)) (fun _ _ _ h => h.2.sel [] (by decide)) (fun _ => ?_)
      refine WPD.fact (fun _ => ?_)
      refine WPD.take rfl (v_assign (v := .int .i64 _) rfl) ?_ (fun _ h => h.sel [] (by decide))
      refine WPD.nil (onto_of ?_)
      exact WP.ret1 Try.results24 (fun _ h => h) (fun w hw => ⟨(), congrArg (Value.int .i64) (by rw [hr]), trivial, hw.sel [] (by decide)⟩)
  ·
    refine WPL.skipG ?_
    refine WPL.skipG ?_
    refine WPL.val (v_pickF (v := .bool _) rfl rfl) ?_
    refine WPL.nil (onto_of ?_)
    have hor := (show ¬ (rankP L (i : Int) = 0 ∧ rankP L (j : Int) = 0) by omega)
    refine WP.condF rfl ?_
    refine WP.skip (onto_of ?_)
    refine WP.seq ?_
    obtain ⟨n, ab, ao, hn, rfl, hc⟩ := getNode hz (i := i) (by omega)
    obtain ⟨n2, ab2, ao2, hn2, hA2, hc2⟩ := getNode hz (i := j) (by omega)
    cases hA2
    have hr : cmpP L (i : Int) (j : Int) = orI [rankP L (i : Int) - rankP L (j : Int), cmpI n.z n2.z, (i : Int) - (j : Int)] := by rw [cmpP, if_neg hor, zN hn, zN hn2]
    refine WP.drawSel none [] [(0, true), (1, true), (2, true), (3, true), (4, true), (5, true), (6, true), (7, true), (8, true), (9, true), (10, true), (11, true), (12, true), (14, true), (15, true), (16, true), (13, false), (17, false), (18, false), (19, true)] mixed (by kernel_rfl) (by decide) ?_
    refine WPD.take rfl (v_move (v := .int .i64 _) rfl) ?_ (fun _ h => h.sel [] (by decide))
    refine WPD.take rfl (v_move (v := .int .i64 _) rfl) ?_ (fun _ h => h.sel [] (by decide))
    refine WPD.take rfl (v_sub rfl rfl (by omega)) ?_ (fun _ h => h.sel [] (by decide))
    refine WPD.take rfl (v_load1 (u := .slice _ _ _) Try.isAgg22 rfl (fun w hw => hw.old_at hlb (not_foots_nil _))) ?_ (fun _ h => h.sel [] (by decide))
    refine WPD.take rfl (v_move (v := .int .i64 _) rfl) ?_ (fun _ h => h.sel [] (by decide))
    refine WPD.take rfl (v_index (j := i) Try.underlying22 Try.sizeOf39 rfl rfl rfl (by omega)) ?_ (fun _ h => h.sel [] (by decide))
    refine WPD.take rfl (v_field (off := 2) Try.underlying39 rfl Try.sizeOf3 rfl) ?_ (fun _ h => h.sel [] (by decide))
    refine WPD.take rfl (v_load1 (u := .int .i64 _) Try.isAgg3 rfl (fun w hw => hw.old_at (hc.one (j := 2) rfl (by omega)) (not_foots_nil _))) ?_ (fun _ h => h.sel [] (by decide))
    refine WPD.take rfl (v_load1 (u := .slice _ _ _) Try.isAgg22 rfl (fun w hw => hw.old_at hlb (not_foots_nil _))) ?_ (fun _ h => h.sel [] (by decide))
    refine WPD.take rfl (v_move (v := .int .i64 _) rfl) ?_ (fun _ h => h.sel [] (by decide))
    refine WPD.take rfl (v_index (j := j) Try.underlying22 Try.sizeOf39 rfl rfl rfl (by omega)) ?_ (fun _ h => h.sel [] (by decide))
    refine WPD.take rfl (v_field (off := 2) Try.underlying39 rfl Try.sizeOf3 rfl) ?_ (fun _ h => h.sel [] (by decide))
    refine WPD.take rfl (v_load1 (u := .int .i64 _) Try.isAgg3 rfl (fun w hw => hw.old_at (hc2.one (j := 2) rfl (by omega)) (not_foots_nil _))) ?_ (fun _ h => h.sel [] (by decide))
    refine WPD.take rfl (v_move (v := .int .i64 _) rfl) ?_ (fun _ h => h.sel [] (by decide))
    refine WPD.take rfl (v_move (v := .int .i64 _) rfl) ?_ (fun _ h => h.sel [] (by decide))
    refine WPD.take rfl (v_sub rfl rfl (by omega)) ?_ (fun _ h => h.sel [] (by decide))
    refine WPD.ef rfl (x_call Try.call27 (compare_ct n.z n2.z) [] [] rfl (fun w hw => trivial) (τ := fun _ => []) (fun _ => rfl)) (fun _ _ _ h => h.2.sel [] (by decide)) (fun _ => ?_)
    refine WPD.fact (fun _ => ?_)
    refine WPD.ef rfl (x_buildSlice (us := [.int .i64 _, .int .i64 _, .int .i64 _]) (σ' := fun _ => [_]) Try.underlying26 Try.sizeOf3 Try.zeroValue3 rfl rfl rfl (by decide) (by decide) (fun _ => rfl)) (fun _ _ _ h => h.sel [] (by decide)) (fun g41 => ?_)
    refine WPD.ef rfl (x_call Try.call26 (or_ct (some ⟨g41, 0, none⟩) 3 [rankP L (i : Int) - rankP L (j : Int), cmpI n.z n2.z, (i : Int) - (j : Int)] (by simp)) [] [0] rfl (fun w hw => hw.rd_row1 (i := 0) (f := Value.int .i64) rfl) (τ := fun _ => [_]) (fun _ => rfl)) (fun _ _ _ h => h.2.sel [] (by decide)) (fun _ => ?_)
    refine WPD.fact (fun _ => ?_)
    refine WPD.take rfl (v_assign (v := .int .i64 _) rfl) ?_ (fun _ h => h.sel [] (by decide))
    refine WPD.nil (onto_of ?_)
    exact WP.ret1 Try.results24 (fun _ h => h) (fun w hw => ⟨(), congrArg (Value.int .i64) (by rw [hr]), trivial, hw.sel [] (by decide)⟩)
end Q
end Go.Proofs.Ytmjdmlgdffoimab
