/- Valid, of the program's nodes and of the document's. -/
import Derived.Test.YtmjdmlgdffoimabPaintMem
namespace Go.Proofs.Ytmjdmlgdffoimab
open Go.RowKit

theorem getNode {w : World} {A : Option Addr} {L : List PN} (hz : RdN w A L) {i : Nat} (h : i < L.length) : ∃ (n : PN) (ab ao : Nat), L[i]? = some n ∧ A = some ⟨ab, ao, none⟩ ∧ CellsAt w ab (ao + i * 3) (encN n) := by
  have hn : L[i]? = some L[i] := List.getElem?_eq_getElem h
  obtain ⟨b, o, e, hc⟩ := hz i _ hn
  exact ⟨_, b, o, hn, e, hc⟩
theorem pop_same {u : Int} {st : List Int} (h : ∀ y t, st = y :: t → y = u) : pop u st = st := by
  cases st with
  | nil => rfl
  | cons y t => rw [h y t rfl, pop_cons_eq]
theorem pop_len (u : Int) (st : List Int) : (pop u st).length ≤ st.length := (List.dropWhile_sublist _).length_le
theorem stk_len {L : List PN} : ∀ {k : Nat} {st : List Int}, stk L k = some st → st.length ≤ k
  | 0, st, h => by
    obtain rfl : [] = st := by simpa [stk] using h
    simp
  | k + 1, st, h => by
    rw [stk] at h
    cases e : stk L k with
    | none => rw [e] at h; cases h
    | some s =>
      rw [e] at h
      have h1 := stk_len e
      simp only at h
      split at h
      · split at h
        · cases h; simp
        · cases h
      · split at h
        · cases h
        · cases h
          have := pop_len (upP L k) s
          simp only [List.length_cons]; omega
theorem pop_neg {L : List PN} {k : Nat} {st : List Int} (h : stk L k = some st) {u : Int} (hu : u < 0) : pop u st = [] := by
  obtain ⟨h1, h2⟩ := stk_ch h
  rcases pop_ch (u := u) h1 with ⟨p1, _⟩ | ⟨t, p1, _, p3⟩
  · exact p1
  · have := h2 u (p3 u (by simp)); omega
theorem stk_none {L : List PN} {k : Nat} {st : List Int} (h : stk L k = some st) (he : (decide ((k : Int) = 0) != decide (upP L k = -1)) = true) : stk L (k + 1) = none := by
  rw [stk, h]
  simp only
  by_cases h0 : k = 0
  · subst h0
    rw [if_pos rfl, if_neg (fun e => by rw [show ((0 : Nat) : Int) = 0 from rfl, e] at he; simp at he)]
  · rw [if_neg h0]
    have hu : upP L k = -1 := by
      by_cases e : upP L k = -1
      · exact e
      · have h0' : ¬ ((k : Int) = 0) := by omega
        simp [e, h0'] at he
        omega
    rw [pop_neg h (by omega), if_pos rfl]
theorem stk_one {L : List PN} (h : upP L 0 = -1) : stk L 1 = some [0] := by simp [stk, h]
set_option maxHeartbeats 1000000 in
theorem valid_ct (A : Option Addr) (c : Nat) (L : List PN) (hL : L.length ≤ 1000) : Ct Try.prog 17 #[.slice A L.length c] [] (fun w => RdN w A L) (X := Unit) (fun _ => .bool (okP L)) (fun _ => True) (fun _ => []) := by
  refine Ct.intro Try.func17 rfl Try.ntmps17 (by simp) (fun w0 hz => ?_)
  refine WP.seq ?_
  refine WP.region ?_
  refine WPL.val (v_assign (v := .bool false) rfl) ?_
  refine WPL.nil (onto_of ?_)
  refine WP.seq ?_
  refine WP.region ?_
  refine WPL.val (v_assign (v := .slice none 0 0) rfl) ?_
  refine WPL.nil (onto_of ?_)
  refine WP.seq ?_
  refine WP.seq ?_
  refine WP.pre ?_ (fun w hw => hw.nilRow 3 1)
  refine WP.region ?_
  refine WPL.val (v_move (v := .slice _ _ _) rfl) ?_
  refine WPL.val (v_len Try.underlying22 rfl) ?_
  refine WPL.val (v_move (v := .int .i64 (0)) rfl) ?_
  refine WPL.nil (onto_of ?_)
  refine WP.block ?_
  refine WP.loopK (X := Nat × List Int × Option Addr × Nat) [6, 7] (fun p => [(8, .int .i64 (p.1 : Int)), (3, .slice p.2.2.1 p.2.1.length p.2.2.2)]) (fun p w => (p.1 ≤ L.length ∧ stk L p.1 = some p.2.1) ∧ St w0 (foots []) [.row 3 1 p.2.2.1 p.2.1.length p.2.2.2 (p.2.1.reverse.map (Value.int .i64))] w) (fun p => L.length - p.1) (0, [], none, 0) ⟨rfl, rfl, trivial⟩ (fun w hw => ⟨⟨Nat.zero_le _, rfl⟩, hw⟩) (fun p ρ0 => ?_)
  obtain ⟨k, st, zA, zc⟩ := p
  dsimp only
  refine WP.fact (fun ⟨hkl, hstk⟩ => ?_)
  refine WP.seq ?_
  refine WP.region ?_
  refine WPL.val (v_lss rfl rfl) ?_
  refine WPL.nil (onto_of ?_)
  refine WP.seq ?_
  refine WP.condP rfl (fun h9 => ?_) (fun h9 => ?_)
  ·
    have hk : k < L.length := by omega
    obtain ⟨n, ab, ao, hn, rfl, hc⟩ := getNode hz hk
    have hup := upN hn
    have hsl0 : st.length ≤ 1000 := by
      have := stk_len hstk
      omega
    refine WP.skip (onto_of ?_)
    refine WP.seq ?_
    refine WP.block ?_
    refine WP.seq ?_
    refine WP.region ?_
    refine WPL.val (v_move (v := .int .i64 _) rfl) ?_
    refine WPL.val (v_index (j := k) Try.underlying22 Try.sizeOf39 rfl rfl rfl (by omega)) ?_
    refine WPL.val (v_loadA (cs := [.int .i64 _, .bool _, .int .i64 _]) Try.isAgg39 Try.sizeOf39 rfl (fun w hw => hw.old_at hc (not_foots_nil _))) ?_
    refine WPL.ef (x_alloc (us := [_, _, _]) (σ' := fun _ => [_, _]) Try.zeroValue39 rfl (fun _ => rfl)) (fun b5 => ?_)
    refine WPL.val (v_assign (v := .int .i64 _) rfl) ?_
    refine WPL.ef0 (x_storeW (us := [.int .i64 _, .bool _, .int .i64 _]) (σ' := [_, .cl _ _ [_, _, _]]) Try.sizeOf39 rfl rfl (i := 1) rfl rfl rfl (by simp [Value.oneCell'])) (fun _ => ?_)
    refine WPL.nil (onto_of ?_)
    refine WP.seq ?_
    refine WP.block ?_
    refine WP.loopK (X := List Int) [4, 5, 6, 7, 8] (fun s2 => [(3, .slice zA s2.length zc)]) (fun s2 w => (pop n.up s2 = pop n.up st ∧ s2.length ≤ st.length) ∧ St w0 (foots []) [.row 3 1 zA s2.length zc (s2.reverse.map (Value.int .i64)), .cl b5 39 (encN n)] w) (fun s2 => s2.length) st ⟨rfl, trivial⟩ (fun w hw => ⟨⟨rfl, Nat.le_refl _⟩, (hw.sel [0, 1] (by decide))⟩) (fun s2 ρ0 => ?_)
    refine WP.fact (fun ⟨hpop, hsl⟩ => ?_)
    refine WP.seq ?_
    refine WP.seq ?_
    refine WP.holds (fun w hw => (hw.row_cap (i := 0) rfl : s2.length ≤ zc)) (fun hcap => ?_)
    refine WP.holds (p := 0 < s2.length → ∃ lb, zA = some ⟨lb, 0, none⟩) (fun w hw => fun h => hw.row_pos (i := 0) rfl h) (fun hpos => ?_)
    refine WP.drawS none [(0, true), (1, true), (2, true), (3, true), (4, true), (5, true), (6, true), (7, true), (8, true), (9, true), (10, true), (11, true), (12, true), (13, true)] mixed (by kernel_rfl) (by decide) (fun _ h => h.drawn) ?_
    refine WPD.take rfl (v_move (v := .slice _ _ _) rfl) ?_ (fun _ h => h)
    refine WPD.take rfl (v_len Try.underlying26 rfl) ?_ (fun _ h => h)
    refine WPD.take rfl (v_gtr rfl rfl) ?_ (fun _ h => h)
    refine WPD.take rfl (v_move (v := .bool _) rfl) ?_ (fun _ h => h)
    refine WPD.split 16 rfl (fun h16 => ?_) (fun h16 => ?_)
    ·
      obtain ⟨y, s3, rfl⟩ : ∃ y s3, s2 = y :: s3 := by cases s2 with | nil => exact absurd h16 (by simp) | cons y s3 => exact ⟨y, s3, rfl⟩
      obtain ⟨lb, hlb⟩ := hpos (by simp)
      subst hlb
      refine WPD.take rfl (v_move (v := .slice _ _ _) rfl) ?_ (fun _ h => h)
      refine WPD.take rfl (v_move (v := .slice _ _ _) rfl) ?_ (fun _ h => h)
      refine WPD.take rfl (v_len Try.underlying26 rfl) ?_ (fun _ h => h)
      refine WPD.take rfl (v_sub rfl rfl (by omega)) ?_ (fun _ h => h)
      refine WPD.take rfl (v_index (j := s3.length) Try.underlying26 Try.sizeOf3 rfl rfl (by simp only [List.length_cons]; omega) (by simp)) ?_ (fun _ h => h)
      refine WPD.take rfl (v_load1 (u := .int .i64 _) Try.isAgg3 rfl (fun w hw => hw.row_at1 (i := 0) (k := s3.length) (u := .int .i64 y) rfl (by simp) (by omega))) ?_ (fun _ h => h)
      refine WPD.take rfl (v_fieldL (o' := 0) Try.underlying39 rfl Try.sizeOf3 rfl rfl) ?_ (fun _ h => h)
      refine WPD.take rfl (v_load1 (u := .int .i64 _) Try.isAgg3 rfl (fun w hw => hw.cl_at (i := 1) rfl _ rfl)) ?_ (fun _ h => h)
      refine WPD.take rfl (v_neq rfl rfl) ?_ (fun _ h => h)
      refine WPD.take rfl (v_pickT (u := .bool _) rfl rfl) ?_ (fun _ h => h)
      refine WPD.nil (onto_of ?_)
      refine WP.condP rfl (fun h26 => ?_) (fun h26 => ?_)
      ·
        refine WP.skip (onto_of ?_)
        refine WP.block ?_
        refine WP.region ?_
        refine WPL.val (v_move (v := .slice _ _ _) rfl) ?_
        refine WPL.val (v_move (v := .slice _ _ _) rfl) ?_
        refine WPL.val (v_len Try.underlying26 rfl) ?_
        refine WPL.val (v_sub rfl rfl (by omega)) ?_
        refine WPL.val (v_slice (kl := 0) (l := 0) (h := s3.length) Try.underlying26 Try.sizeOf3 rfl rfl ⟨rfl, by simp only [List.length_cons]; omega⟩ (by omega) (by simp only [List.length_cons] at hcap; omega)) ?_
        refine WPL.val (v_assign (v := .slice _ _ _) rfl) ?_
        exact WPL.nil fun w hw => ⟨rfl, s3, (by simp), ⟨(by show Value.slice (cutAddr (some ⟨lb, 0, none⟩) 0 zc 1) (s3.length - 0) (zc - 0) = _; rw [cutAddr_zero]; rfl), (via (.int .i64 _) rfl rfl), rfl, (via (.slice _ _ _) rfl rfl), (via (.int .i64 _) rfl rfl), (via (.int .i64 _) rfl rfl), trivial⟩, ⟨⟨by rw [← hpop, pop_cons_ne h26], by simp only [List.length_cons] at hsl; omega⟩, by have h := St.rowCut (k := s3.length) (hw.sel [0, 1] (by decide)) (i := 0) rfl (by simp); rw [show (List.map (Value.int .i64) (y :: s3).reverse).take (s3.length * 1) = s3.reverse.map (Value.int .i64) by simp] at h; exact h⟩⟩
      ·
        have hp2 : pop n.up st = y :: s3 := by rw [← hpop]; exact pop_same (fun a t e => by cases e; exact Decidable.not_not.1 h26)
        refine WP.exit (onto_of ?_)
        refine WP.seq ?_
        refine WP.seq ?_
        refine WP.region ?_
        refine WPL.val (v_move (v := .int .i64 _) rfl) ?_
        refine WPL.val (v_eql rfl rfl) ?_
        refine WPL.val (v_fieldL (o' := 0) Try.underlying39 rfl Try.sizeOf3 rfl rfl) ?_
        refine WPL.val (v_load1 (u := .int .i64 _) Try.isAgg3 rfl (fun w hw => hw.cl_at (i := 1) rfl _ rfl)) ?_
        refine WPL.val (v_eql rfl rfl) ?_
        refine WPL.val (v_neB Try.underlying4 rfl rfl) ?_
        refine WPL.val (v_move (v := .bool _) rfl) ?_
        refine WPL.splitB 38 rfl (fun h38 => ?_) (fun h38 => ?_)
        ·
          refine WPL.skipG ?_
          refine WPL.skipG ?_
          refine WPL.skipG ?_
          refine WPL.skipG ?_
          refine WPL.skipG ?_
          refine WPL.skipG ?_
          refine WPL.skipG ?_
          refine WPL.val (v_pickT (u := .bool _) rfl rfl) ?_
          refine WPL.nil (onto_of ?_)
          have hres : okP L = false := okP_no (i := k + 1) (by omega) (stk_none hstk (by rw [hup]; exact h38))
          refine WP.condT rfl ?_
          refine WP.seq ?_
          refine WP.region ?_
          refine WPL.val (v_assign (v := .bool false) rfl) ?_
          refine WPL.nil (onto_of ?_)
          exact WP.ret1 Try.results17 (fun _ h => h) (fun w hw => ⟨(), congrArg Value.bool (by rw [hres]), trivial, hw.sel [] (by decide)⟩)
        ·
          refine WPL.valG (v_move (v := .int .i64 _) rfl) ?_
          refine WPL.valG (v_gtr rfl rfl) ?_
          refine WPL.valG (v_move (v := .bool _) rfl) ?_
          refine WPL.split 41 rfl (fun h41 => ?_) (fun h41 => ?_)
          ·
            refine WPL.valG (v_move (v := .slice _ _ _) rfl) ?_
            refine WPL.valG (v_len Try.underlying26 rfl) ?_
            refine WPL.valG (v_eql rfl rfl) ?_
            refine WPL.valG (v_pickT (u := .bool _) rfl rfl) ?_
            refine WPL.val (v_pickF (v := .bool _) rfl rfl) ?_
            refine WPL.nil (onto_of ?_)
            refine WP.condP rfl (fun h46 => ?_) (fun h46 => ?_)
            ·
              have hres : okP L = false := okP_no (i := k + 1) (by omega) (by rw [stk, hstk]; simp only; rw [hup, hp2, if_neg (by omega)]; first | rfl | (exfalso; simp at h46; omega))
              refine WP.seq ?_
              refine WP.region ?_
              refine WPL.val (v_assign (v := .bool false) rfl) ?_
              refine WPL.nil (onto_of ?_)
              exact WP.ret1 Try.results17 (fun _ h => h) (fun w hw => ⟨(), congrArg Value.bool (by rw [hres]), trivial, hw.sel [] (by decide)⟩)
            ·
              have hnew : stk L (k + 1) = some ((k : Int) :: (y :: s3)) := by rw [stk, hstk]; simp only; rw [if_neg (by omega), hup, hp2, if_neg (by simp)]
              refine WP.skip (onto_of ?_)
              refine WP.region ?_
              refine WPL.val (v_move (v := .slice _ _ _) rfl) ?_
              refine WPL.val (v_move (v := .int .i64 _) rfl) ?_
              refine WPL.ef (x_buildSlice (us := [.int .i64 _]) (σ' := fun _ => [_, _, _]) Try.underlying26 Try.sizeOf3 Try.zeroValue3 rfl rfl rfl (by decide) (by decide) (fun _ => rfl)) (fun g49 => ?_)
              refine WPL.ef (x_append (sz := 1) (σ' := fun _ => [_, _, _]) Try.underlying26 int_info rfl (by decide) rfl rfl (i := 0) rfl (fun w hw => hw.src_row (i := 2) rfl) rfl (by simp [Value.oneCell']) (by omega) (by omega) (fun _ => rfl)) (fun ⟨A50, c50⟩ => ?_)
              refine WPL.val (v_assign (v := .slice _ _ _) rfl) ?_
              refine WPL.nil (onto_of ?_)
              refine WP.region ?_
              refine WPL.val (v_add rfl rfl (by omega)) ?_
              refine WPL.val (v_move (v := .int .i64 _) rfl) ?_
              exact WPL.nil fun w hw => ⟨rfl, (k + 1, (k : Int) :: (y :: s3), A50, c50), (by simp only; omega), ⟨rfl, (by show Value.slice A50 ((y :: s3).length + 1) c50 = _; rfl), (via (.slice _ _ _) rfl rfl), (via (.int .i64 _) rfl rfl), trivial⟩, ⟨⟨by simp only; omega, hnew⟩, by dsimp only; rw [show ((k : Int) :: (y :: s3)).reverse.map (Value.int .i64) = ((y :: s3)).reverse.map (Value.int .i64) ++ [.int .i64 (k : Int)] by simp]; exact (hw.sel [0] (by decide))⟩⟩
          ·
            refine WPL.skipG ?_
            refine WPL.skipG ?_
            refine WPL.skipG ?_
            refine WPL.valG (v_pickF (v := .bool _) rfl rfl) ?_
            refine WPL.val (v_pickF (v := .bool _) rfl rfl) ?_
            refine WPL.nil (onto_of ?_)
            have hnew : stk L (k + 1) = some ((k : Int) :: (y :: s3)) := by exfalso; obtain rfl : k = 0 := (by omega); rw [stk] at hstk; cases hstk; simp at hsl
            refine WP.condF rfl ?_
            refine WP.skip (onto_of ?_)
            refine WP.region ?_
            refine WPL.val (v_move (v := .slice _ _ _) rfl) ?_
            refine WPL.val (v_move (v := .int .i64 _) rfl) ?_
            refine WPL.ef (x_buildSlice (us := [.int .i64 _]) (σ' := fun _ => [_, _, _]) Try.underlying26 Try.sizeOf3 Try.zeroValue3 rfl rfl rfl (by decide) (by decide) (fun _ => rfl)) (fun g49 => ?_)
            refine WPL.ef (x_append (sz := 1) (σ' := fun _ => [_, _, _]) Try.underlying26 int_info rfl (by decide) rfl rfl (i := 0) rfl (fun w hw => hw.src_row (i := 2) rfl) rfl (by simp [Value.oneCell']) (by omega) (by omega) (fun _ => rfl)) (fun ⟨A50, c50⟩ => ?_)
            refine WPL.val (v_assign (v := .slice _ _ _) rfl) ?_
            refine WPL.nil (onto_of ?_)
            refine WP.region ?_
            refine WPL.val (v_add rfl rfl (by omega)) ?_
            refine WPL.val (v_move (v := .int .i64 _) rfl) ?_
            exact WPL.nil fun w hw => ⟨rfl, (k + 1, (k : Int) :: (y :: s3), A50, c50), (by simp only; omega), ⟨rfl, (by show Value.slice A50 ((y :: s3).length + 1) c50 = _; rfl), (via (.slice _ _ _) rfl rfl), (via (.int .i64 _) rfl rfl), trivial⟩, ⟨⟨by simp only; omega, hnew⟩, by dsimp only; rw [show ((k : Int) :: (y :: s3)).reverse.map (Value.int .i64) = ((y :: s3)).reverse.map (Value.int .i64) ++ [.int .i64 (k : Int)] by simp]; exact (hw.sel [0] (by decide))⟩⟩
    ·
      obtain rfl : s2 = [] := by cases s2 with | nil => rfl | cons y s3 => exact absurd (by simp only [List.length_cons]; omega) h16
      refine WPD.skip rfl ?_ (fun _ h => h)
      refine WPD.skip rfl ?_ (fun _ h => h)
      refine WPD.skip rfl ?_ (fun _ h => h)
      refine WPD.skip rfl ?_ (fun _ h => h)
      refine WPD.skip rfl ?_ (fun _ h => h)
      refine WPD.skip rfl ?_ (fun _ h => h)
      refine WPD.skip rfl ?_ (fun _ h => h)
      refine WPD.skip rfl ?_ (fun _ h => h)
      refine WPD.skip rfl ?_ (fun _ h => h)
      refine WPD.take rfl (v_pickF (v := .bool _) rfl rfl) ?_ (fun _ h => h)
      refine WPD.nil (onto_of ?_)
      have hp2 : pop n.up st = [] := hpop.symm
      refine WP.condF rfl ?_
      refine WP.exit (onto_of ?_)
      refine WP.seq ?_
      refine WP.seq ?_
      refine WP.region ?_
      refine WPL.val (v_move (v := .int .i64 _) rfl) ?_
      refine WPL.val (v_eql rfl rfl) ?_
      refine WPL.val (v_fieldL (o' := 0) Try.underlying39 rfl Try.sizeOf3 rfl rfl) ?_
      refine WPL.val (v_load1 (u := .int .i64 _) Try.isAgg3 rfl (fun w hw => hw.cl_at (i := 1) rfl _ rfl)) ?_
      refine WPL.val (v_eql rfl rfl) ?_
      refine WPL.val (v_neB Try.underlying4 rfl rfl) ?_
      refine WPL.val (v_move (v := .bool _) rfl) ?_
      refine WPL.splitB 38 rfl (fun h38 => ?_) (fun h38 => ?_)
      ·
        refine WPL.skipG ?_
        refine WPL.skipG ?_
        refine WPL.skipG ?_
        refine WPL.skipG ?_
        refine WPL.skipG ?_
        refine WPL.skipG ?_
        refine WPL.skipG ?_
        refine WPL.val (v_pickT (u := .bool _) rfl rfl) ?_
        refine WPL.nil (onto_of ?_)
        have hres : okP L = false := okP_no (i := k + 1) (by omega) (stk_none hstk (by rw [hup]; exact h38))
        refine WP.condT rfl ?_
        refine WP.seq ?_
        refine WP.region ?_
        refine WPL.val (v_assign (v := .bool false) rfl) ?_
        refine WPL.nil (onto_of ?_)
        exact WP.ret1 Try.results17 (fun _ h => h) (fun w hw => ⟨(), congrArg Value.bool (by rw [hres]), trivial, hw.sel [] (by decide)⟩)
      ·
        refine WPL.valG (v_move (v := .int .i64 _) rfl) ?_
        refine WPL.valG (v_gtr rfl rfl) ?_
        refine WPL.valG (v_move (v := .bool _) rfl) ?_
        refine WPL.split 41 rfl (fun h41 => ?_) (fun h41 => ?_)
        ·
          refine WPL.valG (v_move (v := .slice _ _ _) rfl) ?_
          refine WPL.valG (v_len Try.underlying26 rfl) ?_
          refine WPL.valG (v_eql rfl rfl) ?_
          refine WPL.valG (v_pickT (u := .bool _) rfl rfl) ?_
          refine WPL.val (v_pickF (v := .bool _) rfl rfl) ?_
          refine WPL.nil (onto_of ?_)
          refine WP.condP rfl (fun h46 => ?_) (fun h46 => ?_)
          ·
            have hres : okP L = false := okP_no (i := k + 1) (by omega) (by rw [stk, hstk]; simp only; rw [hup, hp2, if_neg (by omega)]; first | rfl | (exfalso; simp at h46; omega))
            refine WP.seq ?_
            refine WP.region ?_
            refine WPL.val (v_assign (v := .bool false) rfl) ?_
            refine WPL.nil (onto_of ?_)
            exact WP.ret1 Try.results17 (fun _ h => h) (fun w hw => ⟨(), congrArg Value.bool (by rw [hres]), trivial, hw.sel [] (by decide)⟩)
          ·
            have hnew : stk L (k + 1) = some ((k : Int) :: ([] : List Int)) := by exfalso; simp at h46
            refine WP.skip (onto_of ?_)
            refine WP.region ?_
            refine WPL.val (v_move (v := .slice _ _ _) rfl) ?_
            refine WPL.val (v_move (v := .int .i64 _) rfl) ?_
            refine WPL.ef (x_buildSlice (us := [.int .i64 _]) (σ' := fun _ => [_, _, _]) Try.underlying26 Try.sizeOf3 Try.zeroValue3 rfl rfl rfl (by decide) (by decide) (fun _ => rfl)) (fun g49 => ?_)
            refine WPL.ef (x_append (sz := 1) (σ' := fun _ => [_, _, _]) Try.underlying26 int_info rfl (by decide) rfl rfl (i := 0) rfl (fun w hw => hw.src_row (i := 2) rfl) rfl (by simp [Value.oneCell']) (by omega) (by omega) (fun _ => rfl)) (fun ⟨A50, c50⟩ => ?_)
            refine WPL.val (v_assign (v := .slice _ _ _) rfl) ?_
            refine WPL.nil (onto_of ?_)
            refine WP.region ?_
            refine WPL.val (v_add rfl rfl (by omega)) ?_
            refine WPL.val (v_move (v := .int .i64 _) rfl) ?_
            exact WPL.nil fun w hw => ⟨rfl, (k + 1, (k : Int) :: ([] : List Int), A50, c50), (by simp only; omega), ⟨rfl, (by show Value.slice A50 (([] : List Int).length + 1) c50 = _; rfl), (via (.slice _ _ _) rfl rfl), (via (.int .i64 _) rfl rfl), trivial⟩, ⟨⟨by simp only; omega, hnew⟩, by dsimp only; rw [show ((k : Int) :: ([] : List Int)).reverse.map (Value.int .i64) = (([] : List Int)).reverse.map (Value.int .i64) ++ [.int .i64 (k : Int)] by simp]; exact (hw.sel [0] (by decide))⟩⟩
        ·
          refine WPL.skipG ?_
          refine WPL.skipG ?_
          refine WPL.skipG ?_
          refine WPL.valG (v_pickF (v := .bool _) rfl rfl) ?_
          refine WPL.val (v_pickF (v := .bool _) rfl rfl) ?_
          refine WPL.nil (onto_of ?_)
          have hnew : stk L (k + 1) = some ((k : Int) :: ([] : List Int)) := by obtain rfl : k = 0 := (by omega); exact stk_one (by have h : upP L 0 = n.up := hup; simp at h38; rw [h]; omega)
          refine WP.condF rfl ?_
          refine WP.skip (onto_of ?_)
          refine WP.region ?_
          refine WPL.val (v_move (v := .slice _ _ _) rfl) ?_
          refine WPL.val (v_move (v := .int .i64 _) rfl) ?_
          refine WPL.ef (x_buildSlice (us := [.int .i64 _]) (σ' := fun _ => [_, _, _]) Try.underlying26 Try.sizeOf3 Try.zeroValue3 rfl rfl rfl (by decide) (by decide) (fun _ => rfl)) (fun g49 => ?_)
          refine WPL.ef (x_append (sz := 1) (σ' := fun _ => [_, _, _]) Try.underlying26 int_info rfl (by decide) rfl rfl (i := 0) rfl (fun w hw => hw.src_row (i := 2) rfl) rfl (by simp [Value.oneCell']) (by omega) (by omega) (fun _ => rfl)) (fun ⟨A50, c50⟩ => ?_)
          refine WPL.val (v_assign (v := .slice _ _ _) rfl) ?_
          refine WPL.nil (onto_of ?_)
          refine WP.region ?_
          refine WPL.val (v_add rfl rfl (by omega)) ?_
          refine WPL.val (v_move (v := .int .i64 _) rfl) ?_
          exact WPL.nil fun w hw => ⟨rfl, (k + 1, (k : Int) :: ([] : List Int), A50, c50), (by simp only; omega), ⟨rfl, (by show Value.slice A50 (([] : List Int).length + 1) c50 = _; rfl), (via (.slice _ _ _) rfl rfl), (via (.int .i64 _) rfl rfl), trivial⟩, ⟨⟨by simp only; omega, hnew⟩, by dsimp only; rw [show ((k : Int) :: ([] : List Int)).reverse.map (Value.int .i64) = (([] : List Int)).reverse.map (Value.int .i64) ++ [.int .i64 (k : Int)] by simp]; exact (hw.sel [0] (by decide))⟩⟩
  ·
    obtain rfl : k = L.length := by omega
    have hres : okP L = true := by rw [okP, hstk]; rfl
    refine WP.exit (onto_of ?_)
    refine WP.seq ?_
    refine WP.region ?_
    refine WPL.val (v_assign (v := .bool true) rfl) ?_
    refine WPL.nil (onto_of ?_)
    exact WP.ret1 Try.results17 (fun _ h => h) (fun w hw => ⟨(), congrArg Value.bool (by rw [hres]), trivial, hw.sel [] (by decide)⟩)
end Go.Proofs.Ytmjdmlgdffoimab
