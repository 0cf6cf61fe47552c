/- PaintMore. -/
import Derived.Test.YtmjdmlgdffoimabPaintOrs
namespace Go.Proofs.Ytmjdmlgdffoimab
open Go.RowKit

theorem addN_len (L : List PN) (u : Int) : (addN L u).length = L.length + 1 := by simp [addN]
theorem addN_cells (L : List PN) (u : Int) : (addN L u).flatMap encN = L.flatMap encN ++ [.int .i64 u, .bool false, .int .i64 0] := by simp [addN, encN]
theorem addN_ne (L : List PN) (u : Int) : addN L u ≠ [] := by simp [addN]
theorem src_nodes {w : World} {ab ao : Nat} {L : List PN} (h : RdN w (some ⟨ab, ao, none⟩) L) : Src w (some ⟨ab, ao, none⟩) L.length (L.flatMap encN) := by
  refine .inr ⟨ab, ao, rfl, fun j u hj => ?_⟩
  have hlen := (List.getElem?_eq_some_iff.1 hj).1
  rw [flat_len3] at hlen
  have hd := Nat.div_add_mod j 3
  have hm := Nat.mod_lt j (show 0 < 3 by decide)
  have hi : j / 3 < L.length := by omega
  have hn : L[j / 3]? = some L[j / 3] := List.getElem?_eq_getElem hi
  obtain ⟨b, o, e, hc⟩ := h (j / 3) _ hn
  cases e
  have h1 := flatMap_get (enc := encN) (sz := 3) encN_len L (j / 3) (j % 3) _ hn hm
  rw [show j / 3 * 3 + j % 3 = j by omega] at h1
  rw [h1] at hj
  have h2 := hc (j % 3) u hj
  rw [show ao + j / 3 * 3 + j % 3 = ao + j by omega] at h2
  exact h2
theorem orderM_ct (A : Option Addr) (c : Nat) (L : List PN) (u : Int) (hL : L.length ≤ 999) (hcap : L.length + 1 ≤ c) (hok : okP (addN L u) = true) : Ct Try.prog 16 #[.slice A (L.length + 1) c] [] (fun w => RdN w A (addN L u)) (X := Option Addr × Nat) (fun p => .slice p.1 (PT (addN L u) 0).length p.2) (fun _ => True) (fun p => [kidsI p.1 (PT (addN L u) 0).length p.2 (PT (addN L u) 0)]) := by
  have h := orderP_ct A c (addN L u) (by rw [addN_len]; omega) (by rw [addN_len]; exact hcap) hok (addN_ne L u)
  rw [addN_len] at h
  exact h
def restP (L : List PN) (o : List Int) : List Int := o.filter fun x : Int => decide (x ≠ (L.length : Int))
theorem info39c : (Try.prog.info? 39).map (fun i => (i.zero, i.size, i.bytes)) = some (some (.agg #[.int .i64 0, .bool false, .int .i64 0]), 3, 24) := by kernel_rfl
set_option maxHeartbeats 2000000 in
theorem lawMore_ct (A : Option Addr) (c : Nat) (L : List PN) (hcap : L.length ≤ c) (u : Int) : Ct Try.prog 8 #[.slice A L.length c, .int .i64 u] [] (fun w => RdN w A L) (X := Unit) (fun _ => .bool true) (fun _ => True) (fun _ => []) := by
  refine Ct.intro Try.func8 rfl Try.ntmps8 (by simp) (fun w0 hz => ?_)
  refine WP.seq ?_
  refine WP.region ?_
  refine WPL.val (v_assign (v := .bool false) rfl) ?_
  refine WPL.nil (onto_of ?_)
  refine WP.seq ?_
  refine WP.region ?_
  refine WPL.ef (x_call Try.call10 works_ct [] [] rfl (fun w hw => trivial) (τ := fun _ => []) (fun _ => rfl)) (fun _ => ?_)
  refine WPL.fact (fun _ => ?_)
  refine WPL.val (v_assign (v := .bool _) rfl) ?_
  refine WPL.nil (onto_of ?_)
  refine WP.seq ?_
  refine WP.seq ?_
  refine WP.region ?_
  refine WPL.val (v_move (v := .bool _) rfl) ?_
  refine WPL.val (v_not rfl) ?_
  refine WPL.nil (onto_of ?_)
  refine WP.condF rfl ?_
  refine WP.skip (onto_of ?_)
  refine WP.seq ?_
  refine WP.seq ?_
  refine WP.region ?_
  refine WPL.val (v_move (v := .slice _ _ _) rfl) ?_
  refine WPL.val (v_len Try.underlying22 rfl) ?_
  refine WPL.val (v_gtr rfl rfl) ?_
  refine WPL.val (v_move (v := .bool _) rfl) ?_
  refine WPL.split 17 rfl (fun h17 => ?_) (fun h17 => ?_)
  ·
    refine WPL.skipG ?_
    refine WPL.skipG ?_
    refine WPL.skipG ?_
    refine WPL.val (v_pickT (u := .bool _) rfl rfl) ?_
    refine WPL.val (v_move (v := .bool _) rfl) ?_
    refine WPL.skipG ?_
    refine WPL.skipG ?_
    refine WPL.skipG ?_
    refine WPL.val (v_pickT (u := .bool _) rfl rfl) ?_
    refine WPL.nil (onto_of ?_)
    refine WP.condT rfl ?_
    refine WP.seq ?_
    refine WP.region ?_
    refine WPL.val (v_move (v := .bool _) rfl) ?_
    refine WPL.val (v_assign (v := .bool _) rfl) ?_
    refine WPL.nil (onto_of ?_)
    exact WP.ret1 Try.results8 (fun _ h => h) (fun w hw => ⟨(), rfl, trivial, hw.sel [] (by decide)⟩)
  ·
    refine WPL.valG (v_move (v := .slice _ _ _) rfl) ?_
    refine WPL.efG (x_call Try.call17 (valid_ct A c L (by omega)) [] [] rfl (fun w hw => hw.rd hz not_foots_nil) (τ := fun _ => []) (fun _ => rfl)) (fun _ => ?_)
    refine WPL.fact (fun _ => ?_)
    refine WPL.valG (v_not rfl) ?_
    refine WPL.val (v_pickF (v := .bool _) rfl rfl) ?_
    refine WPL.val (v_move (v := .bool _) rfl) ?_
    refine WPL.splitB 22 rfl (fun h22 => ?_) (fun h22 => ?_)
    ·
      refine WPL.skipG ?_
      refine WPL.skipG ?_
      refine WPL.skipG ?_
      refine WPL.val (v_pickT (u := .bool _) rfl rfl) ?_
      refine WPL.nil (onto_of ?_)
      refine WP.condT rfl ?_
      refine WP.seq ?_
      refine WP.region ?_
      refine WPL.val (v_move (v := .bool _) rfl) ?_
      refine WPL.val (v_assign (v := .bool _) rfl) ?_
      refine WPL.nil (onto_of ?_)
      exact WP.ret1 Try.results8 (fun _ h => h) (fun w hw => ⟨(), rfl, trivial, hw.sel [] (by decide)⟩)
    ·
      refine WPL.valG (v_move (v := .slice _ _ _) rfl) ?_
      refine WPL.valG (v_len Try.underlying22 rfl) ?_
      refine WPL.valG (v_eql rfl rfl) ?_
      refine WPL.val (v_pickF (v := .bool _) rfl rfl) ?_
      refine WPL.nil (onto_of ?_)
      refine WP.condP rfl (fun h26 => ?_) (fun h26 => ?_)
      ·
        refine WP.seq ?_
        refine WP.region ?_
        refine WPL.val (v_move (v := .bool _) rfl) ?_
        refine WPL.val (v_assign (v := .bool _) rfl) ?_
        refine WPL.nil (onto_of ?_)
        exact WP.ret1 Try.results8 (fun _ h => h) (fun w hw => ⟨(), rfl, trivial, hw.sel [] (by decide)⟩)
      ·
        have hok : okP L = true := by simpa using h22
        have hP := okP_pv hok
        have hne : L ≠ [] := fun e => by rw [e] at h26; simp at h26
        have hL : L.length ≤ 1000 := by omega
        have hlen := PT0_len hP hne
        have hpos := List.length_pos_iff.2 hne
        obtain ⟨n, ab, ao, hn, hA, hc⟩ := getNode hz hpos
        subst hA
        have hsrc := src_nodes hz
        refine WP.skip (onto_of ?_)
        refine WP.seq ?_
        refine WP.region ?_
        refine WPL.val (v_assign (v := .slice none 0 0) rfl) ?_
        refine WPL.nil (onto_of ?_)
        refine WP.seq ?_
        refine WP.pre ?_ (fun w hw => hw.nilRow 39 3)
        refine WP.region ?_
        refine WPL.val (v_move (v := .slice _ _ _) rfl) ?_
        refine WPL.val (v_move (v := .slice _ _ _) rfl) ?_
        refine WPL.ef (x_append (sz := 3) (σ' := fun _ => [_]) Try.underlying22 info39c rfl (by decide) rfl rfl (i := 0) rfl (fun w hw => hw.oldSrc hsrc (fun _ _ => not_foots_nil _)) (flat_len3 L) (encN_one L) (by omega) (by omega) (fun _ => rfl)) (fun ⟨A30, c30⟩ => ?_)
        refine WPL.val (v_assign (v := .slice _ _ _) rfl) ?_
        refine WPL.nil (onto_of ?_)
        refine WP.seq ?_
        rw [Nat.zero_add, List.nil_append]
        refine WP.region ?_
        refine WPL.val (v_move (v := .slice _ _ _) rfl) ?_
        refine WPL.val (v_move (v := .int .i64 _) rfl) ?_
        refine WPL.val (v_struct (us := [.int .i64 _, .bool _, .int .i64 _]) (pl := [(0, 1), (1, 1), (2, 1)]) Try.underlying39 Try.zeroValue39 rfl (by kernel_rfl) rfl rfl (by kernel_rfl)) ?_
        refine WPL.ef (x_buildSlice (us := [.int .i64 _, .bool _, .int .i64 _]) (σ' := fun _ => [_, _]) Try.underlying22 Try.sizeOf39 Try.zeroValue39 rfl rfl rfl (by decide) (by decide) (fun _ => rfl)) (fun g34 => ?_)
        refine WPL.ef (x_append (sz := 3) (σ' := fun _ => [_, _]) Try.underlying22 info39c rfl (by decide) rfl rfl (i := 0) rfl (fun w hw => hw.src_row (i := 1) rfl) rfl (by simp [Value.oneCell']) (by omega) (by omega) (fun _ => rfl)) (fun ⟨A35, c35⟩ => ?_)
        refine WPL.val (v_assign (v := .slice _ _ _) rfl) ?_
        refine WPL.nil (onto_of ?_)
        refine WP.seq ?_
        refine WP.seq ?_
        refine WP.pre ?_ (fun w hw => (show St w0 (foots []) [.row 39 3 A35 (L.length + 1) c35 ((addN L u).flatMap encN)] w by rw [addN_cells]; exact (hw.sel [0] (by decide))))
        refine WP.holds (fun w hw => (hw.row_cap (i := 0) rfl : L.length + 1 ≤ c35)) (fun hc35 => ?_)
        
        refine WP.region ?_
        refine WPL.val (v_move (v := .slice _ _ _) rfl) ?_
        refine WPL.ef (x_call Try.call17 (by have h := valid_ct A35 c35 (addN L u) (by rw [addN_len]; omega); rw [addN_len] at h; exact h) [] [0] rfl (fun w hw => hw.rd_row (i := 0) (l := addN L u) (enc := encN) rfl (addN_len L u) encN_len) (τ := fun _ => [_]) (fun _ => rfl)) (fun _ => ?_)
        refine WPL.fact (fun _ => ?_)
        refine WPL.val (v_not rfl) ?_
        refine WPL.nil (onto_of ?_)
        refine WP.cond rfl (fun h38 => ?_) (fun h38 => ?_)
        ·
          refine WP.seq ?_
          refine WP.region ?_
          refine WPL.val (v_move (v := .bool _) rfl) ?_
          refine WPL.val (v_assign (v := .bool _) rfl) ?_
          refine WPL.nil (onto_of ?_)
          exact WP.ret1 Try.results8 (fun _ h => h) (fun w hw => ⟨(), rfl, trivial, hw.sel [] (by decide)⟩)
        ·
          have hok2 : okP (addN L u) = true := by simpa using h38
          have hP2 := okP_pv hok2
          have hlen2 := PT0_len hP2 (addN_ne L u)
          rw [addN_len] at hlen2
          refine WP.skip (onto_of ?_)
          refine WP.seq ?_
          refine WP.region ?_
          refine WPL.val (v_move (v := .slice _ _ _) rfl) ?_
          refine WPL.ef (x_call Try.call16 (orderP_ct (some ⟨ab, ao, none⟩) c L hL hcap hok hne) [] [0] rfl (fun w hw => hw.rd hz not_foots_nil) (τ := fun _ => [_, _]) (fun _ => rfl)) (fun ⟨oA, oc⟩ => ?_)
          refine WPL.fact (fun _ => ?_)
          refine WPL.val (v_assign (v := .slice _ _ _) rfl) ?_
          refine WPL.nil (onto_of ?_)
          refine WP.seq ?_
          refine WP.region ?_
          refine WPL.val (v_move (v := .slice _ _ _) rfl) ?_
          refine WPL.ef (x_call Try.call16 (orderM_ct A35 c35 L u (by omega) hc35 hok2) [] [0, 1] rfl (fun w hw => hw.rd_row (i := 0) (l := addN L u) (enc := encN) rfl (addN_len L u) encN_len) (τ := fun _ => [_, _, _]) (fun _ => rfl)) (fun ⟨pA, pc⟩ => ?_)
          refine WPL.fact (fun _ => ?_)
          refine WPL.val (v_assign (v := .slice _ _ _) rfl) ?_
          refine WPL.nil (onto_of ?_)
          refine WP.seq ?_
          refine WP.region ?_
          refine WPL.val (v_assign (v := .slice none 0 0) rfl) ?_
          refine WPL.nil (onto_of ?_)
          refine WP.seq ?_
          refine WP.seq ?_
          refine WP.pre ?_ (fun w hw => hw.nilRow 3 1)
          refine WP.region ?_
          refine WPL.val (v_assign (v := .int .i64 (0)) rfl) ?_
          refine WPL.nil (onto_of ?_)
          refine WP.block ?_
          refine WP.loopK (X := Nat × Option Addr × Nat) [0, 5, 7, 8] (fun p => [(10, .int .i64 (p.1 : Int)), (9, .slice p.2.1 (restP L ((PT (addN L u) 0).take p.1)).length p.2.2)]) (fun p w => p.1 ≤ (PT (addN L u) 0).length ∧ St w0 (foots []) [kidsI pA (PT (addN L u) 0).length pc (PT (addN L u) 0), kidsI p.2.1 (restP L ((PT (addN L u) 0).take p.1)).length p.2.2 (restP L ((PT (addN L u) 0).take p.1)), kidsI oA (PT L 0).length oc (PT L 0)] w) (fun p => (PT (addN L u) 0).length - p.1) (0, none, 0) ⟨rfl, rfl, trivial⟩ (fun w hw => ⟨Nat.zero_le _, (hw.sel [2, 3, 1] (by decide))⟩) (fun p ρ0 => ?_)
          obtain ⟨k, zA, zc⟩ := p
          dsimp only
          refine WP.fact (fun hkl => ?_)
          refine WP.seq ?_
          refine WP.seq ?_
          refine WP.region ?_
          refine WPL.val (v_move (v := .int .i64 _) rfl) ?_
          refine WPL.val (v_move (v := .slice _ _ _) rfl) ?_
          refine WPL.val (v_len Try.underlying26 rfl) ?_
          refine WPL.val (v_lss rfl rfl) ?_
          refine WPL.nil (onto_of ?_)
          refine WP.condP rfl (fun h47 => ?_) (fun h47 => ?_)
          ·
            obtain ⟨y, hy⟩ : ∃ y, (PT (addN L u) 0)[k]? = some y := ⟨_, List.getElem?_eq_getElem (by omega)⟩
            have hrl : (restP L ((PT (addN L u) 0).take k)).length ≤ 1001 := Nat.le_trans (List.length_filter_le _ _) (by rw [List.length_take]; omega)
            refine WP.holds (fun w hw => hw.row_pos (i := 0) rfl (by omega)) (fun ⟨lb, hA⟩ => ?_)
            subst hA
            refine WP.skip (onto_of ?_)
            refine WP.seq ?_
            refine WP.block ?_
            refine WP.seq ?_
            refine WP.region ?_
            refine WPL.val (v_move (v := .slice _ _ _) rfl) ?_
            refine WPL.val (v_move (v := .int .i64 _) rfl) ?_
            refine WPL.val (v_index (j := k) Try.underlying26 Try.sizeOf3 rfl rfl rfl (by omega)) ?_
            refine WPL.val (v_load1 (u := .int .i64 y) Try.isAgg3 rfl (fun w hw => hw.row_at1 (i := 0) (k := k) rfl (by rw [List.getElem?_map, hy]; rfl) (by omega))) ?_
            refine WPL.val (v_move (v := .slice _ _ _) rfl) ?_
            refine WPL.val (v_len Try.underlying22 rfl) ?_
            refine WPL.val (v_neq rfl rfl) ?_
            refine WPL.nil (onto_of ?_)
            refine WP.condP rfl (fun h56 => ?_) (fun h56 => ?_)
            ·
              have hF : (restP L ((PT (addN L u) 0).take (k + 1))) = (restP L ((PT (addN L u) 0).take k)) ++ [y] := by rw [take_snoc hy, restP, restP, List.filter_append]; simp [h56]
              refine WP.region ?_
              refine WPL.val (v_move (v := .slice _ _ _) rfl) ?_
              refine WPL.val (v_move (v := .slice _ _ _) rfl) ?_
              refine WPL.val (v_move (v := .int .i64 _) rfl) ?_
              refine WPL.val (v_index (j := k) Try.underlying26 Try.sizeOf3 rfl rfl rfl (by omega)) ?_
              refine WPL.val (v_load1 (u := .int .i64 y) Try.isAgg3 rfl (fun w hw => hw.row_at1 (i := 0) (k := k) rfl (by rw [List.getElem?_map, hy]; rfl) (by omega))) ?_
              refine WPL.ef (x_buildSlice (us := [.int .i64 _]) (σ' := fun _ => [_, _, _, _]) Try.underlying26 Try.sizeOf3 Try.zeroValue3 rfl rfl rfl (by decide) (by decide) (fun _ => rfl)) (fun g62 => ?_)
              refine WPL.ef (x_append (sz := 1) (σ' := fun _ => [_, _, _, _]) Try.underlying26 int_info rfl (by decide) rfl rfl (i := 1) rfl (fun w hw => hw.src_row (i := 3) rfl) rfl (by simp [Value.oneCell']) (by omega) (by omega) (fun _ => rfl)) (fun ⟨A63, c63⟩ => ?_)
              refine WPL.val (v_assign (v := .slice _ _ _) rfl) ?_
              refine WPL.nil (onto_of ?_)
              refine WP.region ?_
              refine WPL.val (v_move (v := .int .i64 _) rfl) ?_
              refine WPL.val (v_add rfl rfl (by omega)) ?_
              refine WPL.val (v_assign (v := .int .i64 _) rfl) ?_
              exact WPL.nil fun w hw => ⟨rfl, (k + 1, A63, c63), (by simp only; omega), ⟨rfl, (by show Value.slice A63 ((restP L ((PT (addN L u) 0).take k)).length + 1) c63 = Value.slice A63 (restP L ((PT (addN L u) 0).take (k + 1))).length c63; rw [hF, List.length_append]; rfl), (via (.slice _ _ _) rfl rfl), (via (.bool _) rfl rfl), (via (.slice _ _ _) rfl rfl), (via (.slice _ _ _) rfl rfl), trivial⟩, ⟨by simp only; omega, by dsimp only; rw [hF, kids_snoc]; exact (hw.sel [0, 1, 2] (by decide))⟩⟩
            ·
              have hF : (restP L ((PT (addN L u) 0).take (k + 1))) = (restP L ((PT (addN L u) 0).take k)) := by rw [take_snoc hy, restP, restP, List.filter_append]; have h9 : y = (L.length : Int) := Decidable.not_not.1 h56; simp [h9]
              refine WP.skip (onto_of ?_)
              refine WP.region ?_
              refine WPL.val (v_move (v := .int .i64 _) rfl) ?_
              refine WPL.val (v_add rfl rfl (by omega)) ?_
              refine WPL.val (v_assign (v := .int .i64 _) rfl) ?_
              exact WPL.nil fun w hw => ⟨rfl, (k + 1, zA, zc), (by simp only; omega), ⟨rfl, (by show Value.slice zA (restP L ((PT (addN L u) 0).take k)).length zc = Value.slice zA (restP L ((PT (addN L u) 0).take (k + 1))).length zc; rw [hF]), (via (.slice _ _ _) rfl rfl), (via (.bool _) rfl rfl), (via (.slice _ _ _) rfl rfl), (via (.slice _ _ _) rfl rfl), trivial⟩, ⟨by simp only; omega, by dsimp only; rw [hF]; exact (hw.sel [0, 1, 2] (by decide))⟩⟩
          ·
            obtain rfl : k = (PT (addN L u) 0).length := by omega
            rw [List.take_of_length_le (Nat.le_refl _)]
            have hrl : (restP L (PT (addN L u) 0)).length ≤ 1001 := Nat.le_trans (List.length_filter_le _ _) (by omega)
            refine WP.exit (onto_of ?_)
            refine WP.seq ?_
            refine WP.region ?_
            refine WPL.val (v_move (v := .bool _) rfl) ?_
            refine WPL.val (v_move (v := .bool _) rfl) ?_
            refine WPL.valG (v_move (v := .slice _ _ _) rfl) ?_
            refine WPL.valG (v_len Try.underlying26 rfl) ?_
            refine WPL.valG (v_move (v := .slice _ _ _) rfl) ?_
            refine WPL.valG (v_len Try.underlying26 rfl) ?_
            refine WPL.valG (v_add rfl rfl (by omega)) ?_
            refine WPL.valG (v_is (b := true) (v_eql rfl rfl) (decide_eq_true (by omega))) ?_
            refine WPL.val (v_pickT (u := .bool _) rfl rfl) ?_
            refine WPL.val (v_move (v := .bool _) rfl) ?_
            refine WPL.valG (v_move (v := .slice _ _ _) rfl) ?_
            refine WPL.valG (v_move (v := .slice _ _ _) rfl) ?_
            refine WPL.efG (x_call Try.call15 (rowT_ct zA oA zc oc (restP L (PT (addN L u) 0)) (PT L 0) (by omega) (PT_add hP hP2 _ 0 (Nat.le_refl _) (by omega))) [] [0, 1, 2] rfl (fun w hw => ⟨hw.rd_row1 (i := 1) (f := Value.int .i64) rfl, hw.rd_row1 (i := 2) (f := Value.int .i64) rfl⟩) (τ := fun _ => [_, _, _]) (fun _ => rfl)) (fun _ => ?_)
            refine WPL.fact (fun _ => ?_)
            refine WPL.val (v_pickT (u := .bool _) rfl rfl) ?_
            refine WPL.val (v_assign (v := .bool _) rfl) ?_
            refine WPL.nil (onto_of ?_)
            exact WP.ret1 Try.results8 (fun _ h => h) (fun w hw => ⟨(), rfl, trivial, hw.sel [] (by decide)⟩)
end Go.Proofs.Ytmjdmlgdffoimab
