/- PaintTogether. -/
import Derived.Test.YtmjdmlgdffoimabPaintOrs
namespace Go.Proofs.Ytmjdmlgdffoimab
open Go.RowKit

theorem mid_iff {o p m s : List Int} (ho : p ++ m ++ s = o) (hn : o.Nodup) {k : Nat} {y : Int} (hy : o[k]? = some y) : y ∈ m ↔ p.length ≤ k ∧ k < p.length + m.length := by
  subst ho
  constructor
  · intro hm
    obtain ⟨j, hj⟩ := List.getElem?_of_mem hm
    have hjl := (List.getElem?_eq_some_iff.1 hj).1
    have h1 : (p ++ m ++ s)[p.length + j]? = some y := by
      rw [List.append_assoc, List.getElem?_append_right (by omega), Nat.add_sub_cancel_left, List.getElem?_append_left hjl]; exact hj
    obtain ⟨l1, e1⟩ := List.getElem?_eq_some_iff.1 h1
    obtain ⟨l2, e2⟩ := List.getElem?_eq_some_iff.1 hy
    have := (List.getElem_inj hn).1 (e1.trans e2.symm)
    omega
  · rintro ⟨h1, h2⟩
    rw [List.append_assoc, List.getElem?_append_right h1, List.getElem?_append_left (by omega)] at hy
    exact List.mem_of_getElem? hy
set_option maxHeartbeats 2000000 in
theorem lawTogether_ct (A : Option Addr) (c : Nat) (L : List PN) (hcap : L.length ≤ c) (a : Int) : Ct Try.prog 5 #[.slice A L.length c, .int .i64 a] [] (fun w => RdN w A L) (X := Unit) (fun _ => .bool true) (fun _ => True) (fun _ => []) := by
  refine Ct.intro Try.func5 rfl Try.ntmps5 (by simp) (fun w0 hz => ?_)
  refine WP.seq ?_
  refine WP.region ?_
  refine WPL.val (v_assign (v := .bool false) rfl) ?_
  refine WPL.nil (onto_of ?_)
  refine WP.seq ?_
  refine WP.region ?_
  refine WPL.ef (x_call Try.call10 works_ct [] [] rfl (fun w hw => trivial) (τ := fun _ => []) (fun _ => rfl)) (fun _ => ?_)
  refine WPL.fact (fun _ => ?_)
  refine WPL.val (v_assign (v := .bool _) rfl) ?_
  refine WPL.nil (onto_of ?_)
  refine WP.seq ?_
  refine WP.seq ?_
  refine WP.region ?_
  refine WPL.val (v_move (v := .bool _) rfl) ?_
  refine WPL.val (v_not rfl) ?_
  refine WPL.nil (onto_of ?_)
  refine WP.condF rfl ?_
  refine WP.skip (onto_of ?_)
  refine WP.seq ?_
  refine WP.seq ?_
  refine WP.region ?_
  refine WPL.val (v_move (v := .slice _ _ _) rfl) ?_
  refine WPL.val (v_len Try.underlying22 rfl) ?_
  refine WPL.val (v_gtr rfl rfl) ?_
  refine WPL.val (v_move (v := .bool _) rfl) ?_
  refine WPL.split 17 rfl (fun h17 => ?_) (fun h17 => ?_)
  ·
    refine WPL.skipG ?_
    refine WPL.skipG ?_
    refine WPL.skipG ?_
    refine WPL.val (v_pickT (u := .bool _) rfl rfl) ?_
    refine WPL.val (v_move (v := .bool _) rfl) ?_
    refine WPL.skipG ?_
    refine WPL.skipG ?_
    refine WPL.val (v_pickT (u := .bool _) rfl rfl) ?_
    refine WPL.val (v_move (v := .bool _) rfl) ?_
    refine WPL.skipG ?_
    refine WPL.skipG ?_
    refine WPL.skipG ?_
    refine WPL.skipG ?_
    refine WPL.val (v_pickT (u := .bool _) rfl rfl) ?_
    refine WPL.val (v_move (v := .bool _) rfl) ?_
    refine WPL.skipG ?_
    refine WPL.skipG ?_
    refine WPL.skipG ?_
    refine WPL.skipG ?_
    refine WPL.skipG ?_
    refine WPL.skipG ?_
    refine WPL.skipG ?_
    refine WPL.skipG ?_
    refine WPL.skipG ?_
    refine WPL.skipG ?_
    refine WPL.val (v_pickT (u := .bool _) rfl rfl) ?_
    refine WPL.nil (onto_of ?_)
    refine WP.condT rfl ?_
    refine WP.seq ?_
    refine WP.region ?_
    refine WPL.val (v_move (v := .bool _) rfl) ?_
    refine WPL.val (v_assign (v := .bool _) rfl) ?_
    refine WPL.nil (onto_of ?_)
    exact WP.ret1 Try.results5 (fun _ h => h) (fun w hw => ⟨(), rfl, trivial, hw.sel [] (by decide)⟩)
  ·
    refine WPL.valG (v_move (v := .slice _ _ _) rfl) ?_
    refine WPL.efG (x_call Try.call17 (valid_ct A c L (by omega)) [] [] rfl (fun w hw => hw.rd hz not_foots_nil) (τ := fun _ => []) (fun _ => rfl)) (fun _ => ?_)
    refine WPL.fact (fun _ => ?_)
    refine WPL.valG (v_not rfl) ?_
    refine WPL.val (v_pickF (v := .bool _) rfl rfl) ?_
    refine WPL.val (v_move (v := .bool _) rfl) ?_
    refine WPL.splitB 22 rfl (fun h22 => ?_) (fun h22 => ?_)
    ·
      refine WPL.skipG ?_
      refine WPL.skipG ?_
      refine WPL.val (v_pickT (u := .bool _) rfl rfl) ?_
      refine WPL.val (v_move (v := .bool _) rfl) ?_
      refine WPL.skipG ?_
      refine WPL.skipG ?_
      refine WPL.skipG ?_
      refine WPL.skipG ?_
      refine WPL.val (v_pickT (u := .bool _) rfl rfl) ?_
      refine WPL.val (v_move (v := .bool _) rfl) ?_
      refine WPL.skipG ?_
      refine WPL.skipG ?_
      refine WPL.skipG ?_
      refine WPL.skipG ?_
      refine WPL.skipG ?_
      refine WPL.skipG ?_
      refine WPL.skipG ?_
      refine WPL.skipG ?_
      refine WPL.skipG ?_
      refine WPL.skipG ?_
      refine WPL.val (v_pickT (u := .bool _) rfl rfl) ?_
      refine WPL.nil (onto_of ?_)
      refine WP.condT rfl ?_
      refine WP.seq ?_
      refine WP.region ?_
      refine WPL.val (v_move (v := .bool _) rfl) ?_
      refine WPL.val (v_assign (v := .bool _) rfl) ?_
      refine WPL.nil (onto_of ?_)
      exact WP.ret1 Try.results5 (fun _ h => h) (fun w hw => ⟨(), rfl, trivial, hw.sel [] (by decide)⟩)
    ·
      refine WPL.valG (v_move (v := .int .i64 _) rfl) ?_
      refine WPL.valG (v_lss rfl rfl) ?_
      refine WPL.val (v_pickF (v := .bool _) rfl rfl) ?_
      refine WPL.val (v_move (v := .bool _) rfl) ?_
      refine WPL.split 26 rfl (fun h26 => ?_) (fun h26 => ?_)
      ·
        refine WPL.skipG ?_
        refine WPL.skipG ?_
        refine WPL.skipG ?_
        refine WPL.skipG ?_
        refine WPL.val (v_pickT (u := .bool _) rfl rfl) ?_
        refine WPL.val (v_move (v := .bool _) rfl) ?_
        refine WPL.skipG ?_
        refine WPL.skipG ?_
        refine WPL.skipG ?_
        refine WPL.skipG ?_
        refine WPL.skipG ?_
        refine WPL.skipG ?_
        refine WPL.skipG ?_
        refine WPL.skipG ?_
        refine WPL.skipG ?_
        refine WPL.skipG ?_
        refine WPL.val (v_pickT (u := .bool _) rfl rfl) ?_
        refine WPL.nil (onto_of ?_)
        refine WP.condT rfl ?_
        refine WP.seq ?_
        refine WP.region ?_
        refine WPL.val (v_move (v := .bool _) rfl) ?_
        refine WPL.val (v_assign (v := .bool _) rfl) ?_
        refine WPL.nil (onto_of ?_)
        exact WP.ret1 Try.results5 (fun _ h => h) (fun w hw => ⟨(), rfl, trivial, hw.sel [] (by decide)⟩)
      ·
        refine WPL.valG (v_move (v := .int .i64 _) rfl) ?_
        refine WPL.valG (v_move (v := .slice _ _ _) rfl) ?_
        refine WPL.valG (v_len Try.underlying22 rfl) ?_
        refine WPL.valG (v_geq rfl rfl) ?_
        refine WPL.val (v_pickF (v := .bool _) rfl rfl) ?_
        refine WPL.val (v_move (v := .bool _) rfl) ?_
        refine WPL.split 32 rfl (fun h32 => ?_) (fun h32 => ?_)
        ·
          refine WPL.skipG ?_
          refine WPL.skipG ?_
          refine WPL.skipG ?_
          refine WPL.skipG ?_
          refine WPL.skipG ?_
          refine WPL.skipG ?_
          refine WPL.skipG ?_
          refine WPL.skipG ?_
          refine WPL.skipG ?_
          refine WPL.skipG ?_
          refine WPL.val (v_pickT (u := .bool _) rfl rfl) ?_
          refine WPL.nil (onto_of ?_)
          refine WP.condT rfl ?_
          refine WP.seq ?_
          refine WP.region ?_
          refine WPL.val (v_move (v := .bool _) rfl) ?_
          refine WPL.val (v_assign (v := .bool _) rfl) ?_
          refine WPL.nil (onto_of ?_)
          exact WP.ret1 Try.results5 (fun _ h => h) (fun w hw => ⟨(), rfl, trivial, hw.sel [] (by decide)⟩)
        ·
          refine WPL.valG (v_move (v := .int .i64 _) rfl) ?_
          refine WPL.valG (v_gtr rfl rfl) ?_
          refine WPL.valG (v_move (v := .bool _) rfl) ?_
          refine WPL.split 35 rfl (fun h35 => ?_) (fun h35 => ?_)
          ·
            obtain ⟨i, hai⟩ : ∃ i : Nat, a = i := ⟨a.toNat, by omega⟩
            obtain ⟨n, ab, ao, hn, hA, hc⟩ := getNode hz (i := i) (by omega)
            subst hA
            refine WPL.valG (v_move (v := .slice _ _ _) rfl) ?_
            refine WPL.valG (v_move (v := .int .i64 _) rfl) ?_
            refine WPL.valG (v_index (j := i) Try.underlying22 Try.sizeOf39 rfl rfl hai (by omega)) ?_
            refine WPL.valG (v_field (off := 1) Try.underlying39 rfl Try.sizeOf4 rfl) ?_
            refine WPL.valG (v_load1 (u := .bool _) Try.isAgg4 rfl (fun w hw => hw.old_at (hc.one (j := 1) rfl (by omega)) (not_foots_nil _))) ?_
            refine WPL.valG (v_not rfl) ?_
            refine WPL.valG (v_pickT (u := .bool _) rfl rfl) ?_
            refine WPL.val (v_pickF (v := .bool _) rfl rfl) ?_
            refine WPL.nil (onto_of ?_)
            refine WP.cond rfl (fun h43 => ?_) (fun h43 => ?_)
            ·
              refine WP.seq ?_
              refine WP.region ?_
              refine WPL.val (v_move (v := .bool _) rfl) ?_
              refine WPL.val (v_assign (v := .bool _) rfl) ?_
              refine WPL.nil (onto_of ?_)
              exact WP.ret1 Try.results5 (fun _ h => h) (fun w hw => ⟨(), rfl, trivial, hw.sel [] (by decide)⟩)
            ·
              have hlay : a = 0 ∨ layP L a = true := .inr (by rw [hai, layN hn]; simpa using h43)
              have hok : okP L = true := by simpa using h22
              have hP := okP_pv hok
              have hne : L ≠ [] := fun e => by have h9 : L.length = 0 := (by rw [e]; rfl); omega
              have hL : L.length ≤ 1000 := by omega
              have hlen := PT0_len hP hne
              have hpos := List.length_pos_iff.2 hne
              have hnd := PT_nodup hP _ 0 (Nat.le_refl _)
              obtain ⟨pre, suf, hsplit⟩ := PT_infix hP (LA.root hP _ a (Nat.le_refl _) (by omega) (by omega))
              have hm0 : 0 < (PT L a).length := by rw [PT_eq hP]; simp
              have htot : pre.length + (PT L a).length + suf.length = (PT L 0).length := by rw [← hsplit]; simp; omega
              have hat : (PT L 0)[pre.length]? = some a := by rw [← hsplit, List.append_assoc, List.getElem?_append_right (Nat.le_refl _), Nat.sub_self, PT_eq hP a]; rfl
              refine WP.skip (onto_of ?_)
              refine WP.seq ?_
              refine WP.region ?_
              refine WPL.val (v_move (v := .slice _ _ _) rfl) ?_
              refine WPL.ef (x_call Try.call16 (orderP_ct _ c L hL hcap hok hne) [] [] rfl (fun w hw => hw.rd hz not_foots_nil) (τ := fun _ => [_]) (fun _ => rfl)) (fun ⟨oA, oc⟩ => ?_)
              refine WPL.fact (fun _ => ?_)
              refine WPL.val (v_assign (v := .slice _ _ _) rfl) ?_
              refine WPL.nil (onto_of ?_)
              refine WP.seq ?_
              refine WP.holds (fun w hw => hw.row_pos (i := 0) rfl (by omega)) (fun ⟨lb, hA⟩ => ?_)
              subst hA
              refine WP.region ?_
              refine WPL.val (v_assign (v := .int .i64 (-1)) rfl) ?_
              refine WPL.nil (onto_of ?_)
              refine WP.seq ?_
              refine WP.region ?_
              refine WPL.val (v_assign (v := .int .i64 (-1)) rfl) ?_
              refine WPL.nil (onto_of ?_)
              refine WP.seq ?_
              refine WP.region ?_
              refine WPL.val (v_assign (v := .int .i64 (0)) rfl) ?_
              refine WPL.nil (onto_of ?_)
              refine WP.seq ?_
              refine WP.seq ?_
              refine WP.region ?_
              refine WPL.val (v_assign (v := .int .i64 (0)) rfl) ?_
              refine WPL.nil (onto_of ?_)
              refine WP.block ?_
              refine WP.loopK (X := Nat × Int × Int) [0, 1, 5, 6] (fun p => [(10, .int .i64 (p.1 : Int)), (7, .int .i64 p.2.1), (8, .int .i64 p.2.2), (9, .int .i64 (((min (p.1 - pre.length) (PT L a).length) : Nat) : Int))]) (fun p w => (p.1 ≤ (PT L 0).length ∧ (((min (p.1 - pre.length) (PT L a).length) = 0 ∧ p.2.1 = -1 ∧ p.2.2 = -1) ∨ (0 < (min (p.1 - pre.length) (PT L a).length) ∧ p.2.1 = pre.length ∧ p.2.2 = pre.length + ((min (p.1 - pre.length) (PT L a).length) : Nat) - 1))) ∧ St w0 (foots []) [kidsI (some ⟨lb, 0, none⟩) (PT L 0).length oc (PT L 0)] w) (fun p => (PT L 0).length - p.1) (0, -1, -1) ⟨rfl, rfl, rfl, (by show Value.int .i64 0 = _; congr 1; simp), trivial⟩ (fun w hw => ⟨⟨Nat.zero_le _, .inl ⟨by simp, rfl, rfl⟩⟩, (hw.sel [0] (by decide))⟩) (fun p ρ0 => ?_)
              obtain ⟨k, f, g⟩ := p
              dsimp only
              refine WP.fact (fun ⟨hkl, hfg⟩ => ?_)
              refine WP.seq ?_
              refine WP.seq ?_
              refine WP.region ?_
              refine WPL.val (v_move (v := .int .i64 _) rfl) ?_
              refine WPL.val (v_move (v := .slice _ _ _) rfl) ?_
              refine WPL.val (v_len Try.underlying26 rfl) ?_
              refine WPL.val (v_lss rfl rfl) ?_
              refine WPL.nil (onto_of ?_)
              refine WP.condP rfl (fun h50 => ?_) (fun h50 => ?_)
              ·
                obtain ⟨y, hy⟩ : ∃ y, (PT L 0)[k]? = some y := ⟨_, List.getElem?_eq_getElem (by omega)⟩
                have hyr := (mem_PT0 hP hne).1 (List.mem_of_getElem? hy)
                refine WP.skip (onto_of ?_)
                refine WP.seq ?_
                refine WP.block ?_
                refine WP.seq ?_
                refine WP.region ?_
                refine WPL.val (v_move (v := .slice _ _ _) rfl) ?_
                refine WPL.val (v_move (v := .int .i64 _) rfl) ?_
                refine WPL.val (v_move (v := .slice _ _ _) rfl) ?_
                refine WPL.val (v_move (v := .int .i64 _) rfl) ?_
                refine WPL.val (v_index (j := k) Try.underlying26 Try.sizeOf3 rfl rfl rfl (by omega)) ?_
                refine WPL.val (v_load1 (u := .int .i64 y) Try.isAgg3 rfl (fun w hw => hw.row_at1 (i := 0) (k := k) rfl (by rw [List.getElem?_map, hy]; rfl) (by omega))) ?_
                refine WPL.ef (x_call Try.call21 (inside_ct _ c L hP a y (by omega) hyr.1 hyr.2) [] [0] rfl (fun w hw => hw.rd hz not_foots_nil) (τ := fun _ => [_]) (fun _ => rfl)) (fun bI => ?_)
                refine WPL.fact (fun hbI => ?_)
                have hin : bI = true ↔ pre.length ≤ k ∧ k < pre.length + (PT L a).length := by rw [hbI, UA_LA hP hlay _ y (Nat.le_refl _) hyr.1 hyr.2, ← mem_PT hP _ (Nat.le_refl _)]; exact mid_iff hsplit hnd hy
                refine WPL.nil (onto_of ?_)
                refine WP.cond rfl (fun h59 => ?_) (fun h59 => ?_)
                ·
                  have hmi := hin.1 h59
                  refine WP.seq ?_
                  refine WP.seq ?_
                  refine WP.region ?_
                  refine WPL.val (v_move (v := .int .i64 _) rfl) ?_
                  refine WPL.val (v_lss rfl rfl) ?_
                  refine WPL.nil (onto_of ?_)
                  refine WP.condP rfl (fun h61 => ?_) (fun h61 => ?_)
                  ·
                    
                    refine WP.region ?_
                    refine WPL.val (v_move (v := .int .i64 _) rfl) ?_
                    refine WPL.val (v_assign (v := .int .i64 _) rfl) ?_
                    refine WPL.nil (onto_of ?_)
                    refine WP.seq ?_
                    refine WP.region ?_
                    refine WPL.val (v_move (v := .int .i64 _) rfl) ?_
                    refine WPL.val (v_assign (v := .int .i64 _) rfl) ?_
                    refine WPL.nil (onto_of ?_)
                    refine WP.region ?_
                    refine WPL.val (v_move (v := .int .i64 _) rfl) ?_
                    refine WPL.val (v_add rfl rfl (by omega)) ?_
                    refine WPL.val (v_assign (v := .int .i64 _) rfl) ?_
                    refine WPL.nil (onto_of ?_)
                    refine WP.region ?_
                    refine WPL.val (v_move (v := .int .i64 _) rfl) ?_
                    refine WPL.val (v_add rfl rfl (by omega)) ?_
                    refine WPL.val (v_assign (v := .int .i64 _) rfl) ?_
                    exact WPL.nil fun w hw => ⟨rfl, (k + 1, (k : Int), (k : Int)), (by simp only; omega), ⟨rfl, rfl, rfl, (congrArg (Value.int .i64) (by simp only; omega)), (via (.slice _ _ _) rfl rfl), (via (.int .i64 _) rfl rfl), (via (.bool _) rfl rfl), (via (.slice _ _ _) rfl rfl), trivial⟩, ⟨⟨by simp only; omega, by simp only; omega⟩, (hw.sel [0] (by decide))⟩⟩
                  ·
                    
                    refine WP.skip (onto_of ?_)
                    refine WP.seq ?_
                    refine WP.region ?_
                    refine WPL.val (v_move (v := .int .i64 _) rfl) ?_
                    refine WPL.val (v_assign (v := .int .i64 _) rfl) ?_
                    refine WPL.nil (onto_of ?_)
                    refine WP.region ?_
                    refine WPL.val (v_move (v := .int .i64 _) rfl) ?_
                    refine WPL.val (v_add rfl rfl (by omega)) ?_
                    refine WPL.val (v_assign (v := .int .i64 _) rfl) ?_
                    refine WPL.nil (onto_of ?_)
                    refine WP.region ?_
                    refine WPL.val (v_move (v := .int .i64 _) rfl) ?_
                    refine WPL.val (v_add rfl rfl (by omega)) ?_
                    refine WPL.val (v_assign (v := .int .i64 _) rfl) ?_
                    exact WPL.nil fun w hw => ⟨rfl, (k + 1, f, (k : Int)), (by simp only; omega), ⟨rfl, rfl, rfl, (congrArg (Value.int .i64) (by simp only; omega)), (via (.slice _ _ _) rfl rfl), (via (.int .i64 _) rfl rfl), (via (.bool _) rfl rfl), (via (.slice _ _ _) rfl rfl), trivial⟩, ⟨⟨by simp only; omega, by simp only; omega⟩, (hw.sel [0] (by decide))⟩⟩
                ·
                  have hmi : ¬ (pre.length ≤ k ∧ k < pre.length + (PT L a).length) := fun e => by rw [hin.2 e] at h59; cases h59
                  refine WP.skip (onto_of ?_)
                  refine WP.region ?_
                  refine WPL.val (v_move (v := .int .i64 _) rfl) ?_
                  refine WPL.val (v_add rfl rfl (by omega)) ?_
                  refine WPL.val (v_assign (v := .int .i64 _) rfl) ?_
                  exact WPL.nil fun w hw => ⟨rfl, (k + 1, f, g), (by simp only; omega), ⟨rfl, rfl, rfl, (congrArg (Value.int .i64) (by simp only; omega)), (via (.slice _ _ _) rfl rfl), (via (.int .i64 _) rfl rfl), (via (.bool _) rfl rfl), (via (.slice _ _ _) rfl rfl), trivial⟩, ⟨⟨by simp only; omega, by simp only; omega⟩, (hw.sel [0] (by decide))⟩⟩
              ·
                obtain rfl : k = (PT L 0).length := by omega
                obtain ⟨hf1, hg1⟩ : f = pre.length ∧ g = pre.length + (PT L a).length - 1 := by omega
                refine WP.exit (onto_of ?_)
                refine WP.seq ?_
                refine WP.region ?_
                refine WPL.val (v_move (v := .bool _) rfl) ?_
                refine WPL.val (v_move (v := .bool _) rfl) ?_
                refine WPL.valG (v_move (v := .int .i64 _) rfl) ?_
                refine WPL.valG (v_is (b := true) (v_gtr rfl rfl) (decide_eq_true (by omega))) ?_
                refine WPL.val (v_pickT (u := .bool _) rfl rfl) ?_
                refine WPL.val (v_move (v := .bool _) rfl) ?_
                refine WPL.valG (v_move (v := .int .i64 _) rfl) ?_
                refine WPL.valG (v_move (v := .int .i64 _) rfl) ?_
                refine WPL.valG (v_sub rfl rfl (by omega)) ?_
                refine WPL.valG (v_add rfl rfl (by omega)) ?_
                refine WPL.valG (v_move (v := .int .i64 _) rfl) ?_
                refine WPL.valG (v_is (b := true) (v_eql rfl rfl) (decide_eq_true (by omega))) ?_
                refine WPL.val (v_pickT (u := .bool _) rfl rfl) ?_
                refine WPL.val (v_move (v := .bool _) rfl) ?_
                refine WPL.valG (v_move (v := .slice _ _ _) rfl) ?_
                refine WPL.valG (v_move (v := .int .i64 _) rfl) ?_
                refine WPL.valG (v_index (j := pre.length) Try.underlying26 Try.sizeOf3 rfl rfl hf1 (by omega)) ?_
                refine WPL.valG (v_load1 (u := .int .i64 a) Try.isAgg3 rfl (fun w hw => hw.row_at1 (i := 0) (k := pre.length) (u := .int .i64 a) rfl (by rw [List.getElem?_map, hat]; rfl) (by omega))) ?_
                refine WPL.valG (v_move (v := .int .i64 _) rfl) ?_
                refine WPL.valG (v_is (b := true) (v_eql rfl rfl) (decide_eq_true rfl)) ?_
                refine WPL.val (v_pickT (u := .bool _) rfl rfl) ?_
                refine WPL.val (v_assign (v := .bool _) rfl) ?_
                refine WPL.nil (onto_of ?_)
                exact WP.ret1 Try.results5 (fun _ h => h) (fun w hw => ⟨(), rfl, trivial, hw.sel [] (by decide)⟩)
          ·
            refine WPL.skipG ?_
            refine WPL.skipG ?_
            refine WPL.skipG ?_
            refine WPL.skipG ?_
            refine WPL.skipG ?_
            refine WPL.skipG ?_
            refine WPL.valG (v_pickF (v := .bool _) rfl rfl) ?_
            refine WPL.val (v_pickF (v := .bool _) rfl rfl) ?_
            refine WPL.nil (onto_of ?_)
            have hlay : a = 0 ∨ layP L a = true := .inl (by omega)
            have hok : okP L = true := by simpa using h22
            have hP := okP_pv hok
            have hne : L ≠ [] := fun e => by have h9 : L.length = 0 := (by rw [e]; rfl); omega
            have hL : L.length ≤ 1000 := by omega
            have hlen := PT0_len hP hne
            have hpos := List.length_pos_iff.2 hne
            have hnd := PT_nodup hP _ 0 (Nat.le_refl _)
            obtain ⟨pre, suf, hsplit⟩ := PT_infix hP (LA.root hP _ a (Nat.le_refl _) (by omega) (by omega))
            have hm0 : 0 < (PT L a).length := by rw [PT_eq hP]; simp
            have htot : pre.length + (PT L a).length + suf.length = (PT L 0).length := by rw [← hsplit]; simp; omega
            have hat : (PT L 0)[pre.length]? = some a := by rw [← hsplit, List.append_assoc, List.getElem?_append_right (Nat.le_refl _), Nat.sub_self, PT_eq hP a]; rfl
            refine WP.condF rfl ?_
            refine WP.skip (onto_of ?_)
            refine WP.seq ?_
            refine WP.region ?_
            refine WPL.val (v_move (v := .slice _ _ _) rfl) ?_
            refine WPL.ef (x_call Try.call16 (orderP_ct _ c L hL hcap hok hne) [] [] rfl (fun w hw => hw.rd hz not_foots_nil) (τ := fun _ => [_]) (fun _ => rfl)) (fun ⟨oA, oc⟩ => ?_)
            refine WPL.fact (fun _ => ?_)
            refine WPL.val (v_assign (v := .slice _ _ _) rfl) ?_
            refine WPL.nil (onto_of ?_)
            refine WP.seq ?_
            refine WP.holds (fun w hw => hw.row_pos (i := 0) rfl (by omega)) (fun ⟨lb, hA⟩ => ?_)
            subst hA
            refine WP.region ?_
            refine WPL.val (v_assign (v := .int .i64 (-1)) rfl) ?_
            refine WPL.nil (onto_of ?_)
            refine WP.seq ?_
            refine WP.region ?_
            refine WPL.val (v_assign (v := .int .i64 (-1)) rfl) ?_
            refine WPL.nil (onto_of ?_)
            refine WP.seq ?_
            refine WP.region ?_
            refine WPL.val (v_assign (v := .int .i64 (0)) rfl) ?_
            refine WPL.nil (onto_of ?_)
            refine WP.seq ?_
            refine WP.seq ?_
            refine WP.region ?_
            refine WPL.val (v_assign (v := .int .i64 (0)) rfl) ?_
            refine WPL.nil (onto_of ?_)
            refine WP.block ?_
            refine WP.loopK (X := Nat × Int × Int) [0, 1, 5, 6] (fun p => [(10, .int .i64 (p.1 : Int)), (7, .int .i64 p.2.1), (8, .int .i64 p.2.2), (9, .int .i64 (((min (p.1 - pre.length) (PT L a).length) : Nat) : Int))]) (fun p w => (p.1 ≤ (PT L 0).length ∧ (((min (p.1 - pre.length) (PT L a).length) = 0 ∧ p.2.1 = -1 ∧ p.2.2 = -1) ∨ (0 < (min (p.1 - pre.length) (PT L a).length) ∧ p.2.1 = pre.length ∧ p.2.2 = pre.length + ((min (p.1 - pre.length) (PT L a).length) : Nat) - 1))) ∧ St w0 (foots []) [kidsI (some ⟨lb, 0, none⟩) (PT L 0).length oc (PT L 0)] w) (fun p => (PT L 0).length - p.1) (0, -1, -1) ⟨rfl, rfl, rfl, (by show Value.int .i64 0 = _; congr 1; simp), trivial⟩ (fun w hw => ⟨⟨Nat.zero_le _, .inl ⟨by simp, rfl, rfl⟩⟩, (hw.sel [0] (by decide))⟩) (fun p ρ0 => ?_)
            obtain ⟨k, f, g⟩ := p
            dsimp only
            refine WP.fact (fun ⟨hkl, hfg⟩ => ?_)
            refine WP.seq ?_
            refine WP.seq ?_
            refine WP.region ?_
            refine WPL.val (v_move (v := .int .i64 _) rfl) ?_
            refine WPL.val (v_move (v := .slice _ _ _) rfl) ?_
            refine WPL.val (v_len Try.underlying26 rfl) ?_
            refine WPL.val (v_lss rfl rfl) ?_
            refine WPL.nil (onto_of ?_)
            refine WP.condP rfl (fun h50 => ?_) (fun h50 => ?_)
            ·
              obtain ⟨y, hy⟩ : ∃ y, (PT L 0)[k]? = some y := ⟨_, List.getElem?_eq_getElem (by omega)⟩
              have hyr := (mem_PT0 hP hne).1 (List.mem_of_getElem? hy)
              refine WP.skip (onto_of ?_)
              refine WP.seq ?_
              refine WP.block ?_
              refine WP.seq ?_
              refine WP.region ?_
              refine WPL.val (v_move (v := .slice _ _ _) rfl) ?_
              refine WPL.val (v_move (v := .int .i64 _) rfl) ?_
              refine WPL.val (v_move (v := .slice _ _ _) rfl) ?_
              refine WPL.val (v_move (v := .int .i64 _) rfl) ?_
              refine WPL.val (v_index (j := k) Try.underlying26 Try.sizeOf3 rfl rfl rfl (by omega)) ?_
              refine WPL.val (v_load1 (u := .int .i64 y) Try.isAgg3 rfl (fun w hw => hw.row_at1 (i := 0) (k := k) rfl (by rw [List.getElem?_map, hy]; rfl) (by omega))) ?_
              refine WPL.ef (x_call Try.call21 (inside_ct _ c L hP a y (by omega) hyr.1 hyr.2) [] [0] rfl (fun w hw => hw.rd hz not_foots_nil) (τ := fun _ => [_]) (fun _ => rfl)) (fun bI => ?_)
              refine WPL.fact (fun hbI => ?_)
              have hin : bI = true ↔ pre.length ≤ k ∧ k < pre.length + (PT L a).length := by rw [hbI, UA_LA hP hlay _ y (Nat.le_refl _) hyr.1 hyr.2, ← mem_PT hP _ (Nat.le_refl _)]; exact mid_iff hsplit hnd hy
              refine WPL.nil (onto_of ?_)
              refine WP.cond rfl (fun h59 => ?_) (fun h59 => ?_)
              ·
                have hmi := hin.1 h59
                refine WP.seq ?_
                refine WP.seq ?_
                refine WP.region ?_
                refine WPL.val (v_move (v := .int .i64 _) rfl) ?_
                refine WPL.val (v_lss rfl rfl) ?_
                refine WPL.nil (onto_of ?_)
                refine WP.condP rfl (fun h61 => ?_) (fun h61 => ?_)
                ·
                  
                  refine WP.region ?_
                  refine WPL.val (v_move (v := .int .i64 _) rfl) ?_
                  refine WPL.val (v_assign (v := .int .i64 _) rfl) ?_
                  refine WPL.nil (onto_of ?_)
                  refine WP.seq ?_
                  refine WP.region ?_
                  refine WPL.val (v_move (v := .int .i64 _) rfl) ?_
                  refine WPL.val (v_assign (v := .int .i64 _) rfl) ?_
                  refine WPL.nil (onto_of ?_)
                  refine WP.region ?_
                  refine WPL.val (v_move (v := .int .i64 _) rfl) ?_
                  refine WPL.val (v_add rfl rfl (by omega)) ?_
                  refine WPL.val (v_assign (v := .int .i64 _) rfl) ?_
                  refine WPL.nil (onto_of ?_)
                  refine WP.region ?_
                  refine WPL.val (v_move (v := .int .i64 _) rfl) ?_
                  refine WPL.val (v_add rfl rfl (by omega)) ?_
                  refine WPL.val (v_assign (v := .int .i64 _) rfl) ?_
                  exact WPL.nil fun w hw => ⟨rfl, (k + 1, (k : Int), (k : Int)), (by simp only; omega), ⟨rfl, rfl, rfl, (congrArg (Value.int .i64) (by simp only; omega)), (via (.slice _ _ _) rfl rfl), (via (.int .i64 _) rfl rfl), (via (.bool _) rfl rfl), (via (.slice _ _ _) rfl rfl), trivial⟩, ⟨⟨by simp only; omega, by simp only; omega⟩, (hw.sel [0] (by decide))⟩⟩
                ·
                  
                  refine WP.skip (onto_of ?_)
                  refine WP.seq ?_
                  refine WP.region ?_
                  refine WPL.val (v_move (v := .int .i64 _) rfl) ?_
                  refine WPL.val (v_assign (v := .int .i64 _) rfl) ?_
                  refine WPL.nil (onto_of ?_)
                  refine WP.region ?_
                  refine WPL.val (v_move (v := .int .i64 _) rfl) ?_
                  refine WPL.val (v_add rfl rfl (by omega)) ?_
                  refine WPL.val (v_assign (v := .int .i64 _) rfl) ?_
                  refine WPL.nil (onto_of ?_)
                  refine WP.region ?_
                  refine WPL.val (v_move (v := .int .i64 _) rfl) ?_
                  refine WPL.val (v_add rfl rfl (by omega)) ?_
                  refine WPL.val (v_assign (v := .int .i64 _) rfl) ?_
                  exact WPL.nil fun w hw => ⟨rfl, (k + 1, f, (k : Int)), (by simp only; omega), ⟨rfl, rfl, rfl, (congrArg (Value.int .i64) (by simp only; omega)), (via (.slice _ _ _) rfl rfl), (via (.int .i64 _) rfl rfl), (via (.bool _) rfl rfl), (via (.slice _ _ _) rfl rfl), trivial⟩, ⟨⟨by simp only; omega, by simp only; omega⟩, (hw.sel [0] (by decide))⟩⟩
              ·
                have hmi : ¬ (pre.length ≤ k ∧ k < pre.length + (PT L a).length) := fun e => by rw [hin.2 e] at h59; cases h59
                refine WP.skip (onto_of ?_)
                refine WP.region ?_
                refine WPL.val (v_move (v := .int .i64 _) rfl) ?_
                refine WPL.val (v_add rfl rfl (by omega)) ?_
                refine WPL.val (v_assign (v := .int .i64 _) rfl) ?_
                exact WPL.nil fun w hw => ⟨rfl, (k + 1, f, g), (by simp only; omega), ⟨rfl, rfl, rfl, (congrArg (Value.int .i64) (by simp only; omega)), (via (.slice _ _ _) rfl rfl), (via (.int .i64 _) rfl rfl), (via (.bool _) rfl rfl), (via (.slice _ _ _) rfl rfl), trivial⟩, ⟨⟨by simp only; omega, by simp only; omega⟩, (hw.sel [0] (by decide))⟩⟩
            ·
              obtain rfl : k = (PT L 0).length := by omega
              obtain ⟨hf1, hg1⟩ : f = pre.length ∧ g = pre.length + (PT L a).length - 1 := by omega
              refine WP.exit (onto_of ?_)
              refine WP.seq ?_
              refine WP.region ?_
              refine WPL.val (v_move (v := .bool _) rfl) ?_
              refine WPL.val (v_move (v := .bool _) rfl) ?_
              refine WPL.valG (v_move (v := .int .i64 _) rfl) ?_
              refine WPL.valG (v_is (b := true) (v_gtr rfl rfl) (decide_eq_true (by omega))) ?_
              refine WPL.val (v_pickT (u := .bool _) rfl rfl) ?_
              refine WPL.val (v_move (v := .bool _) rfl) ?_
              refine WPL.valG (v_move (v := .int .i64 _) rfl) ?_
              refine WPL.valG (v_move (v := .int .i64 _) rfl) ?_
              refine WPL.valG (v_sub rfl rfl (by omega)) ?_
              refine WPL.valG (v_add rfl rfl (by omega)) ?_
              refine WPL.valG (v_move (v := .int .i64 _) rfl) ?_
              refine WPL.valG (v_is (b := true) (v_eql rfl rfl) (decide_eq_true (by omega))) ?_
              refine WPL.val (v_pickT (u := .bool _) rfl rfl) ?_
              refine WPL.val (v_move (v := .bool _) rfl) ?_
              refine WPL.valG (v_move (v := .slice _ _ _) rfl) ?_
              refine WPL.valG (v_move (v := .int .i64 _) rfl) ?_
              refine WPL.valG (v_index (j := pre.length) Try.underlying26 Try.sizeOf3 rfl rfl hf1 (by omega)) ?_
              refine WPL.valG (v_load1 (u := .int .i64 a) Try.isAgg3 rfl (fun w hw => hw.row_at1 (i := 0) (k := pre.length) (u := .int .i64 a) rfl (by rw [List.getElem?_map, hat]; rfl) (by omega))) ?_
              refine WPL.valG (v_move (v := .int .i64 _) rfl) ?_
              refine WPL.valG (v_is (b := true) (v_eql rfl rfl) (decide_eq_true rfl)) ?_
              refine WPL.val (v_pickT (u := .bool _) rfl rfl) ?_
              refine WPL.val (v_assign (v := .bool _) rfl) ?_
              refine WPL.nil (onto_of ?_)
              exact WP.ret1 Try.results5 (fun _ h => h) (fun w hw => ⟨(), rfl, trivial, hw.sel [] (by decide)⟩)
end Go.Proofs.Ytmjdmlgdffoimab
