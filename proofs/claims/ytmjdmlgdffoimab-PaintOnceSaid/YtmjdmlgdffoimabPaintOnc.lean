/- PaintOnce. -/
import Derived.Test.YtmjdmlgdffoimabPaintOrs
namespace Go.Proofs.Ytmjdmlgdffoimab
open Go.RowKit

def seenV (n : Nat) (ps : List Int) : List Value := (List.range n).map fun j : Nat => .bool (decide ((j : Int) ∈ ps))
theorem seenV_nil (n : Nat) : seenV n [] = List.replicate n (.bool false) := by
  unfold seenV
  rw [List.eq_replicate_iff]
  refine ⟨by simp, fun v hv => ?_⟩
  obtain ⟨x, _, rfl⟩ := List.mem_map.1 hv
  simp
theorem seenV_at {n m : Nat} (ps : List Int) (h : m < n) : (seenV n ps)[m]? = some (.bool (decide ((m : Int) ∈ ps))) := by
  unfold seenV
  rw [List.getElem?_map, List.getElem?_range h]; rfl
theorem seenV_set {n m : Nat} (ps : List Int) (h : m < n) : (seenV n ps).set m (.bool true) = seenV n (ps ++ [(m : Int)]) := by
  apply List.ext_getElem?
  intro k
  rw [List.getElem?_set]
  by_cases hk : m = k
  · subst hk
    rw [if_pos rfl, if_pos (by unfold seenV; simp; exact h), seenV_at _ h]
    simp
  · rw [if_neg hk]
    by_cases h2 : k < n
    · rw [seenV_at _ h2, seenV_at _ h2]
      have hne : (k : Int) ≠ m := by omega
      simp [hne]
    · rw [List.getElem?_eq_none (by unfold seenV; simp; omega), List.getElem?_eq_none (by unfold seenV; simp; omega)]
theorem bef_cmpT {o : List Int} {a b : Int} (h : befP o a b = true) : (true == decide (a ≠ b)) = true := by
  have := bef_ne h
  simp [this]
theorem bef_cmpF {o : List Int} {a b : Int} (ha : a ∈ o) (hb : b ∈ o) (h : befP o a b = false) : (befP o b a == decide (a ≠ b)) = true := by
  by_cases e : a = b
  · subst e
    rw [h]; simp
  · rw [bef_tot ha hb e h]
    simp [e]
theorem not_take {l : List Int} (hn : l.Nodup) {k : Nat} {y : Int} (h : l[k]? = some y) : y ∉ l.take k := fun hm => by
  obtain ⟨j, hj⟩ := List.getElem?_of_mem hm
  rw [List.getElem?_take] at hj
  split at hj
  · obtain ⟨l1, e1⟩ := List.getElem?_eq_some_iff.1 hj
    obtain ⟨l2, e2⟩ := List.getElem?_eq_some_iff.1 h
    have := (List.getElem_inj hn).1 (e1.trans e2.symm)
    omega
  · cases hj
theorem info4b : (Try.prog.info? 4).map (fun i => (i.zero, i.size, i.bytes)) = some (some (.bool false), 1, 1) := by kernel_rfl
set_option maxHeartbeats 2000000 in
theorem lawOnce_ct (A : Option Addr) (c : Nat) (L : List PN) (hcap : L.length ≤ c) (a b e : Int) : Ct Try.prog 4 #[.slice A L.length c, .int .i64 a, .int .i64 b, .int .i64 e] [] (fun w => RdN w A L) (X := Unit) (fun _ => .bool true) (fun _ => True) (fun _ => []) := by
  refine Ct.intro Try.func4 rfl Try.ntmps4 (by simp) (fun w0 hz => ?_)
  refine WP.seq ?_
  refine WP.region ?_
  refine WPL.val (v_assign (v := .bool false) rfl) ?_
  refine WPL.nil (onto_of ?_)
  refine WP.seq ?_
  refine WP.region ?_
  refine WPL.ef (x_call Try.call10 works_ct [] [] rfl (fun w hw => trivial) (τ := fun _ => []) (fun _ => rfl)) (fun _ => ?_)
  refine WPL.fact (fun _ => ?_)
  refine WPL.val (v_assign (v := .bool _) rfl) ?_
  refine WPL.nil (onto_of ?_)
  refine WP.seq ?_
  refine WP.seq ?_
  refine WP.region ?_
  refine WPL.val (v_move (v := .bool _) rfl) ?_
  refine WPL.val (v_not rfl) ?_
  refine WPL.nil (onto_of ?_)
  refine WP.condF rfl ?_
  refine WP.skip (onto_of ?_)
  refine WP.seq ?_
  refine WP.seq ?_
  refine WP.region ?_
  refine WPL.val (v_move (v := .slice _ _ _) rfl) ?_
  refine WPL.val (v_len Try.underlying22 rfl) ?_
  refine WPL.val (v_gtr rfl rfl) ?_
  refine WPL.val (v_move (v := .bool _) rfl) ?_
  refine WPL.split 22 rfl (fun h22 => ?_) (fun h22 => ?_)
  ·
    refine WPL.skipG ?_
    refine WPL.skipG ?_
    refine WPL.skipG ?_
    refine WPL.val (v_pickT (u := .bool _) rfl rfl) ?_
    refine WPL.val (v_move (v := .bool _) rfl) ?_
    refine WPL.skipG ?_
    refine WPL.skipG ?_
    refine WPL.val (v_pickT (u := .bool _) rfl rfl) ?_
    refine WPL.val (v_move (v := .bool _) rfl) ?_
    refine WPL.skipG ?_
    refine WPL.skipG ?_
    refine WPL.skipG ?_
    refine WPL.skipG ?_
    refine WPL.val (v_pickT (u := .bool _) rfl rfl) ?_
    refine WPL.val (v_move (v := .bool _) rfl) ?_
    refine WPL.skipG ?_
    refine WPL.skipG ?_
    refine WPL.val (v_pickT (u := .bool _) rfl rfl) ?_
    refine WPL.val (v_move (v := .bool _) rfl) ?_
    refine WPL.skipG ?_
    refine WPL.skipG ?_
    refine WPL.skipG ?_
    refine WPL.skipG ?_
    refine WPL.val (v_pickT (u := .bool _) rfl rfl) ?_
    refine WPL.val (v_move (v := .bool _) rfl) ?_
    refine WPL.skipG ?_
    refine WPL.skipG ?_
    refine WPL.val (v_pickT (u := .bool _) rfl rfl) ?_
    refine WPL.val (v_move (v := .bool _) rfl) ?_
    refine WPL.skipG ?_
    refine WPL.skipG ?_
    refine WPL.skipG ?_
    refine WPL.skipG ?_
    refine WPL.val (v_pickT (u := .bool _) rfl rfl) ?_
    refine WPL.nil (onto_of ?_)
    refine WP.condT rfl ?_
    refine WP.seq ?_
    refine WP.region ?_
    refine WPL.val (v_move (v := .bool _) rfl) ?_
    refine WPL.val (v_assign (v := .bool _) rfl) ?_
    refine WPL.nil (onto_of ?_)
    exact WP.ret1 Try.results4 (fun _ h => h) (fun w hw => ⟨(), rfl, trivial, hw.sel [] (by decide)⟩)
  ·
    refine WPL.valG (v_move (v := .slice _ _ _) rfl) ?_
    refine WPL.efG (x_call Try.call17 (valid_ct A c L (by omega)) [] [] rfl (fun w hw => hw.rd hz not_foots_nil) (τ := fun _ => []) (fun _ => rfl)) (fun _ => ?_)
    refine WPL.fact (fun _ => ?_)
    refine WPL.valG (v_not rfl) ?_
    refine WPL.val (v_pickF (v := .bool _) rfl rfl) ?_
    refine WPL.val (v_move (v := .bool _) rfl) ?_
    refine WPL.splitB 27 rfl (fun h27 => ?_) (fun h27 => ?_)
    ·
      refine WPL.skipG ?_
      refine WPL.skipG ?_
      refine WPL.val (v_pickT (u := .bool _) rfl rfl) ?_
      refine WPL.val (v_move (v := .bool _) rfl) ?_
      refine WPL.skipG ?_
      refine WPL.skipG ?_
      refine WPL.skipG ?_
      refine WPL.skipG ?_
      refine WPL.val (v_pickT (u := .bool _) rfl rfl) ?_
      refine WPL.val (v_move (v := .bool _) rfl) ?_
      refine WPL.skipG ?_
      refine WPL.skipG ?_
      refine WPL.val (v_pickT (u := .bool _) rfl rfl) ?_
      refine WPL.val (v_move (v := .bool _) rfl) ?_
      refine WPL.skipG ?_
      refine WPL.skipG ?_
      refine WPL.skipG ?_
      refine WPL.skipG ?_
      refine WPL.val (v_pickT (u := .bool _) rfl rfl) ?_
      refine WPL.val (v_move (v := .bool _) rfl) ?_
      refine WPL.skipG ?_
      refine WPL.skipG ?_
      refine WPL.val (v_pickT (u := .bool _) rfl rfl) ?_
      refine WPL.val (v_move (v := .bool _) rfl) ?_
      refine WPL.skipG ?_
      refine WPL.skipG ?_
      refine WPL.skipG ?_
      refine WPL.skipG ?_
      refine WPL.val (v_pickT (u := .bool _) rfl rfl) ?_
      refine WPL.nil (onto_of ?_)
      refine WP.condT rfl ?_
      refine WP.seq ?_
      refine WP.region ?_
      refine WPL.val (v_move (v := .bool _) rfl) ?_
      refine WPL.val (v_assign (v := .bool _) rfl) ?_
      refine WPL.nil (onto_of ?_)
      exact WP.ret1 Try.results4 (fun _ h => h) (fun w hw => ⟨(), rfl, trivial, hw.sel [] (by decide)⟩)
    ·
      refine WPL.valG (v_move (v := .int .i64 _) rfl) ?_
      refine WPL.valG (v_lss rfl rfl) ?_
      refine WPL.val (v_pickF (v := .bool _) rfl rfl) ?_
      refine WPL.val (v_move (v := .bool _) rfl) ?_
      refine WPL.split 31 rfl (fun h31 => ?_) (fun h31 => ?_)
      ·
        refine WPL.skipG ?_
        refine WPL.skipG ?_
        refine WPL.skipG ?_
        refine WPL.skipG ?_
        refine WPL.val (v_pickT (u := .bool _) rfl rfl) ?_
        refine WPL.val (v_move (v := .bool _) rfl) ?_
        refine WPL.skipG ?_
        refine WPL.skipG ?_
        refine WPL.val (v_pickT (u := .bool _) rfl rfl) ?_
        refine WPL.val (v_move (v := .bool _) rfl) ?_
        refine WPL.skipG ?_
        refine WPL.skipG ?_
        refine WPL.skipG ?_
        refine WPL.skipG ?_
        refine WPL.val (v_pickT (u := .bool _) rfl rfl) ?_
        refine WPL.val (v_move (v := .bool _) rfl) ?_
        refine WPL.skipG ?_
        refine WPL.skipG ?_
        refine WPL.val (v_pickT (u := .bool _) rfl rfl) ?_
        refine WPL.val (v_move (v := .bool _) rfl) ?_
        refine WPL.skipG ?_
        refine WPL.skipG ?_
        refine WPL.skipG ?_
        refine WPL.skipG ?_
        refine WPL.val (v_pickT (u := .bool _) rfl rfl) ?_
        refine WPL.nil (onto_of ?_)
        refine WP.condT rfl ?_
        refine WP.seq ?_
        refine WP.region ?_
        refine WPL.val (v_move (v := .bool _) rfl) ?_
        refine WPL.val (v_assign (v := .bool _) rfl) ?_
        refine WPL.nil (onto_of ?_)
        exact WP.ret1 Try.results4 (fun _ h => h) (fun w hw => ⟨(), rfl, trivial, hw.sel [] (by decide)⟩)
      ·
        refine WPL.valG (v_move (v := .int .i64 _) rfl) ?_
        refine WPL.valG (v_move (v := .slice _ _ _) rfl) ?_
        refine WPL.valG (v_len Try.underlying22 rfl) ?_
        refine WPL.valG (v_geq rfl rfl) ?_
        refine WPL.val (v_pickF (v := .bool _) rfl rfl) ?_
        refine WPL.val (v_move (v := .bool _) rfl) ?_
        refine WPL.split 37 rfl (fun h37 => ?_) (fun h37 => ?_)
        ·
          refine WPL.skipG ?_
          refine WPL.skipG ?_
          refine WPL.val (v_pickT (u := .bool _) rfl rfl) ?_
          refine WPL.val (v_move (v := .bool _) rfl) ?_
          refine WPL.skipG ?_
          refine WPL.skipG ?_
          refine WPL.skipG ?_
          refine WPL.skipG ?_
          refine WPL.val (v_pickT (u := .bool _) rfl rfl) ?_
          refine WPL.val (v_move (v := .bool _) rfl) ?_
          refine WPL.skipG ?_
          refine WPL.skipG ?_
          refine WPL.val (v_pickT (u := .bool _) rfl rfl) ?_
          refine WPL.val (v_move (v := .bool _) rfl) ?_
          refine WPL.skipG ?_
          refine WPL.skipG ?_
          refine WPL.skipG ?_
          refine WPL.skipG ?_
          refine WPL.val (v_pickT (u := .bool _) rfl rfl) ?_
          refine WPL.nil (onto_of ?_)
          refine WP.condT rfl ?_
          refine WP.seq ?_
          refine WP.region ?_
          refine WPL.val (v_move (v := .bool _) rfl) ?_
          refine WPL.val (v_assign (v := .bool _) rfl) ?_
          refine WPL.nil (onto_of ?_)
          exact WP.ret1 Try.results4 (fun _ h => h) (fun w hw => ⟨(), rfl, trivial, hw.sel [] (by decide)⟩)
        ·
          refine WPL.valG (v_move (v := .int .i64 _) rfl) ?_
          refine WPL.valG (v_lss rfl rfl) ?_
          refine WPL.val (v_pickF (v := .bool _) rfl rfl) ?_
          refine WPL.val (v_move (v := .bool _) rfl) ?_
          refine WPL.split 41 rfl (fun h41 => ?_) (fun h41 => ?_)
          ·
            refine WPL.skipG ?_
            refine WPL.skipG ?_
            refine WPL.skipG ?_
            refine WPL.skipG ?_
            refine WPL.val (v_pickT (u := .bool _) rfl rfl) ?_
            refine WPL.val (v_move (v := .bool _) rfl) ?_
            refine WPL.skipG ?_
            refine WPL.skipG ?_
            refine WPL.val (v_pickT (u := .bool _) rfl rfl) ?_
            refine WPL.val (v_move (v := .bool _) rfl) ?_
            refine WPL.skipG ?_
            refine WPL.skipG ?_
            refine WPL.skipG ?_
            refine WPL.skipG ?_
            refine WPL.val (v_pickT (u := .bool _) rfl rfl) ?_
            refine WPL.nil (onto_of ?_)
            refine WP.condT rfl ?_
            refine WP.seq ?_
            refine WP.region ?_
            refine WPL.val (v_move (v := .bool _) rfl) ?_
            refine WPL.val (v_assign (v := .bool _) rfl) ?_
            refine WPL.nil (onto_of ?_)
            exact WP.ret1 Try.results4 (fun _ h => h) (fun w hw => ⟨(), rfl, trivial, hw.sel [] (by decide)⟩)
          ·
            refine WPL.valG (v_move (v := .int .i64 _) rfl) ?_
            refine WPL.valG (v_move (v := .slice _ _ _) rfl) ?_
            refine WPL.valG (v_len Try.underlying22 rfl) ?_
            refine WPL.valG (v_geq rfl rfl) ?_
            refine WPL.val (v_pickF (v := .bool _) rfl rfl) ?_
            refine WPL.val (v_move (v := .bool _) rfl) ?_
            refine WPL.split 47 rfl (fun h47 => ?_) (fun h47 => ?_)
            ·
              refine WPL.skipG ?_
              refine WPL.skipG ?_
              refine WPL.val (v_pickT (u := .bool _) rfl rfl) ?_
              refine WPL.val (v_move (v := .bool _) rfl) ?_
              refine WPL.skipG ?_
              refine WPL.skipG ?_
              refine WPL.skipG ?_
              refine WPL.skipG ?_
              refine WPL.val (v_pickT (u := .bool _) rfl rfl) ?_
              refine WPL.nil (onto_of ?_)
              refine WP.condT rfl ?_
              refine WP.seq ?_
              refine WP.region ?_
              refine WPL.val (v_move (v := .bool _) rfl) ?_
              refine WPL.val (v_assign (v := .bool _) rfl) ?_
              refine WPL.nil (onto_of ?_)
              exact WP.ret1 Try.results4 (fun _ h => h) (fun w hw => ⟨(), rfl, trivial, hw.sel [] (by decide)⟩)
            ·
              refine WPL.valG (v_move (v := .int .i64 _) rfl) ?_
              refine WPL.valG (v_lss rfl rfl) ?_
              refine WPL.val (v_pickF (v := .bool _) rfl rfl) ?_
              refine WPL.val (v_move (v := .bool _) rfl) ?_
              refine WPL.split 51 rfl (fun h51 => ?_) (fun h51 => ?_)
              ·
                refine WPL.skipG ?_
                refine WPL.skipG ?_
                refine WPL.skipG ?_
                refine WPL.skipG ?_
                refine WPL.val (v_pickT (u := .bool _) rfl rfl) ?_
                refine WPL.nil (onto_of ?_)
                refine WP.condT rfl ?_
                refine WP.seq ?_
                refine WP.region ?_
                refine WPL.val (v_move (v := .bool _) rfl) ?_
                refine WPL.val (v_assign (v := .bool _) rfl) ?_
                refine WPL.nil (onto_of ?_)
                exact WP.ret1 Try.results4 (fun _ h => h) (fun w hw => ⟨(), rfl, trivial, hw.sel [] (by decide)⟩)
              ·
                refine WPL.valG (v_move (v := .int .i64 _) rfl) ?_
                refine WPL.valG (v_move (v := .slice _ _ _) rfl) ?_
                refine WPL.valG (v_len Try.underlying22 rfl) ?_
                refine WPL.valG (v_geq rfl rfl) ?_
                refine WPL.val (v_pickF (v := .bool _) rfl rfl) ?_
                refine WPL.nil (onto_of ?_)
                refine WP.condP rfl (fun h56 => ?_) (fun h56 => ?_)
                ·
                  refine WP.seq ?_
                  refine WP.region ?_
                  refine WPL.val (v_move (v := .bool _) rfl) ?_
                  refine WPL.val (v_assign (v := .bool _) rfl) ?_
                  refine WPL.nil (onto_of ?_)
                  exact WP.ret1 Try.results4 (fun _ h => h) (fun w hw => ⟨(), rfl, trivial, hw.sel [] (by decide)⟩)
                ·
                  have hok : okP L = true := by simpa using h27
                  have hP := okP_pv hok
                  have hne : L ≠ [] := fun e => by rw [e] at h56; simp at h56; omega
                  have hL : L.length ≤ 1000 := by omega
                  have hlen := PT0_len hP hne
                  have hpos := List.length_pos_iff.2 hne
                  have hnd := PT_nodup hP _ 0 (Nat.le_refl _)
                  have hma : a ∈ PT L 0 := (mem_PT0 hP hne).2 (by omega)
                  have hmb : b ∈ PT L 0 := (mem_PT0 hP hne).2 (by omega)
                  refine WP.skip (onto_of ?_)
                  refine WP.seq ?_
                  refine WP.region ?_
                  refine WPL.val (v_move (v := .slice _ _ _) rfl) ?_
                  refine WPL.ef (x_call Try.call16 (orderP_ct A c L hL hcap hok hne) [] [] rfl (fun w hw => hw.rd hz not_foots_nil) (τ := fun _ => [_]) (fun _ => rfl)) (fun ⟨oA, oc⟩ => ?_)
                  refine WPL.fact (fun _ => ?_)
                  refine WPL.val (v_assign (v := .slice _ _ _) rfl) ?_
                  refine WPL.nil (onto_of ?_)
                  refine WP.seq ?_
                  refine WP.region ?_
                  refine WPL.val (v_move (v := .slice _ _ _) rfl) ?_
                  refine WPL.val (v_len Try.underlying22 rfl) ?_
                  refine WPL.ef (x_make1 (n := L.length) (σ' := fun _ => [_, _]) Try.underlying36 info4b rfl rfl rfl rfl rfl (by omega) (by omega) (fun _ => rfl)) (fun g62 => ?_)
                  refine WPL.val (v_assign (v := .slice _ _ _) rfl) ?_
                  refine WPL.nil (onto_of ?_)
                  refine WP.seq ?_
                  refine WP.seq ?_
                  refine WP.holds (fun w hw => hw.row_pos (i := 0) rfl (by omega)) (fun ⟨lb, hA⟩ => ?_)
                  subst hA
                  
                  refine WP.region ?_
                  refine WPL.val (v_assign (v := .int .i64 (0)) rfl) ?_
                  refine WPL.nil (onto_of ?_)
                  refine WP.block ?_
                  refine WP.loopK (X := Nat) [0, 1, 2, 3, 9, 10, 11] (fun k => [(12, .int .i64 (k : Int))]) (fun k w => k ≤ (PT L 0).length ∧ St w0 (foots []) [kidsI (some ⟨lb, 0, none⟩) (PT L 0).length oc (PT L 0), .row 4 1 (some ⟨g62, 0, none⟩) L.length L.length (seenV L.length ((PT L 0).take k))] w) (fun k => (PT L 0).length - k) 0 ⟨rfl, trivial⟩ (fun w hw => ⟨Nat.zero_le _, by rw [List.take_zero, seenV_nil]; exact (hw.sel [0, 1] (by decide))⟩) (fun k ρ0 => ?_)
                  refine WP.fact (fun hkl => ?_)
                  refine WP.seq ?_
                  refine WP.seq ?_
                  refine WP.region ?_
                  refine WPL.val (v_move (v := .int .i64 _) rfl) ?_
                  refine WPL.val (v_move (v := .slice _ _ _) rfl) ?_
                  refine WPL.val (v_len Try.underlying26 rfl) ?_
                  refine WPL.val (v_lss rfl rfl) ?_
                  refine WPL.nil (onto_of ?_)
                  refine WP.condP rfl (fun h66 => ?_) (fun h66 => ?_)
                  ·
                    obtain ⟨y, hy⟩ : ∃ y, (PT L 0)[k]? = some y := ⟨_, List.getElem?_eq_getElem (by omega)⟩
                    have hyr := (mem_PT0 hP hne).1 (List.mem_of_getElem? hy)
                    have hnm := not_take hnd hy
                    obtain ⟨m, rfl⟩ : ∃ m : Nat, y = m := ⟨y.toNat, by omega⟩
                    refine WP.skip (onto_of ?_)
                    refine WP.seq ?_
                    refine WP.block ?_
                    refine WP.seq ?_
                    refine WP.seq ?_
                    refine WP.region ?_
                    refine WPL.val (v_move (v := .slice _ _ _) rfl) ?_
                    refine WPL.val (v_move (v := .int .i64 _) rfl) ?_
                    refine WPL.val (v_index (j := k) Try.underlying26 Try.sizeOf3 rfl rfl rfl (by omega)) ?_
                    refine WPL.val (v_load1 (u := .int .i64 (m : Int)) Try.isAgg3 rfl (fun w hw => hw.row_at1 (i := 0) (k := k) rfl (by rw [List.getElem?_map, hy]; rfl) (by omega))) ?_
                    refine WPL.val (v_is (b := false) (v_lss rfl rfl) (decide_eq_false (by omega))) ?_
                    refine WPL.val (v_move (v := .bool _) rfl) ?_
                    refine WPL.valG (v_move (v := .slice _ _ _) rfl) ?_
                    refine WPL.valG (v_move (v := .int .i64 _) rfl) ?_
                    refine WPL.valG (v_index (j := k) Try.underlying26 Try.sizeOf3 rfl rfl rfl (by omega)) ?_
                    refine WPL.valG (v_load1 (u := .int .i64 (m : Int)) Try.isAgg3 rfl (fun w hw => hw.row_at1 (i := 0) (k := k) rfl (by rw [List.getElem?_map, hy]; rfl) (by omega))) ?_
                    refine WPL.valG (v_move (v := .slice _ _ _) rfl) ?_
                    refine WPL.valG (v_len Try.underlying22 rfl) ?_
                    refine WPL.valG (v_is (b := false) (v_geq rfl rfl) (decide_eq_false (by omega))) ?_
                    refine WPL.val (v_pickF (v := .bool _) rfl rfl) ?_
                    refine WPL.val (v_move (v := .bool _) rfl) ?_
                    refine WPL.valG (v_move (v := .slice _ _ _) rfl) ?_
                    refine WPL.valG (v_move (v := .slice _ _ _) rfl) ?_
                    refine WPL.valG (v_move (v := .int .i64 _) rfl) ?_
                    refine WPL.valG (v_index (j := k) Try.underlying26 Try.sizeOf3 rfl rfl rfl (by omega)) ?_
                    refine WPL.valG (v_load1 (u := .int .i64 (m : Int)) Try.isAgg3 rfl (fun w hw => hw.row_at1 (i := 0) (k := k) rfl (by rw [List.getElem?_map, hy]; rfl) (by omega))) ?_
                    refine WPL.valG (v_index (j := m) Try.underlying36 Try.sizeOf4 rfl rfl rfl (by omega)) ?_
                    refine WPL.valG (v_is (b := false) (v_load1 (u := .bool (decide ((m : Int) ∈ (PT L 0).take k))) Try.isAgg4 rfl (fun w hw => hw.row_at1 (i := 1) (k := m) rfl (seenV_at _ (by omega)) (by omega))) (decide_eq_false hnm)) ?_
                    refine WPL.val (v_pickF (v := .bool _) rfl rfl) ?_
                    refine WPL.nil (onto_of ?_)
                    refine WP.condF rfl ?_
                    refine WP.skip (onto_of ?_)
                    refine WP.region ?_
                    refine WPL.val (v_move (v := .slice _ _ _) rfl) ?_
                    refine WPL.val (v_move (v := .slice _ _ _) rfl) ?_
                    refine WPL.val (v_move (v := .int .i64 _) rfl) ?_
                    refine WPL.val (v_index (j := k) Try.underlying26 Try.sizeOf3 rfl rfl rfl (by omega)) ?_
                    refine WPL.val (v_load1 (u := .int .i64 (m : Int)) Try.isAgg3 rfl (fun w hw => hw.row_at1 (i := 0) (k := k) rfl (by rw [List.getElem?_map, hy]; rfl) (by omega))) ?_
                    refine WPL.val (v_index (j := m) Try.underlying36 Try.sizeOf4 rfl rfl rfl (by omega)) ?_
                    refine WPL.ef0 (x_storeRow' (u := .bool _) (xs' := seenV L.length ((PT L 0).take (k + 1))) (σ' := [_, _]) Try.sizeOf4 rfl rfl (i := 1) rfl (by unfold seenV; rw [List.length_map, List.length_range]; omega) (by rw [show 0 + m * 1 = m by omega, take_snoc hy]; exact seenV_set _ (by omega)) rfl) (fun _ => ?_)
                    refine WPL.nil (onto_of ?_)
                    refine WP.region ?_
                    refine WPL.val (v_move (v := .int .i64 _) rfl) ?_
                    refine WPL.val (v_add rfl rfl (by omega)) ?_
                    refine WPL.val (v_assign (v := .int .i64 _) rfl) ?_
                    exact WPL.nil fun w hw => ⟨rfl, k + 1, (by omega), ⟨rfl, (via (.slice _ _ _) rfl rfl), (via (.int .i64 _) rfl rfl), (via (.int .i64 _) rfl rfl), (via (.int .i64 _) rfl rfl), (via (.bool _) rfl rfl), (via (.slice _ _ _) rfl rfl), (via (.slice _ _ _) rfl rfl), trivial⟩, ⟨by omega, (hw.sel [0, 1] (by decide))⟩⟩
                  ·
                    obtain rfl : k = (PT L 0).length := by omega
                    refine WP.exit (onto_of ?_)
                    refine WP.seq ?_
                    refine WP.region ?_
                    refine WPL.val (v_move (v := .slice _ _ _) rfl) ?_
                    refine WPL.val (v_move (v := .int .i64 _) rfl) ?_
                    refine WPL.val (v_move (v := .int .i64 _) rfl) ?_
                    refine WPL.ef (x_call Try.call20 (beforeP_ct A c L hL hcap hok hne a b) [] [0, 1] rfl (fun w hw => hw.rd hz not_foots_nil) (τ := fun _ => [_, _]) (fun _ => rfl)) (fun _ => ?_)
                    refine WPL.fact (fun _ => ?_)
                    refine WPL.val (v_assign (v := .bool _) rfl) ?_
                    refine WPL.nil (onto_of ?_)
                    refine WP.seq ?_
                    refine WP.region ?_
                    refine WPL.val (v_move (v := .slice _ _ _) rfl) ?_
                    refine WPL.val (v_move (v := .int .i64 _) rfl) ?_
                    refine WPL.val (v_move (v := .int .i64 _) rfl) ?_
                    refine WPL.ef (x_call Try.call20 (beforeP_ct A c L hL hcap hok hne b a) [] [0, 1] rfl (fun w hw => hw.rd hz not_foots_nil) (τ := fun _ => [_, _]) (fun _ => rfl)) (fun _ => ?_)
                    refine WPL.fact (fun _ => ?_)
                    refine WPL.val (v_assign (v := .bool _) rfl) ?_
                    refine WPL.nil (onto_of ?_)
                    refine WP.seq ?_
                    refine WP.region ?_
                    refine WPL.val (v_move (v := .slice _ _ _) rfl) ?_
                    refine WPL.val (v_move (v := .int .i64 _) rfl) ?_
                    refine WPL.val (v_move (v := .int .i64 _) rfl) ?_
                    refine WPL.ef (x_call Try.call20 (beforeP_ct A c L hL hcap hok hne b e) [] [0, 1] rfl (fun w hw => hw.rd hz not_foots_nil) (τ := fun _ => [_, _]) (fun _ => rfl)) (fun _ => ?_)
                    refine WPL.fact (fun _ => ?_)
                    refine WPL.val (v_assign (v := .bool _) rfl) ?_
                    refine WPL.nil (onto_of ?_)
                    refine WP.seq ?_
                    refine WP.region ?_
                    refine WPL.val (v_move (v := .bool _) rfl) ?_
                    refine WPL.val (v_move (v := .bool _) rfl) ?_
                    refine WPL.valG (v_move (v := .slice _ _ _) rfl) ?_
                    refine WPL.valG (v_len Try.underlying26 rfl) ?_
                    refine WPL.valG (v_move (v := .slice _ _ _) rfl) ?_
                    refine WPL.valG (v_len Try.underlying22 rfl) ?_
                    refine WPL.valG (v_is (b := true) (v_eql rfl rfl) (decide_eq_true (by rw [hlen]))) ?_
                    refine WPL.val (v_pickT (u := .bool _) rfl rfl) ?_
                    refine WPL.val (v_move (v := .bool _) rfl) ?_
                    refine WPL.valG (v_move (v := .bool _) rfl) ?_
                    refine WPL.valG (v_move (v := .bool _) rfl) ?_
                    refine WPL.splitB 120 rfl (fun h120 => ?_) (fun h120 => ?_)
                    ·
                      refine WPL.valG (v_move (v := .bool _) rfl) ?_
                      refine WPL.valG (v_pickT (u := .bool _) rfl rfl) ?_
                      refine WPL.valG (v_is (b := true) (v_not rfl) (by rw [bef_asym h120]; rfl)) ?_
                      refine WPL.val (v_pickT (u := .bool _) rfl rfl) ?_
                      refine WPL.val (v_move (v := .bool _) rfl) ?_
                      refine WPL.valG (v_move (v := .bool _) rfl) ?_
                      refine WPL.valG (v_move (v := .bool _) rfl) ?_
                      refine WPL.splitB 127 rfl (fun h127 => ?_) (fun h127 => ?_)
                      ·
                        refine WPL.skipG ?_
                        refine WPL.valG (v_pickT (u := .bool _) rfl rfl) ?_
                        refine WPL.valG (v_move (v := .int .i64 _) rfl) ?_
                        refine WPL.valG (v_move (v := .int .i64 _) rfl) ?_
                        refine WPL.valG (v_neq rfl rfl) ?_
                        refine WPL.valG (v_is (b := true) (v_eqB Try.underlying4 rfl rfl) (by first | exact bef_cmpT h127 | exact bef_cmpF hma hmb h127)) ?_
                        refine WPL.val (v_pickT (u := .bool _) rfl rfl) ?_
                        refine WPL.val (v_move (v := .bool _) rfl) ?_
                        refine WPL.valG (v_move (v := .bool _) rfl) ?_
                        refine WPL.valG (v_not rfl) ?_
                        refine WPL.valG (v_move (v := .bool _) rfl) ?_
                        refine WPL.splitB 138 rfl (fun h138 => ?_) (fun h138 => ?_)
                        ·
                          refine WPL.skipG ?_
                          refine WPL.skipG ?_
                          refine WPL.valG (v_pickT (u := .bool _) rfl rfl) ?_
                          refine WPL.valG (v_move (v := .bool _) rfl) ?_
                          refine WPL.skipG ?_
                          refine WPL.skipG ?_
                          refine WPL.skipG ?_
                          refine WPL.skipG ?_
                          refine WPL.valG (v_pickT (u := .bool _) rfl rfl) ?_
                          refine WPL.val (v_pickT (u := .bool _) rfl rfl) ?_
                          refine WPL.val (v_assign (v := .bool _) rfl) ?_
                          refine WPL.nil (onto_of ?_)
                          exact WP.ret1 Try.results4 (fun _ h => h) (fun w hw => ⟨(), rfl, trivial, hw.sel [] (by decide)⟩)
                        ·
                          refine WPL.valG (v_move (v := .bool _) rfl) ?_
                          refine WPL.valG (v_not rfl) ?_
                          refine WPL.valG (v_pickF (v := .bool _) rfl rfl) ?_
                          refine WPL.valG (v_move (v := .bool _) rfl) ?_
                          refine WPL.splitB 142 rfl (fun h142 => ?_) (fun h142 => ?_)
                          ·
                            refine WPL.skipG ?_
                            refine WPL.skipG ?_
                            refine WPL.skipG ?_
                            refine WPL.skipG ?_
                            refine WPL.valG (v_pickT (u := .bool _) rfl rfl) ?_
                            refine WPL.val (v_pickT (u := .bool _) rfl rfl) ?_
                            refine WPL.val (v_assign (v := .bool _) rfl) ?_
                            refine WPL.nil (onto_of ?_)
                            exact WP.ret1 Try.results4 (fun _ h => h) (fun w hw => ⟨(), rfl, trivial, hw.sel [] (by decide)⟩)
                          ·
                            refine WPL.valG (v_move (v := .slice _ _ _) rfl) ?_
                            refine WPL.valG (v_move (v := .int .i64 _) rfl) ?_
                            refine WPL.valG (v_move (v := .int .i64 _) rfl) ?_
                            refine WPL.efG (x_call Try.call20 (beforeP_ct A c L hL hcap hok hne a e) [] [0, 1] rfl (fun w hw => hw.rd hz not_foots_nil) (τ := fun _ => [_, _]) (fun _ => rfl)) (fun _ => ?_)
                            refine WPL.fact (fun _ => ?_)
                            refine WPL.valG (v_is (b := true) (v_pickF (v := .bool _) rfl rfl) (bef_trans (by simpa using h138) (by simpa using h142))) ?_
                            refine WPL.val (v_pickT (u := .bool _) rfl rfl) ?_
                            refine WPL.val (v_assign (v := .bool _) rfl) ?_
                            refine WPL.nil (onto_of ?_)
                            exact WP.ret1 Try.results4 (fun _ h => h) (fun w hw => ⟨(), rfl, trivial, hw.sel [] (by decide)⟩)
                      ·
                        refine WPL.valG (v_move (v := .bool _) rfl) ?_
                        refine WPL.valG (v_pickF (v := .bool _) rfl rfl) ?_
                        refine WPL.valG (v_move (v := .int .i64 _) rfl) ?_
                        refine WPL.valG (v_move (v := .int .i64 _) rfl) ?_
                        refine WPL.valG (v_neq rfl rfl) ?_
                        refine WPL.valG (v_is (b := true) (v_eqB Try.underlying4 rfl rfl) (by first | exact bef_cmpT h127 | exact bef_cmpF hma hmb h127)) ?_
                        refine WPL.val (v_pickT (u := .bool _) rfl rfl) ?_
                        refine WPL.val (v_move (v := .bool _) rfl) ?_
                        refine WPL.valG (v_move (v := .bool _) rfl) ?_
                        refine WPL.valG (v_not rfl) ?_
                        refine WPL.valG (v_move (v := .bool _) rfl) ?_
                        refine WPL.splitB 138 rfl (fun h138 => ?_) (fun h138 => ?_)
                        ·
                          refine WPL.skipG ?_
                          refine WPL.skipG ?_
                          refine WPL.valG (v_pickT (u := .bool _) rfl rfl) ?_
                          refine WPL.valG (v_move (v := .bool _) rfl) ?_
                          refine WPL.skipG ?_
                          refine WPL.skipG ?_
                          refine WPL.skipG ?_
                          refine WPL.skipG ?_
                          refine WPL.valG (v_pickT (u := .bool _) rfl rfl) ?_
                          refine WPL.val (v_pickT (u := .bool _) rfl rfl) ?_
                          refine WPL.val (v_assign (v := .bool _) rfl) ?_
                          refine WPL.nil (onto_of ?_)
                          exact WP.ret1 Try.results4 (fun _ h => h) (fun w hw => ⟨(), rfl, trivial, hw.sel [] (by decide)⟩)
                        ·
                          refine WPL.valG (v_move (v := .bool _) rfl) ?_
                          refine WPL.valG (v_not rfl) ?_
                          refine WPL.valG (v_pickF (v := .bool _) rfl rfl) ?_
                          refine WPL.valG (v_move (v := .bool _) rfl) ?_
                          refine WPL.splitB 142 rfl (fun h142 => ?_) (fun h142 => ?_)
                          ·
                            refine WPL.skipG ?_
                            refine WPL.skipG ?_
                            refine WPL.skipG ?_
                            refine WPL.skipG ?_
                            refine WPL.valG (v_pickT (u := .bool _) rfl rfl) ?_
                            refine WPL.val (v_pickT (u := .bool _) rfl rfl) ?_
                            refine WPL.val (v_assign (v := .bool _) rfl) ?_
                            refine WPL.nil (onto_of ?_)
                            exact WP.ret1 Try.results4 (fun _ h => h) (fun w hw => ⟨(), rfl, trivial, hw.sel [] (by decide)⟩)
                          ·
                            refine WPL.valG (v_move (v := .slice _ _ _) rfl) ?_
                            refine WPL.valG (v_move (v := .int .i64 _) rfl) ?_
                            refine WPL.valG (v_move (v := .int .i64 _) rfl) ?_
                            refine WPL.efG (x_call Try.call20 (beforeP_ct A c L hL hcap hok hne a e) [] [0, 1] rfl (fun w hw => hw.rd hz not_foots_nil) (τ := fun _ => [_, _]) (fun _ => rfl)) (fun _ => ?_)
                            refine WPL.fact (fun _ => ?_)
                            refine WPL.valG (v_is (b := true) (v_pickF (v := .bool _) rfl rfl) (bef_trans (by simpa using h138) (by simpa using h142))) ?_
                            refine WPL.val (v_pickT (u := .bool _) rfl rfl) ?_
                            refine WPL.val (v_assign (v := .bool _) rfl) ?_
                            refine WPL.nil (onto_of ?_)
                            exact WP.ret1 Try.results4 (fun _ h => h) (fun w hw => ⟨(), rfl, trivial, hw.sel [] (by decide)⟩)
                    ·
                      refine WPL.skipG ?_
                      refine WPL.valG (v_pickF (v := .bool _) rfl rfl) ?_
                      refine WPL.valG (v_not rfl) ?_
                      refine WPL.val (v_pickT (u := .bool _) rfl rfl) ?_
                      refine WPL.val (v_move (v := .bool _) rfl) ?_
                      refine WPL.valG (v_move (v := .bool _) rfl) ?_
                      refine WPL.valG (v_move (v := .bool _) rfl) ?_
                      refine WPL.splitB 127 rfl (fun h127 => ?_) (fun h127 => ?_)
                      ·
                        refine WPL.skipG ?_
                        refine WPL.valG (v_pickT (u := .bool _) rfl rfl) ?_
                        refine WPL.valG (v_move (v := .int .i64 _) rfl) ?_
                        refine WPL.valG (v_move (v := .int .i64 _) rfl) ?_
                        refine WPL.valG (v_neq rfl rfl) ?_
                        refine WPL.valG (v_is (b := true) (v_eqB Try.underlying4 rfl rfl) (by first | exact bef_cmpT h127 | exact bef_cmpF hma hmb h127)) ?_
                        refine WPL.val (v_pickT (u := .bool _) rfl rfl) ?_
                        refine WPL.val (v_move (v := .bool _) rfl) ?_
                        refine WPL.valG (v_move (v := .bool _) rfl) ?_
                        refine WPL.valG (v_not rfl) ?_
                        refine WPL.valG (v_move (v := .bool _) rfl) ?_
                        refine WPL.splitB 138 rfl (fun h138 => ?_) (fun h138 => ?_)
                        ·
                          refine WPL.skipG ?_
                          refine WPL.skipG ?_
                          refine WPL.valG (v_pickT (u := .bool _) rfl rfl) ?_
                          refine WPL.valG (v_move (v := .bool _) rfl) ?_
                          refine WPL.skipG ?_
                          refine WPL.skipG ?_
                          refine WPL.skipG ?_
                          refine WPL.skipG ?_
                          refine WPL.valG (v_pickT (u := .bool _) rfl rfl) ?_
                          refine WPL.val (v_pickT (u := .bool _) rfl rfl) ?_
                          refine WPL.val (v_assign (v := .bool _) rfl) ?_
                          refine WPL.nil (onto_of ?_)
                          exact WP.ret1 Try.results4 (fun _ h => h) (fun w hw => ⟨(), rfl, trivial, hw.sel [] (by decide)⟩)
                        ·
                          refine WPL.valG (v_move (v := .bool _) rfl) ?_
                          refine WPL.valG (v_not rfl) ?_
                          refine WPL.valG (v_pickF (v := .bool _) rfl rfl) ?_
                          refine WPL.valG (v_move (v := .bool _) rfl) ?_
                          refine WPL.splitB 142 rfl (fun h142 => ?_) (fun h142 => ?_)
                          ·
                            refine WPL.skipG ?_
                            refine WPL.skipG ?_
                            refine WPL.skipG ?_
                            refine WPL.skipG ?_
                            refine WPL.valG (v_pickT (u := .bool _) rfl rfl) ?_
                            refine WPL.val (v_pickT (u := .bool _) rfl rfl) ?_
                            refine WPL.val (v_assign (v := .bool _) rfl) ?_
                            refine WPL.nil (onto_of ?_)
                            exact WP.ret1 Try.results4 (fun _ h => h) (fun w hw => ⟨(), rfl, trivial, hw.sel [] (by decide)⟩)
                          ·
                            refine WPL.valG (v_move (v := .slice _ _ _) rfl) ?_
                            refine WPL.valG (v_move (v := .int .i64 _) rfl) ?_
                            refine WPL.valG (v_move (v := .int .i64 _) rfl) ?_
                            refine WPL.efG (x_call Try.call20 (beforeP_ct A c L hL hcap hok hne a e) [] [0, 1] rfl (fun w hw => hw.rd hz not_foots_nil) (τ := fun _ => [_, _]) (fun _ => rfl)) (fun _ => ?_)
                            refine WPL.fact (fun _ => ?_)
                            refine WPL.valG (v_is (b := true) (v_pickF (v := .bool _) rfl rfl) (bef_trans (by simpa using h138) (by simpa using h142))) ?_
                            refine WPL.val (v_pickT (u := .bool _) rfl rfl) ?_
                            refine WPL.val (v_assign (v := .bool _) rfl) ?_
                            refine WPL.nil (onto_of ?_)
                            exact WP.ret1 Try.results4 (fun _ h => h) (fun w hw => ⟨(), rfl, trivial, hw.sel [] (by decide)⟩)
                      ·
                        refine WPL.valG (v_move (v := .bool _) rfl) ?_
                        refine WPL.valG (v_pickF (v := .bool _) rfl rfl) ?_
                        refine WPL.valG (v_move (v := .int .i64 _) rfl) ?_
                        refine WPL.valG (v_move (v := .int .i64 _) rfl) ?_
                        refine WPL.valG (v_neq rfl rfl) ?_
                        refine WPL.valG (v_is (b := true) (v_eqB Try.underlying4 rfl rfl) (by first | exact bef_cmpT h127 | exact bef_cmpF hma hmb h127)) ?_
                        refine WPL.val (v_pickT (u := .bool _) rfl rfl) ?_
                        refine WPL.val (v_move (v := .bool _) rfl) ?_
                        refine WPL.valG (v_move (v := .bool _) rfl) ?_
                        refine WPL.valG (v_not rfl) ?_
                        refine WPL.valG (v_move (v := .bool _) rfl) ?_
                        refine WPL.splitB 138 rfl (fun h138 => ?_) (fun h138 => ?_)
                        ·
                          refine WPL.skipG ?_
                          refine WPL.skipG ?_
                          refine WPL.valG (v_pickT (u := .bool _) rfl rfl) ?_
                          refine WPL.valG (v_move (v := .bool _) rfl) ?_
                          refine WPL.skipG ?_
                          refine WPL.skipG ?_
                          refine WPL.skipG ?_
                          refine WPL.skipG ?_
                          refine WPL.valG (v_pickT (u := .bool _) rfl rfl) ?_
                          refine WPL.val (v_pickT (u := .bool _) rfl rfl) ?_
                          refine WPL.val (v_assign (v := .bool _) rfl) ?_
                          refine WPL.nil (onto_of ?_)
                          exact WP.ret1 Try.results4 (fun _ h => h) (fun w hw => ⟨(), rfl, trivial, hw.sel [] (by decide)⟩)
                        ·
                          refine WPL.valG (v_move (v := .bool _) rfl) ?_
                          refine WPL.valG (v_not rfl) ?_
                          refine WPL.valG (v_pickF (v := .bool _) rfl rfl) ?_
                          refine WPL.valG (v_move (v := .bool _) rfl) ?_
                          refine WPL.splitB 142 rfl (fun h142 => ?_) (fun h142 => ?_)
                          ·
                            refine WPL.skipG ?_
                            refine WPL.skipG ?_
                            refine WPL.skipG ?_
                            refine WPL.skipG ?_
                            refine WPL.valG (v_pickT (u := .bool _) rfl rfl) ?_
                            refine WPL.val (v_pickT (u := .bool _) rfl rfl) ?_
                            refine WPL.val (v_assign (v := .bool _) rfl) ?_
                            refine WPL.nil (onto_of ?_)
                            exact WP.ret1 Try.results4 (fun _ h => h) (fun w hw => ⟨(), rfl, trivial, hw.sel [] (by decide)⟩)
                          ·
                            refine WPL.valG (v_move (v := .slice _ _ _) rfl) ?_
                            refine WPL.valG (v_move (v := .int .i64 _) rfl) ?_
                            refine WPL.valG (v_move (v := .int .i64 _) rfl) ?_
                            refine WPL.efG (x_call Try.call20 (beforeP_ct A c L hL hcap hok hne a e) [] [0, 1] rfl (fun w hw => hw.rd hz not_foots_nil) (τ := fun _ => [_, _]) (fun _ => rfl)) (fun _ => ?_)
                            refine WPL.fact (fun _ => ?_)
                            refine WPL.valG (v_is (b := true) (v_pickF (v := .bool _) rfl rfl) (bef_trans (by simpa using h138) (by simpa using h142))) ?_
                            refine WPL.val (v_pickT (u := .bool _) rfl rfl) ?_
                            refine WPL.val (v_assign (v := .bool _) rfl) ?_
                            refine WPL.nil (onto_of ?_)
                            exact WP.ret1 Try.results4 (fun _ h => h) (fun w hw => ⟨(), rfl, trivial, hw.sel [] (by decide)⟩)
end Go.Proofs.Ytmjdmlgdffoimab
