/- The document's example; of; inside. -/
import Derived.Test.YtmjdmlgdffoimabPaintRP
namespace Go.Proofs.Ytmjdmlgdffoimab
open Go.RowKit

theorem info39 : (Try.prog.info? 39).map (fun i => (i.zero, i.size, i.bytes)) = some (some (.agg #[.int .i64 0, .bool false, .int .i64 0]), 3, 24) := by kernel_rfl
theorem info41 : (Try.prog.info? 41).map (fun i => (i.zero, i.size, i.bytes)) = some (some (.agg #[.int .i64 0, .bool false, .int .i64 0]), 3, 24) := by kernel_rfl
theorem encN_len (n : PN) : (encN n).length = 3 := rfl
theorem flat_snoc {L : List PN} {k : Nat} {n : PN} (h : L[k]? = some n) : (L.take (k + 1)).flatMap encN = (L.take k).flatMap encN ++ encN n := by rw [take_snoc h]; simp
theorem encN_one (L : List PN) : ∀ u ∈ L.flatMap encN, u.oneCell' = true := by
  intro u hu
  obtain ⟨n, _, hn⟩ := List.mem_flatMap.1 hu
  simp only [encN, List.mem_cons, List.not_mem_nil, or_false] at hn
  rcases hn with rfl | rfl | rfl <;> rfl
theorem flat_len3 (L : List PN) : (L.flatMap encN).length = L.length * 3 := by
  induction L with
  | nil => rfl
  | cons n L ih => rw [List.flatMap_cons, List.length_append, ih, List.length_cons]; simp [encN]; omega
theorem of_ct (A : Option Addr) (c : Nat) (L : List PN) (hL : L.length ≤ 1000) : Ct Try.prog 11 #[.slice A L.length c] [] (fun w => RdN w A L) (X := Option Addr × Nat) (fun p => .slice p.1 L.length p.2) (fun _ => True) (fun p => [.row 41 3 p.1 L.length p.2 (L.flatMap encN)]) := by
  refine Ct.intro Try.func11 rfl Try.ntmps11 (by simp) (fun w0 hz => ?_)
  refine WP.seq ?_
  refine WP.region ?_
  refine WPL.val (v_assign (v := .slice none 0 0) rfl) ?_
  refine WPL.nil (onto_of ?_)
  refine WP.seq ?_
  refine WP.region ?_
  refine WPL.val (v_assign (v := .slice none 0 0) rfl) ?_
  refine WPL.nil (onto_of ?_)
  refine WP.seq ?_
  refine WP.seq ?_
  refine WP.pre ?_ (fun w hw => hw.nilRow 41 3)
  refine WP.region ?_
  refine WPL.val (v_assign (v := .int .i64 (0)) rfl) ?_
  refine WPL.nil (onto_of ?_)
  refine WP.block ?_
  refine WP.loopK (X := Nat × Option Addr × Nat) [0] (fun p => [(4, .int .i64 (p.1 : Int)), (3, .slice p.2.1 p.1 p.2.2)]) (fun p w => p.1 ≤ L.length ∧ St w0 (foots []) [.row 41 3 p.2.1 p.1 p.2.2 ((L.take p.1).flatMap encN)] w) (fun p => L.length - p.1) (0, none, 0) ⟨rfl, rfl, trivial⟩ (fun w hw => ⟨Nat.zero_le _, hw⟩) (fun p ρ0 => ?_)
  obtain ⟨k, zA, zc⟩ := p
  dsimp only
  refine WP.fact (fun hkl => ?_)
  refine WP.seq ?_
  refine WP.seq ?_
  refine WP.region ?_
  refine WPL.val (v_move (v := .int .i64 _) rfl) ?_
  refine WPL.val (v_move (v := .slice _ _ _) rfl) ?_
  refine WPL.val (v_len Try.underlying22 rfl) ?_
  refine WPL.val (v_lss rfl rfl) ?_
  refine WPL.nil (onto_of ?_)
  refine WP.condP rfl (fun h8 => ?_) (fun h8 => ?_)
  ·
    have hk : k < L.length := by omega
    obtain ⟨n, ab, ao, hn, rfl, hc⟩ := getNode hz hk
    refine WP.skip (onto_of ?_)
    refine WP.seq ?_
    refine WP.block ?_
    refine WP.drawSel none [] [(0, true), (1, true), (2, true), (3, true), (4, true), (5, true), (6, true), (7, true), (8, true), (9, true), (10, true), (11, true), (12, true), (13, true), (14, true), (15, true), (16, true), (17, false), (18, false), (19, true)] mixed (by kernel_rfl) (by decide) ?_
    refine WPD.take rfl (v_move (v := .slice _ _ _) rfl) ?_ (fun _ h => h.sel [] (by decide))
    refine WPD.take rfl (v_move (v := .slice _ _ _) rfl) ?_ (fun _ h => h.sel [] (by decide))
    refine WPD.take rfl (v_move (v := .int .i64 _) rfl) ?_ (fun _ h => h.sel [] (by decide))
    refine WPD.take rfl (v_index (j := k) Try.underlying22 Try.sizeOf39 rfl rfl rfl (by omega)) ?_ (fun _ h => h.sel [] (by decide))
    refine WPD.take rfl (v_field (off := 0) Try.underlying39 rfl Try.sizeOf3 rfl) ?_ (fun _ h => h.sel [] (by decide))
    refine WPD.take rfl (v_load1 (u := .int .i64 _) Try.isAgg3 rfl (fun w hw => hw.old_at (hc.one (j := 0) rfl (by omega)) (not_foots_nil _))) ?_ (fun _ h => h.sel [] (by decide))
    refine WPD.take rfl (v_move (v := .slice _ _ _) rfl) ?_ (fun _ h => h.sel [] (by decide))
    refine WPD.take rfl (v_move (v := .int .i64 _) rfl) ?_ (fun _ h => h.sel [] (by decide))
    refine WPD.take rfl (v_index (j := k) Try.underlying22 Try.sizeOf39 rfl rfl rfl (by omega)) ?_ (fun _ h => h.sel [] (by decide))
    refine WPD.take rfl (v_field (off := 1) Try.underlying39 rfl Try.sizeOf4 rfl) ?_ (fun _ h => h.sel [] (by decide))
    refine WPD.take rfl (v_load1 (u := .bool _) Try.isAgg4 rfl (fun w hw => hw.old_at (hc.one (j := 1) rfl (by omega)) (not_foots_nil _))) ?_ (fun _ h => h.sel [] (by decide))
    refine WPD.take rfl (v_move (v := .slice _ _ _) rfl) ?_ (fun _ h => h.sel [] (by decide))
    refine WPD.take rfl (v_move (v := .int .i64 _) rfl) ?_ (fun _ h => h.sel [] (by decide))
    refine WPD.take rfl (v_index (j := k) Try.underlying22 Try.sizeOf39 rfl rfl rfl (by omega)) ?_ (fun _ h => h.sel [] (by decide))
    refine WPD.take rfl (v_field (off := 2) Try.underlying39 rfl Try.sizeOf3 rfl) ?_ (fun _ h => h.sel [] (by decide))
    refine WPD.take rfl (v_load1 (u := .int .i64 _) Try.isAgg3 rfl (fun w hw => hw.old_at (hc.one (j := 2) rfl (by omega)) (not_foots_nil _))) ?_ (fun _ h => h.sel [] (by decide))
    refine WPD.take rfl (v_struct (us := [.int .i64 _, .bool _, .int .i64 _]) (pl := [(0, 1), (1, 1), (2, 1)]) Try.underlying41 Try.zeroValue41 rfl (by kernel_rfl) rfl rfl (by kernel_rfl)) ?_ (fun _ h => h.sel [] (by decide))
    refine WPD.ef rfl (x_buildSlice (us := [.int .i64 _, .bool _, .int .i64 _]) (σ' := fun _ => [_, _]) Try.underlying24 Try.sizeOf41 Try.zeroValue41 rfl rfl rfl (by decide) (by decide) (fun _ => rfl)) (fun _ _ _ h => h.sel [] (by decide)) (fun g28 => ?_)
    refine WPD.ef rfl (x_append (sz := 3) (σ' := fun _ => [_, _]) Try.underlying24 info41 rfl (by decide) rfl rfl (i := 0) rfl (fun w hw => hw.src_row (i := 1) rfl) rfl (by simp [Value.oneCell']) (by omega) (by omega) (fun _ => rfl)) (fun _ _ _ h => h.sel [] (by decide)) (fun ⟨A29, c29⟩ => ?_)
    refine WPD.take rfl (v_assign (v := .slice _ _ _) rfl) ?_ (fun _ h => h.sel [] (by decide))
    refine WPD.nil (onto_of ?_)
    refine WP.region ?_
    refine WPL.val (v_move (v := .int .i64 _) rfl) ?_
    refine WPL.val (v_add rfl rfl (by omega)) ?_
    refine WPL.val (v_assign (v := .int .i64 _) rfl) ?_
    exact WPL.nil fun w hw => ⟨rfl, (k + 1, A29, c29), (by simp only; omega), ⟨rfl, rfl, (via (.slice _ _ _) rfl rfl), trivial⟩, ⟨by simp only; omega, by dsimp only; rw [flat_snoc hn]; exact (hw.sel [0] (by decide))⟩⟩
  ·
    obtain rfl : k = L.length := by omega
    rw [List.take_of_length_le (Nat.le_refl _)]
    refine WP.exit (onto_of ?_)
    refine WP.seq ?_
    refine WP.region ?_
    refine WPL.val (v_move (v := .slice _ _ _) rfl) ?_
    refine WPL.val (v_assign (v := .slice _ _ _) rfl) ?_
    refine WPL.nil (onto_of ?_)
    exact WP.ret1 Try.results11 (fun _ h => h) (fun w hw => ⟨(zA, zc), rfl, trivial, hw⟩)
theorem UA.zero {L : List PN} {a : Int} (h : UA L a 0) : a = 0 := by
  by_cases e : (0 : Int) = a
  · exact e.symm
  · exact absurd (h.up e).1 (by omega)
theorem UA.neg {L : List PN} {a y : Int} (h : UA L a y) (hy : y < 0) : y = a := by
  by_cases e : y = a
  · exact e
  · exact absurd (h.up e).1 (by omega)
theorem inside_ct (A : Option Addr) (c : Nat) (L : List PN) (hP : PV L) (a x : Int) (ha : 0 ≤ a) (hx0 : 0 ≤ x) (hx : x < L.length) : Ct Try.prog 21 #[.slice A L.length c, .int .i64 a, .int .i64 x] [] (fun w => RdN w A L) (X := Bool) (fun b => .bool b) (fun b => b = true ↔ UA L a x) (fun _ => []) := by
  refine Ct.intro Try.func21 rfl Try.ntmps21 (by simp) (fun w0 hz => ?_)
  refine WP.seq ?_
  refine WP.region ?_
  refine WPL.val (v_assign (v := .bool false) rfl) ?_
  refine WPL.nil (onto_of ?_)
  refine WP.seq ?_
  refine WP.block ?_
  refine WP.loopK (X := Int) [0, 1] (fun y => [(2, .int .i64 y)]) (fun y w => ((-1 ≤ y ∧ y < L.length) ∧ (UA L a y ↔ UA L a x)) ∧ St w0 (foots []) [] w) (fun y => (y + 1).toNat) x ⟨rfl, trivial⟩ (fun w hw => ⟨⟨⟨by omega, hx⟩, Iff.rfl⟩, hw⟩) (fun y ρ0 => ?_)
  refine WP.fact (fun ⟨⟨hy1, hyn⟩, hiff⟩ => ?_)
  refine WP.seq ?_
  refine WP.seq ?_
  refine WP.region ?_
  refine WPL.val (v_move (v := .int .i64 _) rfl) ?_
  refine WPL.val (v_geq rfl rfl) ?_
  refine WPL.val (v_move (v := .bool _) rfl) ?_
  refine WPL.split 9 rfl (fun h9 => ?_) (fun h9 => ?_)
  ·
    obtain ⟨m, rfl⟩ : ∃ m : Nat, y = m := ⟨y.toNat, by omega⟩
    obtain ⟨n, ab, ao, hn, hA, hc⟩ := getNode hz (i := m) (by omega)
    subst hA
    have hup := upN hn
    have hub : -1 ≤ n.up ∧ n.up < m := by
      by_cases h0 : m = 0
      · subst h0
        have h1 := hP.root (fun e => by rw [e] at hyn; simp at hyn)
        have h2 : upP L 0 = n.up := hup
        omega
      · have := hP.up (m : Int) (by omega) hyn
        omega
    refine WPL.valG (v_move (v := .int .i64 _) rfl) ?_
    refine WPL.valG (v_move (v := .int .i64 _) rfl) ?_
    refine WPL.valG (v_neq rfl rfl) ?_
    refine WPL.val (v_pickT (u := .bool _) rfl rfl) ?_
    refine WPL.nil (onto_of ?_)
    refine WP.condP rfl (fun h13 => ?_) (fun h13 => ?_)
    ·
      have hst : UA L a (m : Int) ↔ UA L a n.up := by
        constructor
        · intro h
          have h1 := (h.up h13).2.2
          rw [hup] at h1; exact h1
        · intro h
          by_cases h0 : m = 0
          · subst h0
            have h1 := hP.root (fun e => by rw [e] at hyn; simp at hyn)
            have h2 : upP L 0 = n.up := hup
            have := h.neg (by omega)
            omega
          · exact .step (by omega) hyn (by rw [hup]; exact h)
      refine WP.skip (onto_of ?_)
      refine WP.block ?_
      refine WP.region ?_
      refine WPL.val (v_move (v := .slice _ _ _) rfl) ?_
      refine WPL.val (v_move (v := .int .i64 _) rfl) ?_
      refine WPL.val (v_index (j := m) Try.underlying22 Try.sizeOf39 rfl rfl rfl (by omega)) ?_
      refine WPL.val (v_field (off := 0) Try.underlying39 rfl Try.sizeOf3 rfl) ?_
      refine WPL.val (v_load1 (u := .int .i64 _) Try.isAgg3 rfl (fun w hw => hw.old_at (hc.one (j := 0) rfl (by omega)) (not_foots_nil _))) ?_
      refine WPL.val (v_assign (v := .int .i64 _) rfl) ?_
      exact WPL.nil fun w hw => ⟨rfl, n.up, (by omega), ⟨rfl, (via (.slice _ _ _) rfl rfl), (via (.int .i64 _) rfl rfl), trivial⟩, ⟨⟨by omega, hst.symm.trans hiff⟩, hw⟩⟩
    ·
      have hfin : decide ((m : Int) = a) = true ↔ UA L a x := by
        rw [← hiff, decide_eq_true_iff]
        exact ⟨fun e => e ▸ .refl, fun _ => Decidable.not_not.1 h13⟩
      refine WP.exit (onto_of ?_)
      refine WP.seq ?_
      refine WP.region ?_
      refine WPL.val (v_move (v := .int .i64 _) rfl) ?_
      refine WPL.val (v_move (v := .int .i64 _) rfl) ?_
      refine WPL.val (v_eql rfl rfl) ?_
      refine WPL.val (v_assign (v := .bool _) rfl) ?_
      refine WPL.nil (onto_of ?_)
      exact WP.ret1 Try.results21 (fun _ h => h) (fun w hw => ⟨_, rfl, hfin, hw⟩)
  ·
    refine WPL.skipG ?_
    refine WPL.skipG ?_
    refine WPL.skipG ?_
    refine WPL.val (v_pickF (v := .bool _) rfl rfl) ?_
    refine WPL.nil (onto_of ?_)
    have hfin : decide (y = a) = true ↔ UA L a x := by
      rw [← hiff, decide_eq_true_iff]
      exact ⟨fun e => e ▸ .refl, fun h => h.neg (by omega)⟩
    refine WP.condF rfl ?_
    refine WP.exit (onto_of ?_)
    refine WP.seq ?_
    refine WP.region ?_
    refine WPL.val (v_move (v := .int .i64 _) rfl) ?_
    refine WPL.val (v_move (v := .int .i64 _) rfl) ?_
    refine WPL.val (v_eql rfl rfl) ?_
    refine WPL.val (v_assign (v := .bool _) rfl) ?_
    refine WPL.nil (onto_of ?_)
    exact WP.ret1 Try.results21 (fun _ h => h) (fun w hw => ⟨_, rfl, hfin, hw⟩)
/-! ### The example -/
def NW : List PN := [⟨-1, false, 0⟩, ⟨0, true, 1⟩, ⟨0, false, 0⟩, ⟨0, true, -1⟩]
theorem okNW : okP NW = true := by kernel_rfl
theorem ordNW : ordP NW = [0, 3, 2, 1] := by
  have hP := okP_pv okNW
  have k0 : kidP NW 0 = [3, 2, 1] := by
    refine (soF_is (memF_nodup 0) ?_ (by decide)).symm
    rw [show memF NW 0 = [1, 2, 3] by kernel_rfl]
    exact (List.reverse_perm [1, 2, 3])
  have kk : ∀ a : Int, memF NW a = [] → kidP NW a = [] := fun a h => by rw [kidP, h, soF_nil]
  rw [ordP_ok (by simp [NW]) okNW, PT_eq hP, k0]
  simp only [List.flatMap_cons, List.flatMap_nil]
  rw [PT_eq hP 3, kk 3 (by kernel_rfl), PT_eq hP 2, kk 2 (by kernel_rfl), PT_eq hP 1, kk 1 (by kernel_rfl)]
  rfl
theorem befNW1 : befP (ordP NW) 3 2 = true := by rw [ordNW]; decide
theorem befNW2 : befP (ordP NW) 2 3 = false := by rw [ordNW]; decide
theorem layNW : layX NW 2 = 0 := by kernel_rfl
section
variable (gb : Nat)
abbrev aW : Option Addr := some ⟨gb, 0, none⟩
theorem wk1 : Ct Try.prog 16 #[.slice (aW gb) 4 4] [] (fun w => RdN w (aW gb) NW) (X := Option Addr × Nat) (fun p => .slice p.1 4 p.2) (fun _ => True) (fun p => [kidsI p.1 4 p.2 [0, 3, 2, 1]]) := by
  have h := order_ct (aW gb) 4 NW (by decide) (by decide)
  rw [ordNW] at h
  exact h
theorem wk2 : Ct Try.prog 20 #[.slice (aW gb) 4 4, .int .i64 3, .int .i64 2] [] (fun w => RdN w (aW gb) NW) (X := Unit) (fun _ => .bool true) (fun _ => True) (fun _ => []) := by
  have h := before_ct (aW gb) 4 NW (by decide) (by decide) 3 2
  rw [befNW1] at h
  exact h
theorem wk3 : Ct Try.prog 20 #[.slice (aW gb) 4 4, .int .i64 2, .int .i64 3] [] (fun w => RdN w (aW gb) NW) (X := Unit) (fun _ => .bool false) (fun _ => True) (fun _ => []) := by
  have h := before_ct (aW gb) 4 NW (by decide) (by decide) 2 3
  rw [befNW2] at h
  exact h
theorem wk4 : Ct Try.prog 18 #[.slice (aW gb) 4 4, .int .i64 2] [] (fun w => RdN w (aW gb) NW) (X := Unit) (fun _ => .int .i64 0) (fun _ => True) (fun _ => []) := by
  have h := Layer_ct (aW gb) 4 NW (by decide) 2
  rw [layNW] at h
  exact h
theorem wk5 : Ct Try.prog 17 #[.slice (aW gb) 4 4] [] (fun w => RdN w (aW gb) NW) (X := Unit) (fun _ => .bool true) (fun _ => True) (fun _ => []) := by
  have h := valid_ct (aW gb) 4 NW (by decide)
  rw [okNW] at h
  exact h
end
set_option maxHeartbeats 1000000 in
theorem works_ct : Ct Try.prog 10 #[] [] (fun _ => True) (X := Unit) (fun _ => .bool true) (fun _ => True) (fun _ => []) := by
  refine Ct.intro Try.func10 rfl Try.ntmps10 (by simp) (fun w0 _ => ?_)
  refine WP.seq ?_
  refine WP.region ?_
  refine WPL.val (v_assign (v := .bool false) rfl) ?_
  refine WPL.nil (onto_of ?_)
  refine WP.seq ?_
  refine WP.region ?_
  refine WPL.val (v_struct (us := [.int .i64 _, .bool _, .int .i64 _]) (pl := [(0, 1), (1, 1), (2, 1)]) Try.underlying39 Try.zeroValue39 rfl (by kernel_rfl) rfl rfl (by kernel_rfl)) ?_
  refine WPL.val (v_struct (us := [.int .i64 _, .bool _, .int .i64 _]) (pl := [(0, 1), (1, 1), (2, 1)]) Try.underlying39 Try.zeroValue39 rfl (by kernel_rfl) rfl rfl (by kernel_rfl)) ?_
  refine WPL.val (v_struct (us := [.int .i64 _, .bool _, .int .i64 _]) (pl := [(0, 1), (1, 1), (2, 1)]) Try.underlying39 Try.zeroValue39 rfl (by kernel_rfl) rfl rfl (by kernel_rfl)) ?_
  refine WPL.val (v_struct (us := [.int .i64 _, .bool _, .int .i64 _]) (pl := [(0, 1), (1, 1), (2, 1)]) Try.underlying39 Try.zeroValue39 rfl (by kernel_rfl) rfl rfl (by kernel_rfl)) ?_
  refine WPL.ef (x_buildSlice (us := [.int .i64 _, .bool _, .int .i64 _, .int .i64 _, .bool _, .int .i64 _, .int .i64 _, .bool _, .int .i64 _, .int .i64 _, .bool _, .int .i64 _]) (σ' := fun _ => [_]) Try.underlying22 Try.sizeOf39 Try.zeroValue39 rfl rfl rfl (by decide) (by decide) (fun _ => rfl)) (fun g7 => ?_)
  refine WPL.val (v_assign (v := .slice _ _ _) rfl) ?_
  refine WPL.nil (onto_of ?_)
  refine WP.seq ?_
  refine WP.region ?_
  refine WPL.val (v_move (v := .slice _ _ _) rfl) ?_
  refine WPL.ef (x_call Try.call16 (wk1 g7) [] [0] rfl (fun w hw => hw.rd_row (i := 0) (l := NW) (enc := encN) rfl rfl encN_len) (τ := fun _ => [_, _]) (fun _ => rfl)) (fun ⟨rA, rc⟩ => ?_)
  refine WPL.fact (fun _ => ?_)
  refine WPL.val (v_assign (v := .slice _ _ _) rfl) ?_
  refine WPL.nil (onto_of ?_)
  refine WP.seq ?_
  refine WP.holds (fun w hw => hw.row_pos (i := 1) rfl (by decide)) (fun ⟨lb, hA⟩ => ?_)
  subst hA
  refine WP.region ?_
  refine WPL.val (v_move (v := .slice _ _ _) rfl) ?_
  refine WPL.val (v_len Try.underlying26 rfl) ?_
  refine WPL.val (v_lit (b := true) (v_eql rfl rfl) (by decide)) ?_
  refine WPL.val (v_move (v := .bool _) rfl) ?_
  refine WPL.valG (v_move (v := .slice _ _ _) rfl) ?_
  refine WPL.valG (v_index (j := 0) Try.underlying26 Try.sizeOf3 rfl rfl rfl (by omega)) ?_
  refine WPL.valG (v_load1 (u := .int .i64 _) Try.isAgg3 rfl (fun w hw => hw.row_at1 (i := 1) (k := 0) rfl rfl (by decide))) ?_
  refine WPL.valG (v_lit (b := true) (v_eql rfl rfl) (by decide)) ?_
  refine WPL.val (v_pickT (u := .bool _) rfl rfl) ?_
  refine WPL.val (v_move (v := .bool _) rfl) ?_
  refine WPL.valG (v_move (v := .slice _ _ _) rfl) ?_
  refine WPL.valG (v_index (j := 1) Try.underlying26 Try.sizeOf3 rfl rfl rfl (by omega)) ?_
  refine WPL.valG (v_load1 (u := .int .i64 _) Try.isAgg3 rfl (fun w hw => hw.row_at1 (i := 1) (k := 1) rfl rfl (by decide))) ?_
  refine WPL.valG (v_lit (b := true) (v_eql rfl rfl) (by decide)) ?_
  refine WPL.val (v_pickT (u := .bool _) rfl rfl) ?_
  refine WPL.val (v_move (v := .bool _) rfl) ?_
  refine WPL.valG (v_move (v := .slice _ _ _) rfl) ?_
  refine WPL.valG (v_index (j := 2) Try.underlying26 Try.sizeOf3 rfl rfl rfl (by omega)) ?_
  refine WPL.valG (v_load1 (u := .int .i64 _) Try.isAgg3 rfl (fun w hw => hw.row_at1 (i := 1) (k := 2) rfl rfl (by decide))) ?_
  refine WPL.valG (v_lit (b := true) (v_eql rfl rfl) (by decide)) ?_
  refine WPL.val (v_pickT (u := .bool _) rfl rfl) ?_
  refine WPL.val (v_move (v := .bool _) rfl) ?_
  refine WPL.valG (v_move (v := .slice _ _ _) rfl) ?_
  refine WPL.valG (v_index (j := 3) Try.underlying26 Try.sizeOf3 rfl rfl rfl (by omega)) ?_
  refine WPL.valG (v_load1 (u := .int .i64 _) Try.isAgg3 rfl (fun w hw => hw.row_at1 (i := 1) (k := 3) rfl rfl (by decide))) ?_
  refine WPL.valG (v_lit (b := true) (v_eql rfl rfl) (by decide)) ?_
  refine WPL.val (v_pickT (u := .bool _) rfl rfl) ?_
  refine WPL.val (v_move (v := .bool _) rfl) ?_
  refine WPL.valG (v_move (v := .slice _ _ _) rfl) ?_
  refine WPL.efG (x_call Try.call20 (wk2 g7) [] [0, 1] rfl (fun w hw => hw.rd_row (i := 0) (l := NW) (enc := encN) rfl rfl encN_len) (τ := fun _ => [_, _]) (fun _ => rfl)) (fun _ => ?_)
  refine WPL.fact (fun _ => ?_)
  refine WPL.val (v_pickT (u := .bool _) rfl rfl) ?_
  refine WPL.val (v_move (v := .bool _) rfl) ?_
  refine WPL.valG (v_move (v := .slice _ _ _) rfl) ?_
  refine WPL.efG (x_call Try.call20 (wk3 g7) [] [0, 1] rfl (fun w hw => hw.rd_row (i := 0) (l := NW) (enc := encN) rfl rfl encN_len) (τ := fun _ => [_, _]) (fun _ => rfl)) (fun _ => ?_)
  refine WPL.fact (fun _ => ?_)
  refine WPL.valG (v_not rfl) ?_
  refine WPL.val (v_pickT (u := .bool _) rfl rfl) ?_
  refine WPL.val (v_move (v := .bool _) rfl) ?_
  refine WPL.valG (v_move (v := .slice _ _ _) rfl) ?_
  refine WPL.efG (x_call Try.call18 (wk4 g7) [] [0, 1] rfl (fun w hw => hw.rd_row (i := 0) (l := NW) (enc := encN) rfl rfl encN_len) (τ := fun _ => [_, _]) (fun _ => rfl)) (fun _ => ?_)
  refine WPL.fact (fun _ => ?_)
  refine WPL.valG (v_is (b := true) (v_eql rfl rfl) (decide_eq_true rfl)) ?_
  refine WPL.val (v_pickT (u := .bool _) rfl rfl) ?_
  refine WPL.val (v_move (v := .bool _) rfl) ?_
  refine WPL.valG (v_move (v := .slice _ _ _) rfl) ?_
  refine WPL.efG (x_call Try.call17 (wk5 g7) [] [0, 1] rfl (fun w hw => hw.rd_row (i := 0) (l := NW) (enc := encN) rfl rfl encN_len) (τ := fun _ => [_, _]) (fun _ => rfl)) (fun _ => ?_)
  refine WPL.fact (fun _ => ?_)
  refine WPL.val (v_pickT (u := .bool _) rfl rfl) ?_
  refine WPL.val (v_assign (v := .bool _) rfl) ?_
  refine WPL.nil (onto_of ?_)
  exact WP.ret1 Try.results10 (fun _ h => h) (fun w hw => ⟨(), rfl, trivial, hw.sel [] (by decide)⟩)
end Go.Proofs.Ytmjdmlgdffoimab
