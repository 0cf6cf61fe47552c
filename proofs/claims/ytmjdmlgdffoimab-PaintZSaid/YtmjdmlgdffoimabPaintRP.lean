/- The document's order of painting. -/
import Derived.Test.YtmjdmlgdffoimabPaintSel
namespace Go.Proofs.Ytmjdmlgdffoimab
open Go.RowKit

theorem info4 : (Try.prog.info? 4).map (fun i => (i.zero, i.size, i.bytes)) = some (some (.bool false), 1, 1) := by kernel_rfl
abbrev PaintC (A : Option Addr) (c : Nat) (L : List PN) (x : Int) : Prop := Ct Try.prog 22 #[.slice A L.length c, .int .i64 x] [] (fun w => RdN w A L) (X := Option Addr × Nat) (fun p => .slice p.1 (PT L x).length p.2) (fun _ => True) (fun p => [kidsI p.1 (PT L x).length p.2 (PT L x)])
theorem kids_snoc (A : Option Addr) (c : Nat) (l : List Int) (x : Int) : kidsI A (l ++ [x]).length c (l ++ [x]) = .row 3 1 A (l.length + 1) c (l.map (Value.int .i64) ++ [.int .i64 x]) := by
  show HI.row _ _ _ _ _ _ = _
  rw [List.length_append, List.map_append]; rfl
theorem kids_app (A : Option Addr) (c : Nat) (l m : List Int) : kidsI A (l ++ m).length c (l ++ m) = .row 3 1 A (l.length + m.length) c (l.map (Value.int .i64) ++ m.map (Value.int .i64)) := by
  show HI.row _ _ _ _ _ _ = _
  rw [List.length_append, List.map_append]
theorem usedV_nil (l : List Int) : usedV l [] = List.replicate l.length (.bool false) := by
  unfold usedV
  rw [List.eq_replicate_iff]
  refine ⟨by simp, fun v hv => ?_⟩
  obtain ⟨x, _, rfl⟩ := List.mem_map.1 hv
  simp
theorem usedV_at {l ps : List Int} {i : Nat} {x : Int} (h : l[i]? = some x) : (usedV l ps)[i]? = some (.bool (decide (x ∈ ps))) := by unfold usedV; rw [List.getElem?_map, h]; rfl
theorem pair_lt {l : List Int} (h : l.Pairwise (· < ·)) {i j : Nat} {x y : Int} (hi : l[i]? = some x) (hj : l[j]? = some y) (hij : i < j) : x < y := by
  obtain ⟨l1, rfl⟩ := List.getElem?_eq_some_iff.1 hi
  obtain ⟨l2, rfl⟩ := List.getElem?_eq_some_iff.1 hj
  exact List.pairwise_iff_getElem.1 h i j l1 l2 hij
set_option maxHeartbeats 2000000 in
theorem rsorted_ct (A : Option Addr) (c : Nat) (L : List PN) (hP : PV L) (hL : L.length ≤ 1000) (B : Option Addr) (d : Nat) (l : List Int) (hl : ∀ x ∈ l, 0 ≤ x ∧ x < L.length) (hinc : l.Pairwise (· < ·)) {rr : Int} (hr0 : rr ≠ 0) (hrk : ∀ x ∈ l, rankP L x = rr) (hpt : ∀ x ∈ l, PaintC A c L x) :
    Ct Try.prog 32 #[.slice A L.length c, .slice B l.length d] [] (fun w => RdN w A L ∧ RdI w B l) (X := Option Addr × Nat) (fun p => .slice p.1 ((soF L l).flatMap (PT L)).length p.2) (fun _ => True) (fun p => [kidsI p.1 ((soF L l).flatMap (PT L)).length p.2 ((soF L l).flatMap (PT L))]) := by
  have hn : l.Nodup := hinc.imp fun h => by omega
  have hll := memlen_le hl hn
  have hcmp : ∀ {i j : Nat} {x y : Int}, l[i]? = some x → l[j]? = some y → (zP L x < zP L y ∨ (zP L x ≤ zP L y ∧ i < j)) → ltP L x y := fun {i j x y} hi hj h => by
    have e1 := hrk x (List.mem_of_getElem? hi)
    have e2 := hrk y (List.mem_of_getElem? hj)
    refine lt_sameR (e1.trans e2.symm) (by rw [e1]; exact hr0) ?_
    rcases h with h | ⟨h, h2⟩
    · exact .inl h
    · have := pair_lt hinc hi hj h2
      omega
  refine Ct.intro Try.func32 rfl Try.ntmps32 (by simp) (fun w0 ⟨hz, hzl⟩ => ?_)
  refine WP.seq ?_
  refine WP.region ?_
  refine WPL.val (v_assign (v := .slice none 0 0) rfl) ?_
  refine WPL.nil (onto_of ?_)
  refine WP.seq ?_
  refine WP.region ?_
  refine WPL.val (v_assign (v := .slice none 0 0) rfl) ?_
  refine WPL.nil (onto_of ?_)
  refine WP.seq ?_
  refine WP.pre ?_ (fun w hw => hw.nilRow 3 1)
  refine WP.region ?_
  refine WPL.val (v_move (v := .slice _ _ _) rfl) ?_
  refine WPL.val (v_len Try.underlying26 rfl) ?_
  refine WPL.ef (x_make1 (n := l.length) (σ' := fun _ => [_, _]) Try.underlying36 info4 rfl rfl rfl rfl rfl (by omega) (by omega) (fun _ => rfl)) (fun g12 => ?_)
  refine WPL.val (v_assign (v := .slice _ _ _) rfl) ?_
  refine WPL.nil (onto_of ?_)
  refine WP.seq ?_
  refine WP.seq ?_
  
  refine WP.region ?_
  refine WPL.val (v_assign (v := .int .i64 (0)) rfl) ?_
  refine WPL.nil (onto_of ?_)
  refine WP.block ?_
  refine WP.loopK (X := Nat × List Int × Option Addr × Nat) [0, 1, 6] (fun p => [(7, .int .i64 (p.1 : Int)), (5, .slice p.2.2.1 (p.2.1.flatMap (PT L)).length p.2.2.2)]) (fun p w => (p.1 ≤ l.length ∧ p.2.1.length = p.1 ∧ Picks L l p.2.1) ∧ St w0 (foots []) [kidsI p.2.2.1 (p.2.1.flatMap (PT L)).length p.2.2.2 (p.2.1.flatMap (PT L)), .row 4 1 (some ⟨g12, 0, none⟩) l.length l.length (usedV l p.2.1)] w) (fun p => l.length - p.1) (0, [], none, 0) ⟨rfl, rfl, trivial⟩ (fun w hw => ⟨⟨Nat.zero_le _, rfl, Picks.nil l⟩, by rw [usedV_nil]; exact (hw.sel [0, 1] (by decide))⟩) (fun p ρ0 => ?_)
  obtain ⟨k, ps, zA, zc⟩ := p
  dsimp only
  refine WP.fact (fun ⟨hkl, hpk, hpi⟩ => ?_)
  refine WP.seq ?_
  refine WP.seq ?_
  refine WP.region ?_
  refine WPL.val (v_move (v := .int .i64 _) rfl) ?_
  refine WPL.val (v_move (v := .slice _ _ _) rfl) ?_
  refine WPL.val (v_len Try.underlying26 rfl) ?_
  refine WPL.val (v_lss rfl rfl) ?_
  refine WPL.nil (onto_of ?_)
  refine WP.condP rfl (fun h16 => ?_) (fun h16 => ?_)
  ·
    refine WP.skip (onto_of ?_)
    refine WP.seq ?_
    refine WP.block ?_
    refine WP.seq ?_
    refine WP.region ?_
    refine WPL.val (v_assign (v := .int .i64 (-1)) rfl) ?_
    refine WPL.nil (onto_of ?_)
    refine WP.seq ?_
    refine WP.seq ?_
    refine WP.region ?_
    refine WPL.val (v_assign (v := .int .i64 (0)) rfl) ?_
    refine WPL.nil (onto_of ?_)
    refine WP.block ?_
    refine WP.loopK (X := Nat × Int) [0, 1, 5, 6, 7] (fun q => [(9, .int .i64 (q.1 : Int)), (8, .int .i64 q.2)]) (fun q w => (q.1 ≤ l.length ∧ Best L l ps q.1 q.2) ∧ St w0 (foots []) [kidsI zA (ps.flatMap (PT L)).length zc (ps.flatMap (PT L)), .row 4 1 (some ⟨g12, 0, none⟩) l.length l.length (usedV l ps)] w) (fun q => l.length - q.1) (0, -1) ⟨rfl, rfl, trivial⟩ (fun w hw => ⟨⟨Nat.zero_le _, .inl ⟨rfl, by simp⟩⟩, (hw.sel [0, 1] (by decide))⟩) (fun q ρ0 => ?_)
    obtain ⟨i, at_⟩ := q
    dsimp only
    refine WP.fact (fun ⟨hil, hbest⟩ => ?_)
    refine WP.seq ?_
    refine WP.seq ?_
    refine WP.region ?_
    refine WPL.val (v_move (v := .int .i64 _) rfl) ?_
    refine WPL.val (v_move (v := .slice _ _ _) rfl) ?_
    refine WPL.val (v_len Try.underlying26 rfl) ?_
    refine WPL.val (v_lss rfl rfl) ?_
    refine WPL.nil (onto_of ?_)
    refine WP.condP rfl (fun h22 => ?_) (fun h22 => ?_)
    ·
      obtain ⟨x, hx⟩ : ∃ x, l[i]? = some x := ⟨_, List.getElem?_eq_getElem (by omega)⟩
      have hxr := hl x (List.mem_of_getElem? hx)
      obtain ⟨bb, bo, rfl, hcx⟩ := hzl i x hx
      obtain ⟨m, rfl⟩ : ∃ m : Nat, x = m := ⟨x.toNat, by omega⟩
      obtain ⟨nx, nb_nx, no_nx, hn_nx, hA_nx, hcn⟩ := getNode hz (i := m) (by omega)
      subst hA_nx
      refine WP.skip (onto_of ?_)
      refine WP.seq ?_
      refine WP.block ?_
      refine WP.seq ?_
      refine WP.drawS none [(0, true), (1, true), (2, true), (3, true), (4, true), (5, true), (6, true), (7, true), (8, true), (9, true), (10, true), (11, true), (12, true), (13, true), (14, true), (15, true), (16, true), (17, true), (18, true), (19, true), (20, true), (21, true), (22, true), (23, true), (24, true), (25, true), (26, true), (27, true)] mixed (by kernel_rfl) (by decide) (fun _ h => h.drawn) ?_
      refine WPD.take rfl (v_move (v := .slice _ _ _) rfl) ?_ (fun _ h => h)
      refine WPD.take rfl (v_move (v := .int .i64 _) rfl) ?_ (fun _ h => h)
      refine WPD.take rfl (v_index (j := i) Try.underlying36 Try.sizeOf4 rfl rfl rfl (by omega)) ?_ (fun _ h => h)
      refine WPD.take rfl (v_load1 (u := .bool (decide ((m : Int) ∈ ps))) Try.isAgg4 rfl (fun w hw => hw.row_at1 (i := 1) rfl (usedV_at hx) (by omega))) ?_ (fun _ h => h)
      refine WPD.take rfl (v_not rfl) ?_ (fun _ h => h)
      refine WPD.take rfl (v_move (v := .bool _) rfl) ?_ (fun _ h => h)
      refine WPD.splitB 30 rfl (fun h30 => ?_) (fun h30 => ?_)
      ·
        refine WPD.take rfl (v_move (v := .int .i64 _) rfl) ?_ (fun _ h => h)
        refine WPD.take rfl (v_lss rfl rfl) ?_ (fun _ h => h)
        refine WPD.take rfl (v_move (v := .bool _) rfl) ?_ (fun _ h => h)
        refine WPD.split 33 rfl (fun h33 => ?_) (fun h33 => ?_)
        ·
          refine WPD.skip rfl ?_ (fun _ h => h)
          refine WPD.skip rfl ?_ (fun _ h => h)
          refine WPD.skip rfl ?_ (fun _ h => h)
          refine WPD.skip rfl ?_ (fun _ h => h)
          refine WPD.skip rfl ?_ (fun _ h => h)
          refine WPD.skip rfl ?_ (fun _ h => h)
          refine WPD.skip rfl ?_ (fun _ h => h)
          refine WPD.skip rfl ?_ (fun _ h => h)
          refine WPD.skip rfl ?_ (fun _ h => h)
          refine WPD.skip rfl ?_ (fun _ h => h)
          refine WPD.skip rfl ?_ (fun _ h => h)
          refine WPD.skip rfl ?_ (fun _ h => h)
          refine WPD.skip rfl ?_ (fun _ h => h)
          refine WPD.skip rfl ?_ (fun _ h => h)
          refine WPD.skip rfl ?_ (fun _ h => h)
          refine WPD.skip rfl ?_ (fun _ h => h)
          refine WPD.skip rfl ?_ (fun _ h => h)
          refine WPD.take rfl (v_pickT (u := .bool _) rfl rfl) ?_ (fun _ h => h)
          refine WPD.take rfl (v_pickT (u := .bool _) rfl rfl) ?_ (fun _ h => h)
          refine WPD.nil (onto_of ?_)
          have hb2 := hbest.take hx (by simpa using h30) (fun j y e _ => by omega)
          refine WP.condT rfl ?_
          refine WP.region ?_
          refine WPL.val (v_move (v := .int .i64 _) rfl) ?_
          refine WPL.val (v_assign (v := .int .i64 _) rfl) ?_
          refine WPL.nil (onto_of ?_)
          refine WP.region ?_
          refine WPL.val (v_move (v := .int .i64 _) rfl) ?_
          refine WPL.val (v_add rfl rfl (by omega)) ?_
          refine WPL.val (v_assign (v := .int .i64 _) rfl) ?_
          exact WPL.nil fun w hw => ⟨rfl, (i + 1, (i : Int)), (by simp only; omega), ⟨rfl, rfl, (via (.slice _ _ _) rfl rfl), (via (.slice _ _ _) rfl rfl), (via (.slice _ _ _) rfl rfl), (via (.slice _ _ _) rfl rfl), (via (.int .i64 _) rfl rfl), trivial⟩, ⟨⟨by simp only; omega, hb2⟩, (hw.sel [0, 1] (by decide))⟩⟩
        ·
          obtain ⟨j, y, haj, hji, hy⟩ : ∃ (j : Nat) (y : Int), at_ = j ∧ j < i ∧ l[j]? = some y := by
            rcases hbest with ⟨h1, _⟩ | ⟨j, y, h1, h2, h3, _⟩
            · omega
            · exact ⟨j, y, h1, h2, h3⟩
          subst haj
          have hyr := hl y (List.mem_of_getElem? hy)
          obtain ⟨bb2, bo2, eB, hcy⟩ := hzl j y hy
          cases eB
          obtain ⟨m2, rfl⟩ : ∃ m2 : Nat, y = m2 := ⟨y.toNat, by omega⟩
          obtain ⟨ny, nb_ny, no_ny, hn_ny, hA_ny, hcn2⟩ := getNode hz (i := m2) (by omega)
          cases hA_ny
          refine WPD.take rfl (v_move (v := .slice _ _ _) rfl) ?_ (fun _ h => h)
          refine WPD.take rfl (v_move (v := .slice _ _ _) rfl) ?_ (fun _ h => h)
          refine WPD.take rfl (v_move (v := .int .i64 _) rfl) ?_ (fun _ h => h)
          refine WPD.take rfl (v_index (j := i) Try.underlying26 Try.sizeOf3 rfl rfl rfl (by omega)) ?_ (fun _ h => h)
          refine WPD.take rfl (v_load1 (u := .int .i64 _) Try.isAgg3 rfl (fun w hw => hw.old_at hcx (not_foots_nil _))) ?_ (fun _ h => h)
          refine WPD.take rfl (v_index (j := m) Try.underlying24 Try.sizeOf41 rfl rfl rfl (by omega)) ?_ (fun _ h => h)
          refine WPD.take rfl (v_field (off := 2) Try.underlying41 rfl Try.sizeOf3 rfl) ?_ (fun _ h => h)
          refine WPD.take rfl (v_load1 (u := .int .i64 _) Try.isAgg3 rfl (fun w hw => hw.old_at (hcn.one (j := 2) rfl (by omega)) (not_foots_nil _))) ?_ (fun _ h => h)
          refine WPD.take rfl (v_move (v := .slice _ _ _) rfl) ?_ (fun _ h => h)
          refine WPD.take rfl (v_move (v := .slice _ _ _) rfl) ?_ (fun _ h => h)
          refine WPD.take rfl (v_move (v := .int .i64 _) rfl) ?_ (fun _ h => h)
          refine WPD.take rfl (v_index (j := j) Try.underlying26 Try.sizeOf3 rfl rfl rfl (by omega)) ?_ (fun _ h => h)
          refine WPD.take rfl (v_load1 (u := .int .i64 _) Try.isAgg3 rfl (fun w hw => hw.old_at hcy (not_foots_nil _))) ?_ (fun _ h => h)
          refine WPD.take rfl (v_index (j := m2) Try.underlying24 Try.sizeOf41 rfl rfl rfl (by omega)) ?_ (fun _ h => h)
          refine WPD.take rfl (v_field (off := 2) Try.underlying41 rfl Try.sizeOf3 rfl) ?_ (fun _ h => h)
          refine WPD.take rfl (v_load1 (u := .int .i64 _) Try.isAgg3 rfl (fun w hw => hw.old_at (hcn2.one (j := 2) rfl (by omega)) (not_foots_nil _))) ?_ (fun _ h => h)
          refine WPD.take rfl (v_lss rfl rfl) ?_ (fun _ h => h)
          refine WPD.take rfl (v_pickF (v := .bool _) rfl rfl) ?_ (fun _ h => h)
          refine WPD.take rfl (v_pickT (u := .bool _) rfl rfl) ?_ (fun _ h => h)
          refine WPD.nil (onto_of ?_)
          refine WP.condP rfl (fun h52 => ?_) (fun h52 => ?_)
          ·
            have hb2 := hbest.take hx (by simpa using h30) (fun j2 y2 e h2 => by (obtain rfl : j2 = j := by omega); rw [hy] at h2; cases h2; exact hcmp hx hy (.inl (by rw [zN hn_nx, zN hn_ny]; exact h52)))
            refine WP.region ?_
            refine WPL.val (v_move (v := .int .i64 _) rfl) ?_
            refine WPL.val (v_assign (v := .int .i64 _) rfl) ?_
            refine WPL.nil (onto_of ?_)
            refine WP.region ?_
            refine WPL.val (v_move (v := .int .i64 _) rfl) ?_
            refine WPL.val (v_add rfl rfl (by omega)) ?_
            refine WPL.val (v_assign (v := .int .i64 _) rfl) ?_
            exact WPL.nil fun w hw => ⟨rfl, (i + 1, (i : Int)), (by simp only; omega), ⟨rfl, rfl, (via (.slice _ _ _) rfl rfl), (via (.slice _ _ _) rfl rfl), (via (.slice _ _ _) rfl rfl), (via (.slice _ _ _) rfl rfl), (via (.int .i64 _) rfl rfl), trivial⟩, ⟨⟨by simp only; omega, hb2⟩, (hw.sel [0, 1] (by decide))⟩⟩
          ·
            have hb2 := hbest.keep hx (by omega) (fun j2 y2 e h1 h2 => by (obtain rfl : j2 = j := by omega); rw [hy] at h2; cases h2; exact hcmp hy hx (.inr ⟨by rw [zN hn_nx, zN hn_ny]; omega, hji⟩))
            refine WP.skip (onto_of ?_)
            refine WP.region ?_
            refine WPL.val (v_move (v := .int .i64 _) rfl) ?_
            refine WPL.val (v_add rfl rfl (by omega)) ?_
            refine WPL.val (v_assign (v := .int .i64 _) rfl) ?_
            exact WPL.nil fun w hw => ⟨rfl, (i + 1, (j : Int)), (by simp only; omega), ⟨rfl, rfl, (via (.slice _ _ _) rfl rfl), (via (.slice _ _ _) rfl rfl), (via (.slice _ _ _) rfl rfl), (via (.slice _ _ _) rfl rfl), (via (.int .i64 _) rfl rfl), trivial⟩, ⟨⟨by simp only; omega, hb2⟩, (hw.sel [0, 1] (by decide))⟩⟩
      ·
        refine WPD.skip rfl ?_ (fun _ h => h)
        refine WPD.skip rfl ?_ (fun _ h => h)
        refine WPD.skip rfl ?_ (fun _ h => h)
        refine WPD.skip rfl ?_ (fun _ h => h)
        refine WPD.skip rfl ?_ (fun _ h => h)
        refine WPD.skip rfl ?_ (fun _ h => h)
        refine WPD.skip rfl ?_ (fun _ h => h)
        refine WPD.skip rfl ?_ (fun _ h => h)
        refine WPD.skip rfl ?_ (fun _ h => h)
        refine WPD.skip rfl ?_ (fun _ h => h)
        refine WPD.skip rfl ?_ (fun _ h => h)
        refine WPD.skip rfl ?_ (fun _ h => h)
        refine WPD.skip rfl ?_ (fun _ h => h)
        refine WPD.skip rfl ?_ (fun _ h => h)
        refine WPD.skip rfl ?_ (fun _ h => h)
        refine WPD.skip rfl ?_ (fun _ h => h)
        refine WPD.skip rfl ?_ (fun _ h => h)
        refine WPD.skip rfl ?_ (fun _ h => h)
        refine WPD.skip rfl ?_ (fun _ h => h)
        refine WPD.skip rfl ?_ (fun _ h => h)
        refine WPD.skip rfl ?_ (fun _ h => h)
        refine WPD.take rfl (v_pickF (v := .bool _) rfl rfl) ?_ (fun _ h => h)
        refine WPD.nil (onto_of ?_)
        have hb2 := hbest.skip hx (by simpa using h30)
        refine WP.condF rfl ?_
        refine WP.skip (onto_of ?_)
        refine WP.region ?_
        refine WPL.val (v_move (v := .int .i64 _) rfl) ?_
        refine WPL.val (v_add rfl rfl (by omega)) ?_
        refine WPL.val (v_assign (v := .int .i64 _) rfl) ?_
        exact WPL.nil fun w hw => ⟨rfl, (i + 1, at_), (by simp only; omega), ⟨rfl, rfl, (via (.slice _ _ _) rfl rfl), (via (.slice _ _ _) rfl rfl), (via (.slice _ _ _) rfl rfl), (via (.slice _ _ _) rfl rfl), (via (.int .i64 _) rfl rfl), trivial⟩, ⟨⟨by simp only; omega, hb2⟩, (hw.sel [0, 1] (by decide))⟩⟩
    ·
      obtain rfl : i = l.length := by omega
      obtain ⟨j, x, haj, hx, hxn, hpi2⟩ := hbest.done hpi hn (by omega)
      subst haj
      have hjl := (List.getElem?_eq_some_iff.1 hx).1
      have hxr := hl x (List.mem_of_getElem? hx)
      obtain ⟨bb, bo, rfl, hcx⟩ := hzl j x hx
      obtain ⟨m3, rfl⟩ : ∃ m3 : Nat, x = m3 := ⟨x.toNat, by omega⟩
      have hptl := PT_len_le hP hxr.1 hxr.2
      have hpsl := flat_len (f := PT L) (l := ps) (B := 1000) fun y hy => by have h2 := hl y (hpi.sub y hy); have := PT_len_le hP h2.1 h2.2; omega
      have hfa : (ps ++ [(m3 : Int)]).flatMap (PT L) = ps.flatMap (PT L) ++ PT L (m3 : Int) := by simp
      refine WP.exit (onto_of ?_)
      refine WP.seq ?_
      refine WP.region ?_
      refine WPL.val (v_move (v := .slice _ _ _) rfl) ?_
      refine WPL.val (v_move (v := .int .i64 _) rfl) ?_
      refine WPL.val (v_index (j := j) Try.underlying36 Try.sizeOf4 rfl rfl rfl (by omega)) ?_
      refine WPL.ef0 (x_storeRow' (u := .bool _) (xs' := usedV l (ps ++ [(m3 : Int)])) (σ' := [_, _]) Try.sizeOf4 rfl rfl (i := 1) rfl (by unfold usedV; rw [List.length_map]; omega) (by rw [show 0 + j * 1 = j by omega]; exact usedV_set hn hx) rfl) (fun _ => ?_)
      refine WPL.nil (onto_of ?_)
      refine WP.region ?_
      refine WPL.val (v_move (v := .slice _ _ _) rfl) ?_
      refine WPL.val (v_move (v := .slice _ _ _) rfl) ?_
      refine WPL.val (v_move (v := .slice _ _ _) rfl) ?_
      refine WPL.val (v_move (v := .int .i64 _) rfl) ?_
      refine WPL.val (v_index (j := j) Try.underlying26 Try.sizeOf3 rfl rfl rfl (by omega)) ?_
      refine WPL.val (v_load1 (u := .int .i64 _) Try.isAgg3 rfl (fun w hw => hw.old_at hcx (not_foots_nil _))) ?_
      refine WPL.ef (x_call Try.call22 (hpt (m3 : Int) (List.mem_of_getElem? hx)) [] [0, 1] rfl (fun w hw => hw.rd hz not_foots_nil) (τ := fun _ => [_, _, _]) (fun _ => rfl)) (fun ⟨A63, c63⟩ => ?_)
      refine WPL.fact (fun _ => ?_)
      refine WPL.ef (x_append (sz := 1) (σ' := fun _ => [_, _, _]) Try.underlying26 int_info rfl (by decide) rfl rfl (i := 0) rfl (fun w hw => hw.src_row (i := 2) rfl) (by simp) (ints_one _) (by omega) (by omega) (fun _ => rfl)) (fun ⟨A64, c64⟩ => ?_)
      refine WPL.val (v_assign (v := .slice _ _ _) rfl) ?_
      refine WPL.nil (onto_of ?_)
      refine WP.region ?_
      refine WPL.val (v_move (v := .int .i64 _) rfl) ?_
      refine WPL.val (v_add rfl rfl (by omega)) ?_
      refine WPL.val (v_assign (v := .int .i64 _) rfl) ?_
      exact WPL.nil fun w hw => ⟨rfl, (k + 1, ps ++ [(m3 : Int)], A64, c64), (by simp only; omega), ⟨rfl, (by show Value.slice A64 ((ps.flatMap (PT L)).length + (PT L (m3 : Int)).length) c64 = Value.slice A64 ((ps ++ [(m3 : Int)]).flatMap (PT L)).length c64; rw [hfa, List.length_append]), (via (.slice _ _ _) rfl rfl), (via (.slice _ _ _) rfl rfl), (via (.slice _ _ _) rfl rfl), trivial⟩, ⟨⟨by simp only; omega, by simp only [List.length_append, List.length_singleton]; omega, hpi2⟩, by dsimp only; rw [hfa, kids_app]; exact (hw.sel [0, 1] (by decide))⟩⟩
  ·
    obtain rfl : k = l.length := by omega
    have hps := hpi.all hn hpk
    subst hps
    refine WP.exit (onto_of ?_)
    refine WP.seq ?_
    refine WP.region ?_
    refine WPL.val (v_move (v := .slice _ _ _) rfl) ?_
    refine WPL.val (v_assign (v := .slice _ _ _) rfl) ?_
    refine WPL.nil (onto_of ?_)
    exact WP.ret1 Try.results32 (fun _ h => h) (fun w hw => ⟨(zA, zc), rfl, trivial, (hw.sel [0] (by decide))⟩)
set_option maxHeartbeats 2000000 in
theorem rpaint_step (A : Option Addr) (c : Nat) (L : List PN) (hok : okP L = true) (hne : L ≠ []) (hL : L.length ≤ 1000) (a : Int) (ih : ∀ x ∈ kidP L a, PaintC A c L x) : PaintC A c L a := by
  have hP := okP_pv hok
  have hpos := List.length_pos_iff.2 hne
  have hsr : ∀ r x, x ∈ selR L a r (L.length - 1) → 0 ≤ x ∧ x < L.length := fun r x hx => by have := (mem_selR.1 hx).1; omega
  have hsk : ∀ r x, x ∈ selR L a r (L.length - 1) → x ∈ kidP L a := fun r x hx => by have := (mem_selR.1 hx).1; exact mem_kidP.2 ⟨this.1, by omega, this.2.2⟩
  have hfl : ∀ r, ((soF L (selR L a r (L.length - 1))).flatMap (PT L)).length ≤ 1000000 := fun r => by
    have h1 := flat_len (f := PT L) (l := soF L (selR L a r (L.length - 1))) (B := 1000) fun x hx => by
      have h2 := hsr r x ((soF_perm _).mem_iff.1 hx)
      have := PT_len_le hP h2.1 h2.2; omega
    rw [(soF_perm _).length_eq] at h1
    have h3 := selR_len (L := L) a r (L.length - 1)
    omega
  have hfm := hfl (-1)
  have hfh := hfl 1
  have hsp := selR_len (L := L) a 0 (L.length - 1)
  refine Ct.intro Try.func22 rfl Try.ntmps22 (by simp) (fun w0 hz => ?_)
  refine WP.seq ?_
  refine WP.region ?_
  refine WPL.val (v_assign (v := .slice none 0 0) rfl) ?_
  refine WPL.nil (onto_of ?_)
  refine WP.seq ?_
  refine WP.region ?_
  refine WPL.val (v_move (v := .int .i64 _) rfl) ?_
  refine WPL.ef (x_buildSlice (us := [.int .i64 _]) (σ' := fun _ => [_]) Try.underlying26 Try.sizeOf3 Try.zeroValue3 rfl rfl rfl (by decide) (by decide) (fun _ => rfl)) (fun g11 => ?_)
  refine WPL.val (v_assign (v := .slice _ _ _) rfl) ?_
  refine WPL.nil (onto_of ?_)
  refine WP.seq ?_
  refine WP.region ?_
  refine WPL.val (v_assign (v := .slice none 0 0) rfl) ?_
  refine WPL.nil (onto_of ?_)
  refine WP.seq ?_
  refine WP.pre ?_ (fun w hw => hw.nilRow 3 1)
  refine WP.region ?_
  refine WPL.val (v_assign (v := .slice none 0 0) rfl) ?_
  refine WPL.nil (onto_of ?_)
  refine WP.seq ?_
  refine WP.pre ?_ (fun w hw => hw.nilRow 3 1)
  refine WP.region ?_
  refine WPL.val (v_assign (v := .slice none 0 0) rfl) ?_
  refine WPL.nil (onto_of ?_)
  refine WP.seq ?_
  refine WP.seq ?_
  refine WP.pre ?_ (fun w hw => hw.nilRow 3 1)
  refine WP.region ?_
  refine WPL.val (v_assign (v := .int .i64 (1)) rfl) ?_
  refine WPL.nil (onto_of ?_)
  refine WP.block ?_
  refine WP.loopK (X := Nat × (Option Addr × Nat) × (Option Addr × Nat) × (Option Addr × Nat)) [0, 1, 5] (fun p => [(9, .int .i64 ((p.1 : Int) + 1)), (6, .slice p.2.1.1 (selR L a (-1) p.1).length p.2.1.2), (7, .slice p.2.2.1.1 (selR L a 0 p.1).length p.2.2.1.2), (8, .slice p.2.2.2.1 (selR L a 1 p.1).length p.2.2.2.2)]) (fun p w => p.1 ≤ L.length - 1 ∧ St w0 (foots []) [kidsI (some ⟨g11, 0, none⟩) 1 1 [a], kidsI p.2.1.1 (selR L a (-1) p.1).length p.2.1.2 (selR L a (-1) p.1), kidsI p.2.2.1.1 (selR L a 0 p.1).length p.2.2.1.2 (selR L a 0 p.1), kidsI p.2.2.2.1 (selR L a 1 p.1).length p.2.2.2.2 (selR L a 1 p.1)] w) (fun p => L.length - 1 - p.1) (0, (none, 0), (none, 0), (none, 0)) ⟨rfl, rfl, rfl, rfl, trivial⟩ (fun w hw => ⟨Nat.zero_le _, (hw.sel [0, 1, 2, 3] (by decide))⟩) (fun p ρ0 => ?_)
  obtain ⟨k, ⟨la, lc⟩, ⟨pa, pc⟩, ⟨ha, hc⟩⟩ := p
  dsimp only
  refine WP.fact (fun hkl => ?_)
  refine WP.seq ?_
  refine WP.seq ?_
  refine WP.region ?_
  refine WPL.val (v_move (v := .int .i64 _) rfl) ?_
  refine WPL.val (v_move (v := .slice _ _ _) rfl) ?_
  refine WPL.val (v_len Try.underlying24 rfl) ?_
  refine WPL.val (v_lss rfl rfl) ?_
  refine WPL.nil (onto_of ?_)
  refine WP.condP rfl (fun h15 => ?_) (fun h15 => ?_)
  ·
    have hk : k + 1 < L.length := by omega
    have hlx : layX L ((k : Int) + 1) = layF L ((k : Int) + 1) := layX_ok hok (by omega) (by omega)
    obtain ⟨n, ab, ao, hn, rfl, hcn⟩ := getNode hz hk
    have hn1 : layP L ((k : Int) + 1) = n.lay := layN hn
    have hn2 : zP L ((k : Int) + 1) = n.z := zN hn
    have hs1 := selR_len (L := L) a (-1) k
    have hs2 := selR_len (L := L) a 0 k
    have hs3 := selR_len (L := L) a 1 k
    refine WP.skip (onto_of ?_)
    refine WP.seq ?_
    refine WP.block ?_
    refine WP.seq ?_
    refine WP.seq ?_
    refine WP.region ?_
    refine WPL.val (v_move (v := .slice _ _ _) rfl) ?_
    refine WPL.val (v_move (v := .int .i64 _) rfl) ?_
    refine WPL.ef (x_call Try.call19 (rLayer_ct _ c L hL ((k : Int) + 1)) [] [0, 1, 2, 3] rfl (fun w hw => hw.rd hz not_foots_nil) (τ := fun _ => [_, _, _, _]) (fun _ => rfl)) (fun _ => ?_)
    refine WPL.fact (fun _ => ?_)
    refine WPL.val (v_move (v := .int .i64 _) rfl) ?_
    refine WPL.val (v_neq rfl rfl) ?_
    refine WPL.nil (onto_of ?_)
    refine WP.condP rfl (fun h22 => ?_) (fun h22 => ?_)
    ·
      have hnl : layF L ((k : Int) + 1) ≠ a := by rw [← hlx]; exact h22
      have h_low : selR L a (-1) (k + 1) = selR L a (-1) k := selR_no (fun e => hnl e.1)
      have h_plain : selR L a 0 (k + 1) = selR L a 0 k := selR_no (fun e => hnl e.1)
      have h_high : selR L a 1 (k + 1) = selR L a 1 k := selR_no (fun e => hnl e.1)
      refine WP.exit (onto_of ?_)
      refine WP.region ?_
      refine WPL.val (v_move (v := .int .i64 _) rfl) ?_
      refine WPL.val (v_add rfl rfl (by omega)) ?_
      refine WPL.val (v_assign (v := .int .i64 _) rfl) ?_
      exact WPL.nil fun w hw => ⟨rfl, (k + 1, (la, lc), (pa, pc), (ha, hc)), (by simp only; omega), ⟨(congrArg (Value.int .i64) (by push_cast; rfl)), (by show Value.slice la (selR L a (-1) k).length lc = Value.slice la (selR L a (-1) (k + 1)).length lc; rw [h_low]), (by show Value.slice pa (selR L a 0 k).length pc = Value.slice pa (selR L a 0 (k + 1)).length pc; rw [h_plain]), (by show Value.slice ha (selR L a 1 k).length hc = Value.slice ha (selR L a 1 (k + 1)).length hc; rw [h_high]), (via (.slice _ _ _) rfl rfl), (via (.int .i64 _) rfl rfl), (via (.slice _ _ _) rfl rfl), trivial⟩, ⟨by simp only; omega, by dsimp only; rw [h_low, h_plain, h_high]; exact (hw.sel [0, 1, 2, 3] (by decide))⟩⟩
    ·
      have hlay : layF L ((k : Int) + 1) = a := by rw [← hlx]; exact Decidable.not_not.1 h22
      have hnl : ¬ layF L ((k : Int) + 1) ≠ a := fun e => e hlay
      refine WP.skip (onto_of ?_)
      refine WP.seq ?_
      refine WP.region ?_
      refine WPL.val (v_move (v := .slice _ _ _) rfl) ?_
      refine WPL.val (v_move (v := .int .i64 _) rfl) ?_
      refine WPL.val (v_index (j := k + 1) Try.underlying24 Try.sizeOf41 rfl rfl (by omega) (by omega)) ?_
      refine WPL.val (v_field (off := 1) Try.underlying41 rfl Try.sizeOf4 rfl) ?_
      refine WPL.val (v_load1 (u := .bool _) Try.isAgg4 rfl (fun w hw => hw.old_at (hcn.one (j := 1) rfl (by omega)) (not_foots_nil _))) ?_
      refine WPL.val (v_not rfl) ?_
      refine WPL.nil (onto_of ?_)
      refine WP.cond rfl (fun h28 => ?_) (fun h28 => ?_)
      ·
        have hrank : rankP L ((k : Int) + 1) = 0 := rank_no (by rw [hn1]; simpa using h28)
        have h_low : (selR L a (-1) (k + 1)) = (selR L a (-1) k) := selR_no (by rintro ⟨e1, e2⟩; first | exact hnl e1 | (rw [hrank] at e2; omega))
        have hyes := selR_yes (L := L) (a := a) (k := k) hlay hrank
        have h_high : (selR L a 1 (k + 1)) = (selR L a 1 k) := selR_no (by rintro ⟨e1, e2⟩; first | exact hnl e1 | (rw [hrank] at e2; omega))
        refine WP.region ?_
        refine WPL.val (v_move (v := .slice _ _ _) rfl) ?_
        refine WPL.val (v_move (v := .int .i64 _) rfl) ?_
        refine WPL.ef (x_buildSlice (us := [.int .i64 _]) (σ' := fun _ => [_, _, _, _, _]) Try.underlying26 Try.sizeOf3 Try.zeroValue3 rfl rfl rfl (by decide) (by decide) (fun _ => rfl)) (fun g31 => ?_)
        refine WPL.ef (x_append (sz := 1) (σ' := fun _ => [_, _, _, _, _]) Try.underlying26 int_info rfl (by decide) rfl rfl (i := 2) rfl (fun w hw => hw.src_row (i := 4) rfl) rfl (by simp [Value.oneCell']) (by omega) (by omega) (fun _ => rfl)) (fun ⟨A32, c32⟩ => ?_)
        refine WPL.val (v_assign (v := .slice _ _ _) rfl) ?_
        refine WPL.nil (onto_of ?_)
        refine WP.region ?_
        refine WPL.val (v_move (v := .int .i64 _) rfl) ?_
        refine WPL.val (v_add rfl rfl (by omega)) ?_
        refine WPL.val (v_assign (v := .int .i64 _) rfl) ?_
        exact WPL.nil fun w hw => ⟨rfl, (k + 1, (la, lc), (A32, c32), (ha, hc)), (by simp only; omega), ⟨(congrArg (Value.int .i64) (by push_cast; rfl)), (by show Value.slice la (selR L a (-1) k).length lc = Value.slice la (selR L a (-1) (k + 1)).length lc; rw [h_low]), (by show Value.slice A32 ((selR L a 0 k).length + 1) c32 = Value.slice A32 (selR L a 0 (k + 1)).length c32; rw [hyes, List.length_append]; rfl), (by show Value.slice ha (selR L a 1 k).length hc = Value.slice ha (selR L a 1 (k + 1)).length hc; rw [h_high]), (via (.slice _ _ _) rfl rfl), (via (.int .i64 _) rfl rfl), (via (.slice _ _ _) rfl rfl), trivial⟩, ⟨by simp only; omega, by dsimp only; rw [h_low, hyes, kids_snoc, h_high]; exact (hw.sel [0, 1, 2, 3] (by decide))⟩⟩
      ·
        refine WP.seq ?_
        refine WP.region ?_
        refine WPL.val (v_move (v := .slice _ _ _) rfl) ?_
        refine WPL.val (v_move (v := .int .i64 _) rfl) ?_
        refine WPL.val (v_index (j := k + 1) Try.underlying24 Try.sizeOf41 rfl rfl (by omega) (by omega)) ?_
        refine WPL.val (v_field (off := 2) Try.underlying41 rfl Try.sizeOf3 rfl) ?_
        refine WPL.val (v_load1 (u := .int .i64 _) Try.isAgg3 rfl (fun w hw => hw.old_at (hcn.one (j := 2) rfl (by omega)) (not_foots_nil _))) ?_
        refine WPL.val (v_lss rfl rfl) ?_
        refine WPL.nil (onto_of ?_)
        refine WP.condP rfl (fun h38 => ?_) (fun h38 => ?_)
        ·
          have hrank : rankP L ((k : Int) + 1) = -1 := by rw [rank_lay (by rw [hn1]; simpa using h28), if_pos (by rw [hn2]; exact h38)]
          have hyes := selR_yes (L := L) (a := a) (k := k) hlay hrank
          have h_plain : (selR L a 0 (k + 1)) = (selR L a 0 k) := selR_no (by rintro ⟨e1, e2⟩; first | exact hnl e1 | (rw [hrank] at e2; omega))
          have h_high : (selR L a 1 (k + 1)) = (selR L a 1 k) := selR_no (by rintro ⟨e1, e2⟩; first | exact hnl e1 | (rw [hrank] at e2; omega))
          refine WP.region ?_
          refine WPL.val (v_move (v := .slice _ _ _) rfl) ?_
          refine WPL.val (v_move (v := .int .i64 _) rfl) ?_
          refine WPL.ef (x_buildSlice (us := [.int .i64 _]) (σ' := fun _ => [_, _, _, _, _]) Try.underlying26 Try.sizeOf3 Try.zeroValue3 rfl rfl rfl (by decide) (by decide) (fun _ => rfl)) (fun g41 => ?_)
          refine WPL.ef (x_append (sz := 1) (σ' := fun _ => [_, _, _, _, _]) Try.underlying26 int_info rfl (by decide) rfl rfl (i := 1) rfl (fun w hw => hw.src_row (i := 4) rfl) rfl (by simp [Value.oneCell']) (by omega) (by omega) (fun _ => rfl)) (fun ⟨A42, c42⟩ => ?_)
          refine WPL.val (v_assign (v := .slice _ _ _) rfl) ?_
          refine WPL.nil (onto_of ?_)
          refine WP.region ?_
          refine WPL.val (v_move (v := .int .i64 _) rfl) ?_
          refine WPL.val (v_add rfl rfl (by omega)) ?_
          refine WPL.val (v_assign (v := .int .i64 _) rfl) ?_
          exact WPL.nil fun w hw => ⟨rfl, (k + 1, (A42, c42), (pa, pc), (ha, hc)), (by simp only; omega), ⟨(congrArg (Value.int .i64) (by push_cast; rfl)), (by show Value.slice A42 ((selR L a (-1) k).length + 1) c42 = Value.slice A42 (selR L a (-1) (k + 1)).length c42; rw [hyes, List.length_append]; rfl), (by show Value.slice pa (selR L a 0 k).length pc = Value.slice pa (selR L a 0 (k + 1)).length pc; rw [h_plain]), (by show Value.slice ha (selR L a 1 k).length hc = Value.slice ha (selR L a 1 (k + 1)).length hc; rw [h_high]), (via (.slice _ _ _) rfl rfl), (via (.int .i64 _) rfl rfl), (via (.slice _ _ _) rfl rfl), trivial⟩, ⟨by simp only; omega, by dsimp only; rw [hyes, kids_snoc, h_plain, h_high]; exact (hw.sel [0, 1, 2, 3] (by decide))⟩⟩
        ·
          have hrank : rankP L ((k : Int) + 1) = 1 := by rw [rank_lay (by rw [hn1]; simpa using h28), if_neg (by rw [hn2]; exact h38)]
          have h_low : (selR L a (-1) (k + 1)) = (selR L a (-1) k) := selR_no (by rintro ⟨e1, e2⟩; first | exact hnl e1 | (rw [hrank] at e2; omega))
          have h_plain : (selR L a 0 (k + 1)) = (selR L a 0 k) := selR_no (by rintro ⟨e1, e2⟩; first | exact hnl e1 | (rw [hrank] at e2; omega))
          have hyes := selR_yes (L := L) (a := a) (k := k) hlay hrank
          refine WP.region ?_
          refine WPL.val (v_move (v := .slice _ _ _) rfl) ?_
          refine WPL.val (v_move (v := .int .i64 _) rfl) ?_
          refine WPL.ef (x_buildSlice (us := [.int .i64 _]) (σ' := fun _ => [_, _, _, _, _]) Try.underlying26 Try.sizeOf3 Try.zeroValue3 rfl rfl rfl (by decide) (by decide) (fun _ => rfl)) (fun g45 => ?_)
          refine WPL.ef (x_append (sz := 1) (σ' := fun _ => [_, _, _, _, _]) Try.underlying26 int_info rfl (by decide) rfl rfl (i := 3) rfl (fun w hw => hw.src_row (i := 4) rfl) rfl (by simp [Value.oneCell']) (by omega) (by omega) (fun _ => rfl)) (fun ⟨A46, c46⟩ => ?_)
          refine WPL.val (v_assign (v := .slice _ _ _) rfl) ?_
          refine WPL.nil (onto_of ?_)
          refine WP.region ?_
          refine WPL.val (v_move (v := .int .i64 _) rfl) ?_
          refine WPL.val (v_add rfl rfl (by omega)) ?_
          refine WPL.val (v_assign (v := .int .i64 _) rfl) ?_
          exact WPL.nil fun w hw => ⟨rfl, (k + 1, (la, lc), (pa, pc), (A46, c46)), (by simp only; omega), ⟨(congrArg (Value.int .i64) (by push_cast; rfl)), (by show Value.slice la (selR L a (-1) k).length lc = Value.slice la (selR L a (-1) (k + 1)).length lc; rw [h_low]), (by show Value.slice pa (selR L a 0 k).length pc = Value.slice pa (selR L a 0 (k + 1)).length pc; rw [h_plain]), (by show Value.slice A46 ((selR L a 1 k).length + 1) c46 = Value.slice A46 (selR L a 1 (k + 1)).length c46; rw [hyes, List.length_append]; rfl), (via (.slice _ _ _) rfl rfl), (via (.int .i64 _) rfl rfl), (via (.slice _ _ _) rfl rfl), trivial⟩, ⟨by simp only; omega, by dsimp only; rw [h_low, h_plain, hyes, kids_snoc]; exact (hw.sel [0, 1, 2, 3] (by decide))⟩⟩
  ·
    obtain rfl : k = L.length - 1 := by omega
    refine WP.exit (onto_of ?_)
    refine WP.seq ?_
    refine WP.region ?_
    refine WPL.val (v_move (v := .slice _ _ _) rfl) ?_
    refine WPL.val (v_move (v := .slice _ _ _) rfl) ?_
    refine WPL.val (v_move (v := .slice _ _ _) rfl) ?_
    refine WPL.ef (x_call Try.call32 (rsorted_ct A c L hP hL la lc (selR L a (-1) (L.length - 1)) (hsr _) (selR_pair _ _ _) (rr := (-1)) (by decide) (fun x hx => (mem_selR.1 hx).2) (fun x hx => ih x (hsk _ x hx))) [] [0, 1, 2, 3] rfl (fun w hw => ⟨hw.rd hz not_foots_nil, hw.rd_row1 (i := 1) (f := Value.int .i64) rfl⟩) (τ := fun _ => [_, _, _, _, _]) (fun _ => rfl)) (fun ⟨A50, c50⟩ => ?_)
    refine WPL.fact (fun _ => ?_)
    refine WPL.ef (x_append (sz := 1) (σ' := fun _ => [_, _, _, _, _]) Try.underlying26 int_info rfl (by decide) rfl rfl (i := 0) rfl (fun w hw => hw.src_row (i := 4) rfl) (by simp) (ints_one _) (by omega) (by omega) (fun _ => rfl)) (fun ⟨A51, c51⟩ => ?_)
    refine WPL.val (v_assign (v := .slice _ _ _) rfl) ?_
    refine WPL.nil (onto_of ?_)
    refine WP.seq ?_
    refine WP.region ?_
    refine WPL.val (v_move (v := .slice _ _ _) rfl) ?_
    refine WPL.val (v_move (v := .slice _ _ _) rfl) ?_
    refine WPL.ef (x_append (sz := 1) (σ' := fun _ => [_, _, _, _, _]) Try.underlying26 int_info rfl (by decide) rfl rfl (i := 0) rfl (fun w hw => hw.src_row (i := 2) rfl) (by simp) (ints_one _) (by omega) (by omega) (fun _ => rfl)) (fun ⟨A54, c54⟩ => ?_)
    refine WPL.val (v_assign (v := .slice _ _ _) rfl) ?_
    refine WPL.nil (onto_of ?_)
    refine WP.seq ?_
    refine WP.region ?_
    refine WPL.val (v_move (v := .slice _ _ _) rfl) ?_
    refine WPL.val (v_move (v := .slice _ _ _) rfl) ?_
    refine WPL.val (v_move (v := .slice _ _ _) rfl) ?_
    refine WPL.ef (x_call Try.call32 (rsorted_ct A c L hP hL ha hc (selR L a 1 (L.length - 1)) (hsr _) (selR_pair _ _ _) (rr := 1) (by decide) (fun x hx => (mem_selR.1 hx).2) (fun x hx => ih x (hsk _ x hx))) [] [0, 1, 2, 3, 4] rfl (fun w hw => ⟨hw.rd hz not_foots_nil, hw.rd_row1 (i := 3) (f := Value.int .i64) rfl⟩) (τ := fun _ => [_, _, _, _, _, _]) (fun _ => rfl)) (fun ⟨A58, c58⟩ => ?_)
    refine WPL.fact (fun _ => ?_)
    refine WPL.ef (x_append (sz := 1) (σ' := fun _ => [_, _, _, _, _, _]) Try.underlying26 int_info rfl (by decide) rfl rfl (i := 0) rfl (fun w hw => hw.src_row (i := 5) rfl) (by simp) (ints_one _) (by omega) (by omega) (fun _ => rfl)) (fun ⟨A59, c59⟩ => ?_)
    refine WPL.val (v_assign (v := .slice _ _ _) rfl) ?_
    refine WPL.nil (onto_of ?_)
    exact WP.ret1 Try.results22 (fun _ h => h) (fun w hw => ⟨(A59, c59), by rw [PT_split hP a]; show Value.slice A59 (1 + ((soF L (selR L a (-1) (L.length - 1))).flatMap (PT L)).length + (selR L a 0 (L.length - 1)).length + ((soF L (selR L a 1 (L.length - 1))).flatMap (PT L)).length) c59 = Value.slice A59 (a :: (((soF L (selR L a (-1) (L.length - 1))).flatMap (PT L)) ++ (selR L a 0 (L.length - 1)) ++ ((soF L (selR L a 1 (L.length - 1))).flatMap (PT L)))).length c59; congr 1; simp only [List.length_cons, List.length_append]; omega, trivial, by have h := (hw.sel [0] (by decide)); rw [PT_split hP a, show kidsI A59 (a :: (((soF L (selR L a (-1) (L.length - 1))).flatMap (PT L)) ++ (selR L a 0 (L.length - 1)) ++ ((soF L (selR L a 1 (L.length - 1))).flatMap (PT L)))).length c59 (a :: (((soF L (selR L a (-1) (L.length - 1))).flatMap (PT L)) ++ (selR L a 0 (L.length - 1)) ++ ((soF L (selR L a 1 (L.length - 1))).flatMap (PT L)))) = .row 3 1 A59 (1 + ((soF L (selR L a (-1) (L.length - 1))).flatMap (PT L)).length + (selR L a 0 (L.length - 1)).length + ((soF L (selR L a 1 (L.length - 1))).flatMap (PT L)).length) c59 ([a].map (Value.int .i64) ++ ((soF L (selR L a (-1) (L.length - 1))).flatMap (PT L)).map (Value.int .i64) ++ (selR L a 0 (L.length - 1)).map (Value.int .i64) ++ ((soF L (selR L a 1 (L.length - 1))).flatMap (PT L)).map (Value.int .i64)) by (show HI.row _ _ _ _ _ _ = _); rw [show (a :: (((soF L (selR L a (-1) (L.length - 1))).flatMap (PT L)) ++ (selR L a 0 (L.length - 1)) ++ ((soF L (selR L a 1 (L.length - 1))).flatMap (PT L)))).length = 1 + ((soF L (selR L a (-1) (L.length - 1))).flatMap (PT L)).length + (selR L a 0 (L.length - 1)).length + ((soF L (selR L a 1 (L.length - 1))).flatMap (PT L)).length by simp only [List.length_cons, List.length_append]; omega]; congr 1; simp only [List.map_cons, List.map_append, List.map_nil, List.cons_append, List.nil_append]]; exact h⟩)
theorem rpaint_ct (A : Option Addr) (c : Nat) (L : List PN) (hok : okP L = true) (hne : L ≠ []) (hL : L.length ≤ 1000) : ∀ (n : Nat) (a : Int), L.length - a.toNat ≤ n → PaintC A c L a
  | 0, a, hn => rpaint_step A c L hok hne hL a fun x hx => by
    have := kidP_gt (okP_pv hok) hx; omega
  | n + 1, a, hn => rpaint_step A c L hok hne hL a fun x hx => by
    have := kidP_gt (okP_pv hok) hx
    exact rpaint_ct A c L hok hne hL n x (by omega)
theorem rorder_ct (A : Option Addr) (c : Nat) (L : List PN) (hL : L.length ≤ 1000) : Ct Try.prog 12 #[.slice A L.length c] [] (fun w => RdN w A L) (X := Option Addr × Nat) (fun p => .slice p.1 (ordP L).length p.2) (fun _ => True) (fun p => [kidsI p.1 (ordP L).length p.2 (ordP L)]) := by
  refine Ct.intro Try.func12 rfl Try.ntmps12 (by simp) (fun w0 hz => ?_)
  refine WP.seq ?_
  refine WP.region ?_
  refine WPL.val (v_assign (v := .slice none 0 0) rfl) ?_
  refine WPL.nil (onto_of ?_)
  refine WP.seq ?_
  refine WP.seq ?_
  refine WP.region ?_
  refine WPL.val (v_move (v := .slice _ _ _) rfl) ?_
  refine WPL.val (v_len Try.underlying24 rfl) ?_
  refine WPL.val (v_eql rfl rfl) ?_
  refine WPL.val (v_move (v := .bool _) rfl) ?_
  refine WPL.split 6 rfl (fun h6 => ?_) (fun h6 => ?_)
  ·
    refine WPL.skipG ?_
    refine WPL.skipG ?_
    refine WPL.skipG ?_
    refine WPL.val (v_pickT (u := .bool _) rfl rfl) ?_
    refine WPL.nil (onto_of ?_)
    have hr : ordP L = [] := ordP_no (.inl (List.eq_nil_of_length_eq_zero (by omega)))
    refine WP.condT rfl ?_
    refine WP.seq ?_
    refine WP.region ?_
    refine WPL.val (v_assign (v := .slice none 0 0) rfl) ?_
    refine WPL.nil (onto_of ?_)
    exact WP.ret1 Try.results12 (fun _ h => h) (fun w hw => ⟨(none, 0), by rw [hr]; rfl, trivial, by rw [hr]; exact (hw.nilRow 3 1).sel [0] (by decide)⟩)
  ·
    refine WPL.valG (v_move (v := .slice _ _ _) rfl) ?_
    refine WPL.efG (x_call Try.call14 (rvalid_ct A c L hL) [] [] rfl (fun w hw => hw.rd hz not_foots_nil) (τ := fun _ => []) (fun _ => rfl)) (fun _ => ?_)
    refine WPL.fact (fun _ => ?_)
    refine WPL.valG (v_not rfl) ?_
    refine WPL.val (v_pickF (v := .bool _) rfl rfl) ?_
    refine WPL.nil (onto_of ?_)
    refine WP.cond rfl (fun h10 => ?_) (fun h10 => ?_)
    ·
      have hr : ordP L = [] := ordP_no (.inr (by simpa using h10))
      refine WP.seq ?_
      refine WP.region ?_
      refine WPL.val (v_assign (v := .slice none 0 0) rfl) ?_
      refine WPL.nil (onto_of ?_)
      exact WP.ret1 Try.results12 (fun _ h => h) (fun w hw => ⟨(none, 0), by rw [hr]; rfl, trivial, by rw [hr]; exact (hw.nilRow 3 1).sel [0] (by decide)⟩)
    ·
      have hok : okP L = true := by simpa using h10
      have hne : L ≠ [] := fun e => by rw [e] at h6; simp at h6
      have hr := ordP_ok hne hok
      refine WP.skip (onto_of ?_)
      refine WP.seq ?_
      refine WP.region ?_
      refine WPL.val (v_move (v := .slice _ _ _) rfl) ?_
      refine WPL.ef (x_call Try.call22 (rpaint_ct A c L hok hne hL _ 0 (Nat.le_refl _)) [] [] rfl (fun w hw => hw.rd hz not_foots_nil) (τ := fun _ => [_]) (fun _ => rfl)) (fun ⟨A12, c12⟩ => ?_)
      refine WPL.fact (fun _ => ?_)
      refine WPL.val (v_assign (v := .slice _ _ _) rfl) ?_
      refine WPL.nil (onto_of ?_)
      exact WP.ret1 Try.results12 (fun _ h => h) (fun w hw => ⟨(A12, c12), by rw [hr]; rfl, trivial, by rw [hr]; exact (hw.sel [0] (by decide))⟩)
end Go.Proofs.Ytmjdmlgdffoimab
