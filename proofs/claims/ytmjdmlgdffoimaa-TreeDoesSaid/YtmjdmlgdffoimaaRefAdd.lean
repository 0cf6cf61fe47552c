/- The document's Add. -/
import Derived.Test.YtmjdmlgdffoimaaRefNew
namespace Go.Proofs.Ytmjdmlgdffoimaa
open Go.RowKit

set_option maxRecDepth 100000 in
theorem info74 : (Try.prog.info? 74).map (fun i => (i.zero, i.size, i.bytes)) = some (some (.agg #[.bool false, .int .i64 0, .slice none 0 0, .int .i64 0, .int .i64 0, .int .i64 0, .int .i64 0, .int .i64 0, .int .i64 0, .int .i64 0, .int .i64 0, .int .i64 0, .int .i64 0, .int .i64 0, .int .i64 0, .int .i64 0, .int .i64 0, .int .i64 0, .int .i64 0, .int .i64 0, .int .i64 0, .int .i64 0, .int .i64 0, .int .i64 0, .int .i64 0, .int .i64 0, .int .i64 0, .int .i64 0, .int .i64 0, .int .i64 0, .int .i64 0, .int .i64 0, .int .i64 0, .int .i64 0, .int .i64 0, .int .i64 0, .int .i64 0, .int .i64 0, .int .i64 0, .int .i64 0, .int .i64 0, .int .i64 0, .int .i64 0, .int .i64 0, .int .i64 0, .int .i64 0, .int .i64 0, .int .i64 0, .bool false, .int .i64 0, .bool false, .int .i64 0, .int .i64 0, .int .i64 0, .bool false, .bool false, .int .i64 0, .int .i64 0]), 58, 472) := by kernel_rfl
theorem St.rowApp {w0 w : World} {M : Nat → Prop} {F : List HI} {bs : List RB} {b' : RB} (h : St w0 M (rowsI bs :: b'.row :: F) w) : St w0 M (rowsI (bs ++ [b']) :: F) w := by
  have h1 := h.unpack
  refine St.pack (τ := (bs ++ [b']).map RB.row) (h1.perm ?_)
  rw [List.map_append, List.append_assoc]
  exact List.Perm.refl _
theorem ROk.app {bs : List RB} (h : ROk bs) : ROk (bs ++ [zeroRB]) := fun b hb => by
  rcases List.mem_append.1 hb with hb | hb
  · exact h b hb
  · obtain rfl : b = _ := by simpa using hb
    exact zeroS_ok
theorem cellsB_app (bs : List RB) : cellsB (bs ++ [zeroRB]) = cellsB bs ++ zeroRB.cells := by simp [cellsB]
theorem zeroRB_one : ∀ v ∈ zeroRB.cells, v.oneCell' = true := by
  intro v hv
  simp only [RB.cells, zeroRB, List.mem_cons] at hv
  rcases hv with rfl | rfl | rfl | hv
  · rfl
  · rfl
  · rfl
  · exact zeroS_ok.one v hv
theorem absR_add {bs : List RB} {i k : Nat} {q : RB} (hq : bs[i]? = some q) (hl : q.live = true) (hk : k < bs.length) (hno : hasF (absR bs) (k : Int) = false) {A : Option Addr} {c j : Nat} : (bs.set k (liveRB i))[i]? = some q ∧ absR ((bs.set k (liveRB i)).set i (insB q A c j k)) = addG (absR bs) i j k zeroS := by
  have hne : k ≠ i := fun e => by rw [e, absR_live hq, hl] at hno; cases hno
  have hil := (List.getElem?_eq_some_iff.1 hq).1
  refine ⟨by rw [List.getElem?_set_ne hne, hq], ?_⟩
  funext y
  rw [absR_set (by simp [hil]), absR_set hk, addG, absR_at hq hl]
  by_cases e1 : y = i
  · simp [e1, insB, hl]
  · by_cases e2 : y = k
    · have e3 : ((k : Int) ≠ i) := by omega
      simp [e2, e3, liveRB]
    · simp [e1, e2]
set_option maxRecDepth 100000 in
set_option maxHeartbeats 4000000 in
theorem radd_ct (rp g bc : Nat) (bs : List RB) (hk : ROk bs) {d : Int → Nat} (hF : WF (absR bs) d) (up at_ : Int) :
    Ct Try.prog 37 #[.pointer (some ⟨rp, 0, none⟩), .int .i64 up, .int .i64 at_] [refI rp g bc bs] (fun _ => True) (X := Nat × Nat × List RB) (fun _ => .tuple #[.int .i64 (addR zeroS (absR bs) up at_).2.1, .int .i64 (addR zeroS (absR bs) up at_).2.2]) (fun p => absR p.2.2 = (addR zeroS (absR bs) up at_).1 ∧ ROk p.2.2) (fun p => [refI rp p.1 p.2.1 p.2.2]) := by
  have hll := hF.len_le 0
  refine Ct.intro Try.func37 rfl Try.ntmps37 (by simp) (fun w0 _ => ?_)
  refine WP.seq ?_
  refine WP.region ?_
  refine WPL.val (v_assign (v := .int .i64 (0)) rfl) ?_
  refine WPL.val (v_assign (v := .int .i64 (0)) rfl) ?_
  refine WPL.nil (onto_of ?_)
  refine WP.seq ?_
  refine WP.seq ?_
  refine WP.region ?_
  refine WPL.val (v_move (v := .pointer _) rfl) ?_
  refine WPL.val (v_move (v := .int .i64 _) rfl) ?_
  refine WPL.ef (x_call Try.call15 (rhas_ct rp g bc bs hk up) [0] [] rfl (fun w hw => trivial) (τ := fun _ => [_]) (fun _ => rfl)) (fun _ => ?_)
  refine WPL.fact (fun _ => ?_)
  refine WPL.val (v_not rfl) ?_
  refine WPL.nil (onto_of ?_)
  refine WP.cond rfl (fun h12 => ?_) (fun h12 => ?_)
  ·
    have hr : addR zeroS (absR bs) up at_ = (absR bs, -1, 2) := by
      have hn : hasF (absR bs) up = false := by simpa using h12
      simp [addR, hn]
    refine WP.seq ?_
    refine WP.region ?_
    refine WPL.val (v_assign (v := .int .i64 (-1)) rfl) ?_
    refine WPL.val (v_assign (v := .int .i64 (2)) rfl) ?_
    refine WPL.nil (onto_of ?_)
    exact WP.ret2 Try.results37 (fun _ h => h) (fun w hw => ⟨(g, bc, bs), by rw [hr]; rfl, ⟨by rw [hr], hk⟩, (hw.sel [0] (by decide))⟩)
  ·
    have hup : hasF (absR bs) up = true := by simpa using h12
    obtain ⟨i, q, hui, hq, hql⟩ := absR_has hup
    subst hui
    have hib := (List.getElem?_eq_some_iff.1 hq).1
    have hke : kidsF (absR bs) (i : Int) = q.kids := kids_some (absR_at hq hql)
    have hqk : q.kids.length ≤ 4096 := hF.kids_le (absR_at hq hql)
    refine WP.skip (onto_of ?_)
    refine WP.seq ?_
    refine WP.seq ?_
    refine WP.region ?_
    refine WPL.val (v_move (v := .int .i64 _) rfl) ?_
    refine WPL.val (v_lss rfl rfl) ?_
    refine WPL.val (v_move (v := .bool _) rfl) ?_
    refine WPL.split 15 rfl (fun h15 => ?_) (fun h15 => ?_)
    ·
      refine WPL.skipG ?_
      refine WPL.skipG ?_
      refine WPL.skipG ?_
      refine WPL.skipG ?_
      refine WPL.skipG ?_
      refine WPL.skipG ?_
      refine WPL.skipG ?_
      refine WPL.skipG ?_
      refine WPL.skipG ?_
      refine WPL.skipG ?_
      refine WPL.skipG ?_
      refine WPL.val (v_pickT (u := .bool _) rfl rfl) ?_
      refine WPL.nil (onto_of ?_)
      have hr : addR zeroS (absR bs) (i : Int) at_ = (absR bs, -1, 1) := by rw [addR, if_neg (by simp [hup]), if_pos (by left; omega)]
      refine WP.condT rfl ?_
      refine WP.seq ?_
      refine WP.region ?_
      refine WPL.val (v_assign (v := .int .i64 (-1)) rfl) ?_
      refine WPL.val (v_assign (v := .int .i64 (1)) rfl) ?_
      refine WPL.nil (onto_of ?_)
      exact WP.ret2 Try.results37 (fun _ h => h) (fun w hw => ⟨(g, bc, bs), by rw [hr]; rfl, ⟨by rw [hr], hk⟩, (hw.sel [0] (by decide))⟩)
    ·
      refine WPL.valG (v_move (v := .int .i64 _) rfl) ?_
      refine WPL.valG (v_move (v := .pointer _) rfl) ?_
      refine WPL.valG (v_nil rfl) ?_
      refine WPL.valG (v_field (off := 0) Try.underlying77 rfl Try.sizeOf75 rfl) ?_
      refine WPL.valG (v_load1 (u := .slice _ _ _) Try.isAgg75 rfl (fun w hw => hw.refRoot (i := 0) rfl)) ?_
      refine WPL.valG (v_move (v := .int .i64 _) rfl) ?_
      refine WPL.valG (v_index (j := i) Try.underlying75 Try.sizeOf74 rfl rfl rfl (by omega)) ?_
      refine WPL.valG (v_field (off := 2) Try.underlying74 rfl Try.sizeOf50 rfl) ?_
      refine WPL.valG (v_load1 (u := .slice _ _ _) Try.isAgg50 rfl (fun w hw => hw.refAt (i := 0) rfl hk hq 2 (us := [.slice q.A q.kids.length q.c]) rfl)) ?_
      refine WPL.valG (v_len Try.underlying50 rfl) ?_
      refine WPL.valG (v_gtr rfl rfl) ?_
      refine WPL.val (v_pickF (v := .bool _) rfl rfl) ?_
      refine WPL.nil (onto_of ?_)
      refine WP.condP rfl (fun h27 => ?_) (fun h27 => ?_)
      ·
        have hr : addR zeroS (absR bs) (i : Int) at_ = (absR bs, -1, 1) := by rw [addR, if_neg (by simp [hup]), if_pos (by rw [hke]; omega)]
        refine WP.seq ?_
        refine WP.region ?_
        refine WPL.val (v_assign (v := .int .i64 (-1)) rfl) ?_
        refine WPL.val (v_assign (v := .int .i64 (1)) rfl) ?_
        refine WPL.nil (onto_of ?_)
        exact WP.ret2 Try.results37 (fun _ h => h) (fun w hw => ⟨(g, bc, bs), by rw [hr]; rfl, ⟨by rw [hr], hk⟩, (hw.sel [0] (by decide))⟩)
      ·
        refine WP.skip (onto_of ?_)
        refine WP.seq ?_
        refine WP.seq ?_
        refine WP.region ?_
        refine WPL.val (v_move (v := .pointer _) rfl) ?_
        refine WPL.ef (x_call Try.call51 (rlen_ct rp g bc bs hk hF) [0] [] rfl (fun w hw => trivial) (τ := fun _ => [_]) (fun _ => rfl)) (fun _ => ?_)
        refine WPL.fact (fun _ => ?_)
        refine WPL.val (v_geq rfl rfl) ?_
        refine WPL.nil (onto_of ?_)
        refine WP.condP rfl (fun h30 => ?_) (fun h30 => ?_)
        ·
          have hr : addR zeroS (absR bs) (i : Int) at_ = (absR bs, -1, 4) := by rw [addR, if_neg (by simp [hup]), if_neg (by rw [hke]; omega), if_pos (by omega)]
          refine WP.seq ?_
          refine WP.region ?_
          refine WPL.val (v_assign (v := .int .i64 (-1)) rfl) ?_
          refine WPL.val (v_assign (v := .int .i64 (4)) rfl) ?_
          refine WPL.nil (onto_of ?_)
          exact WP.ret2 Try.results37 (fun _ h => h) (fun w hw => ⟨(g, bc, bs), by rw [hr]; rfl, ⟨by rw [hr], hk⟩, (hw.sel [0] (by decide))⟩)
        ·
          refine WP.skip (onto_of ?_)
          refine WP.seq ?_
          refine WP.seq ?_
          refine WP.region ?_
          refine WPL.val (v_move (v := .pointer _) rfl) ?_
          refine WPL.val (v_move (v := .int .i64 _) rfl) ?_
          refine WPL.ef (x_call Try.call19 (rdepth_ct rp g bc bs hk hF (i : Int)) [0] [] rfl (fun w hw => trivial) (τ := fun _ => [_]) (fun _ => rfl)) (fun _ => ?_)
          refine WPL.fact (fun _ => ?_)
          refine WPL.val (v_geq rfl rfl) ?_
          refine WPL.nil (onto_of ?_)
          refine WP.condP rfl (fun h34 => ?_) (fun h34 => ?_)
          ·
            have hr : addR zeroS (absR bs) (i : Int) at_ = (absR bs, -1, 5) := by rw [addR, if_neg (by simp [hup]), if_neg (by rw [hke]; omega), if_neg (by omega), if_pos (by omega)]
            refine WP.seq ?_
            refine WP.region ?_
            refine WPL.val (v_assign (v := .int .i64 (-1)) rfl) ?_
            refine WPL.val (v_assign (v := .int .i64 (5)) rfl) ?_
            refine WPL.nil (onto_of ?_)
            exact WP.ret2 Try.results37 (fun _ h => h) (fun w hw => ⟨(g, bc, bs), by rw [hr]; rfl, ⟨by rw [hr], hk⟩, (hw.sel [0] (by decide))⟩)
          ·
            have hr0 : addR zeroS (absR bs) (i : Int) at_ = (addG (absR bs) i at_.toNat (least (absR bs)) zeroS, least (absR bs), 0) := by rw [addR, if_neg (by simp [hup]), if_neg (by rw [hke]; omega), if_neg (by omega), if_neg (by omega)]
            obtain ⟨j, rfl⟩ : ∃ j : Nat, at_ = j := ⟨at_.toNat, by omega⟩
            rw [Int.toNat_natCast] at hr0
            have hjl : j ≤ q.kids.length := by omega
            obtain ⟨l1, l2, l3, l4⟩ := hF.least_ok
            refine WP.skip (onto_of ?_)
            refine WP.seq ?_
            refine WP.region ?_
            refine WPL.val (v_assign (v := .int .i64 (0)) rfl) ?_
            refine WPL.nil (onto_of ?_)
            refine WP.seq ?_
            refine WP.block ?_
            refine WP.loopK (X := Nat) [0, 1, 2] (fun k => [(8, .int .i64 (k : Int))]) (fun k w => ((k : Int) ≤ least (absR bs) ∧ ∀ y : Int, 0 ≤ y → y < k → hasF (absR bs) y = true) ∧ St w0 (foots [refI rp g bc bs]) [refI rp g bc bs] w) (fun k => (least (absR bs)).toNat - k) 0 ⟨rfl, trivial⟩ (fun w hw => ⟨⟨l1, fun y h1 h2 => by omega⟩, (hw.sel [0] (by decide))⟩) (fun k ρ0 => ?_)
            refine WP.fact (fun ⟨hkl, hall⟩ => ?_)
            refine WP.seq ?_
            refine WP.seq ?_
            refine WP.region ?_
            refine WPL.val (v_move (v := .pointer _) rfl) ?_
            refine WPL.val (v_move (v := .int .i64 _) rfl) ?_
            refine WPL.ef (x_call Try.call15 (rhas_ct rp g bc bs hk (k : Int)) [0] [] rfl (fun w hw => trivial) (τ := fun _ => [_]) (fun _ => rfl)) (fun _ => ?_)
            refine WPL.fact (fun _ => ?_)
            refine WPL.nil (onto_of ?_)
            refine WP.cond rfl (fun h37 => ?_) (fun h37 => ?_)
            ·
              have hkn : (k : Int) ≠ least (absR bs) := fun e => by rw [e, l3] at h37; cases h37
              refine WP.skip (onto_of ?_)
              refine WP.block ?_
              refine WP.region ?_
              refine WPL.val (v_move (v := .int .i64 _) rfl) ?_
              refine WPL.val (v_add rfl rfl (by omega)) ?_
              refine WPL.val (v_assign (v := .int .i64 _) rfl) ?_
              exact WPL.nil fun w hw => ⟨rfl, k + 1, (by omega), ⟨rfl, (via (.pointer _) rfl rfl), (via (.int .i64 _) rfl rfl), (via (.int .i64 _) rfl rfl), trivial⟩, ⟨⟨by omega, fun y h1 h2 => by by_cases e : y = k; (rw [e]; exact h37); exact hall y h1 (by omega)⟩, (hw.sel [0] (by decide))⟩⟩
            ·
              have hfree : hasF (absR bs) (k : Int) = false := h37
              have hls := hF.least_is hall hfree
              have hr : addR zeroS (absR bs) (i : Int) (j : Int) = (addG (absR bs) i j k zeroS, (k : Int), 0) := by rw [hr0, hls]
              have hkb : k ≤ bs.length := by
                by_cases e : k = 0
                · omega
                · obtain ⟨m, b, e1, hb, _⟩ := absR_has (hall ((k : Int) - 1) (by omega) (by omega))
                  have := (List.getElem?_eq_some_iff.1 hb).1
                  omega
              refine WP.exit (onto_of ?_)
              refine WP.midK [0, 1, 2, 8] (X := Nat × Nat × List RB) (fun p => []) (fun p => fun w => (ROk p.2.2 ∧ absR p.2.2 = absR bs ∧ k < p.2.2.length ∧ ∀ (y : Nat) (b : RB), bs[y]? = some b → p.2.2[y]? = some b) ∧ St w0 (foots [refI rp g bc bs]) [.cl rp 77 [.slice (some ⟨p.1, 0, none⟩) p.2.2.length p.2.1], .row 74 58 (some ⟨p.1, 0, none⟩) p.2.2.length p.2.1 (cellsB p.2.2), rowsI p.2.2] w) ?_ (fun p ρ0 => ?_)
              ·
                refine WP.seq ?_
                refine WP.pre ?_ (fun w hw => St.openF (hw.sel [0] (by decide)))
                
                refine WP.region ?_
                refine WPL.val (v_move (v := .int .i64 _) rfl) ?_
                refine WPL.val (v_move (v := .pointer _) rfl) ?_
                refine WPL.val (v_nil rfl) ?_
                refine WPL.val (v_fieldL (o' := 0) Try.underlying77 rfl Try.sizeOf75 rfl rfl) ?_
                refine WPL.val (v_load1 (u := .slice _ _ _) Try.isAgg75 rfl (fun w hw => hw.cl_at (i := 0) rfl _ rfl)) ?_
                refine WPL.val (v_len Try.underlying75 rfl) ?_
                refine WPL.val (v_eql rfl rfl) ?_
                refine WPL.nil (onto_of ?_)
                refine WP.condP rfl (fun h46 => ?_) (fun h46 => ?_)
                ·
                  have hkn : k = bs.length := by omega
                  refine WP.region ?_
                  refine WPL.val (v_move (v := .pointer _) rfl) ?_
                  refine WPL.val (v_move (v := .pointer _) rfl) ?_
                  refine WPL.val (v_nil rfl) ?_
                  refine WPL.val (v_fieldL (o' := 0) Try.underlying77 rfl Try.sizeOf75 rfl rfl) ?_
                  refine WPL.val (v_load1 (u := .slice _ _ _) Try.isAgg75 rfl (fun w hw => hw.cl_at (i := 0) rfl _ rfl)) ?_
                  refine WPL.val (v_struct (parts := []) (us := zeroRB.cells) (pl := [(0, 1), (1, 1), (2, 1), (3, 55)]) Try.underlying74 Try.zeroValue74 rfl (by kernel_rfl) rfl rfl (by kernel_rfl)) ?_
                  refine WPL.ef (x_buildSlice (us := zeroRB.cells) (σ' := fun _ => [_, _, _, _]) Try.underlying75 Try.sizeOf74 Try.zeroValue74 rfl rfl rfl (by decide) (by decide) (fun _ => rfl)) (fun g53 => ?_)
                  refine WPL.ef (x_append (sz := 58) (σ' := fun _ => [_, _, _, _]) Try.underlying75 info74 rfl (by decide) rfl rfl (i := 1) rfl (fun w hw => hw.src_row (i := 3) rfl) rfl zeroRB_one (by omega) (by omega) (fun _ => rfl)) (fun ⟨A54, c54⟩ => ?_)
                  refine WPL.val (v_nil rfl) ?_
                  refine WPL.val (v_fieldL (o' := 0) Try.underlying77 rfl Try.sizeOf75 rfl rfl) ?_
                  refine WPL.ef0 (x_store (u := .slice _ _ _) (σ' := [.cl _ _ [_], _, _, _]) Try.sizeOf75 rfl rfl (i := 0) rfl (Nat.lt_of_lt_of_le (Nat.lt_succ_self _) (Nat.le_of_ble_eq_true rfl)) rfl) (fun _ => ?_)
                  refine WPL.nil fun w hw => ?_
                  obtain ⟨lb, hA⟩ := hw.row_pos (i := 1) rfl (by omega)
                  subst hA
                  exact ⟨rfl, (lb, c54, bs ++ [zeroRB]), ⟨(via (.pointer _) rfl rfl), (via (.int .i64 _) rfl rfl), (via (.int .i64 _) rfl rfl), (via (.int .i64 _) rfl rfl), trivial⟩, ⟨hk.app, absR_app bs, by simp only [List.length_append, List.length_singleton]; omega, fun y b hb => by rw [List.getElem?_append_left (List.getElem?_eq_some_iff.1 hb).1]; exact hb⟩, by dsimp only; rw [cellsB_app, List.length_append]; exact (St.rowApp (b' := zeroRB) ((hw.nilRow 3 1).sel [2, 4, 0, 1] (by decide))).sel [1, 2, 0] (by decide)⟩
                ·
                  have hkn : k ≠ bs.length := by omega
                  exact WP.skip fun w hw => ⟨rfl, (g, bc, bs), ⟨(via (.pointer _) rfl rfl), (via (.int .i64 _) rfl rfl), (via (.int .i64 _) rfl rfl), (via (.int .i64 _) rfl rfl), trivial⟩, ⟨hk, rfl, by dsimp only; omega, fun _ _ h => h⟩, (hw.sel [0, 1, 2] (by decide))⟩
              ·
                obtain ⟨g', bc', bs2⟩ := p
                dsimp only
                refine WP.fact (fun ⟨hk2, habs, hkb2, hold⟩ => ?_)
                obtain ⟨z, hz⟩ : ∃ z, bs2[k]? = some z := ⟨_, List.getElem?_eq_getElem hkb2⟩
                have hib2 := (List.getElem?_eq_some_iff.1 (hold _ _ hq)).1
                refine WP.seq ?_
                refine WP.region ?_
                refine WPL.val (v_move (v := .pointer _) rfl) ?_
                refine WPL.val (v_nil rfl) ?_
                refine WPL.val (v_fieldL (o' := 0) Try.underlying77 rfl Try.sizeOf75 rfl rfl) ?_
                refine WPL.val (v_load1 (u := .slice _ _ _) Try.isAgg75 rfl (fun w hw => hw.cl_at (i := 0) rfl _ rfl)) ?_
                refine WPL.val (v_move (v := .int .i64 _) rfl) ?_
                refine WPL.val (v_move (v := .int .i64 _) rfl) ?_
                refine WPL.val (v_struct (us := (liveRB (i : Int)).cells) (pl := [(0, 1), (1, 1), (2, 1), (3, 55)]) Try.underlying74 Try.zeroValue74 rfl (by kernel_rfl) rfl rfl (by kernel_rfl)) ?_
                refine WPL.val (v_index (j := k) Try.underlying75 Try.sizeOf74 rfl rfl rfl (by omega)) ?_
                refine WPL.ef0 (x_storeRowA (us := (liveRB (i : Int)).cells) (o := 0 + k * 58) (σ' := [_, _, _]) Try.sizeOf74 rfl rfl (i := 1) rfl (by rw [cellsB_len hk2]; show _ + 58 ≤ _; omega) (by rw [show 0 + k * 58 = k * 58 + 0 by omega, cellsB_set hk2 hz (b' := (liveRB (i : Int))) (by rw [RB.cells_len (b := liveRB (i : Int)) zeroS_ok]; decide) (setL_all _ _ (by rw [RB.cells_len (hk2.get hz)]; rfl))]; rfl) (liveRB_one _) rfl) (fun _ => ?_)
                refine WPL.nil (onto_of ?_)
                refine WP.seq ?_
                refine WP.pre ?_ (fun w hw => St.rowSet (b' := (liveRB (i : Int))) hz ((hw.nilRow 3 1).sel [2, 3, 0, 1] (by decide)))
                have hk3 : ROk (bs2.set k (liveRB (i : Int))) := hk2.set k (b' := (liveRB (i : Int))) zeroS_ok
                have hadd := absR_add (A := none) (c := 0) (j := j) (hold _ _ hq) hql hkb2 (by rw [habs]; exact hfree)
                have hq3 := hadd.1
                refine WP.holds (fun w hw => (hw.rowsAt (i := 0) rfl hq3).2.1) (fun hqcap => ?_)
                
                refine WP.drawSel (some 18) [0, 1, 2] [(0, true), (1, true), (2, true), (3, true), (4, true), (5, true), (6, true), (7, true), (8, true), (9, true), (10, true), (11, true), (12, true), (13, true), (14, true), (15, false), (16, false), (17, true), (18, false)] mixed (by kernel_rfl) (by decide) ?_
                refine WPD.take rfl (v_move (v := .pointer _) rfl) ?_ (fun _ h => h.sel [0, 1, 2] (by decide))
                refine WPD.take rfl (v_nil rfl) ?_ (fun _ h => h.sel [0, 1, 2] (by decide))
                refine WPD.take rfl (v_fieldL (o' := 0) Try.underlying77 rfl Try.sizeOf75 rfl rfl) ?_ (fun _ h => h.sel [0, 1, 2] (by decide))
                refine WPD.take rfl (v_load1 (u := .slice _ _ _) Try.isAgg75 rfl (fun w hw => hw.cl_at (i := 1) rfl _ rfl)) ?_ (fun _ h => h.sel [0, 1, 2] (by decide))
                refine WPD.take rfl (v_move (v := .int .i64 _) rfl) ?_ (fun _ h => h.sel [0, 1, 2] (by decide))
                refine WPD.take rfl (v_move (v := .pointer _) rfl) ?_ (fun _ h => h.sel [0, 1, 2] (by decide))
                refine WPD.take rfl (v_nil rfl) ?_ (fun _ h => h.sel [0, 1, 2] (by decide))
                refine WPD.take rfl (v_fieldL (o' := 0) Try.underlying77 rfl Try.sizeOf75 rfl rfl) ?_ (fun _ h => h.sel [0, 1, 2] (by decide))
                refine WPD.take rfl (v_load1 (u := .slice _ _ _) Try.isAgg75 rfl (fun w hw => hw.cl_at (i := 1) rfl _ rfl)) ?_ (fun _ h => h.sel [0, 1, 2] (by decide))
                refine WPD.take rfl (v_move (v := .int .i64 _) rfl) ?_ (fun _ h => h.sel [0, 1, 2] (by decide))
                refine WPD.take rfl (v_index (j := i) Try.underlying75 Try.sizeOf74 rfl rfl rfl (by omega)) ?_ (fun _ h => h.sel [0, 1, 2] (by decide))
                refine WPD.take rfl (v_field (off := 2) Try.underlying74 rfl Try.sizeOf50 rfl) ?_ (fun _ h => h.sel [0, 1, 2] (by decide))
                refine WPD.take rfl (v_load1 (u := .slice _ _ _) Try.isAgg50 rfl (fun w hw => hw.rowAt (i := 2) rfl hk3 hq3 2 (us := [.slice q.A q.kids.length q.c]) rfl)) ?_ (fun _ h => h.sel [0, 1, 2] (by decide))
                refine WPD.take rfl (v_move (v := .int .i64 _) rfl) ?_ (fun _ h => h.sel [0, 1, 2] (by decide))
                refine WPD.take rfl (v_move (v := .int .i64 _) rfl) ?_ (fun _ h => h.sel [0, 1, 2] (by decide))
                refine WPD.ef rfl (x_call Try.call49 (with_ct q.A q.c q.kids j hjl hqcap (k : Int) (by omega)) [] [0, 1, 2] rfl (fun w hw => (hw.rowsAt (i := 0) rfl hq3).2.2) (τ := fun _ => [_, _, _, _]) (fun _ => rfl)) (fun _ _ _ h => h.2.sel [0, 1, 2] (by decide)) (fun ⟨A80, c80⟩ => ?_)
                refine WPD.fact (fun _ => ?_)
                refine WPD.val rfl (v_index (j := i) Try.underlying75 Try.sizeOf74 rfl rfl rfl (by omega)) (fun _ h => h.sel [0, 1, 2] (by decide)) ?_
                refine WPD.take rfl (v_field (off := 2) Try.underlying74 rfl Try.sizeOf50 rfl) ?_ (fun _ h => h.sel [0, 1, 2] (by decide))
                refine WPD.ef0 rfl (x_storeRow' (u := .slice A80 (q.kids.length + 1) c80) (o := 0 + i * 58 + 2) (xs' := cellsB ((bs2.set k (liveRB (i : Int))).set i (insB q A80 c80 j (k : Int)))) (σ' := [_, _, _, _]) Try.sizeOf50 rfl rfl (i := 2) rfl (by rw [cellsB_len hk3, List.length_set]; omega) (by rw [show 0 + i * 58 + 2 = i * 58 + 2 by omega]; exact cellsB_set hk3 hq3 (o := 2) (us := [.slice A80 (q.kids.length + 1) c80]) (by show 2 + 1 ≤ 58; decide) (by show _ = (_ :: _ :: Value.slice A80 (insAt q.kids j (k : Int)).length c80 :: _ : List Value); rw [insAt_len hjl]; rfl)) rfl) (fun h => absurd rfl h) (fun _ => ?_)
                refine WPD.nil (onto_of ?_)
                refine WP.seq ?_
                refine WP.pre ?_ (fun w hw => St.rowSet (b' := (insB q A80 c80 j (k : Int))) hq3 (by show St _ _ (_ :: kidsI A80 (insAt q.kids j (k : Int)).length c80 (insAt q.kids j (k : Int)) :: _) w; rw [insAt_len hjl]; exact (hw.sel [0, 3, 1, 2] (by decide))))
                
                refine WP.region ?_
                refine WPL.val (v_move (v := .int .i64 _) rfl) ?_
                refine WPL.val (v_assign (v := .int .i64 _) rfl) ?_
                refine WPL.val (v_assign (v := .int .i64 (0)) rfl) ?_
                refine WPL.nil (onto_of ?_)
                exact WP.ret2 Try.results37 (fun _ h => h) (fun w hw => ⟨(g', bc', ((bs2.set k (liveRB (i : Int))).set i (insB q A80 c80 j (k : Int)))), by rw [hr]; rfl, ⟨by rw [hr, ← habs]; exact (absR_add (hold _ _ hq) hql hkb2 (by rw [habs]; exact hfree)).2, hk3.set i (b' := (insB q A80 c80 j (k : Int))) (show SOk q.sty from hk.get hq)⟩, St.shutSet (by simp only [List.length_set]; exact (hw.sel [1, 2, 0] (by decide)))⟩)
end Go.Proofs.Ytmjdmlgdffoimaa
