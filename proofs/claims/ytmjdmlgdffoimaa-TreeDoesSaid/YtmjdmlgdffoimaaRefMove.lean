/- The document's Move. -/
import Derived.Test.YtmjdmlgdffoimaaRefFact
namespace Go.Proofs.Ytmjdmlgdffoimaa
open Go.RowKit

set_option maxRecDepth 100000 in
set_option maxHeartbeats 4000000 in
theorem rmove_ct (rp g bc : Nat) (bs : List RB) (hk : ROk bs) {d : Int → Nat} (hF : WF (absR bs) d) (x up at_ : Int) :
    Ct Try.prog 35 #[.pointer (some ⟨rp, 0, none⟩), .int .i64 x, .int .i64 up, .int .i64 at_] [refI rp g bc bs] (fun _ => True) (X := List RB) (fun _ => .int .i64 (movR (absR bs) x up at_).2) (fun bs' => absR bs' = (movR (absR bs) x up at_).1 ∧ ROk bs') (fun bs' => [refI rp g bc bs']) := by
  have hsl := hF.len_le x
  refine Ct.intro Try.func35 rfl Try.ntmps35 (by simp) (fun w0 _ => ?_)
  refine WP.seq ?_
  refine WP.region ?_
  refine WPL.val (v_assign (v := .int .i64 (0)) rfl) ?_
  refine WPL.nil (onto_of ?_)
  refine WP.seq ?_
  refine WP.seq ?_
  refine WP.region ?_
  refine WPL.val (v_move (v := .pointer _) rfl) ?_
  refine WPL.val (v_move (v := .int .i64 _) rfl) ?_
  refine WPL.ef (x_call Try.call15 (rhas_ct rp g bc bs hk x) [0] [] rfl (fun w hw => trivial) (τ := fun _ => [_]) (fun _ => rfl)) (fun _ => ?_)
  refine WPL.fact (fun _ => ?_)
  refine WPL.val (v_not rfl) ?_
  refine WPL.val (v_move (v := .bool _) rfl) ?_
  refine WPL.splitB 17 rfl (fun h17 => ?_) (fun h17 => ?_)
  ·
    refine WPL.skipG ?_
    refine WPL.skipG ?_
    refine WPL.skipG ?_
    refine WPL.skipG ?_
    refine WPL.val (v_pickT (u := .bool _) rfl rfl) ?_
    refine WPL.nil (onto_of ?_)
    have hr : movR (absR bs) x up at_ = (absR bs, 2) := by simp only [Bool.not_eq_true'] at h17; simp [movR, h17]
    refine WP.condT rfl ?_
    refine WP.seq ?_
    refine WP.region ?_
    refine WPL.val (v_assign (v := .int .i64 (2)) rfl) ?_
    refine WPL.nil (onto_of ?_)
    exact WP.ret1 Try.results35 (fun _ h => h) (fun w hw => ⟨bs, congrArg (Value.int .i64) (by rw [hr]), ⟨by rw [hr], hk⟩, (hw.sel [0] (by decide))⟩)
  ·
    refine WPL.valG (v_move (v := .pointer _) rfl) ?_
    refine WPL.valG (v_move (v := .int .i64 _) rfl) ?_
    refine WPL.efG (x_call Try.call15 (rhas_ct rp g bc bs hk up) [0] [] rfl (fun w hw => trivial) (τ := fun _ => [_]) (fun _ => rfl)) (fun _ => ?_)
    refine WPL.fact (fun _ => ?_)
    refine WPL.valG (v_not rfl) ?_
    refine WPL.val (v_pickF (v := .bool _) rfl rfl) ?_
    refine WPL.nil (onto_of ?_)
    refine WP.cond rfl (fun h22 => ?_) (fun h22 => ?_)
    ·
      have hr : movR (absR bs) x up at_ = (absR bs, 2) := by simp only [Bool.not_eq_true'] at h22; simp [movR, h22]
      refine WP.seq ?_
      refine WP.region ?_
      refine WPL.val (v_assign (v := .int .i64 (2)) rfl) ?_
      refine WPL.nil (onto_of ?_)
      exact WP.ret1 Try.results35 (fun _ h => h) (fun w hw => ⟨bs, congrArg (Value.int .i64) (by rw [hr]), ⟨by rw [hr], hk⟩, (hw.sel [0] (by decide))⟩)
    ·
      simp only [Bool.not_eq_true', Bool.not_eq_false'] at h17 h22
      have hid := h17
      have hup := h22
      obtain ⟨v, q, huv, hv, hql⟩ := absR_has hup
      subst huv
      have hvb := (List.getElem?_eq_some_iff.1 hv).1
      have hvk := kids_some (absR_at hv hql)
      have hqk : q.kids.length ≤ 4096 := hF.kids_le (absR_at hv hql)
      refine WP.skip (onto_of ?_)
      refine WP.seq ?_
      refine WP.seq ?_
      refine WP.region ?_
      refine WPL.val (v_move (v := .int .i64 _) rfl) ?_
      refine WPL.val (v_eql rfl rfl) ?_
      refine WPL.nil (onto_of ?_)
      refine WP.condP rfl (fun h24 => ?_) (fun h24 => ?_)
      ·
        have hr : movR (absR bs) x (v : Int) at_ = (absR bs, 1) := by rw [movR, if_neg (by simp [hid, hup]), if_pos h24]
        refine WP.seq ?_
        refine WP.region ?_
        refine WPL.val (v_assign (v := .int .i64 (1)) rfl) ?_
        refine WPL.nil (onto_of ?_)
        exact WP.ret1 Try.results35 (fun _ h => h) (fun w hw => ⟨bs, congrArg (Value.int .i64) (by rw [hr]), ⟨by rw [hr], hk⟩, (hw.sel [0] (by decide))⟩)
      ·
        obtain ⟨i, b, hxi, hb, hl⟩ := absR_has hid
        subst hxi
        have hib := (List.getElem?_eq_some_iff.1 hb).1
        have hmc := hF.most_cut hid h24 hup
        rw [hvk] at hmc
        simp only at hmc
        have hdp := hF.dpN_all hid
        have hd1 := depth_bd (absR bs) (i : Int)
        have hd2 := depth_bd (absR bs) (v : Int)
        refine WP.skip (onto_of ?_)
        refine WP.seq ?_
        refine WP.region ?_
        refine WPL.val (v_move (v := .pointer _) rfl) ?_
        refine WPL.val (v_move (v := .int .i64 _) rfl) ?_
        refine WPL.ef (x_call Try.call25 (rinside_ct rp g bc bs hk hF (i : Int)) [0] [] rfl (fun w hw => trivial) (τ := fun _ => [_, _]) (fun _ => rfl)) (fun ⟨A9, c9⟩ => ?_)
        refine WPL.fact (fun _ => ?_)
        refine WPL.val (v_assign (v := .slice _ _ _) rfl) ?_
        refine WPL.nil (onto_of ?_)
        refine WP.seq ?_
        refine WP.region ?_
        refine WPL.val (v_assign (v := .int .i64 (0)) rfl) ?_
        refine WPL.nil (onto_of ?_)
        refine WP.seq ?_
        refine WP.seq ?_
        refine WP.region ?_
        refine WPL.val (v_assign (v := .int .i64 (0)) rfl) ?_
        refine WPL.nil (onto_of ?_)
        refine WP.block ?_
        refine WP.loopK (X := Nat) [0, 1, 2, 3, 9] (fun j => [(11, .int .i64 (j : Int)), (10, .int .i64 (dpN (absR bs) (i : Int) ((sub (absR bs) (i : Int)).take j)))]) (fun j w => (j ≤ (sub (absR bs) (i : Int)).length ∧ (v : Int) ∉ (sub (absR bs) (i : Int)).take j) ∧ St w0 (foots [refI rp g bc bs]) [refI rp g bc bs, kidsI A9 (sub (absR bs) (i : Int)).length c9 (sub (absR bs) (i : Int))] w) (fun j => (sub (absR bs) (i : Int)).length - j) 0 ⟨rfl, rfl, trivial⟩ (fun w hw => ⟨⟨Nat.zero_le _, by simp⟩, (hw.sel [0, 1] (by decide))⟩) (fun j ρ0 => ?_)
        refine WP.fact (fun ⟨hjl, hnj⟩ => ?_)
        refine WP.seq ?_
        refine WP.seq ?_
        refine WP.region ?_
        refine WPL.val (v_move (v := .int .i64 _) rfl) ?_
        refine WPL.val (v_move (v := .slice _ _ _) rfl) ?_
        refine WPL.val (v_len Try.underlying50 rfl) ?_
        refine WPL.val (v_lss rfl rfl) ?_
        refine WPL.nil (onto_of ?_)
        refine WP.condP rfl (fun h31 => ?_) (fun h31 => ?_)
        ·
          obtain ⟨y, hy⟩ : ∃ y, (sub (absR bs) (i : Int))[j]? = some y := ⟨_, List.getElem?_eq_getElem (by omega)⟩
          have hby := depth_bd (absR bs) y
          have hbj := dpN_bd (absR bs) (i : Int) ((sub (absR bs) (i : Int)).take j)
          refine WP.holds (fun w hw => hw.row_pos (i := 1) rfl (by omega)) (fun ⟨lb, hA⟩ => ?_)
          subst hA
          refine WP.skip (onto_of ?_)
          refine WP.seq ?_
          refine WP.block ?_
          refine WP.seq ?_
          refine WP.seq ?_
          refine WP.region ?_
          refine WPL.val (v_move (v := .slice _ _ _) rfl) ?_
          refine WPL.val (v_move (v := .int .i64 _) rfl) ?_
          refine WPL.val (v_index (j := j) Try.underlying50 Try.sizeOf3 rfl rfl rfl (by omega)) ?_
          refine WPL.val (v_load1 (u := .int .i64 _) Try.isAgg3 rfl (fun w hw => hw.row_at1 (i := 1) rfl (by rw [List.getElem?_map, hy]; rfl) (by omega))) ?_
          refine WPL.val (v_move (v := .int .i64 _) rfl) ?_
          refine WPL.val (v_eql rfl rfl) ?_
          refine WPL.nil (onto_of ?_)
          refine WP.condP rfl (fun h39 => ?_) (fun h39 => ?_)
          ·
            have hr : movR (absR bs) (i : Int) (v : Int) at_ = (absR bs, 3) := by rw [movR, if_neg (by simp [hid, hup]), if_neg h24, if_pos (by rw [← h39]; exact List.mem_of_getElem? hy)]
            refine WP.seq ?_
            refine WP.region ?_
            refine WPL.val (v_assign (v := .int .i64 (3)) rfl) ?_
            refine WPL.nil (onto_of ?_)
            exact WP.ret1 Try.results35 (fun _ h => h) (fun w hw => ⟨bs, congrArg (Value.int .i64) (by rw [hr]), ⟨by rw [hr], hk⟩, (hw.sel [0] (by decide))⟩)
          ·
            refine WP.skip (onto_of ?_)
            refine WP.region ?_
            refine WPL.val (v_move (v := .int .i64 _) rfl) ?_
            refine WPL.val (v_move (v := .pointer _) rfl) ?_
            refine WPL.val (v_move (v := .slice _ _ _) rfl) ?_
            refine WPL.val (v_move (v := .int .i64 _) rfl) ?_
            refine WPL.val (v_index (j := j) Try.underlying50 Try.sizeOf3 rfl rfl rfl (by omega)) ?_
            refine WPL.val (v_load1 (u := .int .i64 _) Try.isAgg3 rfl (fun w hw => hw.row_at1 (i := 1) rfl (by rw [List.getElem?_map, hy]; rfl) (by omega))) ?_
            refine WPL.ef (x_call Try.call19 (rdepth_ct rp g bc bs hk hF y) [0] [1] rfl (fun w hw => trivial) (τ := fun _ => [_, _]) (fun _ => rfl)) (fun _ => ?_)
            refine WPL.fact (fun _ => ?_)
            refine WPL.val (v_move (v := .pointer _) rfl) ?_
            refine WPL.val (v_move (v := .int .i64 _) rfl) ?_
            refine WPL.ef (x_call Try.call19 (rdepth_ct rp g bc bs hk hF (i : Int)) [1] [0] rfl (fun w hw => trivial) (τ := fun _ => [_, _]) (fun _ => rfl)) (fun _ => ?_)
            refine WPL.fact (fun _ => ?_)
            refine WPL.val (v_sub rfl rfl (by omega)) ?_
            refine WPL.val (v_max rfl rfl) ?_
            refine WPL.val (v_assign (v := .int .i64 _) rfl) ?_
            refine WPL.nil (onto_of ?_)
            refine WP.region ?_
            refine WPL.val (v_move (v := .int .i64 _) rfl) ?_
            refine WPL.val (v_add rfl rfl (by omega)) ?_
            refine WPL.val (v_assign (v := .int .i64 _) rfl) ?_
            exact WPL.nil fun w hw => ⟨rfl, j + 1, (by omega), ⟨rfl, (congrArg (Value.int .i64) (dpN_snoc (absR bs) (i : Int) hy).symm), (via (.pointer _) rfl rfl), (via (.int .i64 _) rfl rfl), (via (.int .i64 _) rfl rfl), (via (.int .i64 _) rfl rfl), (via (.slice _ _ _) rfl rfl), trivial⟩, ⟨⟨by omega, by rw [take_snoc hy]; simp only [List.mem_append, List.mem_singleton, not_or]; exact ⟨hnj, fun e => h39 e.symm⟩⟩, (hw.sel [1, 0] (by decide))⟩⟩
        ·
          obtain rfl : j = (sub (absR bs) (i : Int)).length := by omega
          rw [List.take_of_length_le (Nat.le_refl _)] at *
          have hcy := hnj
          have hdb := dpN_bd (absR bs) (i : Int) (sub (absR bs) (i : Int))
          refine WP.exit (onto_of ?_)
          refine WP.seq ?_
          refine WP.seq ?_
          refine WP.region ?_
          refine WPL.val (v_move (v := .int .i64 _) rfl) ?_
          refine WPL.val (v_lss rfl rfl) ?_
          refine WPL.val (v_move (v := .bool _) rfl) ?_
          refine WPL.split 54 rfl (fun h54 => ?_) (fun h54 => ?_)
          ·
            refine WPL.skipG ?_
            refine WPL.skipG ?_
            refine WPL.skipG ?_
            refine WPL.skipG ?_
            refine WPL.skipG ?_
            refine WPL.skipG ?_
            refine WPL.skipG ?_
            refine WPL.skipG ?_
            refine WPL.skipG ?_
            refine WPL.skipG ?_
            refine WPL.skipG ?_
            refine WPL.skipG ?_
            refine WPL.skipG ?_
            refine WPL.val (v_pickT (u := .bool _) rfl rfl) ?_
            refine WPL.nil (onto_of ?_)
            have hr : movR (absR bs) (i : Int) (v : Int) at_ = (absR bs, 1) := by rw [movR, if_neg (by simp [hid, hup]), if_neg h24, if_neg hcy, if_pos (by omega)]
            refine WP.condT rfl ?_
            refine WP.seq ?_
            refine WP.region ?_
            refine WPL.val (v_assign (v := .int .i64 (1)) rfl) ?_
            refine WPL.nil (onto_of ?_)
            exact WP.ret1 Try.results35 (fun _ h => h) (fun w hw => ⟨bs, congrArg (Value.int .i64) (by rw [hr]), ⟨by rw [hr], hk⟩, (hw.sel [0] (by decide))⟩)
          ·
            refine WPL.valG (v_move (v := .int .i64 _) rfl) ?_
            refine WPL.valG (v_move (v := .pointer _) rfl) ?_
            refine WPL.valG (v_nil rfl) ?_
            refine WPL.valG (v_field (off := 0) Try.underlying77 rfl Try.sizeOf75 rfl) ?_
            refine WPL.valG (v_load1 (u := .slice _ _ _) Try.isAgg75 rfl (fun w hw => hw.refRoot (i := 0) rfl)) ?_
            refine WPL.valG (v_move (v := .int .i64 _) rfl) ?_
            refine WPL.valG (v_index (j := v) Try.underlying75 Try.sizeOf74 rfl rfl rfl (by omega)) ?_
            refine WPL.valG (v_field (off := 2) Try.underlying74 rfl Try.sizeOf50 rfl) ?_
            refine WPL.valG (v_load1 (u := .slice _ _ _) Try.isAgg50 rfl (fun w hw => hw.refAt (i := 0) rfl hk hv 2 (us := [.slice q.A q.kids.length q.c]) rfl)) ?_
            refine WPL.valG (v_move (v := .int .i64 _) rfl) ?_
            refine WPL.efG (x_call Try.call48 (without_ct q.A q.c q.kids (i : Int) (by omega)) [] [0, 1] rfl (fun w hw => (hw.refKids (i := 0) rfl hv).2.2) (τ := fun _ => [_, _, _]) (fun _ => rfl)) (fun ⟨A65, c65⟩ => ?_)
            refine WPL.fact (fun _ => ?_)
            refine WPL.valG (v_len Try.underlying50 rfl) ?_
            refine WPL.valG (v_gtr rfl rfl) ?_
            refine WPL.val (v_pickF (v := .bool _) rfl rfl) ?_
            refine WPL.nil (onto_of ?_)
            refine WP.condP rfl (fun h68 => ?_) (fun h68 => ?_)
            ·
              have hr : movR (absR bs) (i : Int) (v : Int) at_ = (absR bs, 1) := by rw [movR, if_neg (by simp [hid, hup]), if_neg h24, if_neg hcy, if_pos (by omega)]
              refine WP.seq ?_
              refine WP.region ?_
              refine WPL.val (v_assign (v := .int .i64 (1)) rfl) ?_
              refine WPL.nil (onto_of ?_)
              exact WP.ret1 Try.results35 (fun _ h => h) (fun w hw => ⟨bs, congrArg (Value.int .i64) (by rw [hr]), ⟨by rw [hr], hk⟩, (hw.sel [0] (by decide))⟩)
            ·
              refine WP.skip (onto_of ?_)
              refine WP.seq ?_
              refine WP.seq ?_
              refine WP.region ?_
              refine WPL.val (v_move (v := .pointer _) rfl) ?_
              refine WPL.val (v_move (v := .int .i64 _) rfl) ?_
              refine WPL.ef (x_call Try.call19 (rdepth_ct rp g bc bs hk hF (v : Int)) [0] [1, 2] rfl (fun w hw => trivial) (τ := fun _ => [_, _, _]) (fun _ => rfl)) (fun _ => ?_)
              refine WPL.fact (fun _ => ?_)
              refine WPL.val (v_add rfl rfl (by omega)) ?_
              refine WPL.val (v_move (v := .int .i64 _) rfl) ?_
              refine WPL.val (v_add rfl rfl (by omega)) ?_
              refine WPL.val (v_gtr rfl rfl) ?_
              refine WPL.nil (onto_of ?_)
              refine WP.condP rfl (fun h75 => ?_) (fun h75 => ?_)
              ·
                have hr : movR (absR bs) (i : Int) (v : Int) at_ = (absR bs, 5) := by rw [movR, if_neg (by simp [hid, hup]), if_neg h24, if_neg hcy, if_neg (by omega), if_pos (by omega)]
                refine WP.seq ?_
                refine WP.region ?_
                refine WPL.val (v_assign (v := .int .i64 (5)) rfl) ?_
                refine WPL.nil (onto_of ?_)
                exact WP.ret1 Try.results35 (fun _ h => h) (fun w hw => ⟨bs, congrArg (Value.int .i64) (by rw [hr]), ⟨by rw [hr], hk⟩, (hw.sel [2] (by decide))⟩)
              ·
                obtain ⟨u, p, hu, hp, hpl, hm, hn, hui⟩ := hF.rparent hb hl h24
                have hub := (List.getElem?_eq_some_iff.1 hp).1
                have hpk : p.kids.length ≤ 4096 := hF.kids_le (absR_at hp hpl)
                have hvi : v ≠ i := fun e => hcy (by rw [e]; exact hF.mem_sub.2 (Anc.refl hid))
                obtain ⟨k, rfl⟩ : ∃ k : Nat, at_ = k := ⟨at_.toNat, by omega⟩
                have hr : movR (absR bs) (i : Int) (v : Int) (k : Int) = (movG (absR bs) i v k, 0) := by rw [movR, if_neg (by simp [hid, hup]), if_neg h24, if_neg hcy, if_neg (by omega), if_neg (by omega), Int.toNat_natCast]
                refine WP.skip (onto_of ?_)
                refine WP.seq ?_
                refine WP.pre ?_ (fun w hw => St.openF (hw.sel [2, 0, 1] (by decide)))
                
                refine WP.region ?_
                refine WPL.val (v_move (v := .pointer _) rfl) ?_
                refine WPL.val (v_nil rfl) ?_
                refine WPL.val (v_fieldL (o' := 0) Try.underlying77 rfl Try.sizeOf75 rfl rfl) ?_
                refine WPL.val (v_load1 (u := .slice _ _ _) Try.isAgg75 rfl (fun w hw => hw.cl_at (i := 0) rfl _ rfl)) ?_
                refine WPL.val (v_move (v := .int .i64 _) rfl) ?_
                refine WPL.val (v_index (j := i) Try.underlying75 Try.sizeOf74 rfl rfl rfl (by omega)) ?_
                refine WPL.val (v_field (off := 1) Try.underlying74 rfl Try.sizeOf3 rfl) ?_
                refine WPL.val (v_load1 (u := .int .i64 _) Try.isAgg3 rfl (fun w hw => hw.rowAt (i := 1) rfl hk hb 1 (us := [.int .i64 b.up]) rfl)) ?_
                rw [hu]
                refine WPL.val (v_assign (v := .int .i64 _) rfl) ?_
                refine WPL.nil (onto_of ?_)
                refine WP.seq ?_
                refine WP.drawSel (some 17) [0, 1, 2, 3, 4] [(0, true), (1, true), (2, true), (3, true), (4, true), (5, true), (6, true), (7, true), (8, true), (9, true), (10, true), (11, true), (12, true), (13, true), (14, false), (15, false), (16, true), (17, false)] mixed (by kernel_rfl) (by decide) ?_
                refine WPD.take rfl (v_move (v := .pointer _) rfl) ?_ (fun _ h => h.sel [0, 1, 2, 3, 4] (by decide))
                refine WPD.take rfl (v_nil rfl) ?_ (fun _ h => h.sel [0, 1, 2, 3, 4] (by decide))
                refine WPD.take rfl (v_fieldL (o' := 0) Try.underlying77 rfl Try.sizeOf75 rfl rfl) ?_ (fun _ h => h.sel [0, 1, 2, 3, 4] (by decide))
                refine WPD.take rfl (v_load1 (u := .slice _ _ _) Try.isAgg75 rfl (fun w hw => hw.cl_at (i := 0) rfl _ rfl)) ?_ (fun _ h => h.sel [0, 1, 2, 3, 4] (by decide))
                refine WPD.take rfl (v_move (v := .int .i64 _) rfl) ?_ (fun _ h => h.sel [0, 1, 2, 3, 4] (by decide))
                refine WPD.take rfl (v_move (v := .pointer _) rfl) ?_ (fun _ h => h.sel [0, 1, 2, 3, 4] (by decide))
                refine WPD.take rfl (v_nil rfl) ?_ (fun _ h => h.sel [0, 1, 2, 3, 4] (by decide))
                refine WPD.take rfl (v_fieldL (o' := 0) Try.underlying77 rfl Try.sizeOf75 rfl rfl) ?_ (fun _ h => h.sel [0, 1, 2, 3, 4] (by decide))
                refine WPD.take rfl (v_load1 (u := .slice _ _ _) Try.isAgg75 rfl (fun w hw => hw.cl_at (i := 0) rfl _ rfl)) ?_ (fun _ h => h.sel [0, 1, 2, 3, 4] (by decide))
                refine WPD.take rfl (v_move (v := .int .i64 _) rfl) ?_ (fun _ h => h.sel [0, 1, 2, 3, 4] (by decide))
                refine WPD.take rfl (v_index (j := u) Try.underlying75 Try.sizeOf74 rfl rfl rfl (by omega)) ?_ (fun _ h => h.sel [0, 1, 2, 3, 4] (by decide))
                refine WPD.take rfl (v_field (off := 2) Try.underlying74 rfl Try.sizeOf50 rfl) ?_ (fun _ h => h.sel [0, 1, 2, 3, 4] (by decide))
                refine WPD.take rfl (v_load1 (u := .slice _ _ _) Try.isAgg50 rfl (fun w hw => hw.rowAt (i := 1) rfl hk hp 2 (us := [.slice p.A p.kids.length p.c]) rfl)) ?_ (fun _ h => h.sel [0, 1, 2, 3, 4] (by decide))
                refine WPD.take rfl (v_move (v := .int .i64 _) rfl) ?_ (fun _ h => h.sel [0, 1, 2, 3, 4] (by decide))
                refine WPD.ef rfl (x_call Try.call48 (without_ct p.A p.c p.kids (i : Int) (by omega)) [] [0, 1, 2, 3, 4] rfl (fun w hw => (hw.rowsAt (i := 2) rfl hp).2.2) (τ := fun _ => [_, _, _, _, _, _]) (fun _ => rfl)) (fun _ _ _ h => h.2.sel [0, 1, 2, 3, 4] (by decide)) (fun ⟨A98, c98⟩ => ?_)
                refine WPD.fact (fun _ => ?_)
                refine WPD.val rfl (v_index (j := u) Try.underlying75 Try.sizeOf74 rfl rfl rfl (by omega)) (fun _ h => h.sel [0, 1, 2, 3, 4] (by decide)) ?_
                refine WPD.take rfl (v_field (off := 2) Try.underlying74 rfl Try.sizeOf50 rfl) ?_ (fun _ h => h.sel [0, 1, 2, 3, 4] (by decide))
                refine WPD.ef0 rfl (x_storeRow' (u := .slice A98 (cutK p.kids i).length c98) (o := 0 + u * 58 + 2) (xs' := cellsB (bs.set u (cutB p A98 c98 (i : Int)))) (σ' := [_, _, _, _, _, _]) Try.sizeOf50 rfl rfl (i := 1) rfl (by rw [cellsB_len hk]; (try simp only [List.length_set]); omega) (by rw [show 0 + u * 58 + 2 = u * 58 + 2 by omega]; exact cellsB_set hk hp (o := 2) (us := [.slice A98 (cutK p.kids i).length c98]) (by show 2 + 1 ≤ 58; decide) (by first | rfl | (show _ = (_ :: _ :: Value.slice A116 (insAt q1.kids k (i : Int)).length c116 :: _ : List Value); rw [insAt_len hkl]; rfl))) rfl) (fun h => absurd rfl h) (fun _ => ?_)
                refine WPD.nil (onto_of ?_)
                refine WP.seq ?_
                refine WP.pre ?_ (fun w hw => St.rowSet (b' := (cutB p A98 c98 (i : Int))) hp (hw.sel [2, 5, 0, 1] (by decide)))
                have hk1 : ROk (bs.set u (cutB p A98 c98 (i : Int))) := hk.set u (show SOk p.sty from hk.get hp)
                obtain ⟨q1, hq1⟩ : ∃ q1, (bs.set u (cutB p A98 c98 (i : Int)))[v]? = some q1 := ⟨_, List.getElem?_eq_getElem (by rw [List.length_set]; exact hvb)⟩
                have hql1 : q1.kids.length = (cutK q.kids (i : Int)).length := by
                  by_cases e : v = u
                  · subst e
                    rw [List.getElem?_set_self hvb] at hq1
                    rw [hv] at hp; cases hp; cases hq1; rfl
                  · rw [List.getElem?_set_ne (fun h => e h.symm), hv] at hq1
                    cases hq1
                    rw [cutK_of_not (hF.not_kid (absR_at hv hql) (by rw [up_some (absR_at hb hl)]; show (v : Int) ≠ b.up; rw [hu]; omega))]
                have hkl : k ≤ q1.kids.length := by omega
                have hq1c := cutK_le q.kids (i : Int)
                refine WP.holds (fun w hw => (hw.rowsAt (i := 0) rfl hq1).2.1) (fun hq1cap => ?_)
                
                refine WP.drawSel (some 18) [0, 1, 2] [(0, true), (1, true), (2, true), (3, true), (4, true), (5, true), (6, true), (7, true), (8, true), (9, true), (10, true), (11, true), (12, true), (13, true), (14, true), (15, false), (16, false), (17, true), (18, false)] mixed (by kernel_rfl) (by decide) ?_
                refine WPD.take rfl (v_move (v := .pointer _) rfl) ?_ (fun _ h => h.sel [0, 1, 2] (by decide))
                refine WPD.take rfl (v_nil rfl) ?_ (fun _ h => h.sel [0, 1, 2] (by decide))
                refine WPD.take rfl (v_fieldL (o' := 0) Try.underlying77 rfl Try.sizeOf75 rfl rfl) ?_ (fun _ h => h.sel [0, 1, 2] (by decide))
                refine WPD.take rfl (v_load1 (u := .slice _ _ _) Try.isAgg75 rfl (fun w hw => hw.cl_at (i := 1) rfl _ rfl)) ?_ (fun _ h => h.sel [0, 1, 2] (by decide))
                refine WPD.take rfl (v_move (v := .int .i64 _) rfl) ?_ (fun _ h => h.sel [0, 1, 2] (by decide))
                refine WPD.take rfl (v_move (v := .pointer _) rfl) ?_ (fun _ h => h.sel [0, 1, 2] (by decide))
                refine WPD.take rfl (v_nil rfl) ?_ (fun _ h => h.sel [0, 1, 2] (by decide))
                refine WPD.take rfl (v_fieldL (o' := 0) Try.underlying77 rfl Try.sizeOf75 rfl rfl) ?_ (fun _ h => h.sel [0, 1, 2] (by decide))
                refine WPD.take rfl (v_load1 (u := .slice _ _ _) Try.isAgg75 rfl (fun w hw => hw.cl_at (i := 1) rfl _ rfl)) ?_ (fun _ h => h.sel [0, 1, 2] (by decide))
                refine WPD.take rfl (v_move (v := .int .i64 _) rfl) ?_ (fun _ h => h.sel [0, 1, 2] (by decide))
                refine WPD.take rfl (v_index (j := v) Try.underlying75 Try.sizeOf74 rfl rfl rfl (by omega)) ?_ (fun _ h => h.sel [0, 1, 2] (by decide))
                refine WPD.take rfl (v_field (off := 2) Try.underlying74 rfl Try.sizeOf50 rfl) ?_ (fun _ h => h.sel [0, 1, 2] (by decide))
                refine WPD.take rfl (v_load1 (u := .slice _ _ _) Try.isAgg50 rfl (fun w hw => hw.rowAt (i := 2) rfl hk1 hq1 2 (us := [.slice q1.A q1.kids.length q1.c]) rfl)) ?_ (fun _ h => h.sel [0, 1, 2] (by decide))
                refine WPD.take rfl (v_move (v := .int .i64 _) rfl) ?_ (fun _ h => h.sel [0, 1, 2] (by decide))
                refine WPD.take rfl (v_move (v := .int .i64 _) rfl) ?_ (fun _ h => h.sel [0, 1, 2] (by decide))
                refine WPD.ef rfl (x_call Try.call49 (with_ct q1.A q1.c q1.kids k hkl hq1cap (i : Int) (by omega)) [] [0, 1, 2] rfl (fun w hw => (hw.rowsAt (i := 0) rfl hq1).2.2) (τ := fun _ => [_, _, _, _]) (fun _ => rfl)) (fun _ _ _ h => h.2.sel [0, 1, 2] (by decide)) (fun ⟨A116, c116⟩ => ?_)
                refine WPD.fact (fun _ => ?_)
                refine WPD.val rfl (v_index (j := v) Try.underlying75 Try.sizeOf74 rfl rfl rfl (by omega)) (fun _ h => h.sel [0, 1, 2] (by decide)) ?_
                refine WPD.take rfl (v_field (off := 2) Try.underlying74 rfl Try.sizeOf50 rfl) ?_ (fun _ h => h.sel [0, 1, 2] (by decide))
                refine WPD.ef0 rfl (x_storeRow' (u := .slice A116 (q1.kids.length + 1) c116) (o := 0 + v * 58 + 2) (xs' := cellsB ((bs.set u (cutB p A98 c98 (i : Int))).set v (insB q1 A116 c116 k (i : Int)))) (σ' := [_, _, _, _]) Try.sizeOf50 rfl rfl (i := 2) rfl (by rw [cellsB_len hk1]; (try simp only [List.length_set]); omega) (by rw [show 0 + v * 58 + 2 = v * 58 + 2 by omega]; exact cellsB_set hk1 hq1 (o := 2) (us := [.slice A116 (q1.kids.length + 1) c116]) (by show 2 + 1 ≤ 58; decide) (by first | rfl | (show _ = (_ :: _ :: Value.slice A116 (insAt q1.kids k (i : Int)).length c116 :: _ : List Value); rw [insAt_len hkl]; rfl))) rfl) (fun h => absurd rfl h) (fun _ => ?_)
                refine WPD.nil (onto_of ?_)
                refine WP.seq ?_
                refine WP.pre ?_ (fun w hw => St.rowSet (b' := (insB q1 A116 c116 k (i : Int))) hq1 (by show St _ _ (_ :: kidsI A116 (insAt q1.kids k (i : Int)).length c116 (insAt q1.kids k (i : Int)) :: _) w; rw [insAt_len hkl]; exact (hw.sel [0, 3, 1, 2] (by decide))))
                have hk2 : ROk ((bs.set u (cutB p A98 c98 (i : Int))).set v (insB q1 A116 c116 k (i : Int))) := hk1.set v (show SOk q1.sty from hk1.get hq1)
                have hmv := absR_mov (A1 := A98) (A2 := A116) (c1 := c98) (c2 := c116) (k := k) hb hl hu hp hpl hv hql hui hvi hq1
                have hb2 := hmv.1
                
                refine WP.region ?_
                refine WPL.val (v_move (v := .pointer _) rfl) ?_
                refine WPL.val (v_nil rfl) ?_
                refine WPL.val (v_fieldL (o' := 0) Try.underlying77 rfl Try.sizeOf75 rfl rfl) ?_
                refine WPL.val (v_load1 (u := .slice _ _ _) Try.isAgg75 rfl (fun w hw => hw.cl_at (i := 1) rfl _ rfl)) ?_
                refine WPL.val (v_move (v := .int .i64 _) rfl) ?_
                refine WPL.val (v_move (v := .int .i64 _) rfl) ?_
                refine WPL.val (v_index (j := i) Try.underlying75 Try.sizeOf74 rfl rfl rfl (by omega)) ?_
                refine WPL.val (v_field (off := 1) Try.underlying74 rfl Try.sizeOf3 rfl) ?_
                refine WPL.ef0 (x_storeRow' (u := .int .i64 (v : Int)) (o := 0 + i * 58 + 1) (xs' := cellsB (((bs.set u (cutB p A98 c98 (i : Int))).set v (insB q1 A116 c116 k (i : Int))).set i (upB b (v : Int)))) (σ' := [_, _, _]) Try.sizeOf3 rfl rfl (i := 2) rfl (by rw [cellsB_len hk2]; (try simp only [List.length_set]); omega) (by rw [show 0 + i * 58 + 1 = i * 58 + 1 by omega]; exact cellsB_set hk2 hb2 (o := 1) (us := [.int .i64 (v : Int)]) (by show 1 + 1 ≤ 58; decide) rfl) rfl) (fun _ => ?_)
                refine WPL.nil (onto_of ?_)
                refine WP.seq ?_
                refine WP.region ?_
                refine WPL.val (v_assign (v := .int .i64 (0)) rfl) ?_
                refine WPL.nil (onto_of ?_)
                exact WP.ret1 Try.results35 (fun _ h => h) (fun w hw => ⟨(((bs.set u (cutB p A98 c98 (i : Int))).set v (insB q1 A116 c116 k (i : Int))).set i (upB b (v : Int))), congrArg (Value.int .i64) (by rw [hr]), ⟨by rw [hr]; exact hmv.2, hk2.set i (show SOk b.sty from hk.get hb)⟩, St.shutSet (by rw [rows_same (b' := (upB b (v : Int))) hb2 rfl]; simp only [List.length_set]; exact (hw.sel [1, 2, 0] (by decide)))⟩)
end Go.Proofs.Ytmjdmlgdffoimaa
