/- PaintFirst. -/
import Derived.Test.YtmjdmlgdffoimabPaintOrs
namespace Go.Proofs.Ytmjdmlgdffoimab
open Go.RowKit

theorem layF_plain {L : List PN} (hP : PV L) {x : Int} (h0 : 0 < x) (hx : x < L.length) (hu : 0 < upP L x) (hl : layP L (upP L x) = false) : layF L x = layF L (upP L x) := by
  have h1 := hP.up x h0 hx
  show layG L (upP L x) = layG L (upP L (upP L x))
  rw [layG_eq hP (by omega), if_pos ⟨hu, hl⟩]
theorem bef_plain {L : List PN} (hP : PV L) {x : Int} (h0 : 0 < x) (hx : x < L.length) (hxl : layP L x = false) (hu : 0 < upP L x) (hl : layP L (upP L x) = false) : befP (PT L 0) (upP L x) x = true := by
  have h1 := hP.up x h0 hx
  exact bef_sub (PT_nodup hP _ 0 (Nat.le_refl _)) (bef_kids hP hu (by omega) h0 hx (layF_plain hP h0 hx hu hl).symm (lt_plain h1.2 hl hxl))
set_option maxHeartbeats 1000000 in
theorem lawFirst_ct (A : Option Addr) (c : Nat) (L : List PN) (hcap : L.length ≤ c) : Ct Try.prog 7 #[.slice A L.length c] [] (fun w => RdN w A L) (X := Unit) (fun _ => .bool true) (fun _ => True) (fun _ => []) := by
  refine Ct.intro Try.func7 rfl Try.ntmps7 (by simp) (fun w0 hz => ?_)
  refine WP.seq ?_
  refine WP.region ?_
  refine WPL.val (v_assign (v := .bool false) rfl) ?_
  refine WPL.nil (onto_of ?_)
  refine WP.seq ?_
  refine WP.region ?_
  refine WPL.ef (x_call Try.call10 works_ct [] [] rfl (fun w hw => trivial) (τ := fun _ => []) (fun _ => rfl)) (fun _ => ?_)
  refine WPL.fact (fun _ => ?_)
  refine WPL.val (v_assign (v := .bool _) rfl) ?_
  refine WPL.nil (onto_of ?_)
  refine WP.seq ?_
  refine WP.seq ?_
  refine WP.region ?_
  refine WPL.val (v_move (v := .bool _) rfl) ?_
  refine WPL.val (v_not rfl) ?_
  refine WPL.nil (onto_of ?_)
  refine WP.condF rfl ?_
  refine WP.skip (onto_of ?_)
  refine WP.seq ?_
  refine WP.seq ?_
  refine WP.region ?_
  refine WPL.val (v_move (v := .slice _ _ _) rfl) ?_
  refine WPL.val (v_len Try.underlying22 rfl) ?_
  refine WPL.val (v_gtr rfl rfl) ?_
  refine WPL.val (v_move (v := .bool _) rfl) ?_
  refine WPL.split 14 rfl (fun h14 => ?_) (fun h14 => ?_)
  ·
    refine WPL.skipG ?_
    refine WPL.skipG ?_
    refine WPL.skipG ?_
    refine WPL.val (v_pickT (u := .bool _) rfl rfl) ?_
    refine WPL.val (v_move (v := .bool _) rfl) ?_
    refine WPL.skipG ?_
    refine WPL.skipG ?_
    refine WPL.skipG ?_
    refine WPL.val (v_pickT (u := .bool _) rfl rfl) ?_
    refine WPL.nil (onto_of ?_)
    refine WP.condT rfl ?_
    refine WP.seq ?_
    refine WP.region ?_
    refine WPL.val (v_move (v := .bool _) rfl) ?_
    refine WPL.val (v_assign (v := .bool _) rfl) ?_
    refine WPL.nil (onto_of ?_)
    exact WP.ret1 Try.results7 (fun _ h => h) (fun w hw => ⟨(), rfl, trivial, hw.sel [] (by decide)⟩)
  ·
    refine WPL.valG (v_move (v := .slice _ _ _) rfl) ?_
    refine WPL.efG (x_call Try.call17 (valid_ct A c L (by omega)) [] [] rfl (fun w hw => hw.rd hz not_foots_nil) (τ := fun _ => []) (fun _ => rfl)) (fun _ => ?_)
    refine WPL.fact (fun _ => ?_)
    refine WPL.valG (v_not rfl) ?_
    refine WPL.val (v_pickF (v := .bool _) rfl rfl) ?_
    refine WPL.val (v_move (v := .bool _) rfl) ?_
    refine WPL.splitB 19 rfl (fun h19 => ?_) (fun h19 => ?_)
    ·
      refine WPL.skipG ?_
      refine WPL.skipG ?_
      refine WPL.skipG ?_
      refine WPL.val (v_pickT (u := .bool _) rfl rfl) ?_
      refine WPL.nil (onto_of ?_)
      refine WP.condT rfl ?_
      refine WP.seq ?_
      refine WP.region ?_
      refine WPL.val (v_move (v := .bool _) rfl) ?_
      refine WPL.val (v_assign (v := .bool _) rfl) ?_
      refine WPL.nil (onto_of ?_)
      exact WP.ret1 Try.results7 (fun _ h => h) (fun w hw => ⟨(), rfl, trivial, hw.sel [] (by decide)⟩)
    ·
      refine WPL.valG (v_move (v := .slice _ _ _) rfl) ?_
      refine WPL.valG (v_len Try.underlying22 rfl) ?_
      refine WPL.valG (v_eql rfl rfl) ?_
      refine WPL.val (v_pickF (v := .bool _) rfl rfl) ?_
      refine WPL.nil (onto_of ?_)
      refine WP.condP rfl (fun h23 => ?_) (fun h23 => ?_)
      ·
        refine WP.seq ?_
        refine WP.region ?_
        refine WPL.val (v_move (v := .bool _) rfl) ?_
        refine WPL.val (v_assign (v := .bool _) rfl) ?_
        refine WPL.nil (onto_of ?_)
        exact WP.ret1 Try.results7 (fun _ h => h) (fun w hw => ⟨(), rfl, trivial, hw.sel [] (by decide)⟩)
      ·
        have hok : okP L = true := by simpa using h19
        have hP := okP_pv hok
        have hne : L ≠ [] := fun e => by rw [e] at h23; simp at h23
        have hL : L.length ≤ 1000 := by omega
        have hlen := PT0_len hP hne
        have hpos := List.length_pos_iff.2 hne
        have hp0 : (PT L 0)[0]? = some 0 := by rw [PT_eq hP]; rfl
        refine WP.skip (onto_of ?_)
        refine WP.seq ?_
        refine WP.region ?_
        refine WPL.val (v_move (v := .slice _ _ _) rfl) ?_
        refine WPL.ef (x_call Try.call16 (orderP_ct A c L hL hcap hok hne) [] [] rfl (fun w hw => hw.rd hz not_foots_nil) (τ := fun _ => [_]) (fun _ => rfl)) (fun ⟨oA, oc⟩ => ?_)
        refine WPL.fact (fun _ => ?_)
        refine WPL.val (v_assign (v := .slice _ _ _) rfl) ?_
        refine WPL.nil (onto_of ?_)
        refine WP.seq ?_
        refine WP.seq ?_
        refine WP.holds (fun w hw => hw.row_pos (i := 0) rfl (by omega)) (fun ⟨lb, hA⟩ => ?_)
        subst hA
        refine WP.region ?_
        refine WPL.val (v_move (v := .slice _ _ _) rfl) ?_
        refine WPL.val (v_len Try.underlying26 rfl) ?_
        refine WPL.val (v_move (v := .slice _ _ _) rfl) ?_
        refine WPL.val (v_len Try.underlying22 rfl) ?_
        refine WPL.val (v_is (b := false) (v_neq rfl rfl) (decide_eq_false (fun h => h (by rw [hlen])))) ?_
        refine WPL.val (v_move (v := .bool _) rfl) ?_
        refine WPL.valG (v_move (v := .slice _ _ _) rfl) ?_
        refine WPL.valG (v_index (j := 0) Try.underlying26 Try.sizeOf3 rfl rfl rfl (by omega)) ?_
        refine WPL.valG (v_load1 (u := .int .i64 0) Try.isAgg3 rfl (fun w hw => hw.row_at1 (i := 0) (k := 0) (u := .int .i64 0) rfl (by rw [List.getElem?_map, hp0]; rfl) (by decide))) ?_
        refine WPL.valG (v_is (b := false) (v_neq rfl rfl) (decide_eq_false (fun h => h rfl))) ?_
        refine WPL.val (v_pickF (v := .bool _) rfl rfl) ?_
        refine WPL.nil (onto_of ?_)
        refine WP.condF rfl ?_
        refine WP.skip (onto_of ?_)
        refine WP.seq ?_
        refine WP.seq ?_
        refine WP.region ?_
        refine WPL.val (v_assign (v := .int .i64 (1)) rfl) ?_
        refine WPL.nil (onto_of ?_)
        refine WP.block ?_
        refine WP.loopK (X := Nat) [0, 3] (fun k => [(5, .int .i64 ((k : Int) + 1))]) (fun k w => k + 1 ≤ L.length ∧ St w0 (foots []) [] w) (fun k => L.length - k) 0 ⟨rfl, trivial⟩ (fun w hw => ⟨by omega, hw.sel [] (by decide)⟩) (fun k ρ0 => ?_)
        refine WP.fact (fun hkl => ?_)
        refine WP.seq ?_
        refine WP.seq ?_
        refine WP.region ?_
        refine WPL.val (v_move (v := .int .i64 _) rfl) ?_
        refine WPL.val (v_move (v := .slice _ _ _) rfl) ?_
        refine WPL.val (v_len Try.underlying22 rfl) ?_
        refine WPL.val (v_lss rfl rfl) ?_
        refine WPL.nil (onto_of ?_)
        refine WP.condP rfl (fun h41 => ?_) (fun h41 => ?_)
        ·
          have hk : k + 1 < L.length := by omega
          obtain ⟨n, ab, ao, hn, hA, hc⟩ := getNode hz hk
          subst hA
          have hlx : layX L ((k : Int) + 1) = layF L ((k : Int) + 1) := layX_ok hok (by omega) (by omega)
          have hlo := layF_ok hP (x := ((k : Int) + 1)) (by omega) (by omega)
          have hbl := bef_sub (PT_nodup hP _ 0 (Nat.le_refl _)) (bef_layer hP (a := ((k : Int) + 1)) (by omega) (by omega))
          have hup : upP L ((k : Int) + 1) = n.up := upN hn
          have hly : layP L ((k : Int) + 1) = n.lay := layN hn
          have hub := hP.up ((k : Int) + 1) (by omega) (by omega)
          rw [hup] at hub
          refine WP.skip (onto_of ?_)
          refine WP.seq ?_
          refine WP.block ?_
          refine WP.seq ?_
          refine WP.region ?_
          refine WPL.val (v_move (v := .slice _ _ _) rfl) ?_
          refine WPL.val (v_move (v := .int .i64 _) rfl) ?_
          refine WPL.ef (x_call Try.call18 (by have h := Layer_ct (some ⟨ab, ao, none⟩) c L hL ((k : Int) + 1); rw [hlx] at h; exact h) [] [] rfl (fun w hw => hw.rd hz not_foots_nil) (τ := fun _ => []) (fun _ => rfl)) (fun _ => ?_)
          refine WPL.fact (fun _ => ?_)
          refine WPL.val (v_assign (v := .int .i64 _) rfl) ?_
          refine WPL.nil (onto_of ?_)
          refine WP.seq ?_
          refine WP.seq ?_
          refine WP.region ?_
          refine WPL.val (v_move (v := .int .i64 _) rfl) ?_
          refine WPL.val (v_is (b := false) (v_lss rfl rfl) (decide_eq_false (by omega))) ?_
          refine WPL.val (v_move (v := .bool _) rfl) ?_
          refine WPL.valG (v_move (v := .int .i64 _) rfl) ?_
          refine WPL.valG (v_move (v := .int .i64 _) rfl) ?_
          refine WPL.valG (v_is (b := false) (v_geq rfl rfl) (decide_eq_false (by omega))) ?_
          refine WPL.val (v_pickF (v := .bool _) rfl rfl) ?_
          refine WPL.val (v_move (v := .bool _) rfl) ?_
          refine WPL.valG (v_move (v := .int .i64 _) rfl) ?_
          refine WPL.valG (v_gtr rfl rfl) ?_
          refine WPL.valG (v_move (v := .bool _) rfl) ?_
          refine WPL.split 57 rfl (fun h57 => ?_) (fun h57 => ?_)
          ·
            obtain ⟨m, hm⟩ : ∃ m : Nat, layF L ((k : Int) + 1) = m := ⟨(layF L ((k : Int) + 1)).toNat, by omega⟩
            obtain ⟨n2, ab2, ao2, hn2, hA2, hc2⟩ := getNode hz (i := m) (by omega)
            cases hA2
            have hl2 : n2.lay = true := by
              rcases hlo.2.2 with h | h
              · omega
              · rw [hm, layN hn2] at h; exact h
            refine WPL.valG (v_move (v := .slice _ _ _) rfl) ?_
            refine WPL.valG (v_move (v := .int .i64 _) rfl) ?_
            refine WPL.valG (v_index (j := m) Try.underlying22 Try.sizeOf39 rfl rfl hm (by omega)) ?_
            refine WPL.valG (v_field (off := 1) Try.underlying39 rfl Try.sizeOf4 rfl) ?_
            refine WPL.valG (v_load1 (u := .bool _) Try.isAgg4 rfl (fun w hw => hw.old_at (hc2.one (j := 1) rfl (by omega)) (not_foots_nil _))) ?_
            refine WPL.valG (v_is (b := false) (v_not rfl) (by rw [hl2]; rfl)) ?_
            refine WPL.valG (v_pickT (u := .bool _) rfl rfl) ?_
            refine WPL.val (v_pickF (v := .bool _) rfl rfl) ?_
            refine WPL.val (v_move (v := .bool _) rfl) ?_
            refine WPL.valG (v_move (v := .slice _ _ _) rfl) ?_
            refine WPL.valG (v_move (v := .int .i64 _) rfl) ?_
            refine WPL.valG (v_move (v := .int .i64 _) rfl) ?_
            refine WPL.efG (x_call Try.call20 (by have h := beforeP_ct (some ⟨ab, ao, none⟩) c L hL hcap hok hne (layF L ((k : Int) + 1)) ((k : Int) + 1); rw [hbl] at h; exact h) [] [] rfl (fun w hw => hw.rd hz not_foots_nil) (τ := fun _ => []) (fun _ => rfl)) (fun _ => ?_)
            refine WPL.fact (fun _ => ?_)
            refine WPL.valG (v_not rfl) ?_
            refine WPL.val (v_pickF (v := .bool _) rfl rfl) ?_
            refine WPL.nil (onto_of ?_)
            refine WP.condF rfl ?_
            refine WP.skip (onto_of ?_)
            refine WP.seq ?_
            refine WP.region ?_
            refine WPL.val (v_move (v := .slice _ _ _) rfl) ?_
            refine WPL.val (v_move (v := .int .i64 _) rfl) ?_
            refine WPL.val (v_index (j := k + 1) Try.underlying22 Try.sizeOf39 rfl rfl (by omega) (by omega)) ?_
            refine WPL.val (v_field (off := 0) Try.underlying39 rfl Try.sizeOf3 rfl) ?_
            refine WPL.val (v_load1 (u := .int .i64 _) Try.isAgg3 rfl (fun w hw => hw.old_at (hc.one (j := 0) rfl (by omega)) (not_foots_nil _))) ?_
            refine WPL.val (v_assign (v := .int .i64 _) rfl) ?_
            refine WPL.nil (onto_of ?_)
            refine WP.seq ?_
            refine WP.region ?_
            refine WPL.val (v_move (v := .slice _ _ _) rfl) ?_
            refine WPL.val (v_move (v := .int .i64 _) rfl) ?_
            refine WPL.val (v_index (j := k + 1) Try.underlying22 Try.sizeOf39 rfl rfl (by omega) (by omega)) ?_
            refine WPL.val (v_field (off := 1) Try.underlying39 rfl Try.sizeOf4 rfl) ?_
            refine WPL.val (v_load1 (u := .bool _) Try.isAgg4 rfl (fun w hw => hw.old_at (hc.one (j := 1) rfl (by omega)) (not_foots_nil _))) ?_
            refine WPL.val (v_not rfl) ?_
            refine WPL.val (v_move (v := .bool _) rfl) ?_
            refine WPL.splitB 84 rfl (fun h84 => ?_) (fun h84 => ?_)
            ·
              refine WPL.valG (v_move (v := .int .i64 _) rfl) ?_
              refine WPL.valG (v_gtr rfl rfl) ?_
              refine WPL.val (v_pickT (u := .bool _) rfl rfl) ?_
              refine WPL.val (v_move (v := .bool _) rfl) ?_
              refine WPL.split 88 rfl (fun h88 => ?_) (fun h88 => ?_)
              ·
                obtain ⟨m, hm⟩ : ∃ m : Nat, n.up = m := ⟨n.up.toNat, by omega⟩
                obtain ⟨n2, ab2, ao2, hn2, hA2, hc2⟩ := getNode hz (i := m) (by omega)
                cases hA2
                have hl2 : layP L n.up = n2.lay := by rw [hm]; exact layN hn2
                refine WPL.valG (v_move (v := .slice _ _ _) rfl) ?_
                refine WPL.valG (v_move (v := .int .i64 _) rfl) ?_
                refine WPL.valG (v_index (j := m) Try.underlying22 Try.sizeOf39 rfl rfl hm (by omega)) ?_
                refine WPL.valG (v_field (off := 1) Try.underlying39 rfl Try.sizeOf4 rfl) ?_
                refine WPL.valG (v_load1 (u := .bool _) Try.isAgg4 rfl (fun w hw => hw.old_at (hc2.one (j := 1) rfl (by omega)) (not_foots_nil _))) ?_
                refine WPL.valG (v_not rfl) ?_
                refine WPL.val (v_pickT (u := .bool _) rfl rfl) ?_
                refine WPL.val (v_move (v := .bool _) rfl) ?_
                refine WPL.splitB 96 rfl (fun h96 => ?_) (fun h96 => ?_)
                ·
                  have hbp : befP (PT L 0) n.up ((k : Int) + 1) = true := by rw [← hup]; exact bef_plain hP (by omega) (by omega) (by rw [hly]; simpa using h84) (by rw [hup]; exact h88) (by rw [hup, hl2]; simpa using h96)
                  refine WPL.valG (v_move (v := .slice _ _ _) rfl) ?_
                  refine WPL.valG (v_move (v := .int .i64 _) rfl) ?_
                  refine WPL.valG (v_move (v := .int .i64 _) rfl) ?_
                  refine WPL.efG (x_call Try.call20 (by have h := beforeP_ct (some ⟨ab, ao, none⟩) c L hL hcap hok hne n.up ((k : Int) + 1); rw [hbp] at h; exact h) [] [] rfl (fun w hw => hw.rd hz not_foots_nil) (τ := fun _ => []) (fun _ => rfl)) (fun _ => ?_)
                  refine WPL.fact (fun _ => ?_)
                  refine WPL.valG (v_not rfl) ?_
                  refine WPL.val (v_pickT (u := .bool _) rfl rfl) ?_
                  refine WPL.nil (onto_of ?_)
                  refine WP.condF rfl ?_
                  refine WP.skip (onto_of ?_)
                  refine WP.region ?_
                  refine WPL.val (v_move (v := .int .i64 _) rfl) ?_
                  refine WPL.val (v_add rfl rfl (by omega)) ?_
                  refine WPL.val (v_assign (v := .int .i64 _) rfl) ?_
                  exact WPL.nil fun w hw => ⟨rfl, k + 1, (by omega), ⟨(congrArg (Value.int .i64) (by push_cast; rfl)), (via (.slice _ _ _) rfl rfl), (via (.bool _) rfl rfl), trivial⟩, ⟨by omega, hw⟩⟩
                ·
                  refine WPL.skipG ?_
                  refine WPL.skipG ?_
                  refine WPL.skipG ?_
                  refine WPL.skipG ?_
                  refine WPL.skipG ?_
                  refine WPL.val (v_pickF (v := .bool _) rfl rfl) ?_
                  refine WPL.nil (onto_of ?_)
                  refine WP.condF rfl ?_
                  refine WP.skip (onto_of ?_)
                  refine WP.region ?_
                  refine WPL.val (v_move (v := .int .i64 _) rfl) ?_
                  refine WPL.val (v_add rfl rfl (by omega)) ?_
                  refine WPL.val (v_assign (v := .int .i64 _) rfl) ?_
                  exact WPL.nil fun w hw => ⟨rfl, k + 1, (by omega), ⟨(congrArg (Value.int .i64) (by push_cast; rfl)), (via (.slice _ _ _) rfl rfl), (via (.bool _) rfl rfl), trivial⟩, ⟨by omega, hw⟩⟩
              ·
                refine WPL.skipG ?_
                refine WPL.skipG ?_
                refine WPL.skipG ?_
                refine WPL.skipG ?_
                refine WPL.skipG ?_
                refine WPL.skipG ?_
                refine WPL.val (v_pickF (v := .bool _) rfl rfl) ?_
                refine WPL.val (v_move (v := .bool _) rfl) ?_
                refine WPL.skipG ?_
                refine WPL.skipG ?_
                refine WPL.skipG ?_
                refine WPL.skipG ?_
                refine WPL.skipG ?_
                refine WPL.val (v_pickF (v := .bool _) rfl rfl) ?_
                refine WPL.nil (onto_of ?_)
                refine WP.condF rfl ?_
                refine WP.skip (onto_of ?_)
                refine WP.region ?_
                refine WPL.val (v_move (v := .int .i64 _) rfl) ?_
                refine WPL.val (v_add rfl rfl (by omega)) ?_
                refine WPL.val (v_assign (v := .int .i64 _) rfl) ?_
                exact WPL.nil fun w hw => ⟨rfl, k + 1, (by omega), ⟨(congrArg (Value.int .i64) (by push_cast; rfl)), (via (.slice _ _ _) rfl rfl), (via (.bool _) rfl rfl), trivial⟩, ⟨by omega, hw⟩⟩
            ·
              refine WPL.skipG ?_
              refine WPL.skipG ?_
              refine WPL.val (v_pickF (v := .bool _) rfl rfl) ?_
              refine WPL.val (v_move (v := .bool _) rfl) ?_
              refine WPL.skipG ?_
              refine WPL.skipG ?_
              refine WPL.skipG ?_
              refine WPL.skipG ?_
              refine WPL.skipG ?_
              refine WPL.skipG ?_
              refine WPL.val (v_pickF (v := .bool _) rfl rfl) ?_
              refine WPL.val (v_move (v := .bool _) rfl) ?_
              refine WPL.skipG ?_
              refine WPL.skipG ?_
              refine WPL.skipG ?_
              refine WPL.skipG ?_
              refine WPL.skipG ?_
              refine WPL.val (v_pickF (v := .bool _) rfl rfl) ?_
              refine WPL.nil (onto_of ?_)
              refine WP.condF rfl ?_
              refine WP.skip (onto_of ?_)
              refine WP.region ?_
              refine WPL.val (v_move (v := .int .i64 _) rfl) ?_
              refine WPL.val (v_add rfl rfl (by omega)) ?_
              refine WPL.val (v_assign (v := .int .i64 _) rfl) ?_
              exact WPL.nil fun w hw => ⟨rfl, k + 1, (by omega), ⟨(congrArg (Value.int .i64) (by push_cast; rfl)), (via (.slice _ _ _) rfl rfl), (via (.bool _) rfl rfl), trivial⟩, ⟨by omega, hw⟩⟩
          ·
            refine WPL.skipG ?_
            refine WPL.skipG ?_
            refine WPL.skipG ?_
            refine WPL.skipG ?_
            refine WPL.skipG ?_
            refine WPL.skipG ?_
            refine WPL.valG (v_pickF (v := .bool _) rfl rfl) ?_
            refine WPL.val (v_pickF (v := .bool _) rfl rfl) ?_
            refine WPL.val (v_move (v := .bool _) rfl) ?_
            refine WPL.valG (v_move (v := .slice _ _ _) rfl) ?_
            refine WPL.valG (v_move (v := .int .i64 _) rfl) ?_
            refine WPL.valG (v_move (v := .int .i64 _) rfl) ?_
            refine WPL.efG (x_call Try.call20 (by have h := beforeP_ct (some ⟨ab, ao, none⟩) c L hL hcap hok hne (layF L ((k : Int) + 1)) ((k : Int) + 1); rw [hbl] at h; exact h) [] [] rfl (fun w hw => hw.rd hz not_foots_nil) (τ := fun _ => []) (fun _ => rfl)) (fun _ => ?_)
            refine WPL.fact (fun _ => ?_)
            refine WPL.valG (v_not rfl) ?_
            refine WPL.val (v_pickF (v := .bool _) rfl rfl) ?_
            refine WPL.nil (onto_of ?_)
            refine WP.condF rfl ?_
            refine WP.skip (onto_of ?_)
            refine WP.seq ?_
            refine WP.region ?_
            refine WPL.val (v_move (v := .slice _ _ _) rfl) ?_
            refine WPL.val (v_move (v := .int .i64 _) rfl) ?_
            refine WPL.val (v_index (j := k + 1) Try.underlying22 Try.sizeOf39 rfl rfl (by omega) (by omega)) ?_
            refine WPL.val (v_field (off := 0) Try.underlying39 rfl Try.sizeOf3 rfl) ?_
            refine WPL.val (v_load1 (u := .int .i64 _) Try.isAgg3 rfl (fun w hw => hw.old_at (hc.one (j := 0) rfl (by omega)) (not_foots_nil _))) ?_
            refine WPL.val (v_assign (v := .int .i64 _) rfl) ?_
            refine WPL.nil (onto_of ?_)
            refine WP.seq ?_
            refine WP.region ?_
            refine WPL.val (v_move (v := .slice _ _ _) rfl) ?_
            refine WPL.val (v_move (v := .int .i64 _) rfl) ?_
            refine WPL.val (v_index (j := k + 1) Try.underlying22 Try.sizeOf39 rfl rfl (by omega) (by omega)) ?_
            refine WPL.val (v_field (off := 1) Try.underlying39 rfl Try.sizeOf4 rfl) ?_
            refine WPL.val (v_load1 (u := .bool _) Try.isAgg4 rfl (fun w hw => hw.old_at (hc.one (j := 1) rfl (by omega)) (not_foots_nil _))) ?_
            refine WPL.val (v_not rfl) ?_
            refine WPL.val (v_move (v := .bool _) rfl) ?_
            refine WPL.splitB 84 rfl (fun h84 => ?_) (fun h84 => ?_)
            ·
              refine WPL.valG (v_move (v := .int .i64 _) rfl) ?_
              refine WPL.valG (v_gtr rfl rfl) ?_
              refine WPL.val (v_pickT (u := .bool _) rfl rfl) ?_
              refine WPL.val (v_move (v := .bool _) rfl) ?_
              refine WPL.split 88 rfl (fun h88 => ?_) (fun h88 => ?_)
              ·
                obtain ⟨m, hm⟩ : ∃ m : Nat, n.up = m := ⟨n.up.toNat, by omega⟩
                obtain ⟨n2, ab2, ao2, hn2, hA2, hc2⟩ := getNode hz (i := m) (by omega)
                cases hA2
                have hl2 : layP L n.up = n2.lay := by rw [hm]; exact layN hn2
                refine WPL.valG (v_move (v := .slice _ _ _) rfl) ?_
                refine WPL.valG (v_move (v := .int .i64 _) rfl) ?_
                refine WPL.valG (v_index (j := m) Try.underlying22 Try.sizeOf39 rfl rfl hm (by omega)) ?_
                refine WPL.valG (v_field (off := 1) Try.underlying39 rfl Try.sizeOf4 rfl) ?_
                refine WPL.valG (v_load1 (u := .bool _) Try.isAgg4 rfl (fun w hw => hw.old_at (hc2.one (j := 1) rfl (by omega)) (not_foots_nil _))) ?_
                refine WPL.valG (v_not rfl) ?_
                refine WPL.val (v_pickT (u := .bool _) rfl rfl) ?_
                refine WPL.val (v_move (v := .bool _) rfl) ?_
                refine WPL.splitB 96 rfl (fun h96 => ?_) (fun h96 => ?_)
                ·
                  have hbp : befP (PT L 0) n.up ((k : Int) + 1) = true := by rw [← hup]; exact bef_plain hP (by omega) (by omega) (by rw [hly]; simpa using h84) (by rw [hup]; exact h88) (by rw [hup, hl2]; simpa using h96)
                  refine WPL.valG (v_move (v := .slice _ _ _) rfl) ?_
                  refine WPL.valG (v_move (v := .int .i64 _) rfl) ?_
                  refine WPL.valG (v_move (v := .int .i64 _) rfl) ?_
                  refine WPL.efG (x_call Try.call20 (by have h := beforeP_ct (some ⟨ab, ao, none⟩) c L hL hcap hok hne n.up ((k : Int) + 1); rw [hbp] at h; exact h) [] [] rfl (fun w hw => hw.rd hz not_foots_nil) (τ := fun _ => []) (fun _ => rfl)) (fun _ => ?_)
                  refine WPL.fact (fun _ => ?_)
                  refine WPL.valG (v_not rfl) ?_
                  refine WPL.val (v_pickT (u := .bool _) rfl rfl) ?_
                  refine WPL.nil (onto_of ?_)
                  refine WP.condF rfl ?_
                  refine WP.skip (onto_of ?_)
                  refine WP.region ?_
                  refine WPL.val (v_move (v := .int .i64 _) rfl) ?_
                  refine WPL.val (v_add rfl rfl (by omega)) ?_
                  refine WPL.val (v_assign (v := .int .i64 _) rfl) ?_
                  exact WPL.nil fun w hw => ⟨rfl, k + 1, (by omega), ⟨(congrArg (Value.int .i64) (by push_cast; rfl)), (via (.slice _ _ _) rfl rfl), (via (.bool _) rfl rfl), trivial⟩, ⟨by omega, hw⟩⟩
                ·
                  refine WPL.skipG ?_
                  refine WPL.skipG ?_
                  refine WPL.skipG ?_
                  refine WPL.skipG ?_
                  refine WPL.skipG ?_
                  refine WPL.val (v_pickF (v := .bool _) rfl rfl) ?_
                  refine WPL.nil (onto_of ?_)
                  refine WP.condF rfl ?_
                  refine WP.skip (onto_of ?_)
                  refine WP.region ?_
                  refine WPL.val (v_move (v := .int .i64 _) rfl) ?_
                  refine WPL.val (v_add rfl rfl (by omega)) ?_
                  refine WPL.val (v_assign (v := .int .i64 _) rfl) ?_
                  exact WPL.nil fun w hw => ⟨rfl, k + 1, (by omega), ⟨(congrArg (Value.int .i64) (by push_cast; rfl)), (via (.slice _ _ _) rfl rfl), (via (.bool _) rfl rfl), trivial⟩, ⟨by omega, hw⟩⟩
              ·
                refine WPL.skipG ?_
                refine WPL.skipG ?_
                refine WPL.skipG ?_
                refine WPL.skipG ?_
                refine WPL.skipG ?_
                refine WPL.skipG ?_
                refine WPL.val (v_pickF (v := .bool _) rfl rfl) ?_
                refine WPL.val (v_move (v := .bool _) rfl) ?_
                refine WPL.skipG ?_
                refine WPL.skipG ?_
                refine WPL.skipG ?_
                refine WPL.skipG ?_
                refine WPL.skipG ?_
                refine WPL.val (v_pickF (v := .bool _) rfl rfl) ?_
                refine WPL.nil (onto_of ?_)
                refine WP.condF rfl ?_
                refine WP.skip (onto_of ?_)
                refine WP.region ?_
                refine WPL.val (v_move (v := .int .i64 _) rfl) ?_
                refine WPL.val (v_add rfl rfl (by omega)) ?_
                refine WPL.val (v_assign (v := .int .i64 _) rfl) ?_
                exact WPL.nil fun w hw => ⟨rfl, k + 1, (by omega), ⟨(congrArg (Value.int .i64) (by push_cast; rfl)), (via (.slice _ _ _) rfl rfl), (via (.bool _) rfl rfl), trivial⟩, ⟨by omega, hw⟩⟩
            ·
              refine WPL.skipG ?_
              refine WPL.skipG ?_
              refine WPL.val (v_pickF (v := .bool _) rfl rfl) ?_
              refine WPL.val (v_move (v := .bool _) rfl) ?_
              refine WPL.skipG ?_
              refine WPL.skipG ?_
              refine WPL.skipG ?_
              refine WPL.skipG ?_
              refine WPL.skipG ?_
              refine WPL.skipG ?_
              refine WPL.val (v_pickF (v := .bool _) rfl rfl) ?_
              refine WPL.val (v_move (v := .bool _) rfl) ?_
              refine WPL.skipG ?_
              refine WPL.skipG ?_
              refine WPL.skipG ?_
              refine WPL.skipG ?_
              refine WPL.skipG ?_
              refine WPL.val (v_pickF (v := .bool _) rfl rfl) ?_
              refine WPL.nil (onto_of ?_)
              refine WP.condF rfl ?_
              refine WP.skip (onto_of ?_)
              refine WP.region ?_
              refine WPL.val (v_move (v := .int .i64 _) rfl) ?_
              refine WPL.val (v_add rfl rfl (by omega)) ?_
              refine WPL.val (v_assign (v := .int .i64 _) rfl) ?_
              exact WPL.nil fun w hw => ⟨rfl, k + 1, (by omega), ⟨(congrArg (Value.int .i64) (by push_cast; rfl)), (via (.slice _ _ _) rfl rfl), (via (.bool _) rfl rfl), trivial⟩, ⟨by omega, hw⟩⟩
        ·
          refine WP.exit (onto_of ?_)
          refine WP.seq ?_
          refine WP.region ?_
          refine WPL.val (v_move (v := .bool _) rfl) ?_
          refine WPL.val (v_assign (v := .bool _) rfl) ?_
          refine WPL.nil (onto_of ?_)
          exact WP.ret1 Try.results7 (fun _ h => h) (fun w hw => ⟨(), rfl, trivial, hw.sel [] (by decide)⟩)
end Go.Proofs.Ytmjdmlgdffoimab
