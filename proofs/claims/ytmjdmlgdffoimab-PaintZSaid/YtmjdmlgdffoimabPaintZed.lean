/- PaintZ. -/
import Derived.Test.YtmjdmlgdffoimabPaintOrs
namespace Go.Proofs.Ytmjdmlgdffoimab
open Go.RowKit

set_option maxHeartbeats 1000000 in
theorem lawZ_ct (A : Option Addr) (c : Nat) (L : List PN) (hcap : L.length ≤ c) (a b : Int) : Ct Try.prog 9 #[.slice A L.length c, .int .i64 a, .int .i64 b] [] (fun w => RdN w A L) (X := Unit) (fun _ => .bool true) (fun _ => True) (fun _ => []) := by
  refine Ct.intro Try.func9 rfl Try.ntmps9 (by simp) (fun w0 hz => ?_)
  refine WP.seq ?_
  refine WP.region ?_
  refine WPL.val (v_assign (v := .bool false) rfl) ?_
  refine WPL.nil (onto_of ?_)
  refine WP.seq ?_
  refine WP.region ?_
  refine WPL.ef (x_call Try.call10 works_ct [] [] rfl (fun w hw => trivial) (τ := fun _ => []) (fun _ => rfl)) (fun _ => ?_)
  refine WPL.fact (fun _ => ?_)
  refine WPL.val (v_assign (v := .bool _) rfl) ?_
  refine WPL.nil (onto_of ?_)
  refine WP.seq ?_
  refine WP.seq ?_
  refine WP.region ?_
  refine WPL.val (v_move (v := .bool _) rfl) ?_
  refine WPL.val (v_not rfl) ?_
  refine WPL.nil (onto_of ?_)
  refine WP.condF rfl ?_
  refine WP.skip (onto_of ?_)
  refine WP.seq ?_
  refine WP.seq ?_
  refine WP.region ?_
  refine WPL.val (v_move (v := .slice _ _ _) rfl) ?_
  refine WPL.val (v_len Try.underlying22 rfl) ?_
  refine WPL.val (v_gtr rfl rfl) ?_
  refine WPL.val (v_move (v := .bool _) rfl) ?_
  refine WPL.split 14 rfl (fun h14 => ?_) (fun h14 => ?_)
  ·
    refine WPL.skipG ?_
    refine WPL.skipG ?_
    refine WPL.skipG ?_
    refine WPL.val (v_pickT (u := .bool _) rfl rfl) ?_
    refine WPL.val (v_move (v := .bool _) rfl) ?_
    refine WPL.skipG ?_
    refine WPL.skipG ?_
    refine WPL.val (v_pickT (u := .bool _) rfl rfl) ?_
    refine WPL.val (v_move (v := .bool _) rfl) ?_
    refine WPL.skipG ?_
    refine WPL.skipG ?_
    refine WPL.val (v_pickT (u := .bool _) rfl rfl) ?_
    refine WPL.val (v_move (v := .bool _) rfl) ?_
    refine WPL.skipG ?_
    refine WPL.skipG ?_
    refine WPL.skipG ?_
    refine WPL.skipG ?_
    refine WPL.val (v_pickT (u := .bool _) rfl rfl) ?_
    refine WPL.val (v_move (v := .bool _) rfl) ?_
    refine WPL.skipG ?_
    refine WPL.skipG ?_
    refine WPL.skipG ?_
    refine WPL.skipG ?_
    refine WPL.val (v_pickT (u := .bool _) rfl rfl) ?_
    refine WPL.val (v_move (v := .bool _) rfl) ?_
    refine WPL.skipG ?_
    refine WPL.skipG ?_
    refine WPL.skipG ?_
    refine WPL.skipG ?_
    refine WPL.skipG ?_
    refine WPL.skipG ?_
    refine WPL.val (v_pickT (u := .bool _) rfl rfl) ?_
    refine WPL.val (v_move (v := .bool _) rfl) ?_
    refine WPL.skipG ?_
    refine WPL.skipG ?_
    refine WPL.skipG ?_
    refine WPL.skipG ?_
    refine WPL.skipG ?_
    refine WPL.val (v_pickT (u := .bool _) rfl rfl) ?_
    refine WPL.val (v_move (v := .bool _) rfl) ?_
    refine WPL.skipG ?_
    refine WPL.skipG ?_
    refine WPL.skipG ?_
    refine WPL.skipG ?_
    refine WPL.skipG ?_
    refine WPL.skipG ?_
    refine WPL.skipG ?_
    refine WPL.val (v_pickT (u := .bool _) rfl rfl) ?_
    refine WPL.nil (onto_of ?_)
    refine WP.condT rfl ?_
    refine WP.seq ?_
    refine WP.region ?_
    refine WPL.val (v_move (v := .bool _) rfl) ?_
    refine WPL.val (v_assign (v := .bool _) rfl) ?_
    refine WPL.nil (onto_of ?_)
    exact WP.ret1 Try.results9 (fun _ h => h) (fun w hw => ⟨(), rfl, trivial, hw.sel [] (by decide)⟩)
  ·
    refine WPL.valG (v_move (v := .slice _ _ _) rfl) ?_
    refine WPL.efG (x_call Try.call17 (valid_ct A c L (by omega)) [] [] rfl (fun w hw => hw.rd hz not_foots_nil) (τ := fun _ => []) (fun _ => rfl)) (fun _ => ?_)
    refine WPL.fact (fun _ => ?_)
    refine WPL.valG (v_not rfl) ?_
    refine WPL.val (v_pickF (v := .bool _) rfl rfl) ?_
    refine WPL.val (v_move (v := .bool _) rfl) ?_
    refine WPL.splitB 19 rfl (fun h19 => ?_) (fun h19 => ?_)
    ·
      refine WPL.skipG ?_
      refine WPL.skipG ?_
      refine WPL.val (v_pickT (u := .bool _) rfl rfl) ?_
      refine WPL.val (v_move (v := .bool _) rfl) ?_
      refine WPL.skipG ?_
      refine WPL.skipG ?_
      refine WPL.val (v_pickT (u := .bool _) rfl rfl) ?_
      refine WPL.val (v_move (v := .bool _) rfl) ?_
      refine WPL.skipG ?_
      refine WPL.skipG ?_
      refine WPL.skipG ?_
      refine WPL.skipG ?_
      refine WPL.val (v_pickT (u := .bool _) rfl rfl) ?_
      refine WPL.val (v_move (v := .bool _) rfl) ?_
      refine WPL.skipG ?_
      refine WPL.skipG ?_
      refine WPL.skipG ?_
      refine WPL.skipG ?_
      refine WPL.val (v_pickT (u := .bool _) rfl rfl) ?_
      refine WPL.val (v_move (v := .bool _) rfl) ?_
      refine WPL.skipG ?_
      refine WPL.skipG ?_
      refine WPL.skipG ?_
      refine WPL.skipG ?_
      refine WPL.skipG ?_
      refine WPL.skipG ?_
      refine WPL.val (v_pickT (u := .bool _) rfl rfl) ?_
      refine WPL.val (v_move (v := .bool _) rfl) ?_
      refine WPL.skipG ?_
      refine WPL.skipG ?_
      refine WPL.skipG ?_
      refine WPL.skipG ?_
      refine WPL.skipG ?_
      refine WPL.val (v_pickT (u := .bool _) rfl rfl) ?_
      refine WPL.val (v_move (v := .bool _) rfl) ?_
      refine WPL.skipG ?_
      refine WPL.skipG ?_
      refine WPL.skipG ?_
      refine WPL.skipG ?_
      refine WPL.skipG ?_
      refine WPL.skipG ?_
      refine WPL.skipG ?_
      refine WPL.val (v_pickT (u := .bool _) rfl rfl) ?_
      refine WPL.nil (onto_of ?_)
      refine WP.condT rfl ?_
      refine WP.seq ?_
      refine WP.region ?_
      refine WPL.val (v_move (v := .bool _) rfl) ?_
      refine WPL.val (v_assign (v := .bool _) rfl) ?_
      refine WPL.nil (onto_of ?_)
      exact WP.ret1 Try.results9 (fun _ h => h) (fun w hw => ⟨(), rfl, trivial, hw.sel [] (by decide)⟩)
    ·
      refine WPL.valG (v_move (v := .int .i64 _) rfl) ?_
      refine WPL.valG (v_lss rfl rfl) ?_
      refine WPL.val (v_pickF (v := .bool _) rfl rfl) ?_
      refine WPL.val (v_move (v := .bool _) rfl) ?_
      refine WPL.split 23 rfl (fun h23 => ?_) (fun h23 => ?_)
      ·
        refine WPL.skipG ?_
        refine WPL.skipG ?_
        refine WPL.val (v_pickT (u := .bool _) rfl rfl) ?_
        refine WPL.val (v_move (v := .bool _) rfl) ?_
        refine WPL.skipG ?_
        refine WPL.skipG ?_
        refine WPL.skipG ?_
        refine WPL.skipG ?_
        refine WPL.val (v_pickT (u := .bool _) rfl rfl) ?_
        refine WPL.val (v_move (v := .bool _) rfl) ?_
        refine WPL.skipG ?_
        refine WPL.skipG ?_
        refine WPL.skipG ?_
        refine WPL.skipG ?_
        refine WPL.val (v_pickT (u := .bool _) rfl rfl) ?_
        refine WPL.val (v_move (v := .bool _) rfl) ?_
        refine WPL.skipG ?_
        refine WPL.skipG ?_
        refine WPL.skipG ?_
        refine WPL.skipG ?_
        refine WPL.skipG ?_
        refine WPL.skipG ?_
        refine WPL.val (v_pickT (u := .bool _) rfl rfl) ?_
        refine WPL.val (v_move (v := .bool _) rfl) ?_
        refine WPL.skipG ?_
        refine WPL.skipG ?_
        refine WPL.skipG ?_
        refine WPL.skipG ?_
        refine WPL.skipG ?_
        refine WPL.val (v_pickT (u := .bool _) rfl rfl) ?_
        refine WPL.val (v_move (v := .bool _) rfl) ?_
        refine WPL.skipG ?_
        refine WPL.skipG ?_
        refine WPL.skipG ?_
        refine WPL.skipG ?_
        refine WPL.skipG ?_
        refine WPL.skipG ?_
        refine WPL.skipG ?_
        refine WPL.val (v_pickT (u := .bool _) rfl rfl) ?_
        refine WPL.nil (onto_of ?_)
        refine WP.condT rfl ?_
        refine WP.seq ?_
        refine WP.region ?_
        refine WPL.val (v_move (v := .bool _) rfl) ?_
        refine WPL.val (v_assign (v := .bool _) rfl) ?_
        refine WPL.nil (onto_of ?_)
        exact WP.ret1 Try.results9 (fun _ h => h) (fun w hw => ⟨(), rfl, trivial, hw.sel [] (by decide)⟩)
      ·
        refine WPL.valG (v_move (v := .int .i64 _) rfl) ?_
        refine WPL.valG (v_lss rfl rfl) ?_
        refine WPL.val (v_pickF (v := .bool _) rfl rfl) ?_
        refine WPL.val (v_move (v := .bool _) rfl) ?_
        refine WPL.split 27 rfl (fun h27 => ?_) (fun h27 => ?_)
        ·
          refine WPL.skipG ?_
          refine WPL.skipG ?_
          refine WPL.skipG ?_
          refine WPL.skipG ?_
          refine WPL.val (v_pickT (u := .bool _) rfl rfl) ?_
          refine WPL.val (v_move (v := .bool _) rfl) ?_
          refine WPL.skipG ?_
          refine WPL.skipG ?_
          refine WPL.skipG ?_
          refine WPL.skipG ?_
          refine WPL.val (v_pickT (u := .bool _) rfl rfl) ?_
          refine WPL.val (v_move (v := .bool _) rfl) ?_
          refine WPL.skipG ?_
          refine WPL.skipG ?_
          refine WPL.skipG ?_
          refine WPL.skipG ?_
          refine WPL.skipG ?_
          refine WPL.skipG ?_
          refine WPL.val (v_pickT (u := .bool _) rfl rfl) ?_
          refine WPL.val (v_move (v := .bool _) rfl) ?_
          refine WPL.skipG ?_
          refine WPL.skipG ?_
          refine WPL.skipG ?_
          refine WPL.skipG ?_
          refine WPL.skipG ?_
          refine WPL.val (v_pickT (u := .bool _) rfl rfl) ?_
          refine WPL.val (v_move (v := .bool _) rfl) ?_
          refine WPL.skipG ?_
          refine WPL.skipG ?_
          refine WPL.skipG ?_
          refine WPL.skipG ?_
          refine WPL.skipG ?_
          refine WPL.skipG ?_
          refine WPL.skipG ?_
          refine WPL.val (v_pickT (u := .bool _) rfl rfl) ?_
          refine WPL.nil (onto_of ?_)
          refine WP.condT rfl ?_
          refine WP.seq ?_
          refine WP.region ?_
          refine WPL.val (v_move (v := .bool _) rfl) ?_
          refine WPL.val (v_assign (v := .bool _) rfl) ?_
          refine WPL.nil (onto_of ?_)
          exact WP.ret1 Try.results9 (fun _ h => h) (fun w hw => ⟨(), rfl, trivial, hw.sel [] (by decide)⟩)
        ·
          refine WPL.valG (v_move (v := .int .i64 _) rfl) ?_
          refine WPL.valG (v_move (v := .slice _ _ _) rfl) ?_
          refine WPL.valG (v_len Try.underlying22 rfl) ?_
          refine WPL.valG (v_geq rfl rfl) ?_
          refine WPL.val (v_pickF (v := .bool _) rfl rfl) ?_
          refine WPL.val (v_move (v := .bool _) rfl) ?_
          refine WPL.split 33 rfl (fun h33 => ?_) (fun h33 => ?_)
          ·
            refine WPL.skipG ?_
            refine WPL.skipG ?_
            refine WPL.skipG ?_
            refine WPL.skipG ?_
            refine WPL.val (v_pickT (u := .bool _) rfl rfl) ?_
            refine WPL.val (v_move (v := .bool _) rfl) ?_
            refine WPL.skipG ?_
            refine WPL.skipG ?_
            refine WPL.skipG ?_
            refine WPL.skipG ?_
            refine WPL.skipG ?_
            refine WPL.skipG ?_
            refine WPL.val (v_pickT (u := .bool _) rfl rfl) ?_
            refine WPL.val (v_move (v := .bool _) rfl) ?_
            refine WPL.skipG ?_
            refine WPL.skipG ?_
            refine WPL.skipG ?_
            refine WPL.skipG ?_
            refine WPL.skipG ?_
            refine WPL.val (v_pickT (u := .bool _) rfl rfl) ?_
            refine WPL.val (v_move (v := .bool _) rfl) ?_
            refine WPL.skipG ?_
            refine WPL.skipG ?_
            refine WPL.skipG ?_
            refine WPL.skipG ?_
            refine WPL.skipG ?_
            refine WPL.skipG ?_
            refine WPL.skipG ?_
            refine WPL.val (v_pickT (u := .bool _) rfl rfl) ?_
            refine WPL.nil (onto_of ?_)
            refine WP.condT rfl ?_
            refine WP.seq ?_
            refine WP.region ?_
            refine WPL.val (v_move (v := .bool _) rfl) ?_
            refine WPL.val (v_assign (v := .bool _) rfl) ?_
            refine WPL.nil (onto_of ?_)
            exact WP.ret1 Try.results9 (fun _ h => h) (fun w hw => ⟨(), rfl, trivial, hw.sel [] (by decide)⟩)
          ·
            refine WPL.valG (v_move (v := .int .i64 _) rfl) ?_
            refine WPL.valG (v_move (v := .slice _ _ _) rfl) ?_
            refine WPL.valG (v_len Try.underlying22 rfl) ?_
            refine WPL.valG (v_geq rfl rfl) ?_
            refine WPL.val (v_pickF (v := .bool _) rfl rfl) ?_
            refine WPL.val (v_move (v := .bool _) rfl) ?_
            refine WPL.split 39 rfl (fun h39 => ?_) (fun h39 => ?_)
            ·
              refine WPL.skipG ?_
              refine WPL.skipG ?_
              refine WPL.skipG ?_
              refine WPL.skipG ?_
              refine WPL.skipG ?_
              refine WPL.skipG ?_
              refine WPL.val (v_pickT (u := .bool _) rfl rfl) ?_
              refine WPL.val (v_move (v := .bool _) rfl) ?_
              refine WPL.skipG ?_
              refine WPL.skipG ?_
              refine WPL.skipG ?_
              refine WPL.skipG ?_
              refine WPL.skipG ?_
              refine WPL.val (v_pickT (u := .bool _) rfl rfl) ?_
              refine WPL.val (v_move (v := .bool _) rfl) ?_
              refine WPL.skipG ?_
              refine WPL.skipG ?_
              refine WPL.skipG ?_
              refine WPL.skipG ?_
              refine WPL.skipG ?_
              refine WPL.skipG ?_
              refine WPL.skipG ?_
              refine WPL.val (v_pickT (u := .bool _) rfl rfl) ?_
              refine WPL.nil (onto_of ?_)
              refine WP.condT rfl ?_
              refine WP.seq ?_
              refine WP.region ?_
              refine WPL.val (v_move (v := .bool _) rfl) ?_
              refine WPL.val (v_assign (v := .bool _) rfl) ?_
              refine WPL.nil (onto_of ?_)
              exact WP.ret1 Try.results9 (fun _ h => h) (fun w hw => ⟨(), rfl, trivial, hw.sel [] (by decide)⟩)
            ·
              obtain ⟨i, rfl⟩ : ∃ i : Nat, a = i := ⟨a.toNat, by omega⟩
              obtain ⟨j, rfl⟩ : ∃ j : Nat, b = j := ⟨b.toNat, by omega⟩
              obtain ⟨n, ab, ao, hn, hA, hc⟩ := getNode hz (i := i) (by omega)
              subst hA
              obtain ⟨n2, ab2, ao2, hn2, hA2, hc2⟩ := getNode hz (i := j) (by omega)
              cases hA2
              have hne : L ≠ [] := fun e => by rw [e] at hn; simp at hn
              have hL : L.length ≤ 1000 := by omega
              refine WPL.valG (v_move (v := .slice _ _ _) rfl) ?_
              refine WPL.valG (v_move (v := .int .i64 _) rfl) ?_
              refine WPL.valG (v_index (j := i) Try.underlying22 Try.sizeOf39 rfl rfl rfl (by omega)) ?_
              refine WPL.valG (v_field (off := 1) Try.underlying39 rfl Try.sizeOf4 rfl) ?_
              refine WPL.valG (v_load1 (u := .bool _) Try.isAgg4 rfl (fun w hw => hw.old_at (hc.one (j := 1) rfl (by omega)) (not_foots_nil _))) ?_
              refine WPL.valG (v_not rfl) ?_
              refine WPL.val (v_pickF (v := .bool _) rfl rfl) ?_
              refine WPL.val (v_move (v := .bool _) rfl) ?_
              refine WPL.splitB 47 rfl (fun h47 => ?_) (fun h47 => ?_)
              ·
                refine WPL.skipG ?_
                refine WPL.skipG ?_
                refine WPL.skipG ?_
                refine WPL.skipG ?_
                refine WPL.skipG ?_
                refine WPL.val (v_pickT (u := .bool _) rfl rfl) ?_
                refine WPL.val (v_move (v := .bool _) rfl) ?_
                refine WPL.skipG ?_
                refine WPL.skipG ?_
                refine WPL.skipG ?_
                refine WPL.skipG ?_
                refine WPL.skipG ?_
                refine WPL.skipG ?_
                refine WPL.skipG ?_
                refine WPL.val (v_pickT (u := .bool _) rfl rfl) ?_
                refine WPL.nil (onto_of ?_)
                refine WP.condT rfl ?_
                refine WP.seq ?_
                refine WP.region ?_
                refine WPL.val (v_move (v := .bool _) rfl) ?_
                refine WPL.val (v_assign (v := .bool _) rfl) ?_
                refine WPL.nil (onto_of ?_)
                exact WP.ret1 Try.results9 (fun _ h => h) (fun w hw => ⟨(), rfl, trivial, hw.sel [] (by decide)⟩)
              ·
                refine WPL.valG (v_move (v := .slice _ _ _) rfl) ?_
                refine WPL.valG (v_move (v := .int .i64 _) rfl) ?_
                refine WPL.valG (v_index (j := j) Try.underlying22 Try.sizeOf39 rfl rfl rfl (by omega)) ?_
                refine WPL.valG (v_field (off := 1) Try.underlying39 rfl Try.sizeOf4 rfl) ?_
                refine WPL.valG (v_load1 (u := .bool _) Try.isAgg4 rfl (fun w hw => hw.old_at (hc2.one (j := 1) rfl (by omega)) (not_foots_nil _))) ?_
                refine WPL.val (v_pickF (v := .bool _) rfl rfl) ?_
                refine WPL.val (v_move (v := .bool _) rfl) ?_
                refine WPL.splitB 54 rfl (fun h54 => ?_) (fun h54 => ?_)
                ·
                  refine WPL.skipG ?_
                  refine WPL.skipG ?_
                  refine WPL.skipG ?_
                  refine WPL.skipG ?_
                  refine WPL.skipG ?_
                  refine WPL.skipG ?_
                  refine WPL.skipG ?_
                  refine WPL.val (v_pickT (u := .bool _) rfl rfl) ?_
                  refine WPL.nil (onto_of ?_)
                  refine WP.condT rfl ?_
                  refine WP.seq ?_
                  refine WP.region ?_
                  refine WPL.val (v_move (v := .bool _) rfl) ?_
                  refine WPL.val (v_assign (v := .bool _) rfl) ?_
                  refine WPL.nil (onto_of ?_)
                  exact WP.ret1 Try.results9 (fun _ h => h) (fun w hw => ⟨(), rfl, trivial, hw.sel [] (by decide)⟩)
                ·
                  refine WPL.valG (v_move (v := .slice _ _ _) rfl) ?_
                  refine WPL.valG (v_move (v := .int .i64 _) rfl) ?_
                  refine WPL.efG (x_call Try.call18 (Layer_ct (some ⟨ab, ao, none⟩) c L hL (i : Int)) [] [] rfl (fun w hw => hw.rd hz not_foots_nil) (τ := fun _ => []) (fun _ => rfl)) (fun _ => ?_)
                  refine WPL.fact (fun _ => ?_)
                  refine WPL.valG (v_move (v := .slice _ _ _) rfl) ?_
                  refine WPL.valG (v_move (v := .int .i64 _) rfl) ?_
                  refine WPL.efG (x_call Try.call18 (Layer_ct (some ⟨ab, ao, none⟩) c L hL (j : Int)) [] [] rfl (fun w hw => hw.rd hz not_foots_nil) (τ := fun _ => []) (fun _ => rfl)) (fun _ => ?_)
                  refine WPL.fact (fun _ => ?_)
                  refine WPL.valG (v_neq rfl rfl) ?_
                  refine WPL.val (v_pickF (v := .bool _) rfl rfl) ?_
                  refine WPL.nil (onto_of ?_)
                  refine WP.condP rfl (fun h62 => ?_) (fun h62 => ?_)
                  ·
                    refine WP.seq ?_
                    refine WP.region ?_
                    refine WPL.val (v_move (v := .bool _) rfl) ?_
                    refine WPL.val (v_assign (v := .bool _) rfl) ?_
                    refine WPL.nil (onto_of ?_)
                    exact WP.ret1 Try.results9 (fun _ h => h) (fun w hw => ⟨(), rfl, trivial, hw.sel [] (by decide)⟩)
                  ·
                    have hok : okP L = true := by simpa using h19
                    have hP := okP_pv hok
                    have hli : layX L (i : Int) = layF L (i : Int) := layX_ok hok (by omega) (by omega)
                    have hlj : layX L (j : Int) = layF L (j : Int) := layX_ok hok (by omega) (by omega)
                    have hlay : layF L (i : Int) = layF L (j : Int) := by rw [← hli, ← hlj]; exact Decidable.not_not.1 h62
                    have hl1 : layP L (i : Int) = true := by rw [layN hn]; simpa using h47
                    have hl2 : layP L (j : Int) = false := by rw [layN hn2]; simpa using h54
                    have hbt := bef_total hP (a := (i : Int)) (b := (j : Int)) (by omega) (by omega) (by omega) (by omega) hlay
                    have hb2 := bef_sub (PT_nodup hP _ 0 (Nat.le_refl _)) (bef_layer hP (a := (i : Int)) (by omega) (by omega))
                    refine WP.skip (onto_of ?_)
                    refine WP.seq ?_
                    refine WP.drawSel none [] [(0, true), (1, true), (2, true), (3, true), (4, true), (6, true), (7, true), (8, true), (9, true), (10, true), (11, true), (5, false), (12, true), (13, true), (14, true), (15, true), (16, true), (17, true), (19, true), (18, false), (20, false), (21, true), (22, true)] mixed (by kernel_rfl) (by decide) ?_
                    refine WPD.take rfl (v_move (v := .bool _) rfl) ?_ (fun _ h => h.sel [] (by decide))
                    refine WPD.take rfl (v_move (v := .bool _) rfl) ?_ (fun _ h => h.sel [] (by decide))
                    refine WPD.take rfl (v_move (v := .slice _ _ _) rfl) ?_ (fun _ h => h.sel [] (by decide))
                    refine WPD.take rfl (v_move (v := .int .i64 _) rfl) ?_ (fun _ h => h.sel [] (by decide))
                    refine WPD.take rfl (v_move (v := .int .i64 _) rfl) ?_ (fun _ h => h.sel [] (by decide))
                    refine WPD.take rfl (v_move (v := .slice _ _ _) rfl) ?_ (fun _ h => h.sel [] (by decide))
                    refine WPD.take rfl (v_move (v := .int .i64 _) rfl) ?_ (fun _ h => h.sel [] (by decide))
                    refine WPD.take rfl (v_index (j := i) Try.underlying22 Try.sizeOf39 rfl rfl rfl (by omega)) ?_ (fun _ h => h.sel [] (by decide))
                    refine WPD.take rfl (v_field (off := 2) Try.underlying39 rfl Try.sizeOf3 rfl) ?_ (fun _ h => h.sel [] (by decide))
                    refine WPD.take rfl (v_load1 (u := .int .i64 _) Try.isAgg3 rfl (fun w hw => hw.old_at (hc.one (j := 2) rfl (by omega)) (not_foots_nil _))) ?_ (fun _ h => h.sel [] (by decide))
                    refine WPD.take rfl (v_lss rfl rfl) ?_ (fun _ h => h.sel [] (by decide))
                    refine WPD.ef rfl (x_call Try.call20 (beforeP_ct (some ⟨ab, ao, none⟩) c L hL hcap hok hne (i : Int) (j : Int)) [] [] rfl (fun w hw => hw.rd hz not_foots_nil) (τ := fun _ => []) (fun _ => rfl)) (fun _ _ _ h => h.2.sel [] (by decide)) (fun _ => ?_)
                    refine WPD.fact (fun _ => ?_)
                    refine WPD.take rfl (v_is (b := true) (v_eqB Try.underlying4 rfl rfl) (by rw [hbt, beq_iff_eq]; exact decide_eq_decide.2 (by rw [lt_one hl1 hl2, zN hn]))) ?_ (fun _ h => h.sel [] (by decide))
                    refine WPD.take rfl (v_pickT (u := .bool _) rfl rfl) ?_ (fun _ h => h.sel [] (by decide))
                    refine WPD.take rfl (v_move (v := .bool _) rfl) ?_ (fun _ h => h.sel [] (by decide))
                    refine WPD.take rfl (v_move (v := .slice _ _ _) rfl) ?_ (fun _ h => h.sel [] (by decide))
                    refine WPD.take rfl (v_move (v := .slice _ _ _) rfl) ?_ (fun _ h => h.sel [] (by decide))
                    refine WPD.take rfl (v_move (v := .int .i64 _) rfl) ?_ (fun _ h => h.sel [] (by decide))
                    refine WPD.take rfl (v_move (v := .int .i64 _) rfl) ?_ (fun _ h => h.sel [] (by decide))
                    refine WPD.ef rfl (x_call Try.call18 (Layer_ct (some ⟨ab, ao, none⟩) c L hL (i : Int)) [] [] rfl (fun w hw => hw.rd hz not_foots_nil) (τ := fun _ => []) (fun _ => rfl)) (fun _ _ _ h => h.2.sel [] (by decide)) (fun _ => ?_)
                    refine WPD.fact (fun _ => ?_)
                    refine WPD.ef rfl (x_call Try.call20 (by have h := beforeP_ct (some ⟨ab, ao, none⟩) c L hL hcap hok hne (layX L (i : Int)) (i : Int); rw [show befP (PT L 0) (layX L (i : Int)) (i : Int) = true by rw [hli]; exact hb2] at h; exact h) [] [] rfl (fun w hw => hw.rd hz not_foots_nil) (τ := fun _ => []) (fun _ => rfl)) (fun _ _ _ h => h.2.sel [] (by decide)) (fun _ => ?_)
                    refine WPD.fact (fun _ => ?_)
                    refine WPD.take rfl (v_pickT (u := .bool _) rfl rfl) ?_ (fun _ h => h.sel [] (by decide))
                    refine WPD.take rfl (v_assign (v := .bool _) rfl) ?_ (fun _ h => h.sel [] (by decide))
                    refine WPD.nil (onto_of ?_)
                    exact WP.ret1 Try.results9 (fun _ h => h) (fun w hw => ⟨(), rfl, trivial, hw.sel [] (by decide)⟩)
end Go.Proofs.Ytmjdmlgdffoimab
