/- The document's Valid; layers, of the program and of the document; Find, Index. -/
import Derived.Test.YtmjdmlgdffoimabPaintVal
namespace Go.Proofs.Ytmjdmlgdffoimab
open Go.RowKit

theorem stk_bad {L : List PN} {k : Nat} {st : List Int} (h : stk L k = some st) (hb : ¬ ((k = 0 ∧ upP L k = -1) ∨ (0 < k ∧ 0 ≤ upP L k ∧ upP L k < k))) : stk L (k + 1) = none := by
  cases e : stk L (k + 1) with
  | none => rfl
  | some st' =>
    exfalso
    have h1 := (stk_succ h).1 ⟨_, e⟩
    by_cases h0 : k = 0
    · subst h0
      exact hb (.inl ⟨rfl, by simpa using h1⟩)
    · rw [if_neg h0] at h1
      have h2 := (stk_ch h).2 _ h1
      exact hb (.inr ⟨by omega, h2⟩)
theorem stk_pop {L : List PN} {k : Nat} {st : List Int} (h : stk L k = some st) (h0 : k ≠ 0) (hp : pop (upP L k) st = []) : stk L (k + 1) = none := by
  rw [stk, h]
  simp only
  rw [if_neg h0, if_pos hp]
theorem stk_go {L : List PN} {k : Nat} {st t : List Int} {y : Int} (h : stk L k = some st) (h0 : k ≠ 0) (hp : pop (upP L k) st = y :: t) : stk L (k + 1) = some ((k : Int) :: y :: t) := by
  rw [stk, h]
  simp only
  rw [if_neg h0, hp, if_neg (by simp)]
theorem Ch.neg {L : List PN} {x : Int} {st : List Int} (h : Ch L x st) (hx : x < 0) : st = [] := by
  cases st with
  | nil => rfl
  | cons y t => have := h.1; have := h.2.1; omega
theorem Ch.pos {L : List PN} {x : Int} {st : List Int} (h : Ch L x st) (hx : 0 ≤ x) : ∃ t, st = x :: t ∧ Ch L (upP L x) t := by
  cases st with
  | nil => have : x = -1 := h
           omega
  | cons y t =>
    have e : x = y := h.1
    subst e
    exact ⟨t, rfl, h.2.2⟩
set_option maxHeartbeats 1000000 in
theorem rvalid_ct (A : Option Addr) (c : Nat) (L : List PN) (hL : L.length ≤ 1000) : Ct Try.prog 14 #[.slice A L.length c] [] (fun w => RdN w A L) (X := Unit) (fun _ => .bool (okP L)) (fun _ => True) (fun _ => []) := by
  refine Ct.intro Try.func14 rfl Try.ntmps14 (by simp) (fun w0 hz => ?_)
  refine WP.seq ?_
  refine WP.region ?_
  refine WPL.val (v_assign (v := .bool false) rfl) ?_
  refine WPL.nil (onto_of ?_)
  refine WP.seq ?_
  refine WP.seq ?_
  refine WP.region ?_
  refine WPL.val (v_assign (v := .int .i64 (0)) rfl) ?_
  refine WPL.nil (onto_of ?_)
  refine WP.block ?_
  refine WP.loopK (X := Nat × List Int) [0] (fun p => [(3, .int .i64 (p.1 : Int))]) (fun p w => (p.1 ≤ L.length ∧ stk L p.1 = some p.2) ∧ St w0 (foots []) [] w) (fun p => L.length - p.1) (0, []) ⟨rfl, trivial⟩ (fun w hw => ⟨⟨Nat.zero_le _, rfl⟩, hw⟩) (fun p ρ0 => ?_)
  obtain ⟨k, st⟩ := p
  dsimp only
  refine WP.fact (fun ⟨hkl, hstk⟩ => ?_)
  refine WP.seq ?_
  refine WP.seq ?_
  refine WP.region ?_
  refine WPL.val (v_move (v := .int .i64 _) rfl) ?_
  refine WPL.val (v_move (v := .slice _ _ _) rfl) ?_
  refine WPL.val (v_len Try.underlying24 rfl) ?_
  refine WPL.val (v_lss rfl rfl) ?_
  refine WPL.nil (onto_of ?_)
  refine WP.condP rfl (fun h8 => ?_) (fun h8 => ?_)
  ·
    have hk : k < L.length := by omega
    obtain ⟨n, ab, ao, hn, rfl, hc⟩ := getNode hz hk
    have hup := upN hn
    refine WP.skip (onto_of ?_)
    refine WP.seq ?_
    refine WP.block ?_
    refine WP.seq ?_
    refine WP.seq ?_
    refine WP.region ?_
    refine WPL.val (v_move (v := .int .i64 _) rfl) ?_
    refine WPL.val (v_eql rfl rfl) ?_
    refine WPL.val (v_move (v := .bool _) rfl) ?_
    refine WPL.split 13 rfl (fun h13 => ?_) (fun h13 => ?_)
    ·
      refine WPL.valG (v_move (v := .slice _ _ _) rfl) ?_
      refine WPL.valG (v_move (v := .int .i64 _) rfl) ?_
      refine WPL.valG (v_index (j := k) Try.underlying24 Try.sizeOf41 rfl rfl rfl (by omega)) ?_
      refine WPL.valG (v_field (off := 0) Try.underlying41 rfl Try.sizeOf3 rfl) ?_
      refine WPL.valG (v_load1 (u := .int .i64 _) Try.isAgg3 rfl (fun w hw => hw.old_at (hc.one (j := 0) rfl (by omega)) (not_foots_nil _))) ?_
      refine WPL.valG (v_neq rfl rfl) ?_
      refine WPL.val (v_pickT (u := .bool _) rfl rfl) ?_
      refine WPL.val (v_move (v := .bool _) rfl) ?_
      refine WPL.split 21 rfl (fun h21 => ?_) (fun h21 => ?_)
      ·
        refine WPL.skipG ?_
        refine WPL.skipG ?_
        refine WPL.skipG ?_
        refine WPL.skipG ?_
        refine WPL.skipG ?_
        refine WPL.skipG ?_
        refine WPL.skipG ?_
        refine WPL.skipG ?_
        refine WPL.skipG ?_
        refine WPL.skipG ?_
        refine WPL.skipG ?_
        refine WPL.skipG ?_
        refine WPL.skipG ?_
        refine WPL.skipG ?_
        refine WPL.skipG ?_
        refine WPL.skipG ?_
        refine WPL.skipG ?_
        refine WPL.skipG ?_
        refine WPL.skipG ?_
        refine WPL.val (v_pickT (u := .bool _) rfl rfl) ?_
        refine WPL.nil (onto_of ?_)
        have hres : okP L = false := okP_no (i := k + 1) (by omega) (stk_bad hstk (by rw [hup]; omega))
        refine WP.condT rfl ?_
        refine WP.seq ?_
        refine WP.region ?_
        refine WPL.val (v_assign (v := .bool false) rfl) ?_
        refine WPL.nil (onto_of ?_)
        exact WP.ret1 Try.results14 (fun _ h => h) (fun w hw => ⟨(), congrArg Value.bool (by rw [hres]), trivial, hw.sel [] (by decide)⟩)
      ·
        refine WPL.valG (v_move (v := .int .i64 _) rfl) ?_
        refine WPL.valG (v_gtr rfl rfl) ?_
        refine WPL.valG (v_move (v := .bool _) rfl) ?_
        refine WPL.split 24 rfl (fun h24 => ?_) (fun h24 => ?_)
        ·
          refine WPL.valG (v_move (v := .slice _ _ _) rfl) ?_
          refine WPL.valG (v_move (v := .int .i64 _) rfl) ?_
          refine WPL.valG (v_index (j := k) Try.underlying24 Try.sizeOf41 rfl rfl rfl (by omega)) ?_
          refine WPL.valG (v_field (off := 0) Try.underlying41 rfl Try.sizeOf3 rfl) ?_
          refine WPL.valG (v_load1 (u := .int .i64 _) Try.isAgg3 rfl (fun w hw => hw.old_at (hc.one (j := 0) rfl (by omega)) (not_foots_nil _))) ?_
          refine WPL.valG (v_lss rfl rfl) ?_
          refine WPL.valG (v_move (v := .bool _) rfl) ?_
          refine WPL.split 31 rfl (fun h31 => ?_) (fun h31 => ?_)
          ·
            refine WPL.skipG ?_
            refine WPL.skipG ?_
            refine WPL.skipG ?_
            refine WPL.skipG ?_
            refine WPL.skipG ?_
            refine WPL.skipG ?_
            refine WPL.skipG ?_
            refine WPL.valG (v_pickT (u := .bool _) rfl rfl) ?_
            refine WPL.valG (v_pickT (u := .bool _) rfl rfl) ?_
            refine WPL.val (v_pickF (v := .bool _) rfl rfl) ?_
            refine WPL.nil (onto_of ?_)
            have hres : okP L = false := okP_no (i := k + 1) (by omega) (stk_bad hstk (by rw [hup]; omega))
            refine WP.condT rfl ?_
            refine WP.seq ?_
            refine WP.region ?_
            refine WPL.val (v_assign (v := .bool false) rfl) ?_
            refine WPL.nil (onto_of ?_)
            exact WP.ret1 Try.results14 (fun _ h => h) (fun w hw => ⟨(), congrArg Value.bool (by rw [hres]), trivial, hw.sel [] (by decide)⟩)
          ·
            refine WPL.valG (v_move (v := .slice _ _ _) rfl) ?_
            refine WPL.valG (v_move (v := .int .i64 _) rfl) ?_
            refine WPL.valG (v_index (j := k) Try.underlying24 Try.sizeOf41 rfl rfl rfl (by omega)) ?_
            refine WPL.valG (v_field (off := 0) Try.underlying41 rfl Try.sizeOf3 rfl) ?_
            refine WPL.valG (v_load1 (u := .int .i64 _) Try.isAgg3 rfl (fun w hw => hw.old_at (hc.one (j := 0) rfl (by omega)) (not_foots_nil _))) ?_
            refine WPL.valG (v_move (v := .int .i64 _) rfl) ?_
            refine WPL.valG (v_geq rfl rfl) ?_
            refine WPL.valG (v_pickF (v := .bool _) rfl rfl) ?_
            refine WPL.valG (v_pickT (u := .bool _) rfl rfl) ?_
            refine WPL.val (v_pickF (v := .bool _) rfl rfl) ?_
            refine WPL.nil (onto_of ?_)
            refine WP.condP rfl (fun h41 => ?_) (fun h41 => ?_)
            ·
              have hres : okP L = false := okP_no (i := k + 1) (by omega) (stk_bad hstk (by rw [hup]; omega))
              refine WP.seq ?_
              refine WP.region ?_
              refine WPL.val (v_assign (v := .bool false) rfl) ?_
              refine WPL.nil (onto_of ?_)
              exact WP.ret1 Try.results14 (fun _ h => h) (fun w hw => ⟨(), congrArg Value.bool (by rw [hres]), trivial, hw.sel [] (by decide)⟩)
            ·
              have hpass : (k = 0 ∧ n.up = -1) ∨ (0 < k ∧ 0 ≤ n.up ∧ n.up < k) := by omega
              refine WP.skip (onto_of ?_)
              refine WP.seq ?_
              refine WP.region ?_
              refine WPL.val (v_move (v := .int .i64 _) rfl) ?_
              refine WPL.val (v_sub rfl rfl (by omega)) ?_
              refine WPL.val (v_assign (v := .int .i64 _) rfl) ?_
              refine WPL.nil (onto_of ?_)
              refine WP.seq ?_
              refine WP.block ?_
              refine WP.loopK (X := Int × List Int) [0, 3] (fun q => [(4, .int .i64 q.1)]) (fun q w => (Ch L q.1 q.2 ∧ pop n.up q.2 = pop n.up st ∧ ∀ y ∈ q.2, y < k) ∧ St w0 (foots []) [] w) (fun q => q.2.length) ((k : Int) - 1, st) ⟨rfl, trivial⟩ (fun w hw => ⟨⟨(stk_ch hstk).1, rfl, fun y hy => ((stk_ch hstk).2 y hy).2⟩, hw⟩) (fun q ρ0 => ?_)
              obtain ⟨x, s2⟩ := q
              dsimp only
              refine WP.fact (fun ⟨hch, hpop, hall⟩ => ?_)
              refine WP.seq ?_
              refine WP.seq ?_
              refine WP.region ?_
              refine WPL.val (v_move (v := .int .i64 _) rfl) ?_
              refine WPL.val (v_geq rfl rfl) ?_
              refine WPL.val (v_move (v := .bool _) rfl) ?_
              refine WPL.split 46 rfl (fun h46 => ?_) (fun h46 => ?_)
              ·
                obtain ⟨m, rfl⟩ : ∃ m : Nat, x = m := ⟨x.toNat, by omega⟩
                obtain ⟨s3, rfl, hch2⟩ := hch.pos h46
                have hmk := hall _ (List.mem_cons_self ..)
                obtain ⟨n2, ab2, ao2, hn2, hA2, hc2⟩ := getNode hz (i := m) (by omega)
                cases hA2
                refine WPL.valG (v_move (v := .int .i64 _) rfl) ?_
                refine WPL.valG (v_move (v := .slice _ _ _) rfl) ?_
                refine WPL.valG (v_move (v := .int .i64 _) rfl) ?_
                refine WPL.valG (v_index (j := k) Try.underlying24 Try.sizeOf41 rfl rfl rfl (by omega)) ?_
                refine WPL.valG (v_field (off := 0) Try.underlying41 rfl Try.sizeOf3 rfl) ?_
                refine WPL.valG (v_load1 (u := .int .i64 _) Try.isAgg3 rfl (fun w hw => hw.old_at (hc.one (j := 0) rfl (by omega)) (not_foots_nil _))) ?_
                refine WPL.valG (v_neq rfl rfl) ?_
                refine WPL.val (v_pickT (u := .bool _) rfl rfl) ?_
                refine WPL.nil (onto_of ?_)
                refine WP.condP rfl (fun h54 => ?_) (fun h54 => ?_)
                ·
                  refine WP.skip (onto_of ?_)
                  refine WP.block ?_
                  refine WP.region ?_
                  refine WPL.val (v_move (v := .slice _ _ _) rfl) ?_
                  refine WPL.val (v_move (v := .int .i64 _) rfl) ?_
                  refine WPL.val (v_index (j := m) Try.underlying24 Try.sizeOf41 rfl rfl rfl (by omega)) ?_
                  refine WPL.val (v_field (off := 0) Try.underlying41 rfl Try.sizeOf3 rfl) ?_
                  refine WPL.val (v_load1 (u := .int .i64 _) Try.isAgg3 rfl (fun w hw => hw.old_at (hc2.one (j := 0) rfl (by omega)) (not_foots_nil _))) ?_
                  refine WPL.val (v_assign (v := .int .i64 _) rfl) ?_
                  exact WPL.nil fun w hw => ⟨rfl, (n2.up, s3), (by simp), ⟨rfl, (via (.slice _ _ _) rfl rfl), (via (.int .i64 _) rfl rfl), trivial⟩, ⟨⟨by rw [← upN hn2]; exact hch2, by rw [← hpop]; exact (pop_cons_ne (by omega) _).symm, fun y hy => hall y (by simp [hy])⟩, hw⟩⟩
                ·
                  have hp2 : pop n.up st = (m : Int) :: s3 := by rw [← hpop]; exact pop_same (fun a t e => by cases e; omega)
                  refine WP.exit (onto_of ?_)
                  refine WP.seq ?_
                  refine WP.region ?_
                  refine WPL.val (v_move (v := .int .i64 _) rfl) ?_
                  refine WPL.val (v_move (v := .slice _ _ _) rfl) ?_
                  refine WPL.val (v_move (v := .int .i64 _) rfl) ?_
                  refine WPL.val (v_index (j := k) Try.underlying24 Try.sizeOf41 rfl rfl rfl (by omega)) ?_
                  refine WPL.val (v_field (off := 0) Try.underlying41 rfl Try.sizeOf3 rfl) ?_
                  refine WPL.val (v_load1 (u := .int .i64 _) Try.isAgg3 rfl (fun w hw => hw.old_at (hc.one (j := 0) rfl (by omega)) (not_foots_nil _))) ?_
                  refine WPL.val (v_neq rfl rfl) ?_
                  refine WPL.nil (onto_of ?_)
                  refine WP.condP rfl (fun h66 => ?_) (fun h66 => ?_)
                  ·
                    have hres : okP L = false := (by omega)
                    refine WP.seq ?_
                    refine WP.region ?_
                    refine WPL.val (v_assign (v := .bool false) rfl) ?_
                    refine WPL.nil (onto_of ?_)
                    exact WP.ret1 Try.results14 (fun _ h => h) (fun w hw => ⟨(), congrArg Value.bool (by rw [hres]), trivial, hw.sel [] (by decide)⟩)
                  ·
                    have hnew : stk L (k + 1) = some ((k : Int) :: ((m : Int) :: s3)) := by exact stk_go hstk (by omega) (by rw [hup]; exact hp2)
                    refine WP.skip (onto_of ?_)
                    refine WP.region ?_
                    refine WPL.val (v_move (v := .int .i64 _) rfl) ?_
                    refine WPL.val (v_add rfl rfl (by omega)) ?_
                    refine WPL.val (v_assign (v := .int .i64 _) rfl) ?_
                    exact WPL.nil fun w hw => ⟨rfl, (k + 1, (k : Int) :: ((m : Int) :: s3)), (by simp only; omega), ⟨rfl, (via (.slice _ _ _) rfl rfl), trivial⟩, ⟨⟨by simp only; omega, hnew⟩, hw⟩⟩
              ·
                obtain rfl := hch.neg (by omega)
                obtain rfl : x = -1 := hch
                refine WPL.skipG ?_
                refine WPL.skipG ?_
                refine WPL.skipG ?_
                refine WPL.skipG ?_
                refine WPL.skipG ?_
                refine WPL.skipG ?_
                refine WPL.skipG ?_
                refine WPL.val (v_pickF (v := .bool _) rfl rfl) ?_
                refine WPL.nil (onto_of ?_)
                have hp2 : pop n.up st = [] := hpop.symm
                refine WP.condF rfl ?_
                refine WP.exit (onto_of ?_)
                refine WP.seq ?_
                refine WP.region ?_
                refine WPL.val (v_move (v := .int .i64 _) rfl) ?_
                refine WPL.val (v_move (v := .slice _ _ _) rfl) ?_
                refine WPL.val (v_move (v := .int .i64 _) rfl) ?_
                refine WPL.val (v_index (j := k) Try.underlying24 Try.sizeOf41 rfl rfl rfl (by omega)) ?_
                refine WPL.val (v_field (off := 0) Try.underlying41 rfl Try.sizeOf3 rfl) ?_
                refine WPL.val (v_load1 (u := .int .i64 _) Try.isAgg3 rfl (fun w hw => hw.old_at (hc.one (j := 0) rfl (by omega)) (not_foots_nil _))) ?_
                refine WPL.val (v_neq rfl rfl) ?_
                refine WPL.nil (onto_of ?_)
                refine WP.condP rfl (fun h66 => ?_) (fun h66 => ?_)
                ·
                  have hres : okP L = false := okP_no (i := k + 1) (by omega) (stk_pop hstk (by omega) (by rw [hup]; exact hp2))
                  refine WP.seq ?_
                  refine WP.region ?_
                  refine WPL.val (v_assign (v := .bool false) rfl) ?_
                  refine WPL.nil (onto_of ?_)
                  exact WP.ret1 Try.results14 (fun _ h => h) (fun w hw => ⟨(), congrArg Value.bool (by rw [hres]), trivial, hw.sel [] (by decide)⟩)
                ·
                  have hnew : stk L (k + 1) = some ((k : Int) :: ([] : List Int)) := by obtain rfl : k = 0 := (by omega); exact stk_one (by rw [show upP L 0 = n.up from hup]; omega)
                  refine WP.skip (onto_of ?_)
                  refine WP.region ?_
                  refine WPL.val (v_move (v := .int .i64 _) rfl) ?_
                  refine WPL.val (v_add rfl rfl (by omega)) ?_
                  refine WPL.val (v_assign (v := .int .i64 _) rfl) ?_
                  exact WPL.nil fun w hw => ⟨rfl, (k + 1, (k : Int) :: ([] : List Int)), (by simp only; omega), ⟨rfl, (via (.slice _ _ _) rfl rfl), trivial⟩, ⟨⟨by simp only; omega, hnew⟩, hw⟩⟩
        ·
          refine WPL.skipG ?_
          refine WPL.skipG ?_
          refine WPL.skipG ?_
          refine WPL.skipG ?_
          refine WPL.skipG ?_
          refine WPL.skipG ?_
          refine WPL.skipG ?_
          refine WPL.skipG ?_
          refine WPL.skipG ?_
          refine WPL.skipG ?_
          refine WPL.skipG ?_
          refine WPL.skipG ?_
          refine WPL.skipG ?_
          refine WPL.skipG ?_
          refine WPL.skipG ?_
          refine WPL.valG (v_pickF (v := .bool _) rfl rfl) ?_
          refine WPL.val (v_pickF (v := .bool _) rfl rfl) ?_
          refine WPL.nil (onto_of ?_)
          have hpass : (k = 0 ∧ n.up = -1) ∨ (0 < k ∧ 0 ≤ n.up ∧ n.up < k) := by omega
          refine WP.condF rfl ?_
          refine WP.skip (onto_of ?_)
          refine WP.seq ?_
          refine WP.region ?_
          refine WPL.val (v_move (v := .int .i64 _) rfl) ?_
          refine WPL.val (v_sub rfl rfl (by omega)) ?_
          refine WPL.val (v_assign (v := .int .i64 _) rfl) ?_
          refine WPL.nil (onto_of ?_)
          refine WP.seq ?_
          refine WP.block ?_
          refine WP.loopK (X := Int × List Int) [0, 3] (fun q => [(4, .int .i64 q.1)]) (fun q w => (Ch L q.1 q.2 ∧ pop n.up q.2 = pop n.up st ∧ ∀ y ∈ q.2, y < k) ∧ St w0 (foots []) [] w) (fun q => q.2.length) ((k : Int) - 1, st) ⟨rfl, trivial⟩ (fun w hw => ⟨⟨(stk_ch hstk).1, rfl, fun y hy => ((stk_ch hstk).2 y hy).2⟩, hw⟩) (fun q ρ0 => ?_)
          obtain ⟨x, s2⟩ := q
          dsimp only
          refine WP.fact (fun ⟨hch, hpop, hall⟩ => ?_)
          refine WP.seq ?_
          refine WP.seq ?_
          refine WP.region ?_
          refine WPL.val (v_move (v := .int .i64 _) rfl) ?_
          refine WPL.val (v_geq rfl rfl) ?_
          refine WPL.val (v_move (v := .bool _) rfl) ?_
          refine WPL.split 46 rfl (fun h46 => ?_) (fun h46 => ?_)
          ·
            obtain ⟨m, rfl⟩ : ∃ m : Nat, x = m := ⟨x.toNat, by omega⟩
            obtain ⟨s3, rfl, hch2⟩ := hch.pos h46
            have hmk := hall _ (List.mem_cons_self ..)
            obtain ⟨n2, ab2, ao2, hn2, hA2, hc2⟩ := getNode hz (i := m) (by omega)
            cases hA2
            refine WPL.valG (v_move (v := .int .i64 _) rfl) ?_
            refine WPL.valG (v_move (v := .slice _ _ _) rfl) ?_
            refine WPL.valG (v_move (v := .int .i64 _) rfl) ?_
            refine WPL.valG (v_index (j := k) Try.underlying24 Try.sizeOf41 rfl rfl rfl (by omega)) ?_
            refine WPL.valG (v_field (off := 0) Try.underlying41 rfl Try.sizeOf3 rfl) ?_
            refine WPL.valG (v_load1 (u := .int .i64 _) Try.isAgg3 rfl (fun w hw => hw.old_at (hc.one (j := 0) rfl (by omega)) (not_foots_nil _))) ?_
            refine WPL.valG (v_neq rfl rfl) ?_
            refine WPL.val (v_pickT (u := .bool _) rfl rfl) ?_
            refine WPL.nil (onto_of ?_)
            refine WP.condP rfl (fun h54 => ?_) (fun h54 => ?_)
            ·
              refine WP.skip (onto_of ?_)
              refine WP.block ?_
              refine WP.region ?_
              refine WPL.val (v_move (v := .slice _ _ _) rfl) ?_
              refine WPL.val (v_move (v := .int .i64 _) rfl) ?_
              refine WPL.val (v_index (j := m) Try.underlying24 Try.sizeOf41 rfl rfl rfl (by omega)) ?_
              refine WPL.val (v_field (off := 0) Try.underlying41 rfl Try.sizeOf3 rfl) ?_
              refine WPL.val (v_load1 (u := .int .i64 _) Try.isAgg3 rfl (fun w hw => hw.old_at (hc2.one (j := 0) rfl (by omega)) (not_foots_nil _))) ?_
              refine WPL.val (v_assign (v := .int .i64 _) rfl) ?_
              exact WPL.nil fun w hw => ⟨rfl, (n2.up, s3), (by simp), ⟨rfl, (via (.slice _ _ _) rfl rfl), (via (.int .i64 _) rfl rfl), trivial⟩, ⟨⟨by rw [← upN hn2]; exact hch2, by rw [← hpop]; exact (pop_cons_ne (by omega) _).symm, fun y hy => hall y (by simp [hy])⟩, hw⟩⟩
            ·
              have hp2 : pop n.up st = (m : Int) :: s3 := by rw [← hpop]; exact pop_same (fun a t e => by cases e; omega)
              refine WP.exit (onto_of ?_)
              refine WP.seq ?_
              refine WP.region ?_
              refine WPL.val (v_move (v := .int .i64 _) rfl) ?_
              refine WPL.val (v_move (v := .slice _ _ _) rfl) ?_
              refine WPL.val (v_move (v := .int .i64 _) rfl) ?_
              refine WPL.val (v_index (j := k) Try.underlying24 Try.sizeOf41 rfl rfl rfl (by omega)) ?_
              refine WPL.val (v_field (off := 0) Try.underlying41 rfl Try.sizeOf3 rfl) ?_
              refine WPL.val (v_load1 (u := .int .i64 _) Try.isAgg3 rfl (fun w hw => hw.old_at (hc.one (j := 0) rfl (by omega)) (not_foots_nil _))) ?_
              refine WPL.val (v_neq rfl rfl) ?_
              refine WPL.nil (onto_of ?_)
              refine WP.condP rfl (fun h66 => ?_) (fun h66 => ?_)
              ·
                have hres : okP L = false := (by omega)
                refine WP.seq ?_
                refine WP.region ?_
                refine WPL.val (v_assign (v := .bool false) rfl) ?_
                refine WPL.nil (onto_of ?_)
                exact WP.ret1 Try.results14 (fun _ h => h) (fun w hw => ⟨(), congrArg Value.bool (by rw [hres]), trivial, hw.sel [] (by decide)⟩)
              ·
                have hnew : stk L (k + 1) = some ((k : Int) :: ((m : Int) :: s3)) := by exact stk_go hstk (by omega) (by rw [hup]; exact hp2)
                refine WP.skip (onto_of ?_)
                refine WP.region ?_
                refine WPL.val (v_move (v := .int .i64 _) rfl) ?_
                refine WPL.val (v_add rfl rfl (by omega)) ?_
                refine WPL.val (v_assign (v := .int .i64 _) rfl) ?_
                exact WPL.nil fun w hw => ⟨rfl, (k + 1, (k : Int) :: ((m : Int) :: s3)), (by simp only; omega), ⟨rfl, (via (.slice _ _ _) rfl rfl), trivial⟩, ⟨⟨by simp only; omega, hnew⟩, hw⟩⟩
          ·
            obtain rfl := hch.neg (by omega)
            obtain rfl : x = -1 := hch
            refine WPL.skipG ?_
            refine WPL.skipG ?_
            refine WPL.skipG ?_
            refine WPL.skipG ?_
            refine WPL.skipG ?_
            refine WPL.skipG ?_
            refine WPL.skipG ?_
            refine WPL.val (v_pickF (v := .bool _) rfl rfl) ?_
            refine WPL.nil (onto_of ?_)
            have hp2 : pop n.up st = [] := hpop.symm
            refine WP.condF rfl ?_
            refine WP.exit (onto_of ?_)
            refine WP.seq ?_
            refine WP.region ?_
            refine WPL.val (v_move (v := .int .i64 _) rfl) ?_
            refine WPL.val (v_move (v := .slice _ _ _) rfl) ?_
            refine WPL.val (v_move (v := .int .i64 _) rfl) ?_
            refine WPL.val (v_index (j := k) Try.underlying24 Try.sizeOf41 rfl rfl rfl (by omega)) ?_
            refine WPL.val (v_field (off := 0) Try.underlying41 rfl Try.sizeOf3 rfl) ?_
            refine WPL.val (v_load1 (u := .int .i64 _) Try.isAgg3 rfl (fun w hw => hw.old_at (hc.one (j := 0) rfl (by omega)) (not_foots_nil _))) ?_
            refine WPL.val (v_neq rfl rfl) ?_
            refine WPL.nil (onto_of ?_)
            refine WP.condP rfl (fun h66 => ?_) (fun h66 => ?_)
            ·
              have hres : okP L = false := okP_no (i := k + 1) (by omega) (stk_pop hstk (by omega) (by rw [hup]; exact hp2))
              refine WP.seq ?_
              refine WP.region ?_
              refine WPL.val (v_assign (v := .bool false) rfl) ?_
              refine WPL.nil (onto_of ?_)
              exact WP.ret1 Try.results14 (fun _ h => h) (fun w hw => ⟨(), congrArg Value.bool (by rw [hres]), trivial, hw.sel [] (by decide)⟩)
            ·
              have hnew : stk L (k + 1) = some ((k : Int) :: ([] : List Int)) := by obtain rfl : k = 0 := (by omega); exact stk_one (by rw [show upP L 0 = n.up from hup]; omega)
              refine WP.skip (onto_of ?_)
              refine WP.region ?_
              refine WPL.val (v_move (v := .int .i64 _) rfl) ?_
              refine WPL.val (v_add rfl rfl (by omega)) ?_
              refine WPL.val (v_assign (v := .int .i64 _) rfl) ?_
              exact WPL.nil fun w hw => ⟨rfl, (k + 1, (k : Int) :: ([] : List Int)), (by simp only; omega), ⟨rfl, (via (.slice _ _ _) rfl rfl), trivial⟩, ⟨⟨by simp only; omega, hnew⟩, hw⟩⟩
    ·
      refine WPL.skipG ?_
      refine WPL.skipG ?_
      refine WPL.skipG ?_
      refine WPL.skipG ?_
      refine WPL.skipG ?_
      refine WPL.skipG ?_
      refine WPL.val (v_pickF (v := .bool _) rfl rfl) ?_
      refine WPL.val (v_move (v := .bool _) rfl) ?_
      refine WPL.valG (v_move (v := .int .i64 _) rfl) ?_
      refine WPL.valG (v_gtr rfl rfl) ?_
      refine WPL.valG (v_move (v := .bool _) rfl) ?_
      refine WPL.split 24 rfl (fun h24 => ?_) (fun h24 => ?_)
      ·
        refine WPL.valG (v_move (v := .slice _ _ _) rfl) ?_
        refine WPL.valG (v_move (v := .int .i64 _) rfl) ?_
        refine WPL.valG (v_index (j := k) Try.underlying24 Try.sizeOf41 rfl rfl rfl (by omega)) ?_
        refine WPL.valG (v_field (off := 0) Try.underlying41 rfl Try.sizeOf3 rfl) ?_
        refine WPL.valG (v_load1 (u := .int .i64 _) Try.isAgg3 rfl (fun w hw => hw.old_at (hc.one (j := 0) rfl (by omega)) (not_foots_nil _))) ?_
        refine WPL.valG (v_lss rfl rfl) ?_
        refine WPL.valG (v_move (v := .bool _) rfl) ?_
        refine WPL.split 31 rfl (fun h31 => ?_) (fun h31 => ?_)
        ·
          refine WPL.skipG ?_
          refine WPL.skipG ?_
          refine WPL.skipG ?_
          refine WPL.skipG ?_
          refine WPL.skipG ?_
          refine WPL.skipG ?_
          refine WPL.skipG ?_
          refine WPL.valG (v_pickT (u := .bool _) rfl rfl) ?_
          refine WPL.valG (v_pickT (u := .bool _) rfl rfl) ?_
          refine WPL.val (v_pickF (v := .bool _) rfl rfl) ?_
          refine WPL.nil (onto_of ?_)
          have hres : okP L = false := okP_no (i := k + 1) (by omega) (stk_bad hstk (by rw [hup]; omega))
          refine WP.condT rfl ?_
          refine WP.seq ?_
          refine WP.region ?_
          refine WPL.val (v_assign (v := .bool false) rfl) ?_
          refine WPL.nil (onto_of ?_)
          exact WP.ret1 Try.results14 (fun _ h => h) (fun w hw => ⟨(), congrArg Value.bool (by rw [hres]), trivial, hw.sel [] (by decide)⟩)
        ·
          refine WPL.valG (v_move (v := .slice _ _ _) rfl) ?_
          refine WPL.valG (v_move (v := .int .i64 _) rfl) ?_
          refine WPL.valG (v_index (j := k) Try.underlying24 Try.sizeOf41 rfl rfl rfl (by omega)) ?_
          refine WPL.valG (v_field (off := 0) Try.underlying41 rfl Try.sizeOf3 rfl) ?_
          refine WPL.valG (v_load1 (u := .int .i64 _) Try.isAgg3 rfl (fun w hw => hw.old_at (hc.one (j := 0) rfl (by omega)) (not_foots_nil _))) ?_
          refine WPL.valG (v_move (v := .int .i64 _) rfl) ?_
          refine WPL.valG (v_geq rfl rfl) ?_
          refine WPL.valG (v_pickF (v := .bool _) rfl rfl) ?_
          refine WPL.valG (v_pickT (u := .bool _) rfl rfl) ?_
          refine WPL.val (v_pickF (v := .bool _) rfl rfl) ?_
          refine WPL.nil (onto_of ?_)
          refine WP.condP rfl (fun h41 => ?_) (fun h41 => ?_)
          ·
            have hres : okP L = false := okP_no (i := k + 1) (by omega) (stk_bad hstk (by rw [hup]; omega))
            refine WP.seq ?_
            refine WP.region ?_
            refine WPL.val (v_assign (v := .bool false) rfl) ?_
            refine WPL.nil (onto_of ?_)
            exact WP.ret1 Try.results14 (fun _ h => h) (fun w hw => ⟨(), congrArg Value.bool (by rw [hres]), trivial, hw.sel [] (by decide)⟩)
          ·
            have hpass : (k = 0 ∧ n.up = -1) ∨ (0 < k ∧ 0 ≤ n.up ∧ n.up < k) := by omega
            refine WP.skip (onto_of ?_)
            refine WP.seq ?_
            refine WP.region ?_
            refine WPL.val (v_move (v := .int .i64 _) rfl) ?_
            refine WPL.val (v_sub rfl rfl (by omega)) ?_
            refine WPL.val (v_assign (v := .int .i64 _) rfl) ?_
            refine WPL.nil (onto_of ?_)
            refine WP.seq ?_
            refine WP.block ?_
            refine WP.loopK (X := Int × List Int) [0, 3] (fun q => [(4, .int .i64 q.1)]) (fun q w => (Ch L q.1 q.2 ∧ pop n.up q.2 = pop n.up st ∧ ∀ y ∈ q.2, y < k) ∧ St w0 (foots []) [] w) (fun q => q.2.length) ((k : Int) - 1, st) ⟨rfl, trivial⟩ (fun w hw => ⟨⟨(stk_ch hstk).1, rfl, fun y hy => ((stk_ch hstk).2 y hy).2⟩, hw⟩) (fun q ρ0 => ?_)
            obtain ⟨x, s2⟩ := q
            dsimp only
            refine WP.fact (fun ⟨hch, hpop, hall⟩ => ?_)
            refine WP.seq ?_
            refine WP.seq ?_
            refine WP.region ?_
            refine WPL.val (v_move (v := .int .i64 _) rfl) ?_
            refine WPL.val (v_geq rfl rfl) ?_
            refine WPL.val (v_move (v := .bool _) rfl) ?_
            refine WPL.split 46 rfl (fun h46 => ?_) (fun h46 => ?_)
            ·
              obtain ⟨m, rfl⟩ : ∃ m : Nat, x = m := ⟨x.toNat, by omega⟩
              obtain ⟨s3, rfl, hch2⟩ := hch.pos h46
              have hmk := hall _ (List.mem_cons_self ..)
              obtain ⟨n2, ab2, ao2, hn2, hA2, hc2⟩ := getNode hz (i := m) (by omega)
              cases hA2
              refine WPL.valG (v_move (v := .int .i64 _) rfl) ?_
              refine WPL.valG (v_move (v := .slice _ _ _) rfl) ?_
              refine WPL.valG (v_move (v := .int .i64 _) rfl) ?_
              refine WPL.valG (v_index (j := k) Try.underlying24 Try.sizeOf41 rfl rfl rfl (by omega)) ?_
              refine WPL.valG (v_field (off := 0) Try.underlying41 rfl Try.sizeOf3 rfl) ?_
              refine WPL.valG (v_load1 (u := .int .i64 _) Try.isAgg3 rfl (fun w hw => hw.old_at (hc.one (j := 0) rfl (by omega)) (not_foots_nil _))) ?_
              refine WPL.valG (v_neq rfl rfl) ?_
              refine WPL.val (v_pickT (u := .bool _) rfl rfl) ?_
              refine WPL.nil (onto_of ?_)
              refine WP.condP rfl (fun h54 => ?_) (fun h54 => ?_)
              ·
                refine WP.skip (onto_of ?_)
                refine WP.block ?_
                refine WP.region ?_
                refine WPL.val (v_move (v := .slice _ _ _) rfl) ?_
                refine WPL.val (v_move (v := .int .i64 _) rfl) ?_
                refine WPL.val (v_index (j := m) Try.underlying24 Try.sizeOf41 rfl rfl rfl (by omega)) ?_
                refine WPL.val (v_field (off := 0) Try.underlying41 rfl Try.sizeOf3 rfl) ?_
                refine WPL.val (v_load1 (u := .int .i64 _) Try.isAgg3 rfl (fun w hw => hw.old_at (hc2.one (j := 0) rfl (by omega)) (not_foots_nil _))) ?_
                refine WPL.val (v_assign (v := .int .i64 _) rfl) ?_
                exact WPL.nil fun w hw => ⟨rfl, (n2.up, s3), (by simp), ⟨rfl, (via (.slice _ _ _) rfl rfl), (via (.int .i64 _) rfl rfl), trivial⟩, ⟨⟨by rw [← upN hn2]; exact hch2, by rw [← hpop]; exact (pop_cons_ne (by omega) _).symm, fun y hy => hall y (by simp [hy])⟩, hw⟩⟩
              ·
                have hp2 : pop n.up st = (m : Int) :: s3 := by rw [← hpop]; exact pop_same (fun a t e => by cases e; omega)
                refine WP.exit (onto_of ?_)
                refine WP.seq ?_
                refine WP.region ?_
                refine WPL.val (v_move (v := .int .i64 _) rfl) ?_
                refine WPL.val (v_move (v := .slice _ _ _) rfl) ?_
                refine WPL.val (v_move (v := .int .i64 _) rfl) ?_
                refine WPL.val (v_index (j := k) Try.underlying24 Try.sizeOf41 rfl rfl rfl (by omega)) ?_
                refine WPL.val (v_field (off := 0) Try.underlying41 rfl Try.sizeOf3 rfl) ?_
                refine WPL.val (v_load1 (u := .int .i64 _) Try.isAgg3 rfl (fun w hw => hw.old_at (hc.one (j := 0) rfl (by omega)) (not_foots_nil _))) ?_
                refine WPL.val (v_neq rfl rfl) ?_
                refine WPL.nil (onto_of ?_)
                refine WP.condP rfl (fun h66 => ?_) (fun h66 => ?_)
                ·
                  have hres : okP L = false := (by omega)
                  refine WP.seq ?_
                  refine WP.region ?_
                  refine WPL.val (v_assign (v := .bool false) rfl) ?_
                  refine WPL.nil (onto_of ?_)
                  exact WP.ret1 Try.results14 (fun _ h => h) (fun w hw => ⟨(), congrArg Value.bool (by rw [hres]), trivial, hw.sel [] (by decide)⟩)
                ·
                  have hnew : stk L (k + 1) = some ((k : Int) :: ((m : Int) :: s3)) := by exact stk_go hstk (by omega) (by rw [hup]; exact hp2)
                  refine WP.skip (onto_of ?_)
                  refine WP.region ?_
                  refine WPL.val (v_move (v := .int .i64 _) rfl) ?_
                  refine WPL.val (v_add rfl rfl (by omega)) ?_
                  refine WPL.val (v_assign (v := .int .i64 _) rfl) ?_
                  exact WPL.nil fun w hw => ⟨rfl, (k + 1, (k : Int) :: ((m : Int) :: s3)), (by simp only; omega), ⟨rfl, (via (.slice _ _ _) rfl rfl), trivial⟩, ⟨⟨by simp only; omega, hnew⟩, hw⟩⟩
            ·
              obtain rfl := hch.neg (by omega)
              obtain rfl : x = -1 := hch
              refine WPL.skipG ?_
              refine WPL.skipG ?_
              refine WPL.skipG ?_
              refine WPL.skipG ?_
              refine WPL.skipG ?_
              refine WPL.skipG ?_
              refine WPL.skipG ?_
              refine WPL.val (v_pickF (v := .bool _) rfl rfl) ?_
              refine WPL.nil (onto_of ?_)
              have hp2 : pop n.up st = [] := hpop.symm
              refine WP.condF rfl ?_
              refine WP.exit (onto_of ?_)
              refine WP.seq ?_
              refine WP.region ?_
              refine WPL.val (v_move (v := .int .i64 _) rfl) ?_
              refine WPL.val (v_move (v := .slice _ _ _) rfl) ?_
              refine WPL.val (v_move (v := .int .i64 _) rfl) ?_
              refine WPL.val (v_index (j := k) Try.underlying24 Try.sizeOf41 rfl rfl rfl (by omega)) ?_
              refine WPL.val (v_field (off := 0) Try.underlying41 rfl Try.sizeOf3 rfl) ?_
              refine WPL.val (v_load1 (u := .int .i64 _) Try.isAgg3 rfl (fun w hw => hw.old_at (hc.one (j := 0) rfl (by omega)) (not_foots_nil _))) ?_
              refine WPL.val (v_neq rfl rfl) ?_
              refine WPL.nil (onto_of ?_)
              refine WP.condP rfl (fun h66 => ?_) (fun h66 => ?_)
              ·
                have hres : okP L = false := okP_no (i := k + 1) (by omega) (stk_pop hstk (by omega) (by rw [hup]; exact hp2))
                refine WP.seq ?_
                refine WP.region ?_
                refine WPL.val (v_assign (v := .bool false) rfl) ?_
                refine WPL.nil (onto_of ?_)
                exact WP.ret1 Try.results14 (fun _ h => h) (fun w hw => ⟨(), congrArg Value.bool (by rw [hres]), trivial, hw.sel [] (by decide)⟩)
              ·
                have hnew : stk L (k + 1) = some ((k : Int) :: ([] : List Int)) := by obtain rfl : k = 0 := (by omega); exact stk_one (by rw [show upP L 0 = n.up from hup]; omega)
                refine WP.skip (onto_of ?_)
                refine WP.region ?_
                refine WPL.val (v_move (v := .int .i64 _) rfl) ?_
                refine WPL.val (v_add rfl rfl (by omega)) ?_
                refine WPL.val (v_assign (v := .int .i64 _) rfl) ?_
                exact WPL.nil fun w hw => ⟨rfl, (k + 1, (k : Int) :: ([] : List Int)), (by simp only; omega), ⟨rfl, (via (.slice _ _ _) rfl rfl), trivial⟩, ⟨⟨by simp only; omega, hnew⟩, hw⟩⟩
      ·
        refine WPL.skipG ?_
        refine WPL.skipG ?_
        refine WPL.skipG ?_
        refine WPL.skipG ?_
        refine WPL.skipG ?_
        refine WPL.skipG ?_
        refine WPL.skipG ?_
        refine WPL.skipG ?_
        refine WPL.skipG ?_
        refine WPL.skipG ?_
        refine WPL.skipG ?_
        refine WPL.skipG ?_
        refine WPL.skipG ?_
        refine WPL.skipG ?_
        refine WPL.skipG ?_
        refine WPL.valG (v_pickF (v := .bool _) rfl rfl) ?_
        refine WPL.val (v_pickF (v := .bool _) rfl rfl) ?_
        refine WPL.nil (onto_of ?_)
        have hpass : (k = 0 ∧ n.up = -1) ∨ (0 < k ∧ 0 ≤ n.up ∧ n.up < k) := by omega
        refine WP.condF rfl ?_
        refine WP.skip (onto_of ?_)
        refine WP.seq ?_
        refine WP.region ?_
        refine WPL.val (v_move (v := .int .i64 _) rfl) ?_
        refine WPL.val (v_sub rfl rfl (by omega)) ?_
        refine WPL.val (v_assign (v := .int .i64 _) rfl) ?_
        refine WPL.nil (onto_of ?_)
        refine WP.seq ?_
        refine WP.block ?_
        refine WP.loopK (X := Int × List Int) [0, 3] (fun q => [(4, .int .i64 q.1)]) (fun q w => (Ch L q.1 q.2 ∧ pop n.up q.2 = pop n.up st ∧ ∀ y ∈ q.2, y < k) ∧ St w0 (foots []) [] w) (fun q => q.2.length) ((k : Int) - 1, st) ⟨rfl, trivial⟩ (fun w hw => ⟨⟨(stk_ch hstk).1, rfl, fun y hy => ((stk_ch hstk).2 y hy).2⟩, hw⟩) (fun q ρ0 => ?_)
        obtain ⟨x, s2⟩ := q
        dsimp only
        refine WP.fact (fun ⟨hch, hpop, hall⟩ => ?_)
        refine WP.seq ?_
        refine WP.seq ?_
        refine WP.region ?_
        refine WPL.val (v_move (v := .int .i64 _) rfl) ?_
        refine WPL.val (v_geq rfl rfl) ?_
        refine WPL.val (v_move (v := .bool _) rfl) ?_
        refine WPL.split 46 rfl (fun h46 => ?_) (fun h46 => ?_)
        ·
          obtain ⟨m, rfl⟩ : ∃ m : Nat, x = m := ⟨x.toNat, by omega⟩
          obtain ⟨s3, rfl, hch2⟩ := hch.pos h46
          have hmk := hall _ (List.mem_cons_self ..)
          obtain ⟨n2, ab2, ao2, hn2, hA2, hc2⟩ := getNode hz (i := m) (by omega)
          cases hA2
          refine WPL.valG (v_move (v := .int .i64 _) rfl) ?_
          refine WPL.valG (v_move (v := .slice _ _ _) rfl) ?_
          refine WPL.valG (v_move (v := .int .i64 _) rfl) ?_
          refine WPL.valG (v_index (j := k) Try.underlying24 Try.sizeOf41 rfl rfl rfl (by omega)) ?_
          refine WPL.valG (v_field (off := 0) Try.underlying41 rfl Try.sizeOf3 rfl) ?_
          refine WPL.valG (v_load1 (u := .int .i64 _) Try.isAgg3 rfl (fun w hw => hw.old_at (hc.one (j := 0) rfl (by omega)) (not_foots_nil _))) ?_
          refine WPL.valG (v_neq rfl rfl) ?_
          refine WPL.val (v_pickT (u := .bool _) rfl rfl) ?_
          refine WPL.nil (onto_of ?_)
          refine WP.condP rfl (fun h54 => ?_) (fun h54 => ?_)
          ·
            refine WP.skip (onto_of ?_)
            refine WP.block ?_
            refine WP.region ?_
            refine WPL.val (v_move (v := .slice _ _ _) rfl) ?_
            refine WPL.val (v_move (v := .int .i64 _) rfl) ?_
            refine WPL.val (v_index (j := m) Try.underlying24 Try.sizeOf41 rfl rfl rfl (by omega)) ?_
            refine WPL.val (v_field (off := 0) Try.underlying41 rfl Try.sizeOf3 rfl) ?_
            refine WPL.val (v_load1 (u := .int .i64 _) Try.isAgg3 rfl (fun w hw => hw.old_at (hc2.one (j := 0) rfl (by omega)) (not_foots_nil _))) ?_
            refine WPL.val (v_assign (v := .int .i64 _) rfl) ?_
            exact WPL.nil fun w hw => ⟨rfl, (n2.up, s3), (by simp), ⟨rfl, (via (.slice _ _ _) rfl rfl), (via (.int .i64 _) rfl rfl), trivial⟩, ⟨⟨by rw [← upN hn2]; exact hch2, by rw [← hpop]; exact (pop_cons_ne (by omega) _).symm, fun y hy => hall y (by simp [hy])⟩, hw⟩⟩
          ·
            have hp2 : pop n.up st = (m : Int) :: s3 := by rw [← hpop]; exact pop_same (fun a t e => by cases e; omega)
            refine WP.exit (onto_of ?_)
            refine WP.seq ?_
            refine WP.region ?_
            refine WPL.val (v_move (v := .int .i64 _) rfl) ?_
            refine WPL.val (v_move (v := .slice _ _ _) rfl) ?_
            refine WPL.val (v_move (v := .int .i64 _) rfl) ?_
            refine WPL.val (v_index (j := k) Try.underlying24 Try.sizeOf41 rfl rfl rfl (by omega)) ?_
            refine WPL.val (v_field (off := 0) Try.underlying41 rfl Try.sizeOf3 rfl) ?_
            refine WPL.val (v_load1 (u := .int .i64 _) Try.isAgg3 rfl (fun w hw => hw.old_at (hc.one (j := 0) rfl (by omega)) (not_foots_nil _))) ?_
            refine WPL.val (v_neq rfl rfl) ?_
            refine WPL.nil (onto_of ?_)
            refine WP.condP rfl (fun h66 => ?_) (fun h66 => ?_)
            ·
              have hres : okP L = false := (by omega)
              refine WP.seq ?_
              refine WP.region ?_
              refine WPL.val (v_assign (v := .bool false) rfl) ?_
              refine WPL.nil (onto_of ?_)
              exact WP.ret1 Try.results14 (fun _ h => h) (fun w hw => ⟨(), congrArg Value.bool (by rw [hres]), trivial, hw.sel [] (by decide)⟩)
            ·
              have hnew : stk L (k + 1) = some ((k : Int) :: ((m : Int) :: s3)) := by exact stk_go hstk (by omega) (by rw [hup]; exact hp2)
              refine WP.skip (onto_of ?_)
              refine WP.region ?_
              refine WPL.val (v_move (v := .int .i64 _) rfl) ?_
              refine WPL.val (v_add rfl rfl (by omega)) ?_
              refine WPL.val (v_assign (v := .int .i64 _) rfl) ?_
              exact WPL.nil fun w hw => ⟨rfl, (k + 1, (k : Int) :: ((m : Int) :: s3)), (by simp only; omega), ⟨rfl, (via (.slice _ _ _) rfl rfl), trivial⟩, ⟨⟨by simp only; omega, hnew⟩, hw⟩⟩
        ·
          obtain rfl := hch.neg (by omega)
          obtain rfl : x = -1 := hch
          refine WPL.skipG ?_
          refine WPL.skipG ?_
          refine WPL.skipG ?_
          refine WPL.skipG ?_
          refine WPL.skipG ?_
          refine WPL.skipG ?_
          refine WPL.skipG ?_
          refine WPL.val (v_pickF (v := .bool _) rfl rfl) ?_
          refine WPL.nil (onto_of ?_)
          have hp2 : pop n.up st = [] := hpop.symm
          refine WP.condF rfl ?_
          refine WP.exit (onto_of ?_)
          refine WP.seq ?_
          refine WP.region ?_
          refine WPL.val (v_move (v := .int .i64 _) rfl) ?_
          refine WPL.val (v_move (v := .slice _ _ _) rfl) ?_
          refine WPL.val (v_move (v := .int .i64 _) rfl) ?_
          refine WPL.val (v_index (j := k) Try.underlying24 Try.sizeOf41 rfl rfl rfl (by omega)) ?_
          refine WPL.val (v_field (off := 0) Try.underlying41 rfl Try.sizeOf3 rfl) ?_
          refine WPL.val (v_load1 (u := .int .i64 _) Try.isAgg3 rfl (fun w hw => hw.old_at (hc.one (j := 0) rfl (by omega)) (not_foots_nil _))) ?_
          refine WPL.val (v_neq rfl rfl) ?_
          refine WPL.nil (onto_of ?_)
          refine WP.condP rfl (fun h66 => ?_) (fun h66 => ?_)
          ·
            have hres : okP L = false := okP_no (i := k + 1) (by omega) (stk_pop hstk (by omega) (by rw [hup]; exact hp2))
            refine WP.seq ?_
            refine WP.region ?_
            refine WPL.val (v_assign (v := .bool false) rfl) ?_
            refine WPL.nil (onto_of ?_)
            exact WP.ret1 Try.results14 (fun _ h => h) (fun w hw => ⟨(), congrArg Value.bool (by rw [hres]), trivial, hw.sel [] (by decide)⟩)
          ·
            have hnew : stk L (k + 1) = some ((k : Int) :: ([] : List Int)) := by obtain rfl : k = 0 := (by omega); exact stk_one (by rw [show upP L 0 = n.up from hup]; omega)
            refine WP.skip (onto_of ?_)
            refine WP.region ?_
            refine WPL.val (v_move (v := .int .i64 _) rfl) ?_
            refine WPL.val (v_add rfl rfl (by omega)) ?_
            refine WPL.val (v_assign (v := .int .i64 _) rfl) ?_
            exact WPL.nil fun w hw => ⟨rfl, (k + 1, (k : Int) :: ([] : List Int)), (by simp only; omega), ⟨rfl, (via (.slice _ _ _) rfl rfl), trivial⟩, ⟨⟨by simp only; omega, hnew⟩, hw⟩⟩
  ·
    obtain rfl : k = L.length := by omega
    have hres : okP L = true := by rw [okP, hstk]; rfl
    refine WP.exit (onto_of ?_)
    refine WP.seq ?_
    refine WP.region ?_
    refine WPL.val (v_assign (v := .bool true) rfl) ?_
    refine WPL.nil (onto_of ?_)
    exact WP.ret1 Try.results14 (fun _ h => h) (fun w hw => ⟨(), congrArg Value.bool (by rw [hres]), trivial, hw.sel [] (by decide)⟩)
theorem layF_zero {L : List PN} (h : PV L) (hn : L ≠ []) : layF L 0 = -1 := by
  unfold layF
  rw [h.root hn]
  rfl
theorem layer_ct (A : Option Addr) (c : Nat) (L : List PN) (hP : PV L) (x : Int) (hx0 : 0 ≤ x) (hx : x < L.length) : Ct Try.prog 23 #[.slice A L.length c, .int .i64 x] [] (fun w => RdN w A L) (X := Unit) (fun _ => .int .i64 (layF L x)) (fun _ => True) (fun _ => []) := by
  refine Ct.intro Try.func23 rfl Try.ntmps23 (by simp) (fun w0 hz => ?_)
  refine WP.seq ?_
  refine WP.region ?_
  refine WPL.val (v_assign (v := .int .i64 (0)) rfl) ?_
  refine WPL.nil (onto_of ?_)
  refine WP.seq ?_
  obtain ⟨i, rfl⟩ : ∃ i : Nat, x = i := ⟨x.toNat, by omega⟩
  obtain ⟨n, ab, ao, hn, rfl, hc⟩ := getNode hz (i := i) (by omega)
  have hux : upP L (i : Int) = n.up := upN hn
  have hyl : n.up < L.length := by
    by_cases h0 : i = 0
    · subst h0
      have := hP.root (fun e => by rw [e] at hx; simp at hx)
      have h3 : upP L 0 = n.up := hux
      omega
    · have := hP.up (i : Int) (by omega) hx
      omega
  refine WP.region ?_
  refine WPL.val (v_move (v := .slice _ _ _) rfl) ?_
  refine WPL.val (v_move (v := .int .i64 _) rfl) ?_
  refine WPL.val (v_index (j := i) Try.underlying22 Try.sizeOf39 rfl rfl rfl (by omega)) ?_
  refine WPL.val (v_field (off := 0) Try.underlying39 rfl Try.sizeOf3 rfl) ?_
  refine WPL.val (v_load1 (u := .int .i64 _) Try.isAgg3 rfl (fun w hw => hw.old_at (hc.one (j := 0) rfl (by omega)) (not_foots_nil _))) ?_
  refine WPL.val (v_assign (v := .int .i64 _) rfl) ?_
  refine WPL.nil (onto_of ?_)
  refine WP.seq ?_
  refine WP.block ?_
  refine WP.loopK (X := Int) [0] (fun y => [(5, .int .i64 y)]) (fun y w => (y < L.length ∧ layG L y = layF L (i : Int)) ∧ St w0 (foots []) [] w) (fun y => y.toNat) n.up ⟨rfl, trivial⟩ (fun w hw => ⟨⟨hyl, by unfold layF; rw [hux]⟩, hw⟩) (fun y ρ0 => ?_)
  refine WP.fact (fun ⟨hyn, hlay⟩ => ?_)
  refine WP.seq ?_
  refine WP.seq ?_
  refine WP.region ?_
  refine WPL.val (v_move (v := .int .i64 _) rfl) ?_
  refine WPL.val (v_gtr rfl rfl) ?_
  refine WPL.val (v_move (v := .bool _) rfl) ?_
  refine WPL.split 13 rfl (fun h13 => ?_) (fun h13 => ?_)
  ·
    obtain ⟨m, rfl⟩ : ∃ m : Nat, y = m := ⟨y.toNat, by omega⟩
    obtain ⟨n2, ab2, ao2, hn2, hA2, hc2⟩ := getNode hz (i := m) (by omega)
    cases hA2
    have hu2 := hP.up (m : Int) (by omega) hyn
    rw [upN hn2] at hu2
    refine WPL.valG (v_move (v := .slice _ _ _) rfl) ?_
    refine WPL.valG (v_move (v := .int .i64 _) rfl) ?_
    refine WPL.valG (v_index (j := m) Try.underlying22 Try.sizeOf39 rfl rfl rfl (by omega)) ?_
    refine WPL.valG (v_field (off := 1) Try.underlying39 rfl Try.sizeOf4 rfl) ?_
    refine WPL.valG (v_load1 (u := .bool _) Try.isAgg4 rfl (fun w hw => hw.old_at (hc2.one (j := 1) rfl (by omega)) (not_foots_nil _))) ?_
    refine WPL.valG (v_not rfl) ?_
    refine WPL.val (v_pickT (u := .bool _) rfl rfl) ?_
    refine WPL.nil (onto_of ?_)
    refine WP.cond rfl (fun h20 => ?_) (fun h20 => ?_)
    ·
      have hstep : layG L (m : Int) = layG L n2.up := by rw [layG_eq hP hyn, if_pos ⟨by omega, by rw [layN hn2]; simpa using h20⟩, upN hn2]
      refine WP.skip (onto_of ?_)
      refine WP.block ?_
      refine WP.region ?_
      refine WPL.val (v_move (v := .slice _ _ _) rfl) ?_
      refine WPL.val (v_move (v := .int .i64 _) rfl) ?_
      refine WPL.val (v_index (j := m) Try.underlying22 Try.sizeOf39 rfl rfl rfl (by omega)) ?_
      refine WPL.val (v_field (off := 0) Try.underlying39 rfl Try.sizeOf3 rfl) ?_
      refine WPL.val (v_load1 (u := .int .i64 _) Try.isAgg3 rfl (fun w hw => hw.old_at (hc2.one (j := 0) rfl (by omega)) (not_foots_nil _))) ?_
      refine WPL.val (v_assign (v := .int .i64 _) rfl) ?_
      exact WPL.nil fun w hw => ⟨rfl, n2.up, (by omega), ⟨rfl, (via (.slice _ _ _) rfl rfl), trivial⟩, ⟨⟨by omega, by rw [← hstep]; exact hlay⟩, hw⟩⟩
    ·
      have hr : layF L (i : Int) = (m : Int) := by rw [← hlay, layG_eq hP hyn, if_neg (by rw [layN hn2]; intro e; simp [e.2] at h20)]
      refine WP.exit (onto_of ?_)
      refine WP.seq ?_
      refine WP.region ?_
      refine WPL.val (v_move (v := .int .i64 _) rfl) ?_
      refine WPL.val (v_assign (v := .int .i64 _) rfl) ?_
      refine WPL.nil (onto_of ?_)
      exact WP.ret1 Try.results23 (fun _ h => h) (fun w hw => ⟨(), congrArg (Value.int .i64) (by rw [hr]), trivial, hw⟩)
  ·
    refine WPL.skipG ?_
    refine WPL.skipG ?_
    refine WPL.skipG ?_
    refine WPL.skipG ?_
    refine WPL.skipG ?_
    refine WPL.skipG ?_
    refine WPL.val (v_pickF (v := .bool _) rfl rfl) ?_
    refine WPL.nil (onto_of ?_)
    have hr : layF L (i : Int) = y := by rw [← hlay, layG_eq hP hyn, if_neg (by omega)]
    refine WP.condF rfl ?_
    refine WP.exit (onto_of ?_)
    refine WP.seq ?_
    refine WP.region ?_
    refine WPL.val (v_move (v := .int .i64 _) rfl) ?_
    refine WPL.val (v_assign (v := .int .i64 _) rfl) ?_
    refine WPL.nil (onto_of ?_)
    exact WP.ret1 Try.results23 (fun _ h => h) (fun w hw => ⟨(), congrArg (Value.int .i64) (by rw [hr]), trivial, hw⟩)
def layX (L : List PN) (x : Int) : Int := if x < 0 ∨ (L.length : Int) ≤ x ∨ okP L = false then -1 else layF L x
theorem layX_ok {L : List PN} (h : okP L = true) {x : Int} (h0 : 0 ≤ x) (hx : x < L.length) : layX L x = layF L x := by
  unfold layX
  rw [if_neg (by rw [h]; intro e; rcases e with e | e | e; omega; omega; cases e)]
theorem Layer_ct (A : Option Addr) (c : Nat) (L : List PN) (hL : L.length ≤ 1000) (x : Int) : Ct Try.prog 18 #[.slice A L.length c, .int .i64 x] [] (fun w => RdN w A L) (X := Unit) (fun _ => .int .i64 (layX L x)) (fun _ => True) (fun _ => []) := by
  refine Ct.intro Try.func18 rfl Try.ntmps18 (by simp) (fun w0 hz => ?_)
  refine WP.seq ?_
  refine WP.region ?_
  refine WPL.val (v_assign (v := .int .i64 (0)) rfl) ?_
  refine WPL.nil (onto_of ?_)
  refine WP.seq ?_
  refine WP.seq ?_
  refine WP.region ?_
  refine WPL.val (v_move (v := .int .i64 _) rfl) ?_
  refine WPL.val (v_lss rfl rfl) ?_
  refine WPL.val (v_move (v := .bool _) rfl) ?_
  refine WPL.split 7 rfl (fun h7 => ?_) (fun h7 => ?_)
  ·
    refine WPL.skipG ?_
    refine WPL.skipG ?_
    refine WPL.skipG ?_
    refine WPL.skipG ?_
    refine WPL.val (v_pickT (u := .bool _) rfl rfl) ?_
    refine WPL.val (v_move (v := .bool _) rfl) ?_
    refine WPL.skipG ?_
    refine WPL.skipG ?_
    refine WPL.skipG ?_
    refine WPL.val (v_pickT (u := .bool _) rfl rfl) ?_
    refine WPL.nil (onto_of ?_)
    have hr : layX L x = -1 := by unfold layX; rw [if_pos (by first | (left; omega) | (right; left; omega) | (right; right; simpa using h17))]
    refine WP.condT rfl ?_
    refine WP.seq ?_
    refine WP.region ?_
    refine WPL.val (v_assign (v := .int .i64 (-1)) rfl) ?_
    refine WPL.nil (onto_of ?_)
    exact WP.ret1 Try.results18 (fun _ h => h) (fun w hw => ⟨(), congrArg (Value.int .i64) (by rw [hr]), trivial, hw⟩)
  ·
    refine WPL.valG (v_move (v := .int .i64 _) rfl) ?_
    refine WPL.valG (v_move (v := .slice _ _ _) rfl) ?_
    refine WPL.valG (v_len Try.underlying22 rfl) ?_
    refine WPL.valG (v_geq rfl rfl) ?_
    refine WPL.val (v_pickF (v := .bool _) rfl rfl) ?_
    refine WPL.val (v_move (v := .bool _) rfl) ?_
    refine WPL.split 13 rfl (fun h13 => ?_) (fun h13 => ?_)
    ·
      refine WPL.skipG ?_
      refine WPL.skipG ?_
      refine WPL.skipG ?_
      refine WPL.val (v_pickT (u := .bool _) rfl rfl) ?_
      refine WPL.nil (onto_of ?_)
      have hr : layX L x = -1 := by unfold layX; rw [if_pos (by first | (left; omega) | (right; left; omega) | (right; right; simpa using h17))]
      refine WP.condT rfl ?_
      refine WP.seq ?_
      refine WP.region ?_
      refine WPL.val (v_assign (v := .int .i64 (-1)) rfl) ?_
      refine WPL.nil (onto_of ?_)
      exact WP.ret1 Try.results18 (fun _ h => h) (fun w hw => ⟨(), congrArg (Value.int .i64) (by rw [hr]), trivial, hw⟩)
    ·
      refine WPL.valG (v_move (v := .slice _ _ _) rfl) ?_
      refine WPL.efG (x_call Try.call17 (valid_ct A c L hL) [] [] rfl (fun w hw => hw.rd hz not_foots_nil) (τ := fun _ => []) (fun _ => rfl)) (fun _ => ?_)
      refine WPL.fact (fun _ => ?_)
      refine WPL.valG (v_not rfl) ?_
      refine WPL.val (v_pickF (v := .bool _) rfl rfl) ?_
      refine WPL.nil (onto_of ?_)
      refine WP.cond rfl (fun h17 => ?_) (fun h17 => ?_)
      ·
        have hr : layX L x = -1 := by unfold layX; rw [if_pos (by first | (left; omega) | (right; left; omega) | (right; right; simpa using h17))]
        refine WP.seq ?_
        refine WP.region ?_
        refine WPL.val (v_assign (v := .int .i64 (-1)) rfl) ?_
        refine WPL.nil (onto_of ?_)
        exact WP.ret1 Try.results18 (fun _ h => h) (fun w hw => ⟨(), congrArg (Value.int .i64) (by rw [hr]), trivial, hw⟩)
      ·
        have hok : okP L = true := by simpa using h17
        have hr : layX L x = layF L x := layX_ok hok (by omega) (by omega)
        refine WP.skip (onto_of ?_)
        refine WP.seq ?_
        refine WP.region ?_
        refine WPL.val (v_move (v := .slice _ _ _) rfl) ?_
        refine WPL.val (v_move (v := .int .i64 _) rfl) ?_
        refine WPL.ef (x_call Try.call23 (layer_ct A c L (okP_pv hok) x (by omega) (by omega)) [] [] rfl (fun w hw => hw.rd hz not_foots_nil) (τ := fun _ => []) (fun _ => rfl)) (fun _ => ?_)
        refine WPL.fact (fun _ => ?_)
        refine WPL.val (v_assign (v := .int .i64 _) rfl) ?_
        refine WPL.nil (onto_of ?_)
        exact WP.ret1 Try.results18 (fun _ h => h) (fun w hw => ⟨(), congrArg (Value.int .i64) (by rw [hr]), trivial, hw⟩)
theorem rLayer_ct (A : Option Addr) (c : Nat) (L : List PN) (hL : L.length ≤ 1000) (x : Int) : Ct Try.prog 19 #[.slice A L.length c, .int .i64 x] [] (fun w => RdN w A L) (X := Unit) (fun _ => .int .i64 (layX L x)) (fun _ => True) (fun _ => []) := by
  refine Ct.intro Try.func19 rfl Try.ntmps19 (by simp) (fun w0 hz => ?_)
  refine WP.seq ?_
  refine WP.region ?_
  refine WPL.val (v_assign (v := .int .i64 (0)) rfl) ?_
  refine WPL.nil (onto_of ?_)
  refine WP.seq ?_
  refine WP.seq ?_
  refine WP.region ?_
  refine WPL.val (v_move (v := .int .i64 _) rfl) ?_
  refine WPL.val (v_leq rfl rfl) ?_
  refine WPL.val (v_move (v := .bool _) rfl) ?_
  refine WPL.split 8 rfl (fun h8 => ?_) (fun h8 => ?_)
  ·
    refine WPL.skipG ?_
    refine WPL.skipG ?_
    refine WPL.skipG ?_
    refine WPL.skipG ?_
    refine WPL.val (v_pickT (u := .bool _) rfl rfl) ?_
    refine WPL.val (v_move (v := .bool _) rfl) ?_
    refine WPL.skipG ?_
    refine WPL.skipG ?_
    refine WPL.skipG ?_
    refine WPL.val (v_pickT (u := .bool _) rfl rfl) ?_
    refine WPL.nil (onto_of ?_)
    have hr : layX L x = -1 := by
      by_cases h0 : x = 0
      · by_cases hok : okP L = true
        · by_cases hn : L = []
          · unfold layX; rw [if_pos (by right; left; rw [hn, h0]; simp)]
          · rw [layX_ok hok (by omega) (by have := List.length_pos_iff.2 hn; omega), h0]; exact layF_zero (okP_pv hok) hn
        · unfold layX; rw [if_pos (by right; right; simpa using hok)]
      · unfold layX; rw [if_pos (by first | (left; omega) | (right; left; omega) | (right; right; simpa using h18))]
    refine WP.condT rfl ?_
    refine WP.seq ?_
    refine WP.region ?_
    refine WPL.val (v_assign (v := .int .i64 (-1)) rfl) ?_
    refine WPL.nil (onto_of ?_)
    exact WP.ret1 Try.results19 (fun _ h => h) (fun w hw => ⟨(), congrArg (Value.int .i64) (by rw [hr]), trivial, hw⟩)
  ·
    refine WPL.valG (v_move (v := .int .i64 _) rfl) ?_
    refine WPL.valG (v_move (v := .slice _ _ _) rfl) ?_
    refine WPL.valG (v_len Try.underlying24 rfl) ?_
    refine WPL.valG (v_geq rfl rfl) ?_
    refine WPL.val (v_pickF (v := .bool _) rfl rfl) ?_
    refine WPL.val (v_move (v := .bool _) rfl) ?_
    refine WPL.split 14 rfl (fun h14 => ?_) (fun h14 => ?_)
    ·
      refine WPL.skipG ?_
      refine WPL.skipG ?_
      refine WPL.skipG ?_
      refine WPL.val (v_pickT (u := .bool _) rfl rfl) ?_
      refine WPL.nil (onto_of ?_)
      have hr : layX L x = -1 := by
        by_cases h0 : x = 0
        · by_cases hok : okP L = true
          · by_cases hn : L = []
            · unfold layX; rw [if_pos (by right; left; rw [hn, h0]; simp)]
            · rw [layX_ok hok (by omega) (by have := List.length_pos_iff.2 hn; omega), h0]; exact layF_zero (okP_pv hok) hn
          · unfold layX; rw [if_pos (by right; right; simpa using hok)]
        · unfold layX; rw [if_pos (by first | (left; omega) | (right; left; omega) | (right; right; simpa using h18))]
      refine WP.condT rfl ?_
      refine WP.seq ?_
      refine WP.region ?_
      refine WPL.val (v_assign (v := .int .i64 (-1)) rfl) ?_
      refine WPL.nil (onto_of ?_)
      exact WP.ret1 Try.results19 (fun _ h => h) (fun w hw => ⟨(), congrArg (Value.int .i64) (by rw [hr]), trivial, hw⟩)
    ·
      refine WPL.valG (v_move (v := .slice _ _ _) rfl) ?_
      refine WPL.efG (x_call Try.call14 (rvalid_ct A c L hL) [] [] rfl (fun w hw => hw.rd hz not_foots_nil) (τ := fun _ => []) (fun _ => rfl)) (fun _ => ?_)
      refine WPL.fact (fun _ => ?_)
      refine WPL.valG (v_not rfl) ?_
      refine WPL.val (v_pickF (v := .bool _) rfl rfl) ?_
      refine WPL.nil (onto_of ?_)
      refine WP.cond rfl (fun h18 => ?_) (fun h18 => ?_)
      ·
        have hr : layX L x = -1 := by
          by_cases h0 : x = 0
          · by_cases hok : okP L = true
            · by_cases hn : L = []
              · unfold layX; rw [if_pos (by right; left; rw [hn, h0]; simp)]
              · rw [layX_ok hok (by omega) (by have := List.length_pos_iff.2 hn; omega), h0]; exact layF_zero (okP_pv hok) hn
            · unfold layX; rw [if_pos (by right; right; simpa using hok)]
          · unfold layX; rw [if_pos (by first | (left; omega) | (right; left; omega) | (right; right; simpa using h18))]
        refine WP.seq ?_
        refine WP.region ?_
        refine WPL.val (v_assign (v := .int .i64 (-1)) rfl) ?_
        refine WPL.nil (onto_of ?_)
        exact WP.ret1 Try.results19 (fun _ h => h) (fun w hw => ⟨(), congrArg (Value.int .i64) (by rw [hr]), trivial, hw⟩)
      ·
        have hok : okP L = true := by simpa using h18
        have hP := okP_pv hok
        obtain ⟨i, rfl⟩ : ∃ i : Nat, x = i := ⟨x.toNat, by omega⟩
        have hr1 : layX L (i : Int) = layF L (i : Int) := layX_ok hok (by omega) (by omega)
        obtain ⟨n, ab, ao, hn, rfl, hc⟩ := getNode hz (i := i) (by omega)
        have hux : upP L (i : Int) = n.up := upN hn
        have hyl : n.up < L.length := by have := hP.up (i : Int) (by omega) (by omega); omega
        refine WP.skip (onto_of ?_)
        refine WP.seq ?_
        refine WP.region ?_
        refine WPL.val (v_move (v := .slice _ _ _) rfl) ?_
        refine WPL.val (v_move (v := .int .i64 _) rfl) ?_
        refine WPL.val (v_index (j := i) Try.underlying24 Try.sizeOf41 rfl rfl rfl (by omega)) ?_
        refine WPL.val (v_field (off := 0) Try.underlying41 rfl Try.sizeOf3 rfl) ?_
        refine WPL.val (v_load1 (u := .int .i64 _) Try.isAgg3 rfl (fun w hw => hw.old_at (hc.one (j := 0) rfl (by omega)) (not_foots_nil _))) ?_
        refine WPL.val (v_assign (v := .int .i64 _) rfl) ?_
        refine WPL.nil (onto_of ?_)
        refine WP.seq ?_
        refine WP.block ?_
        refine WP.loopK (X := Int) [0] (fun y => [(5, .int .i64 y)]) (fun y w => (y < L.length ∧ layG L y = layF L (i : Int)) ∧ St w0 (foots []) [] w) (fun y => y.toNat) n.up ⟨rfl, trivial⟩ (fun w hw => ⟨⟨hyl, by unfold layF; rw [hux]⟩, hw⟩) (fun y ρ0 => ?_)
        refine WP.fact (fun ⟨hyn, hlay⟩ => ?_)
        refine WP.seq ?_
        refine WP.seq ?_
        refine WP.region ?_
        refine WPL.val (v_move (v := .int .i64 _) rfl) ?_
        refine WPL.val (v_gtr rfl rfl) ?_
        refine WPL.val (v_move (v := .bool _) rfl) ?_
        refine WPL.split 26 rfl (fun h26 => ?_) (fun h26 => ?_)
        ·
          obtain ⟨m, rfl⟩ : ∃ m : Nat, y = m := ⟨y.toNat, by omega⟩
          obtain ⟨n2, ab2, ao2, hn2, hA2, hc2⟩ := getNode hz (i := m) (by omega)
          cases hA2
          have hu2 := hP.up (m : Int) (by omega) hyn
          rw [upN hn2] at hu2
          refine WPL.valG (v_move (v := .slice _ _ _) rfl) ?_
          refine WPL.valG (v_move (v := .int .i64 _) rfl) ?_
          refine WPL.valG (v_index (j := m) Try.underlying24 Try.sizeOf41 rfl rfl rfl (by omega)) ?_
          refine WPL.valG (v_field (off := 1) Try.underlying41 rfl Try.sizeOf4 rfl) ?_
          refine WPL.valG (v_load1 (u := .bool _) Try.isAgg4 rfl (fun w hw => hw.old_at (hc2.one (j := 1) rfl (by omega)) (not_foots_nil _))) ?_
          refine WPL.valG (v_not rfl) ?_
          refine WPL.val (v_pickT (u := .bool _) rfl rfl) ?_
          refine WPL.nil (onto_of ?_)
          refine WP.cond rfl (fun h33 => ?_) (fun h33 => ?_)
          ·
            have hstep : layG L (m : Int) = layG L n2.up := by rw [layG_eq hP hyn, if_pos ⟨by omega, by rw [layN hn2]; simpa using h33⟩, upN hn2]
            refine WP.skip (onto_of ?_)
            refine WP.block ?_
            refine WP.region ?_
            refine WPL.val (v_move (v := .slice _ _ _) rfl) ?_
            refine WPL.val (v_move (v := .int .i64 _) rfl) ?_
            refine WPL.val (v_index (j := m) Try.underlying24 Try.sizeOf41 rfl rfl rfl (by omega)) ?_
            refine WPL.val (v_field (off := 0) Try.underlying41 rfl Try.sizeOf3 rfl) ?_
            refine WPL.val (v_load1 (u := .int .i64 _) Try.isAgg3 rfl (fun w hw => hw.old_at (hc2.one (j := 0) rfl (by omega)) (not_foots_nil _))) ?_
            refine WPL.val (v_assign (v := .int .i64 _) rfl) ?_
            exact WPL.nil fun w hw => ⟨rfl, n2.up, (by omega), ⟨rfl, (via (.slice _ _ _) rfl rfl), trivial⟩, ⟨⟨by omega, by rw [← hstep]; exact hlay⟩, hw⟩⟩
          ·
            have hr0 : layF L (i : Int) = (m : Int) := by rw [← hlay, layG_eq hP hyn, if_neg (by rw [layN hn2]; intro e; simp [e.2] at h33)]
            have hr := hr1.trans hr0
            refine WP.exit (onto_of ?_)
            refine WP.seq ?_
            refine WP.region ?_
            refine WPL.val (v_move (v := .int .i64 _) rfl) ?_
            refine WPL.val (v_assign (v := .int .i64 _) rfl) ?_
            refine WPL.nil (onto_of ?_)
            exact WP.ret1 Try.results19 (fun _ h => h) (fun w hw => ⟨(), congrArg (Value.int .i64) (by rw [hr]), trivial, hw⟩)
        ·
          refine WPL.skipG ?_
          refine WPL.skipG ?_
          refine WPL.skipG ?_
          refine WPL.skipG ?_
          refine WPL.skipG ?_
          refine WPL.skipG ?_
          refine WPL.val (v_pickF (v := .bool _) rfl rfl) ?_
          refine WPL.nil (onto_of ?_)
          have hr0 : layF L (i : Int) = y := by rw [← hlay, layG_eq hP hyn, if_neg (by omega)]
          have hr := hr1.trans hr0
          refine WP.condF rfl ?_
          refine WP.exit (onto_of ?_)
          refine WP.seq ?_
          refine WP.region ?_
          refine WPL.val (v_move (v := .int .i64 _) rfl) ?_
          refine WPL.val (v_assign (v := .int .i64 _) rfl) ?_
          refine WPL.nil (onto_of ?_)
          exact WP.ret1 Try.results19 (fun _ h => h) (fun w hw => ⟨(), congrArg (Value.int .i64) (by rw [hr]), trivial, hw⟩)
theorem idxP_not {l : List Int} {x : Int} (h : x ∉ l) : idxP l x = -1 := by
  have := idxP_ge l x
  have h2 : ¬ 0 ≤ idxP l x := fun e => h (this.2.1 e)
  omega
theorem idxP_at : ∀ {l : List Int} {x : Int} {k : Nat}, l[k]? = some x → x ∉ l.take k → idxP l x = k
  | [], _, _, h, _ => by simp at h
  | y :: l, x, 0, h, _ => by
    obtain rfl : y = x := by simpa using h
    simp [idxP]
  | y :: l, x, k + 1, h, hn => by
    have h1 : y ≠ x := fun e => hn (by simp [e])
    have h2 := idxP_at (l := l) (x := x) (k := k) (by simpa using h) (fun hm => hn (by simp [hm]))
    rw [idxP, if_neg h1, h2, if_neg (by omega)]; omega
theorem find_ct (A : Option Addr) (c : Nat) (l : List Int) (x : Int) (hl : l.length ≤ 10000) : Ct Try.prog 13 #[.slice A l.length c, .int .i64 x] [] (fun w => RdI w A l) (X := Unit) (fun _ => .int .i64 (idxP l x)) (fun _ => True) (fun _ => []) := by
  refine Ct.intro Try.func13 rfl Try.ntmps13 (by simp) (fun w0 hz => ?_)
  refine WP.seq ?_
  refine WP.region ?_
  refine WPL.val (v_assign (v := .int .i64 (0)) rfl) ?_
  refine WPL.nil (onto_of ?_)
  refine WP.seq ?_
  refine WP.seq ?_
  refine WP.region ?_
  refine WPL.val (v_assign (v := .int .i64 (0)) rfl) ?_
  refine WPL.nil (onto_of ?_)
  refine WP.block ?_
  refine WP.loopK (X := Nat) [0, 1] (fun k => [(5, .int .i64 (k : Int))]) (fun k w => (k ≤ l.length ∧ x ∉ l.take k) ∧ St w0 (foots []) [] w) (fun k => l.length - k) 0 ⟨rfl, trivial⟩ (fun w hw => ⟨⟨Nat.zero_le _, by simp⟩, hw⟩) (fun k ρ0 => ?_)
  refine WP.fact (fun ⟨hkl, hnk⟩ => ?_)
  refine WP.seq ?_
  refine WP.seq ?_
  refine WP.region ?_
  refine WPL.val (v_move (v := .int .i64 _) rfl) ?_
  refine WPL.val (v_move (v := .slice _ _ _) rfl) ?_
  refine WPL.val (v_len Try.underlying26 rfl) ?_
  refine WPL.val (v_lss rfl rfl) ?_
  refine WPL.nil (onto_of ?_)
  refine WP.condP rfl (fun h9 => ?_) (fun h9 => ?_)
  ·
    obtain ⟨y, hy⟩ : ∃ y, l[k]? = some y := ⟨_, List.getElem?_eq_getElem (by omega)⟩
    obtain ⟨ab, ao, rfl, hc⟩ := hz k y hy
    refine WP.skip (onto_of ?_)
    refine WP.seq ?_
    refine WP.block ?_
    refine WP.seq ?_
    refine WP.region ?_
    refine WPL.val (v_move (v := .slice _ _ _) rfl) ?_
    refine WPL.val (v_move (v := .int .i64 _) rfl) ?_
    refine WPL.val (v_index (j := k) Try.underlying26 Try.sizeOf3 rfl rfl rfl (by omega)) ?_
    refine WPL.val (v_load1 (u := .int .i64 _) Try.isAgg3 rfl (fun w hw => hw.old_at hc (not_foots_nil _))) ?_
    refine WPL.val (v_move (v := .int .i64 _) rfl) ?_
    refine WPL.val (v_eql rfl rfl) ?_
    refine WPL.nil (onto_of ?_)
    refine WP.condP rfl (fun h17 => ?_) (fun h17 => ?_)
    ·
      have hr : idxP l x = k := idxP_at (by rw [hy, h17]) hnk
      refine WP.seq ?_
      refine WP.region ?_
      refine WPL.val (v_move (v := .int .i64 _) rfl) ?_
      refine WPL.val (v_assign (v := .int .i64 _) rfl) ?_
      refine WPL.nil (onto_of ?_)
      exact WP.ret1 Try.results13 (fun _ h => h) (fun w hw => ⟨(), congrArg (Value.int .i64) (by rw [hr]), trivial, hw⟩)
    ·
      refine WP.skip (onto_of ?_)
      refine WP.region ?_
      refine WPL.val (v_move (v := .int .i64 _) rfl) ?_
      refine WPL.val (v_add rfl rfl (by omega)) ?_
      refine WPL.val (v_assign (v := .int .i64 _) rfl) ?_
      exact WPL.nil fun w hw => ⟨rfl, k + 1, (by omega), ⟨rfl, (via (.slice _ _ _) rfl rfl), (via (.int .i64 _) rfl rfl), trivial⟩, ⟨⟨by omega, by rw [take_snoc hy]; simp only [List.mem_append, List.mem_singleton, not_or]; exact ⟨hnk, fun e => h17 e.symm⟩⟩, hw⟩⟩
  ·
    obtain rfl : k = l.length := by omega
    rw [List.take_of_length_le (Nat.le_refl _)] at hnk
    have hr := idxP_not hnk
    refine WP.exit (onto_of ?_)
    refine WP.seq ?_
    refine WP.region ?_
    refine WPL.val (v_assign (v := .int .i64 (-1)) rfl) ?_
    refine WPL.nil (onto_of ?_)
    exact WP.ret1 Try.results13 (fun _ h => h) (fun w hw => ⟨(), congrArg (Value.int .i64) (by rw [hr]), trivial, hw⟩)
theorem index_ct (A : Option Addr) (c : Nat) (l : List Int) (x : Int) (hl : l.length ≤ 10000) : Ct Try.prog 31 #[.slice A l.length c, .int .i64 x] [] (fun w => RdI w A l) (X := Unit) (fun _ => .int .i64 (idxP l x)) (fun _ => True) (fun _ => []) := by
  refine Ct.intro Try.func31 rfl Try.ntmps31 (by simp) (fun w0 hz => ?_)
  refine WP.seq ?_
  refine WP.region ?_
  refine WPL.val (v_assign (v := .int .i64 (0)) rfl) ?_
  refine WPL.nil (onto_of ?_)
  refine WP.seq ?_
  refine WP.seq ?_
  refine WP.region ?_
  refine WPL.val (v_move (v := .slice _ _ _) rfl) ?_
  refine WPL.val (v_len Try.underlying26 rfl) ?_
  refine WPL.val (v_move (v := .int .i64 (0)) rfl) ?_
  refine WPL.nil (onto_of ?_)
  refine WP.block ?_
  refine WP.loopK (X := Nat) [0, 1, 7] (fun k => [(8, .int .i64 (k : Int))]) (fun k w => (k ≤ l.length ∧ x ∉ l.take k) ∧ St w0 (foots []) [] w) (fun k => l.length - k) 0 ⟨rfl, trivial⟩ (fun w hw => ⟨⟨Nat.zero_le _, by simp⟩, hw⟩) (fun k ρ0 => ?_)
  refine WP.fact (fun ⟨hkl, hnk⟩ => ?_)
  refine WP.seq ?_
  refine WP.region ?_
  refine WPL.val (v_lss rfl rfl) ?_
  refine WPL.nil (onto_of ?_)
  refine WP.seq ?_
  refine WP.condP rfl (fun h9 => ?_) (fun h9 => ?_)
  ·
    obtain ⟨y, hy⟩ : ∃ y, l[k]? = some y := ⟨_, List.getElem?_eq_getElem (by omega)⟩
    obtain ⟨ab, ao, rfl, hc⟩ := hz k y hy
    refine WP.skip (onto_of ?_)
    refine WP.seq ?_
    refine WP.block ?_
    refine WP.seq ?_
    refine WP.region ?_
    refine WPL.val (v_move (v := .int .i64 _) rfl) ?_
    refine WPL.val (v_assign (v := .int .i64 _) rfl) ?_
    refine WPL.nil (onto_of ?_)
    refine WP.seq ?_
    refine WP.region ?_
    refine WPL.val (v_move (v := .int .i64 _) rfl) ?_
    refine WPL.val (v_move (v := .slice _ _ _) rfl) ?_
    refine WPL.val (v_move (v := .int .i64 _) rfl) ?_
    refine WPL.val (v_index (j := k) Try.underlying26 Try.sizeOf3 rfl rfl rfl (by omega)) ?_
    refine WPL.val (v_load1 (u := .int .i64 _) Try.isAgg3 rfl (fun w hw => hw.old_at hc (not_foots_nil _))) ?_
    refine WPL.val (v_eql rfl rfl) ?_
    refine WPL.nil (onto_of ?_)
    refine WP.condP rfl (fun h16 => ?_) (fun h16 => ?_)
    ·
      have hr : idxP l x = k := idxP_at (by rw [hy, h16]) hnk
      refine WP.seq ?_
      refine WP.region ?_
      refine WPL.val (v_move (v := .int .i64 _) rfl) ?_
      refine WPL.val (v_assign (v := .int .i64 _) rfl) ?_
      refine WPL.nil (onto_of ?_)
      exact WP.ret1 Try.results31 (fun _ h => h) (fun w hw => ⟨(), congrArg (Value.int .i64) (by rw [hr]), trivial, hw⟩)
    ·
      refine WP.skip (onto_of ?_)
      refine WP.region ?_
      refine WPL.val (v_add rfl rfl (by omega)) ?_
      refine WPL.val (v_move (v := .int .i64 _) rfl) ?_
      exact WPL.nil fun w hw => ⟨rfl, k + 1, (by omega), ⟨rfl, (via (.slice _ _ _) rfl rfl), (via (.int .i64 _) rfl rfl), (via (.int .i64 _) rfl rfl), trivial⟩, ⟨⟨by omega, by rw [take_snoc hy]; simp only [List.mem_append, List.mem_singleton, not_or]; exact ⟨hnk, fun e => h16 e⟩⟩, hw⟩⟩
  ·
    obtain rfl : k = l.length := by omega
    rw [List.take_of_length_le (Nat.le_refl _)] at hnk
    have hr := idxP_not hnk
    refine WP.exit (onto_of ?_)
    refine WP.seq ?_
    refine WP.region ?_
    refine WPL.val (v_assign (v := .int .i64 (-1)) rfl) ?_
    refine WPL.nil (onto_of ?_)
    exact WP.ret1 Try.results31 (fun _ h => h) (fun w hw => ⟨(), congrArg (Value.int .i64) (by rw [hr]), trivial, hw⟩)
end Go.Proofs.Ytmjdmlgdffoimab
