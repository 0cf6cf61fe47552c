/- What is read of the document's tree: Has, Up, Kids, Style, Depth. -/
import Derived.Test.YtmjdmlgdffoimaaRefT
import Derived.Test.YtmjdmlgdffoimaaTreeRead
namespace Go.Proofs.Ytmjdmlgdffoimaa
open Go.RowKit

theorem rhas_ct (rp g bc : Nat) (bs : List RB) (hk : ROk bs) (x : Int) : Ct Try.prog 15 #[.pointer (some ⟨rp, 0, none⟩), .int .i64 x] [refI rp g bc bs] (fun _ => True) (X := Unit) (fun _ => .bool (hasF (absR bs) x)) (fun _ => True) (fun _ => [refI rp g bc bs]) := by
  refine Ct.intro Try.func15 rfl Try.ntmps15 (by simp) (fun w0 _ => ?_)
  refine WP.seq ?_
  refine WP.region ?_
  refine WPL.val (v_assign (v := .bool false) rfl) ?_
  refine WPL.nil (onto_of ?_)
  refine WP.seq ?_
  refine WP.region ?_
  refine WPL.val (v_move (v := .int .i64 _) rfl) ?_
  refine WPL.val (v_geq rfl rfl) ?_
  refine WPL.val (v_move (v := .bool _) rfl) ?_
  refine WPL.split 7 rfl (fun h7 => ?_) (fun h7 => ?_)
  ·
    obtain ⟨i, rfl⟩ : ∃ i : Nat, x = i := ⟨x.toNat, by omega⟩
    refine WPL.valG (v_move (v := .int .i64 _) rfl) ?_
    refine WPL.valG (v_move (v := .pointer _) rfl) ?_
    refine WPL.valG (v_nil rfl) ?_
    refine WPL.valG (v_field (off := 0) Try.underlying77 rfl Try.sizeOf75 rfl) ?_
    refine WPL.valG (v_load1 (u := .slice _ _ _) Try.isAgg75 rfl (fun w hw => hw.refRoot (i := 0) rfl)) ?_
    refine WPL.valG (v_len Try.underlying75 rfl) ?_
    refine WPL.valG (v_lss rfl rfl) ?_
    refine WPL.val (v_pickT (u := .bool _) rfl rfl) ?_
    refine WPL.val (v_move (v := .bool _) rfl) ?_
    refine WPL.split 16 rfl (fun h16 => ?_) (fun h16 => ?_)
    ·
      obtain ⟨b, hb⟩ : ∃ b, bs[i]? = some b := ⟨_, List.getElem?_eq_getElem (by omega)⟩
      refine WPL.valG (v_move (v := .pointer _) rfl) ?_
      refine WPL.valG (v_nil rfl) ?_
      refine WPL.valG (v_field (off := 0) Try.underlying77 rfl Try.sizeOf75 rfl) ?_
      refine WPL.valG (v_load1 (u := .slice _ _ _) Try.isAgg75 rfl (fun w hw => hw.refRoot (i := 0) rfl)) ?_
      refine WPL.valG (v_move (v := .int .i64 _) rfl) ?_
      refine WPL.valG (v_index (j := i) Try.underlying75 Try.sizeOf74 rfl rfl rfl (by omega)) ?_
      refine WPL.valG (v_field (off := 0) Try.underlying74 rfl Try.sizeOf4 rfl) ?_
      refine WPL.valG (v_load1 (u := .bool _) Try.isAgg4 rfl (fun w hw => hw.refAt (i := 0) rfl hk hb 0 (us := [.bool b.live]) rfl)) ?_
      refine WPL.val (v_pickT (u := .bool _) rfl rfl) ?_
      refine WPL.val (v_assign (v := .bool _) rfl) ?_
      refine WPL.nil (onto_of ?_)
      exact WP.ret1 Try.results15 (fun _ h => h) (fun w hw => ⟨(), congrArg Value.bool (by first | exact (absR_live hb).symm | (rw [hasF, absR_neg (by omega)]; rfl) | (rw [hasF, absR_out (by omega)]; rfl)), trivial, (hw.sel [0] (by decide))⟩)
    ·
      refine WPL.skipG ?_
      refine WPL.skipG ?_
      refine WPL.skipG ?_
      refine WPL.skipG ?_
      refine WPL.skipG ?_
      refine WPL.skipG ?_
      refine WPL.skipG ?_
      refine WPL.skipG ?_
      refine WPL.val (v_pickF (v := .bool _) rfl rfl) ?_
      refine WPL.val (v_assign (v := .bool _) rfl) ?_
      refine WPL.nil (onto_of ?_)
      exact WP.ret1 Try.results15 (fun _ h => h) (fun w hw => ⟨(), congrArg Value.bool (by first | exact (absR_live hb).symm | (rw [hasF, absR_neg (by omega)]; rfl) | (rw [hasF, absR_out (by omega)]; rfl)), trivial, (hw.sel [0] (by decide))⟩)
  ·
    refine WPL.skipG ?_
    refine WPL.skipG ?_
    refine WPL.skipG ?_
    refine WPL.skipG ?_
    refine WPL.skipG ?_
    refine WPL.skipG ?_
    refine WPL.skipG ?_
    refine WPL.val (v_pickF (v := .bool _) rfl rfl) ?_
    refine WPL.val (v_move (v := .bool _) rfl) ?_
    refine WPL.skipG ?_
    refine WPL.skipG ?_
    refine WPL.skipG ?_
    refine WPL.skipG ?_
    refine WPL.skipG ?_
    refine WPL.skipG ?_
    refine WPL.skipG ?_
    refine WPL.skipG ?_
    refine WPL.val (v_pickF (v := .bool _) rfl rfl) ?_
    refine WPL.val (v_assign (v := .bool _) rfl) ?_
    refine WPL.nil (onto_of ?_)
    exact WP.ret1 Try.results15 (fun _ h => h) (fun w hw => ⟨(), congrArg Value.bool (by first | exact (absR_live hb).symm | (rw [hasF, absR_neg (by omega)]; rfl) | (rw [hasF, absR_out (by omega)]; rfl)), trivial, (hw.sel [0] (by decide))⟩)
theorem rup_ct (rp g bc : Nat) (bs : List RB) (hk : ROk bs) (x : Int) : Ct Try.prog 17 #[.pointer (some ⟨rp, 0, none⟩), .int .i64 x] [refI rp g bc bs] (fun _ => True) (X := Unit) (fun _ => .int .i64 (upF (absR bs) x)) (fun _ => True) (fun _ => [refI rp g bc bs]) := by
  refine Ct.intro Try.func17 rfl Try.ntmps17 (by simp) (fun w0 _ => ?_)
  refine WP.seq ?_
  refine WP.region ?_
  refine WPL.val (v_assign (v := .int .i64 (0)) rfl) ?_
  refine WPL.nil (onto_of ?_)
  refine WP.seq ?_
  refine WP.seq ?_
  refine WP.region ?_
  refine WPL.val (v_move (v := .pointer _) rfl) ?_
  refine WPL.val (v_move (v := .int .i64 _) rfl) ?_
  refine WPL.ef (x_call Try.call15 (rhas_ct rp g bc bs hk x) [0] [] rfl (fun w hw => trivial) (τ := fun _ => [_]) (fun _ => rfl)) (fun _ => ?_)
  refine WPL.fact (fun _ => ?_)
  refine WPL.val (v_not rfl) ?_
  refine WPL.nil (onto_of ?_)
  refine WP.cond rfl (fun h8 => ?_) (fun h8 => ?_)
  ·
    have hno : hasF (absR bs) x = false := by simpa using h8
    have hnn : absR bs x = none := none_has hno
    refine WP.seq ?_
    refine WP.region ?_
    refine WPL.val (v_assign (v := .int .i64 (-1)) rfl) ?_
    refine WPL.nil (onto_of ?_)
    exact WP.ret1 Try.results17 (fun _ h => h) (fun w hw => ⟨(), congrArg (Value.int .i64) (by first | (rw [up_some hbb]; done) | (rw [upF, hnn]; done) | (rw [upF, hnn])), trivial, (hw.sel [0] (by decide))⟩)
  ·
    obtain ⟨i, b, rfl, hb, hl⟩ := absR_has (bs := bs) (x := x) (by simpa using h8)
    have hbb := absR_at hb hl
    have hib := (List.getElem?_eq_some_iff.1 hb).1
    refine WP.skip (onto_of ?_)
    refine WP.seq ?_
    refine WP.region ?_
    refine WPL.val (v_move (v := .pointer _) rfl) ?_
    refine WPL.val (v_nil rfl) ?_
    refine WPL.val (v_field (off := 0) Try.underlying77 rfl Try.sizeOf75 rfl) ?_
    refine WPL.val (v_load1 (u := .slice _ _ _) Try.isAgg75 rfl (fun w hw => hw.refRoot (i := 0) rfl)) ?_
    refine WPL.val (v_move (v := .int .i64 _) rfl) ?_
    refine WPL.val (v_index (j := i) Try.underlying75 Try.sizeOf74 rfl rfl rfl (by omega)) ?_
    refine WPL.val (v_field (off := 1) Try.underlying74 rfl Try.sizeOf3 rfl) ?_
    refine WPL.val (v_load1 (u := .int .i64 _) Try.isAgg3 rfl (fun w hw => hw.refAt (i := 0) rfl hk hb 1 (us := [.int .i64 b.up]) rfl)) ?_
    refine WPL.val (v_assign (v := .int .i64 _) rfl) ?_
    refine WPL.nil (onto_of ?_)
    exact WP.ret1 Try.results17 (fun _ h => h) (fun w hw => ⟨(), congrArg (Value.int .i64) (by first | (rw [up_some hbb]; done) | (rw [upF, hnn]; done) | (rw [upF, hnn])), trivial, (hw.sel [0] (by decide))⟩)
theorem rkids_ct (rp g bc : Nat) (bs : List RB) (hk : ROk bs) (x : Int) : Ct Try.prog 24 #[.pointer (some ⟨rp, 0, none⟩), .int .i64 x] [refI rp g bc bs] (fun _ => True) (X := Unit) (fun _ => .slice (kAR bs x) (kidsF (absR bs) x).length (kCR bs x)) (fun _ => True) (fun _ => [refI rp g bc bs]) := by
  refine Ct.intro Try.func24 rfl Try.ntmps24 (by simp) (fun w0 _ => ?_)
  refine WP.seq ?_
  refine WP.region ?_
  refine WPL.val (v_assign (v := .slice none 0 0) rfl) ?_
  refine WPL.nil (onto_of ?_)
  refine WP.seq ?_
  refine WP.seq ?_
  refine WP.region ?_
  refine WPL.val (v_move (v := .pointer _) rfl) ?_
  refine WPL.val (v_move (v := .int .i64 _) rfl) ?_
  refine WPL.ef (x_call Try.call15 (rhas_ct rp g bc bs hk x) [0] [] rfl (fun w hw => trivial) (τ := fun _ => [_]) (fun _ => rfl)) (fun _ => ?_)
  refine WPL.fact (fun _ => ?_)
  refine WPL.val (v_not rfl) ?_
  refine WPL.nil (onto_of ?_)
  refine WP.cond rfl (fun h8 => ?_) (fun h8 => ?_)
  ·
    have hno : hasF (absR bs) x = false := by simpa using h8
    have hnn : absR bs x = none := none_has hno
    refine WP.seq ?_
    refine WP.region ?_
    refine WPL.val (v_assign (v := .slice none 0 0) rfl) ?_
    refine WPL.nil (onto_of ?_)
    exact WP.ret1 Try.results24 (fun _ h => h) (fun w hw => ⟨(), by first | (rw [kids_some hbb, (kR_at hb hl).1, (kR_at hb hl).2]; rfl) | (rw [(kR_no hno).1, (kR_no hno).2, kidsF, hnn]; rfl), trivial, (hw.sel [0] (by decide))⟩)
  ·
    obtain ⟨i, b, rfl, hb, hl⟩ := absR_has (bs := bs) (x := x) (by simpa using h8)
    have hbb := absR_at hb hl
    have hib := (List.getElem?_eq_some_iff.1 hb).1
    refine WP.skip (onto_of ?_)
    refine WP.seq ?_
    refine WP.region ?_
    refine WPL.val (v_move (v := .pointer _) rfl) ?_
    refine WPL.val (v_nil rfl) ?_
    refine WPL.val (v_field (off := 0) Try.underlying77 rfl Try.sizeOf75 rfl) ?_
    refine WPL.val (v_load1 (u := .slice _ _ _) Try.isAgg75 rfl (fun w hw => hw.refRoot (i := 0) rfl)) ?_
    refine WPL.val (v_move (v := .int .i64 _) rfl) ?_
    refine WPL.val (v_index (j := i) Try.underlying75 Try.sizeOf74 rfl rfl rfl (by omega)) ?_
    refine WPL.val (v_field (off := 2) Try.underlying74 rfl Try.sizeOf50 rfl) ?_
    refine WPL.val (v_load1 (u := .slice _ _ _) Try.isAgg50 rfl (fun w hw => hw.refAt (i := 0) rfl hk hb 2 (us := [.slice b.A b.kids.length b.c]) rfl)) ?_
    refine WPL.val (v_assign (v := .slice _ _ _) rfl) ?_
    refine WPL.nil (onto_of ?_)
    exact WP.ret1 Try.results24 (fun _ h => h) (fun w hw => ⟨(), by first | (rw [kids_some hbb, (kR_at hb hl).1, (kR_at hb hl).2]; rfl) | (rw [(kR_no hno).1, (kR_no hno).2, kidsF, hnn]; rfl), trivial, (hw.sel [0] (by decide))⟩)
set_option maxRecDepth 100000 in
theorem rstyle_ct (rp g bc : Nat) (bs : List RB) (hk : ROk bs) (x : Int) : Ct Try.prog 21 #[.pointer (some ⟨rp, 0, none⟩), .int .i64 x] [refI rp g bc bs] (fun _ => True) (X := Unit) (fun _ => .agg (styF zeroS (absR bs) x).toArray) (fun _ => True) (fun _ => [refI rp g bc bs]) := by
  refine Ct.intro Try.func21 rfl Try.ntmps21 (by simp) (fun w0 _ => ?_)
  refine WP.seq ?_
  refine WP.region ?_
  refine WPL.ef (x_alloc (us := zeroS) (σ' := fun _ => [_, _]) Try.zeroValue43 rfl (fun _ => rfl)) (fun b4 => ?_)
  refine WPL.nil (onto_of ?_)
  refine WP.seq ?_
  refine WP.seq ?_
  refine WP.region ?_
  refine WPL.val (v_move (v := .pointer _) rfl) ?_
  refine WPL.val (v_move (v := .int .i64 _) rfl) ?_
  refine WPL.ef (x_call Try.call15 (rhas_ct rp g bc bs hk x) [0] [1] rfl (fun w hw => trivial) (τ := fun _ => [_, _]) (fun _ => rfl)) (fun _ => ?_)
  refine WPL.fact (fun _ => ?_)
  refine WPL.val (v_not rfl) ?_
  refine WPL.nil (onto_of ?_)
  refine WP.cond rfl (fun h8 => ?_) (fun h8 => ?_)
  ·
    have hno : hasF (absR bs) x = false := by simpa using h8
    have hnn : absR bs x = none := none_has hno
    refine WP.seq ?_
    refine WP.region ?_
    refine WPL.val (v_struct (parts := []) (us := zeroS) (pl := [(0, 1), (1, 1), (2, 1), (3, 2), (5, 2), (7, 2), (9, 2), (11, 2), (13, 2), (15, 8), (23, 8), (31, 4), (35, 4), (39, 1), (40, 1), (41, 2), (43, 1), (44, 1), (45, 1), (46, 1), (47, 1), (48, 1), (49, 1), (50, 1), (51, 1), (52, 1), (53, 2)]) Try.underlying43 Try.zeroValue43 rfl (by kernel_rfl) rfl rfl (by kernel_rfl)) ?_
    refine WPL.ef0 (x_storeW (us := zeroS) (σ' := [_, _]) Try.sizeOf43 rfl rfl (i := 0) rfl (SOk.len zeroS_ok) rfl (SOk.one zeroS_ok) (SOk.len zeroS_ok)) (fun _ => ?_)
    refine WPL.nil (onto_of ?_)
    have hsy : styF zeroS (absR bs) x = zeroS := by first | (rw [styF, hbb]; done) | (rw [styF, hnn]; done)
    exact WP.retC (us := zeroS) Try.results21 rfl Try.isAgg43 Try.sizeOf43 (fun w hw => hw.cl_at (i := 0) rfl 0 (whole _)) (SOk.len zeroS_ok) (fun _ h => h) (fun w hw => ⟨(), by rw [hsy], trivial, hw.sel [1] (by decide)⟩)
  ·
    obtain ⟨i, b, rfl, hb, hl⟩ := absR_has (bs := bs) (x := x) (by simpa using h8)
    have hbb := absR_at hb hl
    have hib := (List.getElem?_eq_some_iff.1 hb).1
    refine WP.skip (onto_of ?_)
    refine WP.seq ?_
    refine WP.region ?_
    refine WPL.val (v_move (v := .pointer _) rfl) ?_
    refine WPL.val (v_nil rfl) ?_
    refine WPL.val (v_field (off := 0) Try.underlying77 rfl Try.sizeOf75 rfl) ?_
    refine WPL.val (v_load1 (u := .slice _ _ _) Try.isAgg75 rfl (fun w hw => hw.refRoot (i := 1) rfl)) ?_
    refine WPL.val (v_move (v := .int .i64 _) rfl) ?_
    refine WPL.val (v_index (j := i) Try.underlying75 Try.sizeOf74 rfl rfl rfl (by omega)) ?_
    refine WPL.val (v_field (off := 3) Try.underlying74 rfl Try.sizeOf43 rfl) ?_
    refine WPL.val (v_loadA (cs := b.sty) Try.isAgg43 Try.sizeOf43 rfl (fun w hw => hw.refAt (i := 1) rfl hk hb 3 (by show List.take _ b.sty = _; exact List.take_of_length_le (Nat.le_refl _))) (hk.get hb).len) ?_
    refine WPL.ef0 (x_storeW (us := b.sty) (σ' := [_, _]) Try.sizeOf43 rfl rfl (i := 0) rfl (SOk.len (hk.get hb)) rfl (SOk.one (hk.get hb)) (SOk.len (hk.get hb))) (fun _ => ?_)
    refine WPL.nil (onto_of ?_)
    have hsy : styF zeroS (absR bs) i = b.sty := by first | (rw [styF, hbb]; done) | (rw [styF, hnn]; done)
    exact WP.retC (us := b.sty) Try.results21 rfl Try.isAgg43 Try.sizeOf43 (fun w hw => hw.cl_at (i := 0) rfl 0 (whole _)) (SOk.len (hk.get hb)) (fun _ h => h) (fun w hw => ⟨(), by rw [hsy], trivial, hw.sel [1] (by decide)⟩)
theorem rdepth_ct (rp g bc : Nat) (bs : List RB) (hk : ROk bs) {d : Int → Nat} (hF : WF (absR bs) d) (x : Int) : Ct Try.prog 19 #[.pointer (some ⟨rp, 0, none⟩), .int .i64 x] [refI rp g bc bs] (fun _ => True) (X := Unit) (fun _ => .int .i64 (depthF (absR bs) x)) (fun _ => True) (fun _ => [refI rp g bc bs]) := by
  refine Ct.intro Try.func19 rfl Try.ntmps19 (by simp) (fun w0 _ => ?_)
  refine WP.seq ?_
  refine WP.region ?_
  refine WPL.val (v_assign (v := .int .i64 (0)) rfl) ?_
  refine WPL.nil (onto_of ?_)
  refine WP.seq ?_
  refine WP.region ?_
  refine WPL.val (v_assign (v := .int .i64 (-1)) rfl) ?_
  refine WPL.nil (onto_of ?_)
  refine WP.seq ?_
  refine WP.block ?_
  refine WP.loopK (X := Nat × Int) [0] (fun p => [(1, .int .i64 p.2), (5, .int .i64 (63 - (p.1 : Int)))]) (fun p w => (depthF (absR bs) x = 63 - p.1 + chainF (absR bs) p.1 p.2 ∧ p.1 ≤ 64 ∧ (hasF (absR bs) p.2 = true → d p.2 + 1 ≤ p.1)) ∧ St w0 (foots [refI rp g bc bs]) [refI rp g bc bs] w) (fun p => p.1) (64, x) ⟨rfl, rfl, trivial⟩ (fun w hw => ⟨⟨by unfold depthF; dsimp only; omega, Nat.le_refl _, fun h => by dsimp only at h ⊢; obtain ⟨b, hb⟩ := some_has h; have := hF.deep x b hb; omega⟩, hw⟩) (fun p ρ0 => ?_)
  refine WP.fact (fun ⟨hd, hp, hr⟩ => ?_)
  refine WP.seq ?_
  refine WP.seq ?_
  refine WP.region ?_
  refine WPL.val (v_move (v := .pointer _) rfl) ?_
  refine WPL.val (v_move (v := .int .i64 _) rfl) ?_
  refine WPL.ef (x_call Try.call15 (rhas_ct rp g bc bs hk p.2) [0] [] rfl (fun w hw => trivial) (τ := fun _ => [_]) (fun _ => rfl)) (fun _ => ?_)
  refine WPL.fact (fun _ => ?_)
  refine WPL.nil (onto_of ?_)
  refine WP.cond rfl (fun h8 => ?_) (fun h8 => ?_)
  ·
    have hr1 := hr h8
    have hd2 : depthF (absR bs) x = 63 - ((p.1 - 1 : Nat) : Int) + chainF (absR bs) (p.1 - 1) (upF (absR bs) p.2) := by
      rw [show p.1 = (p.1 - 1) + 1 by omega, chainF, if_pos h8] at hd
      omega
    have hr2 : hasF (absR bs) (upF (absR bs) p.2) = true → d (upF (absR bs) p.2) + 1 ≤ p.1 - 1 := fun hu => by
      obtain ⟨b, hb⟩ := some_has h8
      rw [up_some hb] at hu ⊢
      by_cases h0 : p.2 = 0
      · obtain ⟨r, hr0, hru⟩ := hF.root
        rw [h0, hr0] at hb; cases hb
        rw [hru, has_none (hF.neg (by omega))] at hu; cases hu
      · have := hF.rank p.2 b hb h0; omega
    obtain ⟨i, b, hpi, hb, hl⟩ := absR_has h8
    have hib := (List.getElem?_eq_some_iff.1 hb).1
    have hub : upF (absR bs) p.2 = b.up := by rw [hpi, up_some (absR_at hb hl)]
    refine WP.skip (onto_of ?_)
    refine WP.block ?_
    refine WP.seq ?_
    refine WP.region ?_
    refine WPL.val (v_move (v := .int .i64 _) rfl) ?_
    refine WPL.val (v_add rfl rfl (by omega)) ?_
    refine WPL.val (v_assign (v := .int .i64 _) rfl) ?_
    refine WPL.nil (onto_of ?_)
    rw [hpi]
    refine WP.region ?_
    refine WPL.val (v_move (v := .pointer _) rfl) ?_
    refine WPL.val (v_nil rfl) ?_
    refine WPL.val (v_field (off := 0) Try.underlying77 rfl Try.sizeOf75 rfl) ?_
    refine WPL.val (v_load1 (u := .slice _ _ _) Try.isAgg75 rfl (fun w hw => hw.refRoot (i := 0) rfl)) ?_
    refine WPL.val (v_move (v := .int .i64 _) rfl) ?_
    refine WPL.val (v_index (j := i) Try.underlying75 Try.sizeOf74 rfl rfl rfl (by omega)) ?_
    refine WPL.val (v_field (off := 1) Try.underlying74 rfl Try.sizeOf3 rfl) ?_
    refine WPL.val (v_load1 (u := .int .i64 _) Try.isAgg3 rfl (fun w hw => hw.refAt (i := 0) rfl hk hb 1 (us := [.int .i64 b.up]) rfl)) ?_
    refine WPL.val (v_assign (v := .int .i64 _) rfl) ?_
    exact WPL.nil fun w hw => ⟨rfl, (p.1 - 1, upF (absR bs) p.2), (by simp only; omega), ⟨(congrArg (Value.int .i64) hub.symm), (congrArg (Value.int .i64) (by simp only; omega)), (via (.pointer _) rfl rfl), trivial⟩, ⟨hd2, by simp only; omega, hr2⟩, hw⟩
  ·
    have hc : chainF (absR bs) p.1 p.2 = 0 := by cases e : p.1 with | zero => rfl | succ n => rw [chainF, if_neg (by simp [h8])]
    refine WP.exit (onto_of ?_)
    refine WP.seq ?_
    refine WP.region ?_
    refine WPL.val (v_move (v := .int .i64 _) rfl) ?_
    refine WPL.val (v_assign (v := .int .i64 _) rfl) ?_
    refine WPL.nil (onto_of ?_)
    exact WP.ret1 Try.results19 (fun _ h => h) (fun w hw => ⟨(), congrArg (Value.int .i64) (by omega), trivial, (hw.sel [0] (by decide))⟩)
end Go.Proofs.Ytmjdmlgdffoimaa
