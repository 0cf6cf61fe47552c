/- What is read of a tree: Has, of, Up, Style, Len, Depth, Kids, least. -/
import Derived.Test.YtmjdmlgdffoimaaTree
namespace Go.Proofs.Ytmjdmlgdffoimaa
open Go.RowKit

theorem has_ct (tp mb : Nat) (es : List PE) (x : Int) : Ct Try.prog 14 #[.pointer (some ⟨tp, 0, none⟩), .int .i64 x] [treeI tp mb es] (fun _ => True) (X := Unit) (fun _ => .bool (hasF (FoR es) x)) (fun _ => True) (fun _ => [treeI tp mb es]) := by
  refine Ct.intro Try.func14 rfl Try.ntmps14 (by simp) (fun w0 _ => ?_)
  refine WP.seq ?_
  refine WP.region ?_
  refine WPL.val (v_assign (v := .bool false) rfl) ?_
  refine WPL.nil (onto_of ?_)
  refine WP.seq ?_
  refine WP.region ?_
  refine WPL.val (v_move (v := .pointer _) rfl) ?_
  refine WPL.val (v_nil rfl) ?_
  refine WPL.val (v_field (off := 0) Try.underlying72 rfl Try.sizeOf70 rfl) ?_
  refine WPL.val (v_load1 (u := .map _) Try.isAgg70 rfl (fun w hw => hw.treeRoot (i := 0) rfl)) ?_
  refine WPL.val (v_move (v := .int .i64 _) rfl) ?_
  refine WPL.val (v_lookT (i := 0) rfl Try.underlying70 Try.underlying3 Try.zeroValue67 rfl rfl) ?_
  refine WPL.val (v_neNil Try.underlying67 rfl rfl) ?_
  refine WPL.val (v_assign (v := .bool _) rfl) ?_
  refine WPL.nil (onto_of ?_)
  exact WP.ret1 Try.results14 (fun _ h => h) (fun w hw => ⟨(), congrArg Value.bool (ptr_has es x), trivial, (hw.sel [0] (by decide))⟩)
set_option maxRecDepth 100000 in
theorem of_ct (tp mb : Nat) (es : List PE) (hk : LOk es) (x : Int) : Ct Try.prog 38 #[.pointer (some ⟨tp, 0, none⟩), .int .i64 x] [treeI tp mb es] (fun _ => True) (X := Unit) (fun _ => .agg (ofV es x).toArray) (fun _ => True) (fun _ => [treeI tp mb es]) := by
  refine Ct.intro Try.func38 rfl Try.ntmps38 (by simp) (fun w0 _ => ?_)
  refine WP.seq ?_
  refine WP.region ?_
  refine WPL.ef (x_alloc (us := .int .i64 0 :: .slice none 0 0 :: zeroS) (σ' := fun _ => [_, _]) Try.zeroValue69 rfl (fun _ => rfl)) (fun b4 => ?_)
  refine WPL.nil (onto_of ?_)
  refine WP.seq ?_
  refine WP.seq ?_
  refine WP.region ?_
  refine WPL.val (v_move (v := .pointer _) rfl) ?_
  refine WPL.val (v_nil rfl) ?_
  refine WPL.val (v_field (off := 0) Try.underlying72 rfl Try.sizeOf70 rfl) ?_
  refine WPL.val (v_load1 (u := .map _) Try.isAgg70 rfl (fun w hw => hw.treeRoot (i := 0) rfl)) ?_
  refine WPL.val (v_move (v := .int .i64 _) rfl) ?_
  refine WPL.val (v_lookT (i := 0) rfl Try.underlying70 Try.underlying3 Try.zeroValue67 rfl rfl) ?_
  refine WPL.val (v_assign (v := .pointer _) rfl) ?_
  refine WPL.nil (onto_of ?_)
  refine WP.seq ?_
  refine WP.region ?_
  refine WPL.val (v_move (v := .pointer _) rfl) ?_
  refine WPL.val (v_neNil Try.underlying67 rfl rfl) ?_
  refine WPL.nil (onto_of ?_)
  refine WP.cond rfl (fun h13 => ?_) (fun h13 => ?_)
  ·
    obtain ⟨e, he⟩ : ∃ e, lookE es x = some e := by unfold ptrE at h13; cases h : lookE es x with | none => rw [h] at h13; cases h13 | some e => exact ⟨e, rfl⟩
    have hlen : e.cells.length = 57 := by rw [← ofV_some he]; exact hk.of_len x
    have hone : ∀ u ∈ e.cells, u.oneCell' = true := by rw [← ofV_some he]; exact hk.of_one x
    rw [show ptrE es x = some ⟨e.bb, 0, none⟩ from by simp [ptrE, he]]
    refine WP.seq ?_
    refine WP.region ?_
    refine WPL.val (v_move (v := .pointer _) rfl) ?_
    refine WPL.val (v_nil rfl) ?_
    refine WPL.val (v_loadA (cs := e.cells) Try.isAgg69 Try.sizeOf69 rfl (fun w hw => hw.treeBox (i := 0) rfl (lookE_mem he).1) hlen) ?_
    refine WPL.ef0 (x_storeW (us := e.cells) (σ' := [_, _]) Try.sizeOf69 rfl rfl (i := 1) rfl hlen rfl hone hlen) (fun _ => ?_)
    refine WPL.nil (onto_of ?_)
    simp only [ofV_some he] 
    exact WP.retC (us := e.cells) Try.results38 rfl Try.isAgg69 Try.sizeOf69 (fun w hw => hw.cl_at (i := 1) rfl 0 (whole _)) hlen (fun _ h => h) (fun w hw => ⟨(), rfl, trivial, hw.sel [0] (by decide)⟩)
  ·
    have he : lookE es x = none := by unfold ptrE at h13; cases h : lookE es x with | none => rfl | some e => rw [h] at h13; cases h13
    have hlen : (.int .i64 (-1) :: .slice none 0 0 :: zeroS).length = 57 := rfl
    have hone : ∀ u ∈ (.int .i64 (-1) :: .slice none 0 0 :: zeroS), u.oneCell' = true := by rw [← ofV_none he]; exact hk.of_one x
    refine WP.skip (onto_of ?_)
    refine WP.seq ?_
    refine WP.region ?_
    refine WPL.val (v_struct (us := (.int .i64 (-1) :: .slice none 0 0 :: zeroS)) (pl := [(0, 1), (1, 1), (2, 55)]) Try.underlying69 Try.zeroValue69 rfl (by kernel_rfl) rfl rfl (by kernel_rfl)) ?_
    refine WPL.ef0 (x_storeW (us := (.int .i64 (-1) :: .slice none 0 0 :: zeroS)) (σ' := [_, _]) Try.sizeOf69 rfl rfl (i := 1) rfl hlen rfl hone hlen) (fun _ => ?_)
    refine WPL.nil (onto_of ?_)
    simp only [ofV_none he] 
    exact WP.retC (us := (.int .i64 (-1) :: .slice none 0 0 :: zeroS)) Try.results38 rfl Try.isAgg69 Try.sizeOf69 (fun w hw => hw.cl_at (i := 1) rfl 0 (whole _)) hlen (fun _ h => h) (fun w hw => ⟨(), rfl, trivial, hw.sel [0] (by decide)⟩)
theorem up_ct (tp mb : Nat) (es : List PE) (hk : LOk es) (x : Int) : Ct Try.prog 16 #[.pointer (some ⟨tp, 0, none⟩), .int .i64 x] [treeI tp mb es] (fun _ => True) (X := Unit) (fun _ => .int .i64 (upF (FoR es) x)) (fun _ => True) (fun _ => [treeI tp mb es]) := by
  refine Ct.intro Try.func16 rfl Try.ntmps16 (by simp) (fun w0 _ => ?_)
  refine WP.seq ?_
  refine WP.region ?_
  refine WPL.val (v_assign (v := .int .i64 (0)) rfl) ?_
  refine WPL.nil (onto_of ?_)
  refine WP.seq ?_
  refine WP.region ?_
  refine WPL.val (v_move (v := .pointer _) rfl) ?_
  refine WPL.val (v_move (v := .int .i64 _) rfl) ?_
  refine WPL.ef (x_call Try.call38 (of_ct tp mb es hk x) [0] [] rfl (fun w hw => trivial) (τ := fun _ => [_]) (fun _ => rfl)) (fun _ => ?_)
  refine WPL.fact (fun _ => ?_)
  refine WPL.val (v_part (u := .int .i64 _) Try.underlying69 rfl Try.isAgg3 rfl rfl) ?_
  refine WPL.val (v_assign (v := .int .i64 _) rfl) ?_
  refine WPL.nil (onto_of ?_)
  exact WP.ret1 Try.results16 (fun _ h => h) (fun w hw => ⟨(), rfl, trivial, (hw.sel [0] (by decide))⟩)
set_option maxRecDepth 100000 in
theorem style_ct (tp mb : Nat) (es : List PE) (hk : LOk es) (x : Int) : Ct Try.prog 20 #[.pointer (some ⟨tp, 0, none⟩), .int .i64 x] [treeI tp mb es] (fun _ => True) (X := Unit) (fun _ => .agg (styF zeroS (FoR es) x).toArray) (fun _ => True) (fun _ => [treeI tp mb es]) := by
  refine Ct.intro Try.func20 rfl Try.ntmps20 (by simp) (fun w0 _ => ?_)
  refine WP.seq ?_
  refine WP.region ?_
  refine WPL.ef (x_alloc (us := zeroS) (σ' := fun _ => [_, _]) Try.zeroValue43 rfl (fun _ => rfl)) (fun b4 => ?_)
  refine WPL.nil (onto_of ?_)
  refine WP.seq ?_
  refine WP.region ?_
  refine WPL.val (v_move (v := .pointer _) rfl) ?_
  refine WPL.val (v_move (v := .int .i64 _) rfl) ?_
  refine WPL.ef (x_call Try.call38 (of_ct tp mb es hk x) [0] [1] rfl (fun w hw => trivial) (τ := fun _ => [_, _]) (fun _ => rfl)) (fun _ => ?_)
  refine WPL.fact (fun _ => ?_)
  refine WPL.val (v_partA (us := (styF zeroS (FoR es) x).toArray) Try.underlying69 rfl Try.isAgg43 Try.sizeOf43 rfl (sty_part hk x)) ?_
  refine WPL.ef0 (x_storeW (us := styF zeroS (FoR es) x) (σ' := [_, _]) Try.sizeOf43 rfl rfl (i := 0) rfl (hk.styOk x).len (hσ := rfl) (hk.styOk x).one (hk.styOk x).len) (fun _ => ?_)
  refine WPL.nil (onto_of ?_)
  exact WP.retC (us := styF zeroS (FoR es) x) Try.results20 rfl Try.isAgg43 Try.sizeOf43 (fun w hw => hw.cl_at (i := 0) rfl 0 (whole _)) (hk.styOk x).len (fun _ h => h) (fun w hw => ⟨(), rfl, trivial, hw.sel [1] (by decide)⟩)
theorem len_ct (tp mb : Nat) (es : List PE) : Ct Try.prog 27 #[.pointer (some ⟨tp, 0, none⟩)] [treeI tp mb es] (fun _ => True) (X := Unit) (fun _ => .int .i64 (es.length : Int)) (fun _ => True) (fun _ => [treeI tp mb es]) := by
  refine Ct.intro Try.func27 rfl Try.ntmps27 (by simp) (fun w0 _ => ?_)
  refine WP.seq ?_
  refine WP.region ?_
  refine WPL.val (v_assign (v := .int .i64 (0)) rfl) ?_
  refine WPL.nil (onto_of ?_)
  refine WP.seq ?_
  refine WP.region ?_
  refine WPL.val (v_move (v := .pointer _) rfl) ?_
  refine WPL.val (v_nil rfl) ?_
  refine WPL.val (v_field (off := 0) Try.underlying72 rfl Try.sizeOf70 rfl) ?_
  refine WPL.val (v_load1 (u := .map _) Try.isAgg70 rfl (fun w hw => hw.treeRoot (i := 0) rfl)) ?_
  refine WPL.val (v_lenMap Try.underlying70 rfl (fun w hw => hw.treeMap (i := 0) rfl)) ?_
  refine WPL.val (v_assign (v := .int .i64 _) rfl) ?_
  refine WPL.nil (onto_of ?_)
  exact WP.ret1 Try.results27 (fun _ h => h) (fun w hw => ⟨(), congrArg (Value.int .i64) (by simp), trivial, (hw.sel [0] (by decide))⟩)
theorem chain_le (F : Forest (List Value)) : ∀ n x, chainF F n x ≤ n
  | 0, _ => Nat.le_refl _
  | n + 1, x => by
    rw [chainF]
    split
    · have := chain_le F n (upF F x); omega
    · omega
theorem WF.chain_stop {F : Forest (List Value)} {d : Int → Nat} (h : WF F d) {n : Nat} {x : Int} (hx : hasF F x = true) (hn : 64 ≤ n + (63 - d x)) (h0 : n = 0) : False := by
  obtain ⟨b, hb⟩ := some_has hx
  have := h.deep x b hb
  omega
theorem depth_ct (tp mb : Nat) (es : List PE) (hk : LOk es) {d : Int → Nat} (hF : WF (FoR es) d) (x : Int) : Ct Try.prog 18 #[.pointer (some ⟨tp, 0, none⟩), .int .i64 x] [treeI tp mb es] (fun _ => True) (X := Unit) (fun _ => .int .i64 (depthF (FoR es) x)) (fun _ => True) (fun _ => [treeI tp mb es]) := by
  refine Ct.intro Try.func18 rfl Try.ntmps18 (by simp) (fun w0 _ => ?_)
  refine WP.seq ?_
  refine WP.region ?_
  refine WPL.val (v_assign (v := .int .i64 (0)) rfl) ?_
  refine WPL.nil (onto_of ?_)
  refine WP.seq ?_
  refine WP.region ?_
  refine WPL.val (v_assign (v := .int .i64 (-1)) rfl) ?_
  refine WPL.nil (onto_of ?_)
  refine WP.seq ?_
  refine WP.block ?_
  refine WP.loopK (X := Nat × Int) [0] (fun p => [(1, .int .i64 p.2), (5, .int .i64 (63 - (p.1 : Int)))]) (fun p w => (depthF (FoR es) x = 63 - p.1 + chainF (FoR es) p.1 p.2 ∧ p.1 ≤ 64 ∧ (hasF (FoR es) p.2 = true → d p.2 + 1 ≤ p.1)) ∧ St w0 (foots [treeI tp mb es]) [treeI tp mb es] w) (fun p => p.1) (64, x) ⟨rfl, rfl, trivial⟩ (fun w hw => ⟨⟨by unfold depthF; dsimp only; omega, Nat.le_refl _, fun h => by dsimp only at h ⊢; obtain ⟨b, hb⟩ := some_has h; have := hF.deep x b hb; omega⟩, hw⟩) (fun p ρ0 => ?_)
  refine WP.fact (fun ⟨hd, hp, hr⟩ => ?_)
  refine WP.seq ?_
  refine WP.seq ?_
  refine WP.region ?_
  refine WPL.val (v_move (v := .pointer _) rfl) ?_
  refine WPL.val (v_move (v := .int .i64 _) rfl) ?_
  refine WPL.ef (x_call Try.call14 (has_ct tp mb es p.2) [0] [] rfl (fun w hw => trivial) (τ := fun _ => [_]) (fun _ => rfl)) (fun _ => ?_)
  refine WPL.fact (fun _ => ?_)
  refine WPL.nil (onto_of ?_)
  refine WP.cond rfl (fun h8 => ?_) (fun h8 => ?_)
  ·
    have hr1 := hr h8
    have hd2 : depthF (FoR es) x = 63 - ((p.1 - 1 : Nat) : Int) + chainF (FoR es) (p.1 - 1) (upF (FoR es) p.2) := by
      rw [show p.1 = (p.1 - 1) + 1 by omega, chainF, if_pos h8] at hd
      omega
    have hr2 : hasF (FoR es) (upF (FoR es) p.2) = true → d (upF (FoR es) p.2) + 1 ≤ p.1 - 1 := fun hu => by
      obtain ⟨b, hb⟩ := some_has h8
      rw [up_some hb] at hu ⊢
      by_cases h0 : p.2 = 0
      · obtain ⟨r, hr0, hru⟩ := hF.root
        rw [h0, hr0] at hb; cases hb
        rw [hru, has_none (hF.neg (by omega))] at hu; cases hu
      · have := hF.rank p.2 b hb h0; omega
    refine WP.skip (onto_of ?_)
    refine WP.seq ?_
    refine WP.block ?_
    refine WP.region ?_
    refine WPL.val (v_move (v := .int .i64 _) rfl) ?_
    refine WPL.val (v_add rfl rfl (by omega)) ?_
    refine WPL.val (v_assign (v := .int .i64 _) rfl) ?_
    refine WPL.nil (onto_of ?_)
    refine WP.region ?_
    refine WPL.val (v_move (v := .pointer _) rfl) ?_
    refine WPL.val (v_move (v := .int .i64 _) rfl) ?_
    refine WPL.ef (x_call Try.call16 (up_ct tp mb es hk p.2) [0] [] rfl (fun w hw => trivial) (τ := fun _ => [_]) (fun _ => rfl)) (fun _ => ?_)
    refine WPL.fact (fun _ => ?_)
    refine WPL.val (v_assign (v := .int .i64 _) rfl) ?_
    exact WPL.nil fun w hw => ⟨rfl, (p.1 - 1, upF (FoR es) p.2), (by simp only; omega), ⟨rfl, (congrArg (Value.int .i64) (by simp only; omega)), (via (.pointer _) rfl rfl), trivial⟩, ⟨hd2, by simp only; omega, hr2⟩, hw⟩
  ·
    have hc : chainF (FoR es) p.1 p.2 = 0 := by cases e : p.1 with | zero => rfl | succ n => rw [chainF, if_neg (by simp [h8])]
    refine WP.exit (onto_of ?_)
    refine WP.seq ?_
    refine WP.region ?_
    refine WPL.val (v_move (v := .int .i64 _) rfl) ?_
    refine WPL.val (v_assign (v := .int .i64 _) rfl) ?_
    refine WPL.nil (onto_of ?_)
    exact WP.ret1 Try.results18 (fun _ h => h) (fun w hw => ⟨(), congrArg (Value.int .i64) (by omega), trivial, (hw.sel [0] (by decide))⟩)
theorem clone_ct (A : Option Addr) (c : Nat) (l : List Int) (hl : l.length ≤ 10000) : Ct Try.prog 39 #[.slice A l.length c] [] (fun w => Src w A l.length (l.map (Value.int .i64))) (X := Option Addr × Nat) (fun p => .slice p.1 l.length p.2) (fun _ => True) (fun p => [kidsI p.1 l.length p.2 l]) := by
  refine Ct.intro Try.func39 rfl Try.ntmps39 (by simp) (fun w0 hz => ?_)
  refine WP.seq ?_
  refine WP.region ?_
  refine WPL.val (v_assign (v := .slice none 0 0) rfl) ?_
  refine WPL.nil (onto_of ?_)
  refine WP.seq ?_
  refine WP.seq ?_
  refine WP.region ?_
  refine WPL.val (v_move (v := .slice _ _ _) rfl) ?_
  refine WPL.val (v_eqNilS Try.underlying50 rfl rfl) ?_
  refine WPL.nil (onto_of ?_)
  refine WP.cond rfl (fun h4 => ?_) (fun h4 => ?_)
  ·
    have hA : A = none := Option.isNone_iff_eq_none.1 h4
    subst hA
    have hl0 : l = [] := by rcases hz with ⟨_, h⟩ | ⟨b, o, e, _⟩; exact List.eq_nil_of_length_eq_zero h; cases e
    subst hl0
    refine WP.seq ?_
    refine WP.region ?_
    refine WPL.val (v_assign (v := .slice none 0 0) rfl) ?_
    refine WPL.nil (onto_of ?_)
    exact WP.ret1 Try.results39 (fun _ h => h) (fun w hw => ⟨(none, 0), rfl, trivial, hw.nilRow 3 1⟩)
  ·
    refine WP.skip (onto_of ?_)
    refine WP.seq ?_
    refine WP.region ?_
    refine WPL.ef (x_buildSlice0 (σ' := fun _ => [_]) Try.underlying50 Try.sizeOf3 (fun _ => rfl)) (fun g5 => ?_)
    refine WPL.val (v_move (v := .slice _ _ _) rfl) ?_
    refine WPL.ef (x_append (sz := 1) (σ' := fun _ => [_]) Try.underlying50 int_info rfl (by decide) rfl rfl (i := 0) rfl (fun w hw => hw.oldSrc hz (fun _ _ => not_foots_nil _)) (by simp) (by intro u hu; obtain ⟨z, _, rfl⟩ := List.mem_map.1 hu; rfl) (by omega) (by omega) (fun _ => rfl)) (fun ⟨A7, c7⟩ => ?_)
    refine WPL.val (v_assign (v := .slice _ _ _) rfl) ?_
    refine WPL.nil (onto_of ?_)
    exact WP.ret1 Try.results39 (fun _ h => h) (fun w hw => ⟨(A7, c7), by show Value.slice A7 (0 + l.length) c7 = _; rw [Nat.zero_add], trivial, by rw [kidsI, ← Nat.zero_add l.length]; exact hw⟩)
theorem kids_ct (tp mb : Nat) (es : List PE) (hk : LOk es) (x : Int) (hl : (kidsF (FoR es) x).length ≤ 10000) : Ct Try.prog 23 #[.pointer (some ⟨tp, 0, none⟩), .int .i64 x] [treeI tp mb es] (fun _ => True) (X := Option Addr × Nat) (fun p => .slice p.1 (kidsF (FoR es) x).length p.2) (fun _ => True) (fun p => [treeI tp mb es, kidsI p.1 (kidsF (FoR es) x).length p.2 (kidsF (FoR es) x)]) := by
  refine Ct.intro Try.func23 rfl Try.ntmps23 (by simp) (fun w0 _ => ?_)
  refine WP.seq ?_
  refine WP.region ?_
  refine WPL.val (v_assign (v := .slice none 0 0) rfl) ?_
  refine WPL.nil (onto_of ?_)
  refine WP.seq ?_
  refine WP.region ?_
  refine WPL.val (v_move (v := .pointer _) rfl) ?_
  refine WPL.val (v_move (v := .int .i64 _) rfl) ?_
  refine WPL.ef (x_call Try.call38 (of_ct tp mb es hk x) [0] [] rfl (fun w hw => trivial) (τ := fun _ => [_]) (fun _ => rfl)) (fun _ => ?_)
  refine WPL.fact (fun _ => ?_)
  refine WPL.val (v_part (u := .slice _ _ _) Try.underlying69 rfl Try.isAgg50 rfl rfl) ?_
  refine WPL.ef (x_call Try.call39 (clone_ct (kA es x) (kC es x) (kidsF (FoR es) x) hl) [] [0] rfl (fun w hw => hw.treeSrcOf (i := 0) rfl x) (τ := fun _ => [_, _]) (fun _ => rfl)) (fun ⟨A9, c9⟩ => ?_)
  refine WPL.fact (fun _ => ?_)
  refine WPL.val (v_assign (v := .slice _ _ _) rfl) ?_
  refine WPL.nil (onto_of ?_)
  exact WP.ret1 Try.results23 (fun _ h => h) (fun w hw => ⟨(A9, c9), rfl, trivial, (hw.sel [0, 1] (by decide))⟩)
theorem least_ct (tp mb : Nat) (es : List PE) {d : Int → Nat} (hF : WF (FoR es) d) : Ct Try.prog 46 #[.pointer (some ⟨tp, 0, none⟩)] [treeI tp mb es] (fun _ => True) (X := Unit) (fun _ => .int .i64 (least (FoR es))) (fun _ => True) (fun _ => [treeI tp mb es]) := by
  refine Ct.intro Try.func46 rfl Try.ntmps46 (by simp) (fun w0 _ => ?_)
  refine WP.seq ?_
  refine WP.region ?_
  refine WPL.val (v_assign (v := .int .i64 (0)) rfl) ?_
  refine WPL.nil (onto_of ?_)
  refine WP.seq ?_
  refine WP.region ?_
  refine WPL.val (v_assign (v := .int .i64 (0)) rfl) ?_
  refine WPL.nil (onto_of ?_)
  refine WP.seq ?_
  refine WP.block ?_
  refine WP.loopK (X := Nat) [0] (fun k => [(3, .int .i64 (k : Int))]) (fun k w => (∀ j : Nat, j < k → hasF (FoR es) j = true) ∧ St w0 (foots [treeI tp mb es]) [treeI tp mb es] w) (fun k => 4096 - k) 0 ⟨rfl, trivial⟩ (fun w hw => ⟨fun j hj => by omega, hw⟩) (fun k ρ0 => ?_)
  refine WP.fact (fun hall => ?_)
  refine WP.seq ?_
  refine WP.seq ?_
  refine WP.region ?_
  refine WPL.val (v_move (v := .pointer _) rfl) ?_
  refine WPL.val (v_move (v := .int .i64 _) rfl) ?_
  refine WPL.ef (x_call Try.call14 (has_ct tp mb es (k : Int)) [0] [] rfl (fun w hw => trivial) (τ := fun _ => [_]) (fun _ => rfl)) (fun _ => ?_)
  refine WPL.fact (fun _ => ?_)
  refine WPL.nil (onto_of ?_)
  refine WP.cond rfl (fun h6 => ?_) (fun h6 => ?_)
  ·
    have hk : k < 4096 := by obtain ⟨b, hb⟩ := some_has h6; have := hF.range _ b hb; omega
    have hall2 : ∀ j : Nat, j < k + 1 → hasF (FoR es) j = true := fun j hj => by rcases Nat.lt_or_ge j k with h | h; exact hall j h; (obtain rfl : j = k := by omega); exact h6
    refine WP.skip (onto_of ?_)
    refine WP.block ?_
    refine WP.region ?_
    refine WPL.val (v_move (v := .int .i64 _) rfl) ?_
    refine WPL.val (v_add rfl rfl (by omega)) ?_
    refine WPL.val (v_assign (v := .int .i64 _) rfl) ?_
    exact WPL.nil fun w hw => ⟨rfl, k + 1, (by omega), ⟨rfl, (via (.pointer _) rfl rfl), trivial⟩, hall2, hw⟩
  ·
    have hle : least (FoR es) = (k : Int) := by
      obtain ⟨l1, l2, l3, l4⟩ := hF.least_ok
      rcases Int.lt_trichotomy (least (FoR es)) k with h | h | h
      · have h9 := hall (least (FoR es)).toNat (by omega)
        rw [show ((least (FoR es)).toNat : Int) = least (FoR es) by omega, l3] at h9; cases h9
      · exact h
      · rw [l4 k (by omega) h] at h6; cases h6
    refine WP.exit (onto_of ?_)
    refine WP.seq ?_
    refine WP.region ?_
    refine WPL.val (v_move (v := .int .i64 _) rfl) ?_
    refine WPL.val (v_assign (v := .int .i64 _) rfl) ?_
    refine WPL.nil (onto_of ?_)
    exact WP.ret1 Try.results46 (fun _ h => h) (fun w hw => ⟨(), congrArg (Value.int .i64) hle.symm, trivial, (hw.sel [0] (by decide))⟩)
end Go.Proofs.Ytmjdmlgdffoimaa
