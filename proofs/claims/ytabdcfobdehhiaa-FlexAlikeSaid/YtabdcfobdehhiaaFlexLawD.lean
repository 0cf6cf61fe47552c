/- The laws FlexWithin, FlexStill: the plain law, the walk. -/
import Derived.Test.YtabdcfobdehhiaaFlexLawC
namespace Go.Proofs.Ytabdcfobdehhiaa
open Go.RowKit

theorem round_at {g : Bool} {room : Int} {es : List FE} {i : Nat} {e : FE} (h : (round g room es)[i]? = some e) : ∃ e0, es[i]? = some e0 ∧ e = froze g room es i e0 := by
  cases he : es[i]? with
  | none => simp [round, List.getElem?_mapIdx, he] at h
  | some e0 => rw [round_get he] at h; cases h; exact ⟨e0, rfl, rfl⟩
theorem rounds_inv {g : Bool} {room : Int} (P : Nat → FE → Prop) (h : ∀ (es : List FE) (i : Nat) (e : FE), es[i]? = some e → P i e → P i (froze g room es i e)) : ∀ (n : Nat) (es : List FE), (∀ (i : Nat) (e : FE), es[i]? = some e → P i e) →
    ∀ (i : Nat) (e : FE), (rounds g room n es)[i]? = some e → P i e
  | 0, _, hs => hs
  | n + 1, es, hs => by
    unfold rounds
    split
    · exact hs
    · refine rounds_inv P h n _ fun i e he => ?_
      obtain ⟨e0, h0, rfl⟩ := round_at he
      exact h es i e0 h0 (hs i e0 h0)
theorem fit_fit (x : FItem) (n : Int) : x.fit (x.fit n) = x.fit n := by unfold FItem.fit; omega
theorem within_get {l : List FItem} {room : Int} {i : Nat} {x : FItem} {s : Int} (hx : l[i]? = some x) (hs : (sizes l room)[i]? = some s) : x.fit s = s ∧ (x.grow ≤ 0 → x.shrink ≤ 0 → s = basic x) := by
  unfold sizes at hs
  rw [List.getElem?_map] at hs
  cases he : (final (grows l room) (lot room) (l.map (start (grows l room))))[i]? with
  | none => rw [he] at hs; cases hs
  | some e =>
    rw [he] at hs
    obtain rfl : e.size = s := by simpa using hs
    have h := rounds_inv (g := grows l room) (room := lot room) (fun i e => ∃ x, l[i]? = some x ∧ e.it = x.sound ∧ x.fit e.size = e.size ∧ (x.grow ≤ 0 → x.shrink ≤ 0 → e.fr = true ∧ e.size = basic x)) ?_ _ (l.map (start (grows l room))) ?_ i e he
    · obtain ⟨y, hy, _, h1, h2⟩ := h
      rw [hx] at hy
      cases hy
      exact ⟨h1, fun a b => (h2 a b).2⟩
    · rintro es i e _ ⟨x, hx, hit, hf, hg⟩
      refine ⟨x, hx, ?_⟩
      cases hfr : e.fr with
      | true => simp only [froze, hfr, if_true]; exact ⟨hit, hf, fun a b => ⟨trivial, (hg a b).2⟩⟩
      | false =>
        simp only [froze, hfr, Bool.false_eq_true, if_false]
        refine ⟨hit, by rw [hit, sound_fit, fit_fit], fun a b => ?_⟩
        have := (hg a b).1
        rw [hfr] at this
        cases this
    · intro i e he
      rw [List.getElem?_map] at he
      cases hx : l[i]? with
      | none => rw [hx] at he; cases he
      | some x =>
        rw [hx] at he
        cases he
        refine ⟨x, rfl, rfl, fit_fit _ _, fun a b => ⟨?_, rfl⟩⟩
        have e1 : x.sound.grow = 0 := by show cl1k x.grow = 0; unfold cl1k; omega
        have e2 : x.sound.shrink = 0 := by show cl1k x.shrink = 0; unfold cl1k; omega
        unfold start
        cases grows l room <;> simp [e1, e2]
theorem kth_none {es : List FE} (h : ∀ (i : Nat) (e : FE), es[i]? = some e → e.fr = true) : ∀ n, kth es n = 0
  | 0 => rfl
  | n + 1 => by
    cases he : es[n]? with
    | none => have := kth_none h n; simp only [kth, ats, he] at this ⊢; simpa using this
    | some e => rw [kth_shut he (h n e he)]; exact kth_none h n
theorem pmark_of0 (w : List Int) (k : Nat) : pmark 0 w k = 0 := by
  unfold pmark
  rw [show lot 0 = 0 by decide, Int.zero_mul, Int.zero_ediv]
theorem still_sizes {l : List FItem} (hl : l.length ≤ 64) (hb : ∀ (i : Nat) (x : FItem), l[i]? = some x → basic x = cl20 x.base) : sizes l (tot l l.length) = l.map fun x => cl20 x.base := by
  have htb := tot_bd l l.length
  have hlot : lot (tot l l.length) = tot l l.length := by unfold lot; omega
  have hg : grows l (tot l l.length) = false := by unfold grows; rw [hlot]; simp
  have hmap : l.map basic = l.map fun x => cl20 x.base := by
    apply List.ext_getElem?
    intro i
    rw [List.getElem?_map, List.getElem?_map]
    cases hx : l[i]? with
    | none => rfl
    | some x => rw [Option.map_some, Option.map_some, hb i x hx]
  unfold sizes
  rw [hlot, hg]
  generalize hes : l.map (start false) = es
  have hlen : es.length = l.length := by rw [← hes]; simp
  have hget : ∀ (i : Nat) (e : FE), es[i]? = some e → e.it.base = e.size ∧ e.it.fit e.it.base = e.size ∧ ∃ x, l[i]? = some x ∧ e.size = basic x := by
    intro i e he
    rw [← hes, List.getElem?_map] at he
    cases hx : l[i]? with
    | none => rw [hx] at he; cases he
    | some x =>
      rw [hx] at he
      cases he
      exact ⟨(hb i x hx).symm, fit_sound x, x, rfl, rfl⟩
  have htook : ∀ n, n ≤ l.length → took es n = tot l n := by
    intro n
    induction n with
    | zero => intro _; rw [tot_zero]; rfl
    | succ n ih =>
      intro hn
      obtain ⟨e, he⟩ : ∃ e, es[n]? = some e := ⟨_, List.getElem?_eq_getElem (by omega)⟩
      obtain ⟨h1, _, x, hx, h2⟩ := hget n e he
      rw [tot_succ l n x hx, ← ih (by omega)]
      cases hf : e.fr with
      | true => rw [took_shut he hf]; omega
      | false => rw [took_open he hf]; omega
  by_cases hk : kth es es.length = 0
  · rw [final_done hk, ← hes, start_size, hmap]
  · have hfre : fre false (tot l l.length) es = 0 := by
      unfold fre
      rw [hlen, htook _ (Nat.le_refl _)]; simp
    have hpart : ∀ i, (parts false (tot l l.length) es).getD i 0 = 0 := by
      intro i
      have h1 := share_bd (fre false (tot l l.length) es) (wts false es es.length) i
      unfold parts
      by_cases hi : i < (wts false es es.length).length
      · rw [List.getD_eq_getElem?_getD, share_get _ _ _ hi, hfre, pmark_of0, pmark_of0]; rfl
      · rw [List.getD_eq_getElem?_getD, List.getElem?_eq_none (by rw [share_length]; omega)]; rfl
    have hgap : ∀ (i : Nat) (e : FE), es[i]? = some e → want false (tot l l.length) es i e = e.it.base ∧ gap false (tot l l.length) es i e = 0 := by
      intro i e he
      have hw : want false (tot l l.length) es i e = e.it.base := by unfold want; rw [hpart]; simp
      obtain ⟨h1, h2, _⟩ := hget i e he
      exact ⟨hw, by unfold gap; rw [hw, h2]; omega⟩
    have hmore : ∀ n, moreTo false (tot l l.length) es n = 0 := by
      intro n
      induction n with
      | zero => rfl
      | succ n ih =>
        cases he : es[n]? with
        | none => simp [moreTo, he, ih]
        | some e =>
          cases hf : e.fr with
          | true => rw [more_shut he hf, ih]
          | false => rw [more_open he hf, ih, (hgap n e he).2]; rfl
    have hall : ∀ (i : Nat) (e : FE), (round false (tot l l.length) es)[i]? = some e → e.fr = true := by
      intro i e he
      obtain ⟨e0, h0, rfl⟩ := round_at he
      cases hf : e0.fr with
      | true => simp [froze, hf]
      | false => simp [froze, hf, judge, hmore]
    rw [← final_step hk, final_done (kth_none hall _)]
    apply List.ext_getElem?
    intro i
    rw [List.getElem?_map, List.getElem?_map]
    cases he : es[i]? with
    | none =>
      have h1 : l[i]? = none := by rw [List.getElem?_eq_none_iff] at he ⊢; omega
      have h2 : (round false (tot l l.length) es)[i]? = none := by rw [List.getElem?_eq_none_iff, round_length]; rw [List.getElem?_eq_none_iff] at he; omega
      rw [h1, h2]; rfl
    | some e =>
      obtain ⟨h1, h2, x, hx, h3⟩ := hget i e he
      rw [round_get he, hx, Option.map_some, Option.map_some, ← hb i x hx, ← h3]
      congr 1
      cases hf : e.fr with
      | true => simp [froze, hf]
      | false => rw [froze_size hf, (hgap i e he).1, h2]

set_option maxRecDepth 100000 in
theorem lawWithin_ct (A : Option Addr) (c : Nat) (l : List FItem) (room : Int) (hm : l.length ≤ 9223372036854775807) :
    Ct Try.prog 5 #[.slice A l.length c, .int .i64 room] [] (fun w => RdE w A 5 FItem.enc l) (X := Unit) (fun _ => .bool true) (fun _ => True) (fun _ => []) := by
  refine Ct.intro Try.func5 rfl Try.ntmps5 (by simp) (fun w0 hz => ?_)
  refine WP.seq ?_
  refine WP.region ?_
  refine WPL.val (v_assign (v := .bool false) rfl) ?_
  refine WPL.nil (onto_of ?_)
  refine WP.seq ?_
  refine WP.region ?_
  refine WPL.ef (x_call Try.call15 works_ct [] [] rfl (fun w hw => trivial) (τ := fun _ => []) (fun _ => rfl)) (fun _ => ?_)
  refine WPL.fact (fun _ => ?_)
  refine WPL.val (v_assign (v := .bool _) rfl) ?_
  refine WPL.nil (onto_of ?_)
  refine WP.seq ?_
  refine WP.seq ?_
  refine WP.region ?_
  refine WPL.val (v_move (v := .bool _) rfl) ?_
  refine WPL.val (v_not rfl) ?_
  refine WPL.nil (onto_of ?_)
  refine WP.condF rfl ?_
  refine WP.skip (onto_of ?_)
  refine WP.seq ?_
  refine WP.seq ?_
  refine WP.region ?_
  refine WPL.val (v_move (v := .slice _ _ _) rfl) ?_
  refine WPL.val (v_len Try.underlying22 rfl) ?_
  refine WPL.val (v_gtr rfl rfl) ?_
  refine WPL.nil (onto_of ?_)
  refine WP.condP rfl (fun h14 => ?_) (fun h14 => ?_)
  ·
    refine WP.seq ?_
    refine WP.region ?_
    refine WPL.val (v_move (v := .bool _) rfl) ?_
    refine WPL.val (v_move (v := .bool _) rfl) ?_
    refine WPL.valG (v_move (v := .slice _ _ _) rfl) ?_
    refine WPL.valG (v_move (v := .int .i64 _) rfl) ?_
    refine WPL.valG (v_call Try.call20 (fun w hw => sizes_big A c l.length room (by omega) _)) ?_
    refine WPL.valG (v_len Try.underlying32 rfl) ?_
    refine WPL.valG (v_eql rfl rfl) ?_
    refine WPL.val (v_pickT (u := .bool _) rfl rfl) ?_
    refine WPL.val (v_assign (v := .bool _) rfl) ?_
    refine WPL.nil (onto_of ?_)
    exact WP.ret1 Try.results5 (fun _ h => h) (fun w hw => ⟨(), by first | rfl | exact congrArg Value.bool (decide_eq_true rfl), trivial, hw.sel [] (by decide)⟩)
  ·
    refine WP.skip (onto_of ?_)
    refine WP.seq ?_
    refine WP.region ?_
    refine WPL.val (v_move (v := .slice _ _ _) rfl) ?_
    refine WPL.val (v_move (v := .int .i64 _) rfl) ?_
    refine WPL.ef (x_call Try.call20 (sizes_ct A c l room (by omega)) [] [] rfl (fun w hw => hw.rd hz not_foots_nil) (τ := fun _ => [_]) (fun _ => rfl)) (fun ⟨A1, c1⟩ => ?_)
    refine WPL.fact (fun _ => ?_)
    refine WPL.val (v_assign (v := .slice _ _ _) rfl) ?_
    refine WPL.nil (onto_of ?_)
    refine WP.seq ?_
    refine WP.seq ?_
    refine WP.region ?_
    refine WPL.val (v_move (v := .slice _ _ _) rfl) ?_
    refine WPL.val (v_len Try.underlying32 rfl) ?_
    refine WPL.val (v_move (v := .slice _ _ _) rfl) ?_
    refine WPL.val (v_len Try.underlying22 rfl) ?_
    refine WPL.val (v_neq rfl rfl) ?_
    refine WPL.nil (onto_of ?_)
    refine WP.condP rfl (fun h30 => ?_) (fun h30 => ?_)
    ·
      exact absurd rfl h30
    ·
      refine WP.skip (onto_of ?_)
      refine WP.seq ?_
      refine WP.seq ?_
      refine WP.region ?_
      refine WPL.val (v_assign (v := .int .i64 (0)) rfl) ?_
      refine WPL.nil (onto_of ?_)
      refine WP.block ?_
      refine WP.loopK (X := Nat) [0, 5, 6] (fun k => [(7, .int .i64 (k : Int))]) (fun k w => k ≤ l.length ∧ St w0 (foots []) [.row 3 1 A1 l.length c1 ((sizes l room).map (Value.int .i64))] w) (fun k => l.length - k) 0 ⟨rfl, trivial⟩ (fun w hw => ⟨by omega, hw⟩) (fun k ρ0 => ?_)
      refine WP.fact (fun hk => ?_)
      refine WP.seq ?_
      refine WP.seq ?_
      refine WP.region ?_
      refine WPL.val (v_move (v := .int .i64 _) rfl) ?_
      refine WPL.val (v_move (v := .slice _ _ _) rfl) ?_
      refine WPL.val (v_len Try.underlying22 rfl) ?_
      refine WPL.val (v_lss rfl rfl) ?_
      refine WPL.nil (onto_of ?_)
      refine WP.condP rfl (fun h34 => ?_) (fun h34 => ?_)
      ·
        have hkl : k < l.length := by omega
        obtain ⟨x, hx⟩ : ∃ x, l[k]? = some x := ⟨_, List.getElem?_eq_getElem hkl⟩
        obtain ⟨b, o, rfl, hc⟩ := hz k x hx
        have hcb := cl20_bd x.base
        obtain ⟨sv, hs⟩ : ∃ sv, (sizes l room)[k]? = some sv := ⟨_, List.getElem?_eq_getElem (by rw [sizes_length]; exact hkl)⟩
        obtain ⟨hw1, hw2⟩ := within_get hx hs
        refine WP.holds (fun w hw => hw.row_pos (i := 0) rfl (by omega)) (fun ⟨sb, hA⟩ => ?_)
        subst hA
        refine WP.skip (onto_of ?_)
        refine WP.seq ?_
        refine WP.block ?_
        refine WP.seq ?_
        refine WP.region ?_
        refine WPL.val (v_move (v := .slice _ _ _) rfl) ?_
        refine WPL.val (v_move (v := .int .i64 _) rfl) ?_
        refine WPL.val (v_index Try.underlying22 Try.sizeOf28 rfl rfl rfl (by omega)) ?_
        refine WPL.val (v_field (off := 0) Try.underlying28 rfl Try.sizeOf3 rfl) ?_
        refine WPL.val (v_load1 (u := .int .i64 _) Try.isAgg3 rfl (fun w hw => hw.old_at (hc.one (j := 0) rfl (by omega)) (not_foots_nil _))) ?_
        refine WPL.val (v_max rfl rfl) ?_
        refine WPL.val (v_min rfl rfl) ?_
        rw [show min (max x.base 0) 1048576 = cl20 x.base by unfold cl20; omega]
        refine WPL.val (v_assign (v := .int .i64 _) rfl) ?_
        refine WPL.nil (onto_of ?_)
        refine WP.seq ?_
        refine WP.drawSel none [0] [(0, true), (1, true), (2, true), (3, true), (4, true), (5, true), (6, true), (7, true), (9, true), (10, true), (11, true), (12, true), (8, false), (13, true), (14, true), (15, true), (16, true), (17, true), (18, true), (19, true), (20, true), (21, true), (22, true), (23, true), (24, true), (25, true), (26, true), (27, true), (28, true), (29, true), (30, true), (31, true), (32, true), (33, true), (34, true), (35, true), (36, true), (37, true), (38, true), (39, false), (40, true), (41, true), (42, true)] mixed (by kernel_rfl) (by decide) ?_
        refine WPD.take rfl (v_move (v := .slice _ _ _) rfl) ?_ (fun _ h => h.sel [0] (by decide))
        refine WPD.take rfl (v_move (v := .int .i64 _) rfl) ?_ (fun _ h => h.sel [0] (by decide))
        refine WPD.take rfl (v_index Try.underlying22 Try.sizeOf28 rfl rfl rfl (by omega)) ?_ (fun _ h => h.sel [0] (by decide))
        refine WPD.take rfl (v_loadA (cs := [.int .i64 _, .int .i64 _, .int .i64 _, .int .i64 _, .int .i64 _]) Try.isAgg28 Try.sizeOf28 rfl (fun w hw => hw.old_at hc (not_foots_nil _))) ?_ (fun _ h => h.sel [0] (by decide))
        refine WPD.take rfl (v_move (v := .slice _ _ _) rfl) ?_ (fun _ h => h.sel [0] (by decide))
        refine WPD.take rfl (v_move (v := .int .i64 _) rfl) ?_ (fun _ h => h.sel [0] (by decide))
        refine WPD.take rfl (v_index Try.underlying32 Try.sizeOf3 rfl rfl rfl (by omega)) ?_ (fun _ h => h.sel [0] (by decide))
        refine WPD.take rfl (v_load1 (u := .int .i64 _) Try.isAgg3 rfl (fun w hw => hw.row_at1 (i := 0) rfl (ints_at hs) (by omega))) ?_ (fun _ h => h.sel [0] (by decide))
        refine WPD.take rfl (v_move (v := .slice _ _ _) rfl) ?_ (fun _ h => h.sel [0] (by decide))
        refine WPD.take rfl (v_move (v := .int .i64 _) rfl) ?_ (fun _ h => h.sel [0] (by decide))
        refine WPD.take rfl (v_index Try.underlying32 Try.sizeOf3 rfl rfl rfl (by omega)) ?_ (fun _ h => h.sel [0] (by decide))
        refine WPD.take rfl (v_load1 (u := .int .i64 _) Try.isAgg3 rfl (fun w hw => hw.row_at1 (i := 0) rfl (ints_at hs) (by omega))) ?_ (fun _ h => h.sel [0] (by decide))
        refine WPD.ef rfl (x_call Try.call17 (fit_ct x sv) [] [0] rfl (fun w hw => trivial) (τ := fun _ => [_]) (fun _ => rfl)) (fun _ _ _ h => h.2.sel [0] (by decide)) (fun _ => ?_)
        refine WPD.fact (fun _ => ?_)
        rw [hw1]
        refine WPD.take rfl (v_neq rfl rfl) ?_ (fun _ h => h.sel [0] (by decide))
        refine WPD.take rfl (v_move (v := .bool _) rfl) ?_ (fun _ h => h.sel [0] (by decide))
        refine WPD.split 58 rfl (fun h58 => ?_) (fun h58 => ?_)
        · exact absurd rfl h58
        ·
          refine WPD.take rfl (v_move (v := .slice _ _ _) rfl) ?_ (fun _ h => h.sel [0] (by decide))
          refine WPD.take rfl (v_move (v := .int .i64 _) rfl) ?_ (fun _ h => h.sel [0] (by decide))
          refine WPD.take rfl (v_index Try.underlying22 Try.sizeOf28 rfl rfl rfl (by omega)) ?_ (fun _ h => h.sel [0] (by decide))
          refine WPD.take rfl (v_field (off := 3) Try.underlying28 rfl Try.sizeOf3 rfl) ?_ (fun _ h => h.sel [0] (by decide))
          refine WPD.take rfl (v_load1 (u := .int .i64 _) Try.isAgg3 rfl (fun w hw => hw.old_at (hc.one (j := 3) rfl (by omega)) (not_foots_nil _))) ?_ (fun _ h => h.sel [0] (by decide))
          refine WPD.take rfl (v_leq rfl rfl) ?_ (fun _ h => h.sel [0] (by decide))
          refine WPD.take rfl (v_move (v := .bool _) rfl) ?_ (fun _ h => h.sel [0] (by decide))
          refine WPD.split 65 rfl (fun h65 => ?_) (fun h65 => ?_)
          ·
            refine WPD.take rfl (v_move (v := .slice _ _ _) rfl) ?_ (fun _ h => h.sel [0] (by decide))
            refine WPD.take rfl (v_move (v := .int .i64 _) rfl) ?_ (fun _ h => h.sel [0] (by decide))
            refine WPD.take rfl (v_index Try.underlying22 Try.sizeOf28 rfl rfl rfl (by omega)) ?_ (fun _ h => h.sel [0] (by decide))
            refine WPD.take rfl (v_field (off := 4) Try.underlying28 rfl Try.sizeOf3 rfl) ?_ (fun _ h => h.sel [0] (by decide))
            refine WPD.take rfl (v_load1 (u := .int .i64 _) Try.isAgg3 rfl (fun w hw => hw.old_at (hc.one (j := 4) rfl (by omega)) (not_foots_nil _))) ?_ (fun _ h => h.sel [0] (by decide))
            refine WPD.take rfl (v_leq rfl rfl) ?_ (fun _ h => h.sel [0] (by decide))
            refine WPD.take rfl (v_pickT (u := .bool _) rfl rfl) ?_ (fun _ h => h.sel [0] (by decide))
            refine WPD.take rfl (v_move (v := .bool _) rfl) ?_ (fun _ h => h.sel [0] (by decide))
            refine WPD.split 73 rfl (fun h73 => ?_) (fun h73 => ?_)
            ·
              refine WPD.take rfl (v_move (v := .slice _ _ _) rfl) ?_ (fun _ h => h.sel [0] (by decide))
              refine WPD.take rfl (v_move (v := .int .i64 _) rfl) ?_ (fun _ h => h.sel [0] (by decide))
              refine WPD.take rfl (v_index Try.underlying32 Try.sizeOf3 rfl rfl rfl (by omega)) ?_ (fun _ h => h.sel [0] (by decide))
              refine WPD.take rfl (v_load1 (u := .int .i64 _) Try.isAgg3 rfl (fun w hw => hw.row_at1 (i := 0) rfl (ints_at hs) (by omega))) ?_ (fun _ h => h.sel [0] (by decide))
              refine WPD.take rfl (v_move (v := .slice _ _ _) rfl) ?_ (fun _ h => h.sel [0] (by decide))
              refine WPD.take rfl (v_move (v := .int .i64 _) rfl) ?_ (fun _ h => h.sel [0] (by decide))
              refine WPD.take rfl (v_index Try.underlying22 Try.sizeOf28 rfl rfl rfl (by omega)) ?_ (fun _ h => h.sel [0] (by decide))
              refine WPD.take rfl (v_loadA (cs := [.int .i64 _, .int .i64 _, .int .i64 _, .int .i64 _, .int .i64 _]) Try.isAgg28 Try.sizeOf28 rfl (fun w hw => hw.old_at hc (not_foots_nil _))) ?_ (fun _ h => h.sel [0] (by decide))
              refine WPD.take rfl (v_move (v := .int .i64 _) rfl) ?_ (fun _ h => h.sel [0] (by decide))
              refine WPD.ef rfl (x_call Try.call17 (fit_ct x (cl20 x.base)) [] [0] rfl (fun w hw => trivial) (τ := fun _ => [_]) (fun _ => rfl)) (fun _ _ _ h => h.2.sel [0] (by decide)) (fun _ => ?_)
              refine WPD.fact (fun _ => ?_)
              rw [show x.fit (cl20 x.base) = basic x from rfl, ← hw2 h65 h73]
              refine WPD.take rfl (v_neq rfl rfl) ?_ (fun _ h => h.sel [0] (by decide))
              refine WPD.take rfl (v_pickT (u := .bool _) rfl rfl) ?_ (fun _ h => h.sel [0] (by decide))
              refine WPD.take rfl (v_pickF (v := .bool _) rfl rfl) ?_ (fun _ h => h.sel [0] (by decide))
              refine WPD.nil (onto_of ?_)
              refine WP.condP rfl (fun h86 => ?_) (fun h86 => ?_)
              ·
                exact absurd rfl h86
              ·
                refine WP.skip (onto_of ?_)
                refine WP.region ?_
                refine WPL.val (v_move (v := .int .i64 _) rfl) ?_
                refine WPL.val (v_add rfl rfl (by omega)) ?_
                refine WPL.val (v_assign (v := .int .i64 _) rfl) ?_
                exact WPL.nil fun w hw => ⟨rfl, k + 1, (by omega), ⟨rfl, (via (.slice _ _ _) rfl rfl), (via (.bool _) rfl rfl), (via (.slice _ _ _) rfl rfl), trivial⟩, by omega, (hw.sel [0] (by decide))⟩
            ·
              refine WPD.skip rfl ?_ (fun _ h => h.sel [0] (by decide))
              refine WPD.skip rfl ?_ (fun _ h => h.sel [0] (by decide))
              refine WPD.skip rfl ?_ (fun _ h => h.sel [0] (by decide))
              refine WPD.skip rfl ?_ (fun _ h => h.sel [0] (by decide))
              refine WPD.skip rfl ?_ (fun _ h => h.sel [0] (by decide))
              refine WPD.skip rfl ?_ (fun _ h => h.sel [0] (by decide))
              refine WPD.skip rfl ?_ (fun _ h => h.sel [0] (by decide))
              refine WPD.skip rfl ?_ (fun _ h => h.sel [0] (by decide))
              refine WPD.skip rfl ?_ (fun _ h => h.sel [0] (by decide))
              refine WPD.skipA rfl ?_ (fun _ h => h.sel [0] (by decide))
              refine WPD.skip rfl ?_ (fun _ h => h.sel [0] (by decide))
              refine WPD.take rfl (v_pickF (v := .bool _) rfl rfl) ?_ (fun _ h => h.sel [0] (by decide))
              refine WPD.take rfl (v_pickF (v := .bool _) rfl rfl) ?_ (fun _ h => h.sel [0] (by decide))
              refine WPD.nil (onto_of ?_)
              refine WP.condF rfl ?_
              refine WP.skip (onto_of ?_)
              refine WP.region ?_
              refine WPL.val (v_move (v := .int .i64 _) rfl) ?_
              refine WPL.val (v_add rfl rfl (by omega)) ?_
              refine WPL.val (v_assign (v := .int .i64 _) rfl) ?_
              exact WPL.nil fun w hw => ⟨rfl, k + 1, (by omega), ⟨rfl, (via (.slice _ _ _) rfl rfl), (via (.bool _) rfl rfl), (via (.slice _ _ _) rfl rfl), trivial⟩, by omega, (hw.sel [0] (by decide))⟩
          ·
            refine WPD.skip rfl ?_ (fun _ h => h.sel [0] (by decide))
            refine WPD.skip rfl ?_ (fun _ h => h.sel [0] (by decide))
            refine WPD.skip rfl ?_ (fun _ h => h.sel [0] (by decide))
            refine WPD.skip rfl ?_ (fun _ h => h.sel [0] (by decide))
            refine WPD.skip rfl ?_ (fun _ h => h.sel [0] (by decide))
            refine WPD.skip rfl ?_ (fun _ h => h.sel [0] (by decide))
            refine WPD.take rfl (v_pickF (v := .bool _) rfl rfl) ?_ (fun _ h => h.sel [0] (by decide))
            refine WPD.take rfl (v_move (v := .bool _) rfl) ?_ (fun _ h => h.sel [0] (by decide))
            refine WPD.skip rfl ?_ (fun _ h => h.sel [0] (by decide))
            refine WPD.skip rfl ?_ (fun _ h => h.sel [0] (by decide))
            refine WPD.skip rfl ?_ (fun _ h => h.sel [0] (by decide))
            refine WPD.skip rfl ?_ (fun _ h => h.sel [0] (by decide))
            refine WPD.skip rfl ?_ (fun _ h => h.sel [0] (by decide))
            refine WPD.skip rfl ?_ (fun _ h => h.sel [0] (by decide))
            refine WPD.skip rfl ?_ (fun _ h => h.sel [0] (by decide))
            refine WPD.skip rfl ?_ (fun _ h => h.sel [0] (by decide))
            refine WPD.skip rfl ?_ (fun _ h => h.sel [0] (by decide))
            refine WPD.skipA rfl ?_ (fun _ h => h.sel [0] (by decide))
            refine WPD.skip rfl ?_ (fun _ h => h.sel [0] (by decide))
            refine WPD.take rfl (v_pickF (v := .bool _) rfl rfl) ?_ (fun _ h => h.sel [0] (by decide))
            refine WPD.take rfl (v_pickF (v := .bool _) rfl rfl) ?_ (fun _ h => h.sel [0] (by decide))
            refine WPD.nil (onto_of ?_)
            refine WP.condF rfl ?_
            refine WP.skip (onto_of ?_)
            refine WP.region ?_
            refine WPL.val (v_move (v := .int .i64 _) rfl) ?_
            refine WPL.val (v_add rfl rfl (by omega)) ?_
            refine WPL.val (v_assign (v := .int .i64 _) rfl) ?_
            exact WPL.nil fun w hw => ⟨rfl, k + 1, (by omega), ⟨rfl, (via (.slice _ _ _) rfl rfl), (via (.bool _) rfl rfl), (via (.slice _ _ _) rfl rfl), trivial⟩, by omega, (hw.sel [0] (by decide))⟩
      ·
        refine WP.exit (onto_of ?_)
        refine WP.seq ?_
        refine WP.region ?_
        refine WPL.val (v_move (v := .bool _) rfl) ?_
        refine WPL.val (v_assign (v := .bool _) rfl) ?_
        refine WPL.nil (onto_of ?_)
        exact WP.ret1 Try.results5 (fun _ h => h) (fun w hw => ⟨(), by first | rfl | exact congrArg Value.bool (decide_eq_true rfl), trivial, hw.sel [] (by decide)⟩)
set_option maxRecDepth 100000 in
theorem lawStill_ct (A : Option Addr) (c : Nat) (l : List FItem) (hm : l.length ≤ 9223372036854775807) :
    Ct Try.prog 8 #[.slice A l.length c] [] (fun w => RdE w A 5 FItem.enc l) (X := Unit) (fun _ => .bool true) (fun _ => True) (fun _ => []) := by
  refine Ct.intro Try.func8 rfl Try.ntmps8 (by simp) (fun w0 hz => ?_)
  refine WP.seq ?_
  refine WP.region ?_
  refine WPL.val (v_assign (v := .bool false) rfl) ?_
  refine WPL.nil (onto_of ?_)
  refine WP.seq ?_
  refine WP.region ?_
  refine WPL.ef (x_call Try.call15 works_ct [] [] rfl (fun w hw => trivial) (τ := fun _ => []) (fun _ => rfl)) (fun _ => ?_)
  refine WPL.fact (fun _ => ?_)
  refine WPL.val (v_assign (v := .bool _) rfl) ?_
  refine WPL.nil (onto_of ?_)
  refine WP.seq ?_
  refine WP.seq ?_
  refine WP.region ?_
  refine WPL.val (v_move (v := .bool _) rfl) ?_
  refine WPL.val (v_not rfl) ?_
  refine WPL.nil (onto_of ?_)
  refine WP.condF rfl ?_
  refine WP.skip (onto_of ?_)
  refine WP.seq ?_
  refine WP.seq ?_
  refine WP.region ?_
  refine WPL.val (v_move (v := .slice _ _ _) rfl) ?_
  refine WPL.val (v_len Try.underlying22 rfl) ?_
  refine WPL.val (v_gtr rfl rfl) ?_
  refine WPL.nil (onto_of ?_)
  refine WP.condP rfl (fun h14 => ?_) (fun h14 => ?_)
  ·
    refine WP.seq ?_
    refine WP.region ?_
    refine WPL.val (v_move (v := .bool _) rfl) ?_
    refine WPL.val (v_assign (v := .bool _) rfl) ?_
    refine WPL.nil (onto_of ?_)
    exact WP.ret1 Try.results8 (fun _ h => h) (fun w hw => ⟨(), by first | rfl | exact congrArg Value.bool (decide_eq_true rfl), trivial, hw.sel [] (by decide)⟩)
  ·
    refine WP.skip (onto_of ?_)
    refine WP.seq ?_
    refine WP.region ?_
    refine WPL.val (v_assign (v := .int .i64 (0)) rfl) ?_
    refine WPL.nil (onto_of ?_)
    refine WP.seq ?_
    refine WP.seq ?_
    refine WP.region ?_
    refine WPL.val (v_assign (v := .int .i64 (0)) rfl) ?_
    refine WPL.nil (onto_of ?_)
    refine WP.block ?_
    refine WP.loopK (X := Nat) [0, 3] (fun k => [(4, .int .i64 (tot l k)), (5, .int .i64 (k : Int))]) (fun k w => (k ≤ l.length ∧ ∀ (i : Nat) (x : FItem), i < k → l[i]? = some x → basic x = cl20 x.base) ∧ St w0 (foots []) [] w) (fun k => l.length - k) 0 ⟨by rw [tot_zero]; rfl, rfl, trivial⟩ (fun w hw => ⟨⟨by omega, fun i x h => absurd h (Nat.not_lt_zero i)⟩, hw.sel [] (by decide)⟩) (fun k ρ0 => ?_)
    refine WP.fact (fun ⟨hk, hal⟩ => ?_)
    refine WP.seq ?_
    refine WP.seq ?_
    refine WP.region ?_
    refine WPL.val (v_move (v := .int .i64 _) rfl) ?_
    refine WPL.val (v_move (v := .slice _ _ _) rfl) ?_
    refine WPL.val (v_len Try.underlying22 rfl) ?_
    refine WPL.val (v_lss rfl rfl) ?_
    refine WPL.nil (onto_of ?_)
    refine WP.condP rfl (fun h19 => ?_) (fun h19 => ?_)
    ·
      have hkl : k < l.length := by omega
      obtain ⟨x, hx⟩ : ∃ x, l[k]? = some x := ⟨_, List.getElem?_eq_getElem hkl⟩
      obtain ⟨b, o, rfl, hc⟩ := hz k x hx
      have hcb := cl20_bd x.base
      have htb := tot_bd l k
      refine WP.skip (onto_of ?_)
      refine WP.seq ?_
      refine WP.block ?_
      refine WP.seq ?_
      refine WP.region ?_
      refine WPL.val (v_move (v := .slice _ _ _) rfl) ?_
      refine WPL.val (v_move (v := .int .i64 _) rfl) ?_
      refine WPL.val (v_index Try.underlying22 Try.sizeOf28 rfl rfl rfl (by omega)) ?_
      refine WPL.val (v_field (off := 0) Try.underlying28 rfl Try.sizeOf3 rfl) ?_
      refine WPL.val (v_load1 (u := .int .i64 _) Try.isAgg3 rfl (fun w hw => hw.old_at (hc.one (j := 0) rfl (by omega)) (not_foots_nil _))) ?_
      refine WPL.val (v_max rfl rfl) ?_
      refine WPL.val (v_min rfl rfl) ?_
      rw [show min (max x.base 0) 1048576 = cl20 x.base by unfold cl20; omega]
      refine WPL.val (v_assign (v := .int .i64 _) rfl) ?_
      refine WPL.nil (onto_of ?_)
      refine WP.seq ?_
      refine WP.seq ?_
      refine WP.region ?_
      refine WPL.val (v_move (v := .slice _ _ _) rfl) ?_
      refine WPL.val (v_move (v := .int .i64 _) rfl) ?_
      refine WPL.val (v_index Try.underlying22 Try.sizeOf28 rfl rfl rfl (by omega)) ?_
      refine WPL.val (v_loadA (cs := [.int .i64 _, .int .i64 _, .int .i64 _, .int .i64 _, .int .i64 _]) Try.isAgg28 Try.sizeOf28 rfl (fun w hw => hw.old_at hc (not_foots_nil _))) ?_
      refine WPL.val (v_move (v := .int .i64 _) rfl) ?_
      refine WPL.ef (x_call Try.call17 (fit_ct x (cl20 x.base)) [] [] rfl (fun w hw => trivial) (τ := fun _ => []) (fun _ => rfl)) (fun _ => ?_)
      refine WPL.fact (fun _ => ?_)
      rw [show x.fit (cl20 x.base) = basic x from rfl]
      refine WPL.val (v_move (v := .int .i64 _) rfl) ?_
      refine WPL.val (v_neq rfl rfl) ?_
      refine WPL.nil (onto_of ?_)
      refine WP.condP rfl (fun h36 => ?_) (fun h36 => ?_)
      ·
        refine WP.seq ?_
        refine WP.region ?_
        refine WPL.val (v_move (v := .bool _) rfl) ?_
        refine WPL.val (v_assign (v := .bool _) rfl) ?_
        refine WPL.nil (onto_of ?_)
        exact WP.ret1 Try.results8 (fun _ h => h) (fun w hw => ⟨(), by first | rfl | exact congrArg Value.bool (decide_eq_true rfl), trivial, hw.sel [] (by decide)⟩)
      ·
        have hbx : basic x = cl20 x.base := by omega
        have hal2 : ∀ (i : Nat) (y : FItem), i < k + 1 → l[i]? = some y → basic y = cl20 y.base := fun i y hi hy => by
          by_cases e : i = k
          · rw [e, hx] at hy
            cases hy
            exact hbx
          · exact hal i y (by omega) hy
        refine WP.skip (onto_of ?_)
        refine WP.region ?_
        refine WPL.val (v_move (v := .int .i64 _) rfl) ?_
        refine WPL.val (v_move (v := .int .i64 _) rfl) ?_
        refine WPL.val (v_add rfl rfl (by omega)) ?_
        rw [show tot l k + cl20 x.base = tot l (k + 1) by rw [tot_succ l k x hx]; omega]
        refine WPL.val (v_assign (v := .int .i64 _) rfl) ?_
        refine WPL.nil (onto_of ?_)
        refine WP.region ?_
        refine WPL.val (v_move (v := .int .i64 _) rfl) ?_
        refine WPL.val (v_add rfl rfl (by omega)) ?_
        refine WPL.val (v_assign (v := .int .i64 _) rfl) ?_
        exact WPL.nil fun w hw => ⟨rfl, k + 1, (by omega), ⟨rfl, rfl, (via (.slice _ _ _) rfl rfl), (via (.bool _) rfl rfl), trivial⟩, ⟨by omega, hal2⟩, hw.sel [] (by decide)⟩
    ·
      obtain rfl : k = l.length := by omega
      have hall : ∀ (i : Nat) (x : FItem), l[i]? = some x → basic x = cl20 x.base := fun i x h => hal i x (List.getElem?_eq_some_iff.1 h).1 h
      refine WP.exit (onto_of ?_)
      refine WP.seq ?_
      refine WP.region ?_
      refine WPL.val (v_move (v := .slice _ _ _) rfl) ?_
      refine WPL.val (v_move (v := .int .i64 _) rfl) ?_
      refine WPL.ef (x_call Try.call20 (sizes_ct A c l (tot l l.length) (by omega)) [] [] rfl (fun w hw => hw.rd hz not_foots_nil) (τ := fun _ => [_]) (fun _ => rfl)) (fun ⟨A1, c1⟩ => ?_)
      refine WPL.fact (fun _ => ?_)
      rw [still_sizes (by omega) hall]
      refine WPL.val (v_assign (v := .slice _ _ _) rfl) ?_
      refine WPL.nil (onto_of ?_)
      refine WP.seq ?_
      refine WP.seq ?_
      refine WP.region ?_
      refine WPL.val (v_assign (v := .int .i64 (0)) rfl) ?_
      refine WPL.nil (onto_of ?_)
      refine WP.block ?_
      refine WP.loopK (X := Nat) [0, 3, 7] (fun k => [(8, .int .i64 (k : Int))]) (fun k w => k ≤ l.length ∧ St w0 (foots []) [.row 3 1 A1 l.length c1 ((l.map fun x => cl20 x.base).map (Value.int .i64))] w) (fun k => l.length - k) 0 ⟨rfl, trivial⟩ (fun w hw => ⟨by omega, hw.sel [0] (by decide)⟩) (fun k ρ0 => ?_)
      refine WP.fact (fun hk => ?_)
      refine WP.seq ?_
      refine WP.seq ?_
      refine WP.region ?_
      refine WPL.val (v_move (v := .int .i64 _) rfl) ?_
      refine WPL.val (v_move (v := .slice _ _ _) rfl) ?_
      refine WPL.val (v_len Try.underlying22 rfl) ?_
      refine WPL.val (v_lss rfl rfl) ?_
      refine WPL.nil (onto_of ?_)
      refine WP.condP rfl (fun h47 => ?_) (fun h47 => ?_)
      ·
        have hkl : k < l.length := by omega
        obtain ⟨x, hx⟩ : ∃ x, l[k]? = some x := ⟨_, List.getElem?_eq_getElem hkl⟩
        obtain ⟨b, o, rfl, hc⟩ := hz k x hx
        have hcb := cl20_bd x.base
        refine WP.holds (fun w hw => hw.row_pos (i := 0) rfl (by omega)) (fun ⟨sb, hA⟩ => ?_)
        subst hA
        refine WP.skip (onto_of ?_)
        refine WP.seq ?_
        refine WP.block ?_
        refine WP.seq ?_
        refine WP.drawS none [(0, true), (1, true), (2, true), (3, true), (4, true), (5, true), (6, true), (7, true), (8, true), (9, true), (10, true), (11, true)] mixed (by kernel_rfl) (by decide) (fun _ h => h.drawn) ?_
        refine WPD.take rfl (v_move (v := .slice _ _ _) rfl) ?_ (fun _ h => h)
        refine WPD.take rfl (v_move (v := .int .i64 _) rfl) ?_ (fun _ h => h)
        refine WPD.take rfl (v_index Try.underlying32 Try.sizeOf3 rfl rfl rfl (by omega)) ?_ (fun _ h => h)
        refine WPD.take rfl (v_load1 (u := .int .i64 _) Try.isAgg3 rfl (fun w hw => hw.row_at1 (i := 0) rfl (ints_at (map_at (fun x => cl20 x.base) hx rfl)) (by omega))) ?_ (fun _ h => h)
        refine WPD.take rfl (v_move (v := .slice _ _ _) rfl) ?_ (fun _ h => h)
        refine WPD.take rfl (v_move (v := .int .i64 _) rfl) ?_ (fun _ h => h)
        refine WPD.take rfl (v_index Try.underlying22 Try.sizeOf28 rfl rfl rfl (by omega)) ?_ (fun _ h => h)
        refine WPD.take rfl (v_field (off := 0) Try.underlying28 rfl Try.sizeOf3 rfl) ?_ (fun _ h => h)
        refine WPD.take rfl (v_load1 (u := .int .i64 _) Try.isAgg3 rfl (fun w hw => hw.old_at (hc.one (j := 0) rfl (by omega)) (not_foots_nil _))) ?_ (fun _ h => h)
        refine WPD.take rfl (v_max rfl rfl) ?_ (fun _ h => h)
        refine WPD.take rfl (v_min rfl rfl) ?_ (fun _ h => h)
        rw [show min (max x.base 0) 1048576 = cl20 x.base by unfold cl20; omega]
        refine WPD.take rfl (v_neq rfl rfl) ?_ (fun _ h => h)
        refine WPD.nil (onto_of ?_)
        refine WP.condP rfl (fun h61 => ?_) (fun h61 => ?_)
        ·
          exact absurd rfl h61
        ·
          refine WP.skip (onto_of ?_)
          refine WP.region ?_
          refine WPL.val (v_move (v := .int .i64 _) rfl) ?_
          refine WPL.val (v_add rfl rfl (by omega)) ?_
          refine WPL.val (v_assign (v := .int .i64 _) rfl) ?_
          exact WPL.nil fun w hw => ⟨rfl, k + 1, (by omega), ⟨rfl, (via (.slice _ _ _) rfl rfl), (via (.bool _) rfl rfl), (via (.slice _ _ _) rfl rfl), trivial⟩, by omega, hw⟩
      ·
        refine WP.exit (onto_of ?_)
        refine WP.seq ?_
        refine WP.region ?_
        refine WPL.val (v_move (v := .bool _) rfl) ?_
        refine WPL.val (v_move (v := .bool _) rfl) ?_
        refine WPL.valG (v_move (v := .slice _ _ _) rfl) ?_
        refine WPL.valG (v_len Try.underlying32 rfl) ?_
        refine WPL.valG (v_move (v := .slice _ _ _) rfl) ?_
        refine WPL.valG (v_len Try.underlying22 rfl) ?_
        refine WPL.valG (v_eql rfl rfl) ?_
        refine WPL.val (v_pickT (u := .bool _) rfl rfl) ?_
        refine WPL.val (v_assign (v := .bool _) rfl) ?_
        refine WPL.nil (onto_of ?_)
        exact WP.ret1 Try.results8 (fun _ h => h) (fun w hw => ⟨(), by first | rfl | exact congrArg Value.bool (decide_eq_true rfl), trivial, hw.sel [] (by decide)⟩)
end Go.Proofs.Ytabdcfobdehhiaa
