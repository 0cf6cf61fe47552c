/- flex's table: weights, round. -/
import Derived.Test.YtabdcfobdehhiaaFlexWalk
namespace Go.Proofs.Ytabdcfobdehhiaa
open Go.RowKit

abbrev intsI (A : Option Addr) (c : Nat) (l : List Int) : HI := .row 3 1 A l.length c (l.map (Value.int .i64))
abbrev intsV (A : Option Addr) (c : Nat) (l : List Int) : Value := .slice A l.length c
theorem intsI_snoc (A : Option Addr) (c : Nat) (l : List Int) (x : Int) : intsI A c (l ++ [x]) = .row 3 1 A (l.length + 1) c (l.map (Value.int .i64) ++ [.int .i64 x]) := by simp [intsI]
theorem intsV_snoc (A : Option Addr) (c : Nat) (l : List Int) (x : Int) : intsV A c (l ++ [x]) = .slice A (l.length + 1) c := by simp [intsV]

theorem weights_ct (t : Nat) (A : Option Addr) (cap : Nat) (room : Int) (g : Bool) (es : List FE) (hok : oks es) (hl : es.length ≤ 64) :
    Ct Try.prog 60 #[.pointer (some ⟨t, 0, none⟩)] [tblI t A es.length cap room g, entI A es.length cap es] (fun _ => True) (X := Option Addr × Nat) (fun p => intsV p.1 p.2 (wts g es es.length)) (fun _ => True)
      (fun p => [tblI t A es.length cap room g, entI A es.length cap es, intsI p.1 p.2 (wts g es es.length)]) := by
  refine Ct.intro Try.func60 rfl Try.ntmps60 (by simp) (fun w0 _ => ?_)
  refine WP.seq ?_
  refine WP.region ?_
  refine WPL.ef (x_box1 (u := .pointer _) (σ' := fun _ => [_, _, _]) rfl (fun _ => rfl)) (fun b1 => ?_)
  refine WPL.val (v_assign (v := .slice none 0 0) rfl) ?_
  refine WPL.nil (onto_of ?_)
  refine WP.seq ?_
  refine WP.region ?_
  refine WPL.ef (x_alloc (us := [_]) (σ' := fun _ => [_, _, _, _]) Try.zeroValue32 rfl (fun _ => rfl)) (fun b3 => ?_)
  refine WPL.nil (onto_of ?_)
  refine WP.seq ?_
  refine WP.seq ?_
  refine WP.region ?_
  refine WPL.val (v_load1 (u := .pointer _) Try.isAgg68 rfl (fun w hw => hw.cl_at (i := 2) rfl _ rfl)) ?_
  refine WPL.val (v_func) ?_
  refine WPL.nil (onto_of ?_)
  refine WP.block ?_
  refine WP.pre ?_ (fun w hw => hw.nilRow 3 1)
  refine WP.rangeFunc (gf := 62) (first := [.pointer (some ⟨t, 0, none⟩)]) (cap := []) rfl Try.call62 (X := Option Addr × Nat) (Fin := fun x => True) (τ := fun x => [tblI t A es.length cap room g, entI A es.length cap es, .cl b1 68 [.pointer (some ⟨t, 0, none⟩)], .cl b3 32 [intsV x.1 x.2 (wts g es es.length)], intsI x.1 x.2 (wts g es es.length)]) ?_ ?_
  · intro kk l D hps has hbd hfr w hw
    refine (open_it (X := Nat × Option Addr × Nat) (fun _ => es) (fun x => [.cl b1 68 [.pointer (some ⟨t, 0, none⟩)], .cl b3 32 [intsV x.2.1 x.2.2 (wts g es x.1)], intsI x.2.1 x.2.2 (wts g es x.1), lp l kk .ready none, dfr D]) (fun j x => x.1 = j) hl (fun _ _ _ => rfl) ?_ (0, none, 0) rfl w hw ?_).mono (by
      rintro e w' ⟨hv, x, hx, h⟩
      have hx : x.1 = es.length := hx
      simp only [hx] at h
      exact ⟨hv, x.2, trivial, h⟩)
    · intro j x e hx he hf
      have he : es[j]? = some e := he
      subst hx
      exact ⟨(x.1 + 1, x.2), rfl, fun w hw => by simp only [wts_shut (g := g) he hf]; exact hw⟩
    intro j x e b hx he hf hA
    have he : es[j]? = some e := he
    subst hA hx
    have ho := hok _ _ he
    have hwb := wt_bd ho g
    have hwl : (wts g es x.1).length ≤ x.1 := by rw [kth_wts]; exact kth_le es _
    have hxl := (List.getElem?_eq_some_iff.1 he).1
    refine Yld.intro hps has hbd hfr (i := 5) rfl rfl (by decide) ?_
    refine WP.region ?_
    refine WPL.val (v_assign (v := .pointer _) rfl) ?_
    refine WPL.nil (begun_of (i := 5) rfl ?_)
    refine WP.block ?_
    refine WP.seq ?_
    refine WP.drawSel none [0, 1, 2, 3, 4, 5, 6] [(0, true), (1, true), (2, true), (3, true), (4, false), (5, true)] mixed (by kernel_rfl) (by decide) ?_
    refine WPD.take rfl (v_load1 (u := .pointer _) Try.isAgg68 rfl (fun w hw => hw.cl_at (i := 2) rfl _ rfl)) ?_ (fun _ h => h.sel [0, 1, 2, 3, 4, 5, 6] (by decide))
    refine WPD.take rfl (v_move (v := .pointer _) rfl) ?_ (fun _ h => h.sel [0, 1, 2, 3, 4, 5, 6] (by decide))
    refine WPD.take rfl (v_nil rfl) ?_ (fun _ h => h.sel [0, 1, 2, 3, 4, 5, 6] (by decide))
    refine WPD.take rfl (v_loadA (cs := [.int .i64 _, .int .i64 _, .int .i64 _, .int .i64 _, .int .i64 _, .int .i64 _, .bool _]) Try.isAgg74 Try.sizeOf74 rfl (fun w hw => hw.row_at (i := 1) rfl _ (fun j u hu => by rw [Nat.zero_add]; exact flat_at FE.enc 7 (fun _ => rfl) es x.1 j e u he hu))) ?_ (fun _ h => h.sel [0, 1, 2, 3, 4, 5, 6] (by decide))
    refine WPD.ef rfl (x_call Try.call59 (factor_ct t _ es.length cap room g e) [0] [1, 2, 3, 4, 5, 6] rfl (fun w hw => trivial) (τ := fun _ => [_, _, _, _, _, _, _]) (fun _ => rfl)) (fun _ _ _ h => h.2.sel [6, 0, 1, 2, 3, 4, 5] (by decide)) (fun _ => ?_)
    refine WPD.fact (fun _ => ?_)
    refine WPD.take rfl (v_assign (v := .int .i64 _) rfl) ?_ (fun _ h => h.sel [6, 0, 1, 2, 3, 4, 5] (by decide))
    refine WPD.nil (onto_of ?_)
    refine WP.seq ?_
    refine WP.seq ?_
    refine WP.region ?_
    refine WPL.val (v_load1 (u := .pointer _) Try.isAgg68 rfl (fun w hw => hw.cl_at (i := 1) rfl _ rfl)) ?_
    refine WPL.val (v_nil rfl) ?_
    refine WPL.val (v_fieldL (o' := 2) Try.underlying72 rfl Try.sizeOf4 rfl rfl) ?_
    refine WPL.val (v_load1 (u := .bool _) Try.isAgg4 rfl (fun w hw => hw.cl_at (i := 6) rfl _ rfl)) ?_
    refine WPL.val (v_not rfl) ?_
    refine WPL.nil (onto_of ?_)
    refine WP.cond rfl (fun h18 => ?_) (fun h18 => ?_)
    ·
      have hgf : g = false := by simpa using h18
      have hm : fct g e * e.it.base = wt g e := by simp [fct, wt, hgf]
      refine WP.region ?_
      refine WPL.val (v_move (v := .int .i64 _) rfl) ?_
      refine WPL.val (v_move (v := .pointer _) rfl) ?_
      refine WPL.val (v_nil rfl) ?_
      refine WPL.val (v_field (off := 0) Try.underlying74 rfl Try.sizeOf28 rfl) ?_
      refine WPL.val (v_field (off := 0) Try.underlying28 rfl Try.sizeOf3 rfl) ?_
      refine WPL.val (v_load1 (u := .int .i64 _) Try.isAgg3 rfl (fun w hw => hw.row_at1 (i := 0) rfl (flat_at FE.enc 7 (fun _ => rfl) es x.1 0 e _ he rfl) (by omega))) ?_
      refine WPL.val (v_mul rfl rfl (by rw [hm]; omega)) ?_
      rw [hm]
      refine WPL.val (v_assign (v := .int .i64 _) rfl) ?_
      refine WPL.nil (onto_of ?_)
      refine WP.region ?_
      refine WPL.val (v_load1 (u := .slice _ _ _) Try.isAgg32 rfl (fun w hw => hw.cl_at (i := 2) rfl _ rfl)) ?_
      refine WPL.val (v_move (v := .int .i64 _) rfl) ?_
      refine WPL.ef (x_buildSlice (us := [.int .i64 _]) (σ' := fun _ => [_, _, _, _, _, _, _, _]) Try.underlying32 Try.sizeOf3 Try.zeroValue3 rfl rfl rfl (by decide) (by decide) (fun _ => rfl)) (fun g28 => ?_)
      refine WPL.ef (x_append (sz := 1) (σ' := fun _ => [_, _, _, _, _, _, _, _]) Try.underlying32 int_info rfl (by decide) rfl rfl (i := 3) rfl (fun w hw => hw.src_row (i := 7) rfl) rfl (by simp [Value.oneCell']) (by omega) (by omega) (fun _ => rfl)) (fun ⟨A29, c29⟩ => ?_)
      refine WPL.ef0 (x_store (u := .slice _ _ _) (σ' := [_, _, .cl _ _ [_], _, _, _, _, _]) Try.sizeOf32 rfl rfl (i := 2) rfl (Nat.lt_of_lt_of_le (Nat.lt_succ_self _) (Nat.le_of_ble_eq_true rfl)) rfl) (fun _ => ?_)
      exact WPL.nil fun w hw => RoundQ.normal (i := 5) rfl (hw.sel [6, 0, 1, 2, 3, 4, 5] (by decide)) (fun w' hw' => ⟨(x.1 + 1, A29, c29), rfl, rfl, by
        simp only [wts_open (g := g) he hf, intsI_snoc, intsV_snoc]
        exact hw'⟩)
    ·
      have hgt : g = true := by simpa using h18
      rw [show fct g e = wt g e by simp [fct, wt, hgt]]
      refine WP.skip (onto_of ?_)
      refine WP.region ?_
      refine WPL.val (v_load1 (u := .slice _ _ _) Try.isAgg32 rfl (fun w hw => hw.cl_at (i := 2) rfl _ rfl)) ?_
      refine WPL.val (v_move (v := .int .i64 _) rfl) ?_
      refine WPL.ef (x_buildSlice (us := [.int .i64 _]) (σ' := fun _ => [_, _, _, _, _, _, _, _]) Try.underlying32 Try.sizeOf3 Try.zeroValue3 rfl rfl rfl (by decide) (by decide) (fun _ => rfl)) (fun g28 => ?_)
      refine WPL.ef (x_append (sz := 1) (σ' := fun _ => [_, _, _, _, _, _, _, _]) Try.underlying32 int_info rfl (by decide) rfl rfl (i := 3) rfl (fun w hw => hw.src_row (i := 7) rfl) rfl (by simp [Value.oneCell']) (by omega) (by omega) (fun _ => rfl)) (fun ⟨A29, c29⟩ => ?_)
      refine WPL.ef0 (x_store (u := .slice _ _ _) (σ' := [_, _, .cl _ _ [_], _, _, _, _, _]) Try.sizeOf32 rfl rfl (i := 2) rfl (Nat.lt_of_lt_of_le (Nat.lt_succ_self _) (Nat.le_of_ble_eq_true rfl)) rfl) (fun _ => ?_)
      exact WPL.nil fun w hw => RoundQ.normal (i := 5) rfl (hw.sel [6, 0, 1, 2, 3, 4, 5] (by decide)) (fun w' hw' => ⟨(x.1 + 1, A29, c29), rfl, rfl, by
        simp only [wts_open (g := g) he hf, intsI_snoc, intsV_snoc]
        exact hw'⟩)
  · intro D x hx
    refine id (onto_of ?_)
    refine WP.seq ?_
    refine WP.region ?_
    refine WPL.val (v_load1 (u := .slice _ _ _) Try.isAgg32 rfl (fun w hw => hw.cl_at (i := 3) rfl _ rfl)) ?_
    refine WPL.val (v_assign (v := .slice _ _ _) rfl) ?_
    refine WPL.nil (onto_of ?_)
    exact WP.retM [D] (τ := [_, _, _]) (fun w hw => (hw.sel [0, 1, 4, 5] (by decide))) (fun _ h => h) (fun w hw => RetQ.of1 Try.results60 (.inl rfl) ⟨x, rfl, trivial, hw⟩)

theorem upto_at {α : Type} (f : Nat → α → α) (l : List α) (i : Nat) : (upto f l i)[i]? = l[i]? := by
  simp only [upto, List.getElem?_mapIdx]
  cases l[i]? with
  | none => rfl
  | some x => simp
def frozz (g : Bool) (room : Int) (es : List FE) (i : Nat) (e : FE) : FE := if e.fr then e else { e with fr := judge (moreTo g room es es.length) (e.size - want g room es i e) }
theorem frozz_all (g : Bool) (room : Int) (es : List FE) : upto (frozz g room es) (upto (sized g room es) es es.length) es.length = round g room es := by
  rw [upto_all _ _ (by rw [upto_length]; omega), upto_all _ _ (by omega)]
  apply List.ext_getElem?
  intro i
  simp only [round, List.getElem?_mapIdx]
  cases es[i]? with
  | none => rfl
  | some e =>
    simp only [Option.map_some]
    congr 1
    cases hf : e.fr with
    | true => simp [sized, froze, frozz, hf]
    | false => simp [sized, froze, frozz, hf, gap, want]
theorem ints_at {l : List Int} {k : Nat} {x : Int} (h : l[k]? = some x) : (l.map (Value.int .i64))[k]? = some (.int .i64 x) := by rw [List.getElem?_map, h]; rfl
theorem flat_len (l : List FE) (f : Nat → FE → FE) (i : Nat) : ((upto f l i).flatMap FE.enc).length = l.length * 7 := by
  have h : ∀ l : List FE, (l.flatMap FE.enc).length = l.length * 7 := fun l => by
    induction l with
    | nil => rfl
    | cons a l ih => simp [ih]; omega
  rw [h, upto_length]
theorem item_cell {e : FE} {j : Nat} {u : Value} (h : ([.int .i64 e.it.base, .int .i64 e.it.low, .int .i64 e.it.high, .int .i64 e.it.grow, .int .i64 e.it.shrink] : List Value)[j]? = some u) : e.enc[j]? = some u := by
  have hj := (List.getElem?_eq_some_iff.1 h).1
  match j, h with
  | 0, h => exact h
  | 1, h => exact h
  | 2, h => exact h
  | 3, h => exact h
  | 4, h => exact h
  | j + 5, h => simp at h
theorem sized_at {g : Bool} {room : Int} {es : List FE} {i : Nat} {e : FE} (h : (upto (sized g room es) es es.length)[i]? = some e) (hf : e.fr = false) : ∃ e0, es[i]? = some e0 ∧ e0.fr = false ∧ e = sized g room es i e0 := by
  cases he : es[i]? with
  | none => rw [List.getElem?_eq_none (by rw [upto_length]; exact List.getElem?_eq_none_iff.1 he)] at h; cases h
  | some e0 =>
    rw [upto_get _ _ _ he, if_pos (List.getElem?_eq_some_iff.1 he).1] at h
    cases h
    refine ⟨e0, rfl, ?_, rfl⟩
    cases h0 : e0.fr with
    | true => simp [sized, h0] at hf
    | false => rfl
theorem sized_shut {g : Bool} {room : Int} {es : List FE} {i : Nat} {e : FE} (h : (upto (sized g room es) es es.length)[i]? = some e) (hf : e.fr = true) : ∃ e0, es[i]? = some e0 ∧ e0.fr = true := by
  cases he : es[i]? with
  | none => rw [List.getElem?_eq_none (by rw [upto_length]; exact List.getElem?_eq_none_iff.1 he)] at h; cases h
  | some e0 =>
    rw [upto_get _ _ _ he, if_pos (List.getElem?_eq_some_iff.1 he).1] at h
    cases h
    refine ⟨e0, rfl, ?_⟩
    cases h0 : e0.fr with
    | true => rfl
    | false => simp [sized, h0] at hf
theorem judge_of {c : Bool} {m b : Int} (h : c = true ↔ (m = 0 ∨ (0 < m ∧ 0 < b) ∨ (m < 0 ∧ b < 0))) : c = judge m b := by
  have h2 : judge m b = true ↔ (m = 0 ∨ (0 < m ∧ 0 < b) ∨ (m < 0 ∧ b < 0)) := by simp [judge, or_assoc]
  rw [Bool.eq_iff_iff, h, h2]
theorem sized_cell (g : Bool) (room : Int) (es : List FE) (i : Nat) (e : FE) (hf : e.fr = false) : e.enc.set 5 (.int .i64 (e.it.fit (want g room es i e))) = (sized g room es i e).enc := by simp [sized, hf]
theorem frozz_cell {g : Bool} {room : Int} {es : List FE} {i : Nat} {e : FE} {c : Bool} (hf : e.fr = false) (hc : c = judge (moreTo g room es es.length) (e.size - want g room es i e)) : e.enc.set 6 (.bool c) = (frozz g room es i e).enc := by simp [frozz, hf, hc]
theorem want_t {g : Bool} {room : Int} {es : List FE} {i : Nat} {e : FE} (h : g = true) : e.it.base + (parts g room es).getD (kth es i) 0 = want g room es i e := by subst h; simp [want, sg]
theorem want_f {g : Bool} {room : Int} {es : List FE} {i : Nat} {e : FE} (h : g = false) : e.it.base - (parts g room es).getD (kth es i) 0 = want g room es i e := by subst h; simp only [want, sg, Bool.false_eq_true, if_false]; omega

theorem round_ct (t : Nat) (A : Option Addr) (cap : Nat) (room : Int) (g : Bool) (es : List FE) (hok : oks es) (hl : es.length ≤ 64) (hr : 0 ≤ room ∧ room ≤ 67108864) :
    Ct Try.prog 34 #[.pointer (some ⟨t, 0, none⟩)] [tblI t A es.length cap room g, entI A es.length cap es] (fun _ => True) (X := Unit) (fun _ => .bool (decide ((0 : Int) < (wts g es es.length).length))) (fun _ => True)
      (fun _ => [tblI t A es.length cap room g, entI A es.length cap (round g room es)]) := by
  refine Ct.intro Try.func34 rfl Try.ntmps34 (by simp) (fun w0 _ => ?_)
  refine WP.seq ?_
  refine WP.region ?_
  refine WPL.ef (x_box1 (u := .pointer _) (σ' := fun _ => [_, _, _]) rfl (fun _ => rfl)) (fun b1 => ?_)
  refine WPL.val (v_assign (v := .bool false) rfl) ?_
  refine WPL.nil (onto_of ?_)
  refine WP.seq ?_
  refine WP.region ?_
  refine WPL.val (v_load1 (u := .pointer _) Try.isAgg68 rfl (fun w hw => hw.cl_at (i := 2) rfl _ rfl)) ?_
  refine WPL.ef (x_call Try.call60 (weights_ct t A cap room g es hok hl) [0, 1] [2] rfl (fun w hw => trivial) (τ := fun _ => [_, _, _, _]) (fun _ => rfl)) (fun ⟨WA, wc⟩ => ?_)
  refine WPL.fact (fun _ => ?_)
  refine WPL.val (v_assign (v := .slice _ _ _) rfl) ?_
  refine WPL.nil (onto_of ?_)
  refine WP.seq ?_
  refine WP.region ?_
  refine WPL.val (v_load1 (u := .pointer _) Try.isAgg68 rfl (fun w hw => hw.cl_at (i := 0) rfl _ rfl)) ?_
  refine WPL.ef (x_call Try.call61 (free_ct t A cap room g es hok hl hr) [1, 2] [0, 3] rfl (fun w hw => trivial) (τ := fun _ => [_, _, _, _]) (fun _ => rfl)) (fun _ => ?_)
  refine WPL.fact (fun _ => ?_)
  refine WPL.val (v_move (v := .slice _ _ _) rfl) ?_
  refine WPL.ef (x_call Try.call22 (share_ct WA wc (fre g room es) (wts g es es.length) (by rw [kth_wts]; exact Nat.le_trans (kth_le es _) hl)) [] [0, 1, 2, 3] rfl (fun w hw => hw.rd_row1 (i := 1) rfl) (τ := fun _ => [_, _, _, _, _]) (fun _ => rfl)) (fun ⟨P, pc⟩ => ?_)
  refine WPL.fact (fun _ => ?_)
  refine WPL.ef (x_alloc (us := [_]) (σ' := fun _ => [_, _, _, _, _, _]) Try.zeroValue32 rfl (fun _ => rfl)) (fun b4 => ?_)
  refine WPL.ef0 (x_store (u := .slice _ _ _) (σ' := [_, _, _, _, _, .cl _ _ [_]]) Try.sizeOf32 rfl rfl (i := 5) rfl (Nat.lt_of_lt_of_le (Nat.lt_succ_self _) (Nat.le_of_ble_eq_true rfl)) rfl) (fun _ => ?_)
  refine WPL.nil (onto_of ?_)
  refine WP.seq ?_
  refine WP.region ?_
  refine WPL.ef (x_alloc (us := [_]) (σ' := fun _ => [_, _, _, _, _, _, _]) Try.zeroValue32 rfl (fun _ => rfl)) (fun b5 => ?_)
  refine WPL.nil (onto_of ?_)
  refine WP.seq ?_
  refine WP.region ?_
  refine WPL.ef (x_alloc (us := [_]) (σ' := fun _ => [_, _, _, _, _, _, _, _]) Try.zeroValue3 rfl (fun _ => rfl)) (fun b6 => ?_)
  refine WPL.ef (x_alloc (us := [_]) (σ' := fun _ => [_, _, _, _, _, _, _, _, _]) Try.zeroValue3 rfl (fun _ => rfl)) (fun b7 => ?_)
  refine WPL.ef0 (x_store (u := .int .i64 _) (σ' := [_, _, _, _, _, _, _, .cl _ _ [_], _]) Try.sizeOf3 rfl rfl (i := 7) rfl (Nat.lt_of_lt_of_le (Nat.lt_succ_self _) (Nat.le_of_ble_eq_true rfl)) rfl) (fun _ => ?_)
  refine WPL.ef0 (x_store (u := .int .i64 _) (σ' := [_, _, _, _, _, _, _, _, .cl _ _ [_]]) Try.sizeOf3 rfl rfl (i := 8) rfl (Nat.lt_of_lt_of_le (Nat.lt_succ_self _) (Nat.le_of_ble_eq_true rfl)) rfl) (fun _ => ?_)
  refine WPL.nil (onto_of ?_)
  refine WP.seq ?_
  refine WP.seq ?_
  refine WP.region ?_
  refine WPL.val (v_load1 (u := .pointer _) Try.isAgg68 rfl (fun w hw => hw.cl_at (i := 0) rfl _ rfl)) ?_
  refine WPL.val (v_func) ?_
  refine WPL.nil (onto_of ?_)
  refine WP.block ?_
  refine WP.pre ?_ (fun w hw => ((hw.sel [2, 3, 0, 5, 4, 6, 7, 8] (by decide))).nilRow 3 1)
  refine WP.rangeFunc (gf := 62) (first := [.pointer (some ⟨t, 0, none⟩)]) (cap := []) rfl Try.call62 (X := Option Addr × Nat) (Fin := fun x => True) (τ := fun x => [tblI t A es.length cap room g, entI A es.length cap (upto (sized g room es) es es.length), .cl b1 68 [.pointer (some ⟨t, 0, none⟩)], .cl b4 32 [.slice P (wts g es es.length).length pc], .row 3 1 P (wts g es es.length).length pc ((parts g room es).map (Value.int .i64)), .cl b5 32 [intsV x.1 x.2 (wtd g room es es.length)], .cl b6 3 [.int .i64 ((kth es es.length : Nat) : Int)], .cl b7 3 [.int .i64 (moreTo g room es es.length)], intsI x.1 x.2 (wtd g room es es.length)]) ?_ ?_
  · intro kk l D hps has hbd hfr w hw
    refine (open_it (X := Nat × Option Addr × Nat) (fun x => upto (sized g room es) es x.1) (fun x => [.cl b1 68 [.pointer (some ⟨t, 0, none⟩)], .cl b4 32 [.slice P (wts g es es.length).length pc], .row 3 1 P (wts g es es.length).length pc ((parts g room es).map (Value.int .i64)), .cl b5 32 [intsV x.2.1 x.2.2 (wtd g room es x.1)], .cl b6 3 [.int .i64 ((kth es x.1 : Nat) : Int)], .cl b7 3 [.int .i64 (moreTo g room es x.1)], intsI x.2.1 x.2.2 (wtd g room es x.1), lp l kk .ready none, dfr D]) (fun j x => x.1 = j) hl (fun _ _ _ => upto_length _ _ _) ?_ (0, none, 0) rfl w (by simp only [upto_zero]; exact hw) ?_).mono (by
      rintro e w' ⟨hv, x, hx, h⟩
      have hx : x.1 = es.length := hx
      simp only [hx] at h
      exact ⟨hv, x.2, trivial, h⟩)
    · intro j x e hx he hf
      subst hx
      rw [upto_at] at he
      exact ⟨(x.1 + 1, x.2), rfl, fun w hw => by simp only [wtd_shut (g := g) (room := room) he hf, kth_shut he hf, more_shut (g := g) (room := room) he hf, upto_skip (sized g room es) es x.1 he (by simp [sized, hf])]; exact hw⟩
    intro j x e b hx he hf hA
    subst hA hx
    have he1 := he
    rw [upto_at] at he
    have ho := hok _ _ he
    have hwl : (wtd g room es x.1).length ≤ x.1 := by rw [kth_wtd]; exact kth_le es _
    have hxl := (List.getElem?_eq_some_iff.1 he).1
    have hkl := kth_lt he hf
    have hkx := kth_le es x.1
    have hpl := kth_wts g es es.length
    have hpb : 0 ≤ (parts g room es).getD (kth es x.1) 0 ∧ (parts g room es).getD (kth es x.1) 0 ≤ 67108864 := share_bd (fre g room es) (wts g es es.length) (kth es x.1)
    have hwb := want_bd (g := g) (room := room) hok he
    have hgb := gap_bd (g := g) (room := room) hok he
    have hmb := more_bd (g := g) (room := room) hok x.1
    have hpg := parts_get (g := g) (room := room) he hf
    unfold gap at hgb
    have ho1 := ho
    unfold FE.ok at ho1
    refine Yld.intro hps has hbd hfr (i := 9) rfl rfl (by decide) ?_
    refine WP.region ?_
    refine WPL.val (v_assign (v := .pointer _) rfl) ?_
    refine WPL.nil (begun_of (i := 9) rfl ?_)
    refine WP.holds (fun w hw => hw.row_pos (i := 4) rfl (by omega)) (fun ⟨pb, hP⟩ => ?_)
    subst hP
    refine WP.block ?_
    refine WP.seq ?_
    refine WP.drawS none [(0, true), (1, true), (2, true), (3, true), (4, true), (5, true), (6, true), (7, true), (8, true), (9, true), (10, true)] mixed (by kernel_rfl) (by decide) (fun _ h => h.drawn) ?_
    refine WPD.take rfl (v_move (v := .pointer _) rfl) ?_ (fun _ h => h)
    refine WPD.take rfl (v_nil rfl) ?_ (fun _ h => h)
    refine WPD.take rfl (v_field (off := 0) Try.underlying74 rfl Try.sizeOf28 rfl) ?_ (fun _ h => h)
    refine WPD.take rfl (v_field (off := 0) Try.underlying28 rfl Try.sizeOf3 rfl) ?_ (fun _ h => h)
    refine WPD.take rfl (v_load1 (u := .int .i64 _) Try.isAgg3 rfl (fun w hw => hw.row_at1 (i := 1) rfl (flat_at FE.enc 7 (fun _ => rfl) _ x.1 0 e _ he1 rfl) (by omega))) ?_ (fun _ h => h)
    refine WPD.take rfl (v_load1 (u := .slice _ _ _) Try.isAgg32 rfl (fun w hw => hw.cl_at (i := 3) rfl _ rfl)) ?_ (fun _ h => h)
    refine WPD.take rfl (v_load1 (u := .int .i64 _) Try.isAgg3 rfl (fun w hw => hw.cl_at (i := 6) rfl _ rfl)) ?_ (fun _ h => h)
    refine WPD.take rfl (v_index (j := kth es x.1) Try.underlying32 Try.sizeOf3 rfl rfl (by omega) (by omega)) ?_ (fun _ h => h)
    refine WPD.take rfl (v_load1 (u := .int .i64 _) Try.isAgg3 rfl (fun w hw => hw.row_at1 (i := 4) rfl (ints_at hpg) (by omega))) ?_ (fun _ h => h)
    refine WPD.take rfl (v_sub rfl rfl (by omega)) ?_ (fun _ h => h)
    refine WPD.take rfl (v_assign (v := .int .i64 _) rfl) ?_ (fun _ h => h)
    refine WPD.nil (onto_of ?_)
    refine WP.seq ?_
    refine WP.seq ?_
    refine WP.region ?_
    refine WPL.val (v_load1 (u := .pointer _) Try.isAgg68 rfl (fun w hw => hw.cl_at (i := 2) rfl _ rfl)) ?_
    refine WPL.val (v_nil rfl) ?_
    refine WPL.val (v_fieldL (o' := 2) Try.underlying72 rfl Try.sizeOf4 rfl rfl) ?_
    refine WPL.val (v_load1 (u := .bool _) Try.isAgg4 rfl (fun w hw => hw.cl_at (i := 0) rfl _ rfl)) ?_
    refine WPL.nil (onto_of ?_)
    refine WP.cond rfl (fun h34 => ?_) (fun h34 => ?_)
    ·
      have hm := want_t (room := room) (es := es) (i := x.1) (e := e) h34
      refine WP.drawS none [(0, true), (1, true), (2, true), (3, true), (4, true), (5, true), (6, true), (7, true), (8, true), (9, true), (10, true)] mixed (by kernel_rfl) (by decide) (fun _ h => h.drawn) ?_
      refine WPD.take rfl (v_move (v := .pointer _) rfl) ?_ (fun _ h => h)
      refine WPD.take rfl (v_nil rfl) ?_ (fun _ h => h)
      refine WPD.take rfl (v_field (off := 0) Try.underlying74 rfl Try.sizeOf28 rfl) ?_ (fun _ h => h)
      refine WPD.take rfl (v_field (off := 0) Try.underlying28 rfl Try.sizeOf3 rfl) ?_ (fun _ h => h)
      refine WPD.take rfl (v_load1 (u := .int .i64 _) Try.isAgg3 rfl (fun w hw => hw.row_at1 (i := 1) rfl (flat_at FE.enc 7 (fun _ => rfl) _ x.1 0 e _ he1 rfl) (by omega))) ?_ (fun _ h => h)
      refine WPD.take rfl (v_load1 (u := .slice _ _ _) Try.isAgg32 rfl (fun w hw => hw.cl_at (i := 3) rfl _ rfl)) ?_ (fun _ h => h)
      refine WPD.take rfl (v_load1 (u := .int .i64 _) Try.isAgg3 rfl (fun w hw => hw.cl_at (i := 6) rfl _ rfl)) ?_ (fun _ h => h)
      refine WPD.take rfl (v_index (j := kth es x.1) Try.underlying32 Try.sizeOf3 rfl rfl (by omega) (by omega)) ?_ (fun _ h => h)
      refine WPD.take rfl (v_load1 (u := .int .i64 _) Try.isAgg3 rfl (fun w hw => hw.row_at1 (i := 4) rfl (ints_at hpg) (by omega))) ?_ (fun _ h => h)
      refine WPD.take rfl (v_add rfl rfl (by omega)) ?_ (fun _ h => h)
      rw [hm]
      refine WPD.take rfl (v_assign (v := .int .i64 _) rfl) ?_ (fun _ h => h)
      refine WPD.nil (onto_of ?_)
      refine WP.seq ?_
      refine WP.region ?_
      refine WPL.val (v_load1 (u := .int .i64 _) Try.isAgg3 rfl (fun w hw => hw.cl_at (i := 6) rfl _ rfl)) ?_
      refine WPL.val (v_add rfl rfl (by omega)) ?_
      refine WPL.ef0 (x_store (u := .int .i64 _) (σ' := [_, _, _, _, _, _, .cl _ _ [_], _, _, _, _]) Try.sizeOf3 rfl rfl (i := 6) rfl (Nat.lt_of_lt_of_le (Nat.lt_succ_self _) (Nat.le_of_ble_eq_true rfl)) rfl) (fun _ => ?_)
      refine WPL.nil (onto_of ?_)
      refine WP.seq ?_
      refine WP.region ?_
      refine WPL.val (v_move (v := .pointer _) rfl) ?_
      refine WPL.val (v_move (v := .pointer _) rfl) ?_
      refine WPL.val (v_nil rfl) ?_
      refine WPL.val (v_field (off := 0) Try.underlying74 rfl Try.sizeOf28 rfl) ?_
      refine WPL.val (v_loadA (cs := [.int .i64 _, .int .i64 _, .int .i64 _, .int .i64 _, .int .i64 _]) Try.isAgg28 Try.sizeOf28 rfl (fun w hw => hw.row_at (i := 1) rfl _ (fun j u hu => by rw [Nat.zero_add]; exact flat_at FE.enc 7 (fun _ => rfl) _ x.1 j e u he1 (item_cell hu)))) ?_
      refine WPL.val (v_move (v := .int .i64 _) rfl) ?_
      refine WPL.ef (x_call Try.call17 (fit_ct e.it (want g room es x.1 e)) [] [0, 1, 2, 3, 4, 5, 6, 7, 8, 9, 10] rfl (fun w hw => trivial) (τ := fun _ => [_, _, _, _, _, _, _, _, _, _, _]) (fun _ => rfl)) (fun _ => ?_)
      refine WPL.fact (fun _ => ?_)
      refine WPL.val (v_nil rfl) ?_
      refine WPL.val (v_field (off := 5) Try.underlying74 rfl Try.sizeOf3 rfl) ?_
      refine WPL.ef0 (x_storeRow' (u := .int .i64 _) (xs' := (upto (sized g room es) es (x.1 + 1)).flatMap FE.enc) (σ' := [_, _, _, _, _, _, _, _, _, _, _]) Try.sizeOf3 rfl rfl (i := 1) rfl (by rw [flat_len]; omega) (by rw [Nat.zero_add, flat_set FE.enc 7 (fun _ => rfl) _ x.1 5 e (sized g room es x.1 e) _ he1 (by decide) (sized_cell g room es x.1 e hf), upto_succ _ _ _ he]) rfl) (fun _ => ?_)
      refine WPL.nil (onto_of ?_)
      refine WP.seq ?_
      refine WP.region ?_
      refine WPL.val (v_load1 (u := .slice _ _ _) Try.isAgg32 rfl (fun w hw => hw.cl_at (i := 5) rfl _ rfl)) ?_
      refine WPL.val (v_move (v := .int .i64 _) rfl) ?_
      refine WPL.ef (x_buildSlice (us := [.int .i64 _]) (σ' := fun _ => [_, _, _, _, _, _, _, _, _, _, _, _]) Try.underlying32 Try.sizeOf3 Try.zeroValue3 rfl rfl rfl (by decide) (by decide) (fun _ => rfl)) (fun g58 => ?_)
      refine WPL.ef (x_append (sz := 1) (σ' := fun _ => [_, _, _, _, _, _, _, _, _, _, _, _]) Try.underlying32 int_info rfl (by decide) rfl rfl (i := 8) rfl (fun w hw => hw.src_row (i := 11) rfl) rfl (by simp [Value.oneCell']) (by omega) (by omega) (fun _ => rfl)) (fun ⟨A59, c59⟩ => ?_)
      refine WPL.ef0 (x_store (u := .slice _ _ _) (σ' := [_, _, _, _, _, .cl _ _ [_], _, _, _, _, _, _]) Try.sizeOf32 rfl rfl (i := 5) rfl (Nat.lt_of_lt_of_le (Nat.lt_succ_self _) (Nat.le_of_ble_eq_true rfl)) rfl) (fun _ => ?_)
      refine WPL.nil (onto_of ?_)
      refine WP.drawS (some 8) [(0, true), (1, true), (2, true), (3, true), (4, true), (5, true), (6, true), (7, true), (8, false)] mixed (by kernel_rfl) (by decide) (fun _ h => h.drawn) ?_
      refine WPD.take rfl (v_load1 (u := .int .i64 _) Try.isAgg3 rfl (fun w hw => hw.cl_at (i := 7) rfl _ rfl)) ?_ (fun _ h => h)
      refine WPD.take rfl (v_move (v := .pointer _) rfl) ?_ (fun _ h => h)
      refine WPD.take rfl (v_nil rfl) ?_ (fun _ h => h)
      refine WPD.take rfl (v_field (off := 5) Try.underlying74 rfl Try.sizeOf3 rfl) ?_ (fun _ h => h)
      refine WPD.take rfl (v_load1 (u := .int .i64 _) Try.isAgg3 rfl (fun w hw => hw.row_at1 (i := 1) rfl (flat_at FE.enc 7 (fun _ => rfl) _ x.1 5 (sized g room es x.1 e) (.int .i64 (e.it.fit (want g room es x.1 e))) (by rw [upto_get _ _ _ he, if_pos (by omega)]) (by simp [sized, hf])) (by omega))) ?_ (fun _ h => h)
      refine WPD.take rfl (v_move (v := .int .i64 _) rfl) ?_ (fun _ h => h)
      refine WPD.take rfl (v_sub rfl rfl (by omega)) ?_ (fun _ h => h)
      refine WPD.take rfl (v_add rfl rfl (by omega)) ?_ (fun _ h => h)
      refine WPD.ef0 rfl (x_store (u := .int .i64 _) (σ' := [_, _, _, _, _, _, _, .cl _ _ [_], _, _, _, _]) Try.sizeOf3 rfl rfl (i := 7) rfl (Nat.lt_of_lt_of_le (Nat.lt_succ_self _) (Nat.le_of_ble_eq_true rfl)) rfl) (fun h => absurd rfl h) (fun _ => ?_)
      exact WPD.nil fun w hw => RoundQ.normal (i := 9) rfl (hw.sel [0, 1, 2, 3, 4, 5, 6, 7, 8, 9, 10] (by decide)) (fun w' hw' => ⟨(x.1 + 1, A59, c59), rfl, rfl, by
        simp only [wtd_open (g := g) (room := room) he hf, kth_open he hf, more_open (g := g) (room := room) he hf, intsI_snoc, intsV_snoc]
        exact hw'⟩)
    ·
      have hm := want_f (room := room) (es := es) (i := x.1) (e := e) h34
      rw [hm]
      refine WP.skip (onto_of ?_)
      refine WP.seq ?_
      refine WP.region ?_
      refine WPL.val (v_load1 (u := .int .i64 _) Try.isAgg3 rfl (fun w hw => hw.cl_at (i := 6) rfl _ rfl)) ?_
      refine WPL.val (v_add rfl rfl (by omega)) ?_
      refine WPL.ef0 (x_store (u := .int .i64 _) (σ' := [_, _, _, _, _, _, .cl _ _ [_], _, _, _, _]) Try.sizeOf3 rfl rfl (i := 6) rfl (Nat.lt_of_lt_of_le (Nat.lt_succ_self _) (Nat.le_of_ble_eq_true rfl)) rfl) (fun _ => ?_)
      refine WPL.nil (onto_of ?_)
      refine WP.seq ?_
      refine WP.region ?_
      refine WPL.val (v_move (v := .pointer _) rfl) ?_
      refine WPL.val (v_move (v := .pointer _) rfl) ?_
      refine WPL.val (v_nil rfl) ?_
      refine WPL.val (v_field (off := 0) Try.underlying74 rfl Try.sizeOf28 rfl) ?_
      refine WPL.val (v_loadA (cs := [.int .i64 _, .int .i64 _, .int .i64 _, .int .i64 _, .int .i64 _]) Try.isAgg28 Try.sizeOf28 rfl (fun w hw => hw.row_at (i := 1) rfl _ (fun j u hu => by rw [Nat.zero_add]; exact flat_at FE.enc 7 (fun _ => rfl) _ x.1 j e u he1 (item_cell hu)))) ?_
      refine WPL.val (v_move (v := .int .i64 _) rfl) ?_
      refine WPL.ef (x_call Try.call17 (fit_ct e.it (want g room es x.1 e)) [] [0, 1, 2, 3, 4, 5, 6, 7, 8, 9, 10] rfl (fun w hw => trivial) (τ := fun _ => [_, _, _, _, _, _, _, _, _, _, _]) (fun _ => rfl)) (fun _ => ?_)
      refine WPL.fact (fun _ => ?_)
      refine WPL.val (v_nil rfl) ?_
      refine WPL.val (v_field (off := 5) Try.underlying74 rfl Try.sizeOf3 rfl) ?_
      refine WPL.ef0 (x_storeRow' (u := .int .i64 _) (xs' := (upto (sized g room es) es (x.1 + 1)).flatMap FE.enc) (σ' := [_, _, _, _, _, _, _, _, _, _, _]) Try.sizeOf3 rfl rfl (i := 1) rfl (by rw [flat_len]; omega) (by rw [Nat.zero_add, flat_set FE.enc 7 (fun _ => rfl) _ x.1 5 e (sized g room es x.1 e) _ he1 (by decide) (sized_cell g room es x.1 e hf), upto_succ _ _ _ he]) rfl) (fun _ => ?_)
      refine WPL.nil (onto_of ?_)
      refine WP.seq ?_
      refine WP.region ?_
      refine WPL.val (v_load1 (u := .slice _ _ _) Try.isAgg32 rfl (fun w hw => hw.cl_at (i := 5) rfl _ rfl)) ?_
      refine WPL.val (v_move (v := .int .i64 _) rfl) ?_
      refine WPL.ef (x_buildSlice (us := [.int .i64 _]) (σ' := fun _ => [_, _, _, _, _, _, _, _, _, _, _, _]) Try.underlying32 Try.sizeOf3 Try.zeroValue3 rfl rfl rfl (by decide) (by decide) (fun _ => rfl)) (fun g58 => ?_)
      refine WPL.ef (x_append (sz := 1) (σ' := fun _ => [_, _, _, _, _, _, _, _, _, _, _, _]) Try.underlying32 int_info rfl (by decide) rfl rfl (i := 8) rfl (fun w hw => hw.src_row (i := 11) rfl) rfl (by simp [Value.oneCell']) (by omega) (by omega) (fun _ => rfl)) (fun ⟨A59, c59⟩ => ?_)
      refine WPL.ef0 (x_store (u := .slice _ _ _) (σ' := [_, _, _, _, _, .cl _ _ [_], _, _, _, _, _, _]) Try.sizeOf32 rfl rfl (i := 5) rfl (Nat.lt_of_lt_of_le (Nat.lt_succ_self _) (Nat.le_of_ble_eq_true rfl)) rfl) (fun _ => ?_)
      refine WPL.nil (onto_of ?_)
      refine WP.drawS (some 8) [(0, true), (1, true), (2, true), (3, true), (4, true), (5, true), (6, true), (7, true), (8, false)] mixed (by kernel_rfl) (by decide) (fun _ h => h.drawn) ?_
      refine WPD.take rfl (v_load1 (u := .int .i64 _) Try.isAgg3 rfl (fun w hw => hw.cl_at (i := 7) rfl _ rfl)) ?_ (fun _ h => h)
      refine WPD.take rfl (v_move (v := .pointer _) rfl) ?_ (fun _ h => h)
      refine WPD.take rfl (v_nil rfl) ?_ (fun _ h => h)
      refine WPD.take rfl (v_field (off := 5) Try.underlying74 rfl Try.sizeOf3 rfl) ?_ (fun _ h => h)
      refine WPD.take rfl (v_load1 (u := .int .i64 _) Try.isAgg3 rfl (fun w hw => hw.row_at1 (i := 1) rfl (flat_at FE.enc 7 (fun _ => rfl) _ x.1 5 (sized g room es x.1 e) (.int .i64 (e.it.fit (want g room es x.1 e))) (by rw [upto_get _ _ _ he, if_pos (by omega)]) (by simp [sized, hf])) (by omega))) ?_ (fun _ h => h)
      refine WPD.take rfl (v_move (v := .int .i64 _) rfl) ?_ (fun _ h => h)
      refine WPD.take rfl (v_sub rfl rfl (by omega)) ?_ (fun _ h => h)
      refine WPD.take rfl (v_add rfl rfl (by omega)) ?_ (fun _ h => h)
      refine WPD.ef0 rfl (x_store (u := .int .i64 _) (σ' := [_, _, _, _, _, _, _, .cl _ _ [_], _, _, _, _]) Try.sizeOf3 rfl rfl (i := 7) rfl (Nat.lt_of_lt_of_le (Nat.lt_succ_self _) (Nat.le_of_ble_eq_true rfl)) rfl) (fun h => absurd rfl h) (fun _ => ?_)
      exact WPD.nil fun w hw => RoundQ.normal (i := 9) rfl (hw.sel [0, 1, 2, 3, 4, 5, 6, 7, 8, 9, 10] (by decide)) (fun w' hw' => ⟨(x.1 + 1, A59, c59), rfl, rfl, by
        simp only [wtd_open (g := g) (room := room) he hf, kth_open he hf, more_open (g := g) (room := room) he hf, intsI_snoc, intsV_snoc]
        exact hw'⟩)
  · intro D1 x hx
    obtain ⟨A2, c2⟩ := x
    refine id (onto_of ?_)
    refine WP.seq ?_
    refine WP.region ?_
    refine WPL.ef0 (x_store (u := .int .i64 _) (σ' := [_, _, _, _, _, _, .cl _ _ [_], _, _, _]) Try.sizeOf3 rfl rfl (i := 6) rfl (Nat.lt_of_lt_of_le (Nat.lt_succ_self _) (Nat.le_of_ble_eq_true rfl)) rfl) (fun _ => ?_)
    refine WPL.nil (onto_of ?_)
    refine WP.seq ?_
    refine WP.seq ?_
    refine WP.region ?_
    refine WPL.val (v_load1 (u := .pointer _) Try.isAgg68 rfl (fun w hw => hw.cl_at (i := 2) rfl _ rfl)) ?_
    refine WPL.val (v_func) ?_
    refine WPL.nil (onto_of ?_)
    refine WP.block ?_
    refine WP.pre ?_ (fun w hw => (hw.sel [0, 1, 2, 3, 4, 5, 6, 7, 8, 9] (by decide)))
    refine WP.rangeFunc (gf := 62) (first := [.pointer (some ⟨t, 0, none⟩)]) (cap := []) rfl Try.call62 (X := Unit) (Fin := fun x => True) (τ := fun x => [tblI t A es.length cap room g, entI A es.length cap (upto (frozz g room es) (upto (sized g room es) es es.length) es.length), .cl b1 68 [.pointer (some ⟨t, 0, none⟩)], .cl b4 32 [.slice P (wts g es es.length).length pc], .row 3 1 P (wts g es es.length).length pc ((parts g room es).map (Value.int .i64)), .cl b5 32 [intsV A2 c2 (wtd g room es es.length)], .cl b6 3 [.int .i64 ((kth es es.length : Nat) : Int)], .cl b7 3 [.int .i64 (moreTo g room es es.length)], intsI A2 c2 (wtd g room es es.length), dfr D1]) ?_ ?_
    · intro kk l D hps has hbd hfr w hw
      refine (open_it (X := Nat) (fun x => upto (frozz g room es) (upto (sized g room es) es es.length) x) (fun x => [.cl b1 68 [.pointer (some ⟨t, 0, none⟩)], .cl b4 32 [.slice P (wts g es es.length).length pc], .row 3 1 P (wts g es es.length).length pc ((parts g room es).map (Value.int .i64)), .cl b5 32 [intsV A2 c2 (wtd g room es es.length)], .cl b6 3 [.int .i64 ((kth es x : Nat) : Int)], .cl b7 3 [.int .i64 (moreTo g room es es.length)], intsI A2 c2 (wtd g room es es.length), dfr D1, lp l kk .ready none, dfr D]) (fun j x => x = j) hl (fun _ _ _ => by rw [upto_length, upto_length]) ?_ 0 rfl w (by simp only [upto_zero]; exact hw) ?_).mono (by
        rintro e w' ⟨hv, x, hx, h⟩
        have hx : x = es.length := hx
        subst hx
        exact ⟨hv, (), trivial, h⟩)
      · intro j x e hx he hf
        subst hx
        rw [upto_at] at he
        have he0 : ∃ e0, es[x]? = some e0 ∧ e0.fr = true := sized_shut he hf
        obtain ⟨e0, he0, hf0⟩ := he0
        exact ⟨x + 1, rfl, fun w hw => by simp only [kth_shut he0 hf0, upto_skip (frozz g room es) _ x he (by simp [frozz, hf])]; exact hw⟩
      intro j x e b hx he hf hA
      subst hA hx
      have he1 := he
      rw [upto_at] at he
      obtain ⟨e0, he0, hf0, hes⟩ : ∃ e0, es[x]? = some e0 ∧ e0.fr = false ∧ e = sized g room es x e0 := sized_at he hf
      have hxl := (List.getElem?_eq_some_iff.1 he0).1
      have hkl := kth_lt he0 hf0
      have hkx := kth_le es x
      have hwl := kth_wtd g room es es.length
      have hwg := wtd_get (g := g) (room := room) he0 hf0
      have hit : e.it = e0.it := by rw [hes]; simp [sized, hf0]
      have hwe : want g room es x e = want g room es x e0 := by simp [want, hit]
      have hsz : e.size = e0.it.fit (want g room es x e0) := by rw [hes]; simp [sized, hf0]
      have hwb := want_bd (g := g) (room := room) hok he0
      have hgb := gap_bd (g := g) (room := room) hok he0
      have hmb := more_bd (g := g) (room := room) hok es.length
      unfold gap at hgb
      rw [← hsz] at hgb
      refine Yld.intro hps has hbd hfr (i := 10) rfl rfl (by decide) ?_
      refine WP.region ?_
      refine WPL.val (v_assign (v := .pointer _) rfl) ?_
      refine WPL.nil (begun_of (i := 10) rfl ?_)
      refine WP.holds (fun w hw => hw.row_pos (i := 8) rfl (by omega)) (fun ⟨qb, hA2⟩ => ?_)
      subst hA2
      refine WP.block ?_
      refine WP.seq ?_
      refine WP.drawS none [(0, true), (1, true), (2, true), (3, true), (4, true), (5, true), (6, true), (7, true), (8, true), (9, true)] mixed (by kernel_rfl) (by decide) (fun _ h => h.drawn) ?_
      refine WPD.take rfl (v_move (v := .pointer _) rfl) ?_ (fun _ h => h)
      refine WPD.take rfl (v_nil rfl) ?_ (fun _ h => h)
      refine WPD.take rfl (v_field (off := 5) Try.underlying74 rfl Try.sizeOf3 rfl) ?_ (fun _ h => h)
      refine WPD.take rfl (v_load1 (u := .int .i64 _) Try.isAgg3 rfl (fun w hw => hw.row_at1 (i := 1) rfl (flat_at FE.enc 7 (fun _ => rfl) _ x 5 e _ he1 rfl) (by omega))) ?_ (fun _ h => h)
      refine WPD.take rfl (v_load1 (u := .slice _ _ _) Try.isAgg32 rfl (fun w hw => hw.cl_at (i := 5) rfl _ rfl)) ?_ (fun _ h => h)
      refine WPD.take rfl (v_load1 (u := .int .i64 _) Try.isAgg3 rfl (fun w hw => hw.cl_at (i := 6) rfl _ rfl)) ?_ (fun _ h => h)
      refine WPD.take rfl (v_index (j := kth es x) Try.underlying32 Try.sizeOf3 rfl rfl (by omega) (by omega)) ?_ (fun _ h => h)
      refine WPD.take rfl (v_load1 (u := .int .i64 _) Try.isAgg3 rfl (fun w hw => hw.row_at1 (i := 8) rfl (ints_at hwg) (by omega))) ?_ (fun _ h => h)
      refine WPD.take rfl (v_sub rfl rfl (by omega)) ?_ (fun _ h => h)
      refine WPD.take rfl (v_assign (v := .int .i64 _) rfl) ?_ (fun _ h => h)
      refine WPD.nil (onto_of ?_)
      refine WP.seq ?_
      refine WP.region ?_
      refine WPL.val (v_load1 (u := .int .i64 _) Try.isAgg3 rfl (fun w hw => hw.cl_at (i := 6) rfl _ rfl)) ?_
      refine WPL.val (v_add rfl rfl (by omega)) ?_
      refine WPL.ef0 (x_store (u := .int .i64 _) (σ' := [_, _, _, _, _, _, .cl _ _ [_], _, _, _, _, _]) Try.sizeOf3 rfl rfl (i := 6) rfl (Nat.lt_of_lt_of_le (Nat.lt_succ_self _) (Nat.le_of_ble_eq_true rfl)) rfl) (fun _ => ?_)
      refine WPL.nil (onto_of ?_)
      refine WP.region ?_
      refine WPL.val (v_move (v := .pointer _) rfl) ?_
      refine WPL.val (v_load1 (u := .int .i64 _) Try.isAgg3 rfl (fun w hw => hw.cl_at (i := 7) rfl _ rfl)) ?_
      refine WPL.val (v_eql rfl rfl) ?_
      refine WPL.val (v_move (v := .bool _) rfl) ?_
      refine WPL.split 85 rfl (fun h85 => ?_) (fun h85 => ?_)
      ·
        refine WPL.skipG ?_
        refine WPL.skipG ?_
        refine WPL.skipG ?_
        refine WPL.skipG ?_
        refine WPL.skipG ?_
        refine WPL.skipG ?_
        refine WPL.val (v_pickT (u := .bool _) rfl rfl) ?_
        refine WPL.val (v_move (v := .bool _) rfl) ?_
        refine WPL.skipG ?_
        refine WPL.skipG ?_
        refine WPL.skipG ?_
        refine WPL.skipG ?_
        refine WPL.skipG ?_
        refine WPL.skipG ?_
        refine WPL.val (v_pickT (u := .bool _) rfl rfl) ?_
        refine WPL.val (v_nil rfl) ?_
        refine WPL.val (v_field (off := 6) Try.underlying74 rfl Try.sizeOf4 rfl) ?_
        refine WPL.ef0 (x_storeRow' (u := .bool _) (xs' := (upto (frozz g room es) (upto (sized g room es) es es.length) (x + 1)).flatMap FE.enc) (σ' := [_, _, _, _, _, _, _, _, _, _, _, _]) Try.sizeOf4 rfl rfl (i := 1) rfl (by rw [flat_len, upto_length]; omega) (by rw [Nat.zero_add, flat_set FE.enc 7 (fun _ => rfl) _ x 6 e (frozz g room es x e) _ he1 (by decide) (frozz_cell hf (judge_of (by rw [hwe]; simp; omega))), upto_succ _ _ _ he]) rfl) (fun _ => ?_)
        exact WPL.nil fun w hw => RoundQ.normal (i := 10) rfl (hw.sel [0, 1, 2, 3, 4, 5, 6, 7, 8, 9, 10, 11] (by decide)) (fun w' hw' => ⟨x + 1, rfl, rfl, by
          simp only [kth_open he0 hf0]
          exact hw'⟩)
      ·
        refine WPL.valG (v_load1 (u := .int .i64 _) Try.isAgg3 rfl (fun w hw => hw.cl_at (i := 7) rfl _ rfl)) ?_
        refine WPL.valG (v_gtr rfl rfl) ?_
        refine WPL.valG (v_move (v := .bool _) rfl) ?_
        refine WPL.split 88 rfl (fun h88 => ?_) (fun h88 => ?_)
        ·
          refine WPL.valG (v_move (v := .int .i64 _) rfl) ?_
          refine WPL.valG (v_gtr rfl rfl) ?_
          refine WPL.valG (v_pickT (u := .bool _) rfl rfl) ?_
          refine WPL.val (v_pickF (v := .bool _) rfl rfl) ?_
          refine WPL.val (v_move (v := .bool _) rfl) ?_
          refine WPL.split 93 rfl (fun h93 => ?_) (fun h93 => ?_)
          ·
            refine WPL.skipG ?_
            refine WPL.skipG ?_
            refine WPL.skipG ?_
            refine WPL.skipG ?_
            refine WPL.skipG ?_
            refine WPL.skipG ?_
            refine WPL.val (v_pickT (u := .bool _) rfl rfl) ?_
            refine WPL.val (v_nil rfl) ?_
            refine WPL.val (v_field (off := 6) Try.underlying74 rfl Try.sizeOf4 rfl) ?_
            refine WPL.ef0 (x_storeRow' (u := .bool _) (xs' := (upto (frozz g room es) (upto (sized g room es) es es.length) (x + 1)).flatMap FE.enc) (σ' := [_, _, _, _, _, _, _, _, _, _, _, _]) Try.sizeOf4 rfl rfl (i := 1) rfl (by rw [flat_len, upto_length]; omega) (by rw [Nat.zero_add, flat_set FE.enc 7 (fun _ => rfl) _ x 6 e (frozz g room es x e) _ he1 (by decide) (frozz_cell hf (judge_of (by rw [hwe]; simp; omega))), upto_succ _ _ _ he]) rfl) (fun _ => ?_)
            exact WPL.nil fun w hw => RoundQ.normal (i := 10) rfl (hw.sel [0, 1, 2, 3, 4, 5, 6, 7, 8, 9, 10, 11] (by decide)) (fun w' hw' => ⟨x + 1, rfl, rfl, by
              simp only [kth_open he0 hf0]
              exact hw'⟩)
          ·
            refine WPL.valG (v_load1 (u := .int .i64 _) Try.isAgg3 rfl (fun w hw => hw.cl_at (i := 7) rfl _ rfl)) ?_
            refine WPL.valG (v_lss rfl rfl) ?_
            refine WPL.valG (v_move (v := .bool _) rfl) ?_
            refine WPL.split 96 rfl (fun h96 => ?_) (fun h96 => ?_)
            ·
              refine WPL.valG (v_move (v := .int .i64 _) rfl) ?_
              refine WPL.valG (v_lss rfl rfl) ?_
              refine WPL.valG (v_pickT (u := .bool _) rfl rfl) ?_
              refine WPL.val (v_pickF (v := .bool _) rfl rfl) ?_
              refine WPL.val (v_nil rfl) ?_
              refine WPL.val (v_field (off := 6) Try.underlying74 rfl Try.sizeOf4 rfl) ?_
              refine WPL.ef0 (x_storeRow' (u := .bool _) (xs' := (upto (frozz g room es) (upto (sized g room es) es es.length) (x + 1)).flatMap FE.enc) (σ' := [_, _, _, _, _, _, _, _, _, _, _, _]) Try.sizeOf4 rfl rfl (i := 1) rfl (by rw [flat_len, upto_length]; omega) (by rw [Nat.zero_add, flat_set FE.enc 7 (fun _ => rfl) _ x 6 e (frozz g room es x e) _ he1 (by decide) (frozz_cell hf (judge_of (by rw [hwe]; simp; omega))), upto_succ _ _ _ he]) rfl) (fun _ => ?_)
              exact WPL.nil fun w hw => RoundQ.normal (i := 10) rfl (hw.sel [0, 1, 2, 3, 4, 5, 6, 7, 8, 9, 10, 11] (by decide)) (fun w' hw' => ⟨x + 1, rfl, rfl, by
                simp only [kth_open he0 hf0]
                exact hw'⟩)
            ·
              refine WPL.skipG ?_
              refine WPL.skipG ?_
              refine WPL.valG (v_pickF (v := .bool _) rfl rfl) ?_
              refine WPL.val (v_pickF (v := .bool _) rfl rfl) ?_
              refine WPL.val (v_nil rfl) ?_
              refine WPL.val (v_field (off := 6) Try.underlying74 rfl Try.sizeOf4 rfl) ?_
              refine WPL.ef0 (x_storeRow' (u := .bool _) (xs' := (upto (frozz g room es) (upto (sized g room es) es es.length) (x + 1)).flatMap FE.enc) (σ' := [_, _, _, _, _, _, _, _, _, _, _, _]) Try.sizeOf4 rfl rfl (i := 1) rfl (by rw [flat_len, upto_length]; omega) (by rw [Nat.zero_add, flat_set FE.enc 7 (fun _ => rfl) _ x 6 e (frozz g room es x e) _ he1 (by decide) (frozz_cell hf (judge_of (by rw [hwe]; simp; omega))), upto_succ _ _ _ he]) rfl) (fun _ => ?_)
              exact WPL.nil fun w hw => RoundQ.normal (i := 10) rfl (hw.sel [0, 1, 2, 3, 4, 5, 6, 7, 8, 9, 10, 11] (by decide)) (fun w' hw' => ⟨x + 1, rfl, rfl, by
                simp only [kth_open he0 hf0]
                exact hw'⟩)
        ·
          refine WPL.skipG ?_
          refine WPL.skipG ?_
          refine WPL.valG (v_pickF (v := .bool _) rfl rfl) ?_
          refine WPL.val (v_pickF (v := .bool _) rfl rfl) ?_
          refine WPL.val (v_move (v := .bool _) rfl) ?_
          refine WPL.valG (v_load1 (u := .int .i64 _) Try.isAgg3 rfl (fun w hw => hw.cl_at (i := 7) rfl _ rfl)) ?_
          refine WPL.valG (v_lss rfl rfl) ?_
          refine WPL.valG (v_move (v := .bool _) rfl) ?_
          refine WPL.split 96 rfl (fun h96 => ?_) (fun h96 => ?_)
          ·
            refine WPL.valG (v_move (v := .int .i64 _) rfl) ?_
            refine WPL.valG (v_lss rfl rfl) ?_
            refine WPL.valG (v_pickT (u := .bool _) rfl rfl) ?_
            refine WPL.val (v_pickF (v := .bool _) rfl rfl) ?_
            refine WPL.val (v_nil rfl) ?_
            refine WPL.val (v_field (off := 6) Try.underlying74 rfl Try.sizeOf4 rfl) ?_
            refine WPL.ef0 (x_storeRow' (u := .bool _) (xs' := (upto (frozz g room es) (upto (sized g room es) es es.length) (x + 1)).flatMap FE.enc) (σ' := [_, _, _, _, _, _, _, _, _, _, _, _]) Try.sizeOf4 rfl rfl (i := 1) rfl (by rw [flat_len, upto_length]; omega) (by rw [Nat.zero_add, flat_set FE.enc 7 (fun _ => rfl) _ x 6 e (frozz g room es x e) _ he1 (by decide) (frozz_cell hf (judge_of (by rw [hwe]; simp; omega))), upto_succ _ _ _ he]) rfl) (fun _ => ?_)
            exact WPL.nil fun w hw => RoundQ.normal (i := 10) rfl (hw.sel [0, 1, 2, 3, 4, 5, 6, 7, 8, 9, 10, 11] (by decide)) (fun w' hw' => ⟨x + 1, rfl, rfl, by
              simp only [kth_open he0 hf0]
              exact hw'⟩)
          ·
            refine WPL.skipG ?_
            refine WPL.skipG ?_
            refine WPL.valG (v_pickF (v := .bool _) rfl rfl) ?_
            refine WPL.val (v_pickF (v := .bool _) rfl rfl) ?_
            refine WPL.val (v_nil rfl) ?_
            refine WPL.val (v_field (off := 6) Try.underlying74 rfl Try.sizeOf4 rfl) ?_
            refine WPL.ef0 (x_storeRow' (u := .bool _) (xs' := (upto (frozz g room es) (upto (sized g room es) es es.length) (x + 1)).flatMap FE.enc) (σ' := [_, _, _, _, _, _, _, _, _, _, _, _]) Try.sizeOf4 rfl rfl (i := 1) rfl (by rw [flat_len, upto_length]; omega) (by rw [Nat.zero_add, flat_set FE.enc 7 (fun _ => rfl) _ x 6 e (frozz g room es x e) _ he1 (by decide) (frozz_cell hf (judge_of (by rw [hwe]; simp; omega))), upto_succ _ _ _ he]) rfl) (fun _ => ?_)
            exact WPL.nil fun w hw => RoundQ.normal (i := 10) rfl (hw.sel [0, 1, 2, 3, 4, 5, 6, 7, 8, 9, 10, 11] (by decide)) (fun w' hw' => ⟨x + 1, rfl, rfl, by
              simp only [kth_open he0 hf0]
              exact hw'⟩)
    · intro D2 x hx
      refine id (onto_of ?_)
      refine WP.seq ?_
      refine WP.region ?_
      refine WPL.val (v_move (v := .slice _ _ _) rfl) ?_
      refine WPL.val (v_len Try.underlying32 rfl) ?_
      refine WPL.val (v_gtr rfl rfl) ?_
      refine WPL.val (v_assign (v := .bool _) rfl) ?_
      refine WPL.nil (onto_of ?_)
      exact WP.retM [D2, D1] (τ := [_, _]) (fun w hw => (hw.sel [0, 1, 10, 9] (by decide))) (fun _ h => h) (fun w hw => RetQ.of1 Try.results34 (.inl rfl) ⟨(), rfl, trivial, by rw [← frozz_all]; exact hw⟩)
end Go.Proofs.Ytabdcfobdehhiaa
