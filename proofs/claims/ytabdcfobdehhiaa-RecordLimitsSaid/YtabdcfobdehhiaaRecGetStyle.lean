/- record's walk through a style, as Get has it. -/
import Derived.Test.YtabdcfobdehhiaaRecStyle
namespace Go.Proofs.Ytabdcfobdehhiaa
open Go.RowKit

def lv (ls : List Int) (j : Nat) : Int := ls.getD j 0
def dec (ls : List Int) (j : Nat) : Value := if isBit j then .bool (decide (lv ls j = 1)) else .int .i64 (lv ls j)
def got (ls : List Int) (cs : List Value) (j : Nat) : List Value := cs.mapIdx fun i u => if i < j then dec ls i else u
def bads (ls : List Int) : Nat → Bool
  | 0 => false
  | j + 1 => if isBit j then bads ls j || !within (lv ls j) 0 1 else bads ls j
theorem lv_at {ls : List Int} (hl : ls.length = 55) (j : Nat) (hj : j < 55) : ls[j]? = some (lv ls j) := by
  unfold lv
  rw [List.getD_eq_getElem?_getD, List.getElem?_eq_getElem (by omega)]
  rfl
theorem got_at (ls : List Int) (cs : List Value) (j : Nat) : (got ls cs j)[j]? = cs[j]? := by
  simp only [got, List.getElem?_mapIdx]
  cases cs[j]? with
  | none => rfl
  | some x => simp
theorem got_at1 (ls : List Int) (cs : List Value) (j : Nat) : (got ls cs j)[j + 1]? = cs[j + 1]? := by
  simp only [got, List.getElem?_mapIdx]
  cases cs[j + 1]? with
  | none => rfl
  | some x => simp only [Option.map_some]; rw [if_neg (by omega)]
theorem got_zero (ls : List Int) (cs : List Value) : got ls cs 0 = cs := by
  apply List.ext_getElem?
  intro i
  simp [got]
theorem got_set {ls : List Int} {cs : List Value} (hs : SOk cs) (j : Nat) (hj : j < 55) {u : Value} (hu : u = dec ls j) : (got ls cs j).set j u = got ls cs (j + 1) := by
  have hl := hs.len
  apply List.ext_getElem?
  intro i
  by_cases e : i = j
  · subst e
    rw [List.getElem?_set_self (by simp [got]; omega), hu]
    simp only [got, List.getElem?_mapIdx, List.getElem?_eq_getElem (show i < cs.length by omega), Option.map_some]
    simp
  · rw [List.getElem?_set_ne (Ne.symm e)]
    simp only [got, List.getElem?_mapIdx]
    cases cs[i]? with
    | none => rfl
    | some x => simp only [Option.map_some]; congr 1; by_cases h1 : i < j <;> by_cases h2 : i < j + 1 <;> simp [h1, h2] <;> omega
theorem got_int {ls : List Int} {cs : List Value} (hs : SOk cs) (j : Nat) (hj : j < 55) (hb : isBit j = false) : (got ls cs j).set j (.int .i64 (lv ls j)) = got ls cs (j + 1) := got_set hs j hj (by simp [dec, hb])
theorem got_bit {ls : List Int} {cs : List Value} (hs : SOk cs) (j : Nat) (hj : j < 55) (hb : isBit j = true) : (got ls cs j).set j (.bool (decide (lv ls j = 1))) = got ls cs (j + 1) := got_set hs j hj (by simp [dec, hb])
theorem bads_int (ls : List Int) (j : Nat) (hb : isBit j = false) : bads ls j = bads ls (j + 1) := by simp [bads, hb]
theorem bads_bit (ls : List Int) (j : Nat) (hb : isBit j = true) : (bads ls j || !within (lv ls j) 0 1) = bads ls (j + 1) := by simp [bads, hb]

set_option maxRecDepth 100000 in
theorem getStyle_ct (wk sb ab lb : Nat) (cs : List Value) (A : Option Addr) (c : Nat) (ls : List Int) (hs : SOk cs) (hl : ls.length = 55) :
    Ct Try.prog 55 #[.pointer (some ⟨wk, 0, none⟩), .pointer (some ⟨sb, 0, none⟩)] [walkI wk (getF ab lb) false, styI sb cs, atI ab 0, boxI lb A c ls] (fun w => RdI w A ls ∧ Far A [wk, sb, ab, lb]) (X := Unit) (fun _ => .tuple #[]) (fun _ => True)
      (fun _ => [walkI wk (getF ab lb) (bads ls 55), styI sb (got ls cs 55), atI ab 55, boxI lb A c ls]) := by
  refine Ct.intro Try.func55 rfl Try.ntmps55 (by simp) (fun w0 ⟨hz, hfar⟩ => ?_)
  have hl100 : ls.length ≤ 100 := by omega
  refine WP.pre (S' := St w0 (foots [walkI wk (getF ab lb) false, styI sb cs, atI ab 0, boxI lb A c ls]) [walkI wk (getF ab lb) (bads ls 0), styI sb (got ls cs 0), atI ab 0, boxI lb A c ls]) ?_ (fun w hw => by rw [got_zero]; exact hw)
  refine WP.seq ?_
  refine WP.region ?_
  refine WPL.val (v_move (v := .pointer _) rfl) ?_
  refine WPL.val (v_move (v := .pointer _) rfl) ?_
  refine WPL.val (v_nil rfl) ?_
  refine WPL.val (v_fieldL (o' := 0) Try.underlying57 rfl Try.sizeOf43 rfl rfl) ?_
  refine WPL.ef (x_call Try.call68 (get68_ct wk sb ab lb 0 0 (bads ls 0) (got ls cs 0) A c ls (lv ls 0) (val cs 0) hl100 ((got_at ls cs 0).trans (hs.int 0 (by decide) (by decide))) (lv_at hl 0 (by decide))) [0, 1, 2, 3] [] rfl (fun w hw => ⟨hw.rdM hz (far_four hfar), hfar⟩) (τ := fun _ => [_, _, _, _]) (fun _ => rfl)) (fun _ => ?_)
  refine WPL.fact (fun _ => ?_)
  rw [got_int hs 0 (by decide) (by decide), bads_int ls 0 (by decide)]
  refine WPL.nil (onto_of ?_)
  refine WP.seq ?_
  refine WP.region ?_
  refine WPL.val (v_move (v := .pointer _) rfl) ?_
  refine WPL.val (v_move (v := .pointer _) rfl) ?_
  refine WPL.val (v_nil rfl) ?_
  refine WPL.val (v_fieldL (o' := 1) Try.underlying57 rfl Try.sizeOf44 rfl rfl) ?_
  refine WPL.ef (x_call Try.call69 (get69_ct wk sb ab lb 1 1 (bads ls 1) (got ls cs 1) A c ls (lv ls 1) (val cs 1) hl100 ((got_at ls cs 1).trans (hs.int 1 (by decide) (by decide))) (lv_at hl 1 (by decide))) [0, 1, 2, 3] [] rfl (fun w hw => ⟨hw.rdM hz (far_four hfar), hfar⟩) (τ := fun _ => [_, _, _, _]) (fun _ => rfl)) (fun _ => ?_)
  refine WPL.fact (fun _ => ?_)
  rw [got_int hs 1 (by decide) (by decide), bads_int ls 1 (by decide)]
  refine WPL.nil (onto_of ?_)
  refine WP.seq ?_
  refine WP.region ?_
  refine WPL.val (v_move (v := .pointer _) rfl) ?_
  refine WPL.val (v_move (v := .pointer _) rfl) ?_
  refine WPL.val (v_nil rfl) ?_
  refine WPL.val (v_fieldL (o' := 2) Try.underlying57 rfl Try.sizeOf45 rfl rfl) ?_
  refine WPL.ef (x_call Try.call70 (get70_ct wk sb ab lb 2 2 (bads ls 2) (got ls cs 2) A c ls (lv ls 2) (val cs 2) hl100 ((got_at ls cs 2).trans (hs.int 2 (by decide) (by decide))) (lv_at hl 2 (by decide))) [0, 1, 2, 3] [] rfl (fun w hw => ⟨hw.rdM hz (far_four hfar), hfar⟩) (τ := fun _ => [_, _, _, _]) (fun _ => rfl)) (fun _ => ?_)
  refine WPL.fact (fun _ => ?_)
  rw [got_int hs 2 (by decide) (by decide), bads_int ls 2 (by decide)]
  refine WPL.nil (onto_of ?_)
  refine WP.seq ?_
  refine WP.seq ?_
  refine WP.drawSel none [0, 1, 2, 3] [(0, true), (1, true), (2, true), (3, true), (4, true), (5, true), (6, true), (7, true), (8, true), (9, true), (10, true), (11, true), (12, true), (13, true), (14, true), (15, true), (16, true), (17, true), (20, true), (18, false), (19, true)] mixed (by kernel_rfl) (by decide) ?_
  refine WPD.take rfl (v_move (v := .pointer _) rfl) ?_ (fun _ h => h.sel [0, 1, 2, 3] (by decide))
  refine WPD.take rfl (v_nil rfl) ?_ (fun _ h => h.sel [0, 1, 2, 3] (by decide))
  refine WPD.take rfl (v_fieldL (o' := 3) Try.underlying57 rfl Try.sizeOf48 rfl rfl) ?_ (fun _ h => h.sel [0, 1, 2, 3] (by decide))
  refine WPD.take rfl (v_move (v := .pointer _) rfl) ?_ (fun _ h => h.sel [0, 1, 2, 3] (by decide))
  refine WPD.take rfl (v_nil rfl) ?_ (fun _ h => h.sel [0, 1, 2, 3] (by decide))
  refine WPD.take rfl (v_fieldL (o' := 5) Try.underlying57 rfl Try.sizeOf48 rfl rfl) ?_ (fun _ h => h.sel [0, 1, 2, 3] (by decide))
  refine WPD.take rfl (v_move (v := .pointer _) rfl) ?_ (fun _ h => h.sel [0, 1, 2, 3] (by decide))
  refine WPD.take rfl (v_nil rfl) ?_ (fun _ h => h.sel [0, 1, 2, 3] (by decide))
  refine WPD.take rfl (v_fieldL (o' := 7) Try.underlying57 rfl Try.sizeOf48 rfl rfl) ?_ (fun _ h => h.sel [0, 1, 2, 3] (by decide))
  refine WPD.take rfl (v_move (v := .pointer _) rfl) ?_ (fun _ h => h.sel [0, 1, 2, 3] (by decide))
  refine WPD.take rfl (v_nil rfl) ?_ (fun _ h => h.sel [0, 1, 2, 3] (by decide))
  refine WPD.take rfl (v_fieldL (o' := 9) Try.underlying57 rfl Try.sizeOf48 rfl rfl) ?_ (fun _ h => h.sel [0, 1, 2, 3] (by decide))
  refine WPD.take rfl (v_move (v := .pointer _) rfl) ?_ (fun _ h => h.sel [0, 1, 2, 3] (by decide))
  refine WPD.take rfl (v_nil rfl) ?_ (fun _ h => h.sel [0, 1, 2, 3] (by decide))
  refine WPD.take rfl (v_fieldL (o' := 11) Try.underlying57 rfl Try.sizeOf48 rfl rfl) ?_ (fun _ h => h.sel [0, 1, 2, 3] (by decide))
  refine WPD.take rfl (v_move (v := .pointer _) rfl) ?_ (fun _ h => h.sel [0, 1, 2, 3] (by decide))
  refine WPD.take rfl (v_nil rfl) ?_ (fun _ h => h.sel [0, 1, 2, 3] (by decide))
  refine WPD.take rfl (v_fieldL (o' := 13) Try.underlying57 rfl Try.sizeOf48 rfl rfl) ?_ (fun _ h => h.sel [0, 1, 2, 3] (by decide))
  refine WPD.take rfl (v_move (v := .int .i64 (0)) rfl) ?_ (fun _ h => h.sel [0, 1, 2, 3] (by decide))
  refine WPD.ef rfl (x_buildSlice (us := [.pointer _, .pointer _, .pointer _, .pointer _, .pointer _, .pointer _]) (σ' := fun _ => [_, _, _, _, _]) Try.underlying121 Try.sizeOf120 Try.zeroValue120 rfl rfl rfl (by decide) (by decide) (fun _ => rfl)) (fun _ _ _ h => h.sel [0, 1, 2, 3] (by decide)) (fun g43 => ?_)
  refine WPD.take rfl (v_len Try.underlying121 rfl) ?_ (fun _ h => h.sel [0, 1, 2, 3] (by decide))
  refine WPD.nil (onto_of ?_)
  refine WP.block ?_
  refine WP.loopN 7 ?_
  refine WPR.succ ?_
  refine WP.seq ?_
  refine WP.region ?_
  refine WPL.val (v_lit (b := true) (v_lss rfl rfl) (by decide)) ?_
  refine WPL.nil (onto_of ?_)
  refine WP.seq ?_
  refine WP.condT rfl ?_
  refine WP.skip (onto_of ?_)
  refine WP.seq ?_
  refine WP.block ?_
  refine WP.seq ?_
  refine WP.region ?_
  refine WPL.val (v_index (j := 0) Try.underlying121 Try.sizeOf120 rfl rfl rfl (by omega)) ?_
  refine WPL.val (v_load1 (u := .pointer _) Try.isAgg120 rfl (fun w hw => hw.row_at1 (i := 4) (k := 0) rfl rfl (by decide))) ?_
  refine WPL.val (v_assign (v := .pointer _) rfl) ?_
  refine WPL.nil (onto_of ?_)
  refine WP.region ?_
  refine WPL.val (v_move (v := .pointer _) rfl) ?_
  refine WPL.val (v_move (v := .pointer _) rfl) ?_
  refine WPL.ef (x_call Try.call71 (getLen_ct wk sb ab lb 3 3 (bads ls 3) (got ls cs 3) A c ls (lv ls 3) (lv ls 4) (val cs 3) (val cs 4) hl100 ((got_at ls cs 3).trans (hs.int 3 (by decide) (by decide))) ((got_at1 ls cs 3).trans (hs.int 4 (by decide) (by decide))) (lv_at hl 3 (by decide)) (lv_at hl 4 (by decide))) [0, 1, 2, 3] [4] rfl (fun w hw => ⟨hw.rdM hz (far_four hfar), hfar⟩) (τ := fun _ => [_, _, _, _, _]) (fun _ => rfl)) (fun _ => ?_)
  refine WPL.fact (fun _ => ?_)
  rw [got_int hs 3 (by decide) (by decide), got_int hs 4 (by decide) (by decide), bads_int ls 3 (by decide), bads_int ls 4 (by decide)]
  refine WPL.nil (onto_of ?_)
  refine WP.region ?_
  refine WPL.val (v_addL (k := 1) rfl rfl) ?_
  refine WPL.val (v_move (v := .int .i64 _) rfl) ?_
  refine WPL.nil (rounds_of ?_)
  refine WPR.succ ?_
  refine WP.seq ?_
  refine WP.region ?_
  refine WPL.val (v_lit (b := true) (v_lss rfl rfl) (by decide)) ?_
  refine WPL.nil (onto_of ?_)
  refine WP.seq ?_
  refine WP.condT rfl ?_
  refine WP.skip (onto_of ?_)
  refine WP.seq ?_
  refine WP.block ?_
  refine WP.seq ?_
  refine WP.region ?_
  refine WPL.val (v_index (j := 1) Try.underlying121 Try.sizeOf120 rfl rfl rfl (by omega)) ?_
  refine WPL.val (v_load1 (u := .pointer _) Try.isAgg120 rfl (fun w hw => hw.row_at1 (i := 0) (k := 1) rfl rfl (by decide))) ?_
  refine WPL.val (v_assign (v := .pointer _) rfl) ?_
  refine WPL.nil (onto_of ?_)
  refine WP.region ?_
  refine WPL.val (v_move (v := .pointer _) rfl) ?_
  refine WPL.val (v_move (v := .pointer _) rfl) ?_
  refine WPL.ef (x_call Try.call71 (getLen_ct wk sb ab lb 5 5 (bads ls 5) (got ls cs 5) A c ls (lv ls 5) (lv ls 6) (val cs 5) (val cs 6) hl100 ((got_at ls cs 5).trans (hs.int 5 (by decide) (by decide))) ((got_at1 ls cs 5).trans (hs.int 6 (by decide) (by decide))) (lv_at hl 5 (by decide)) (lv_at hl 6 (by decide))) [1, 2, 3, 4] [0] rfl (fun w hw => ⟨hw.rdM hz (far_four hfar), hfar⟩) (τ := fun _ => [_, _, _, _, _]) (fun _ => rfl)) (fun _ => ?_)
  refine WPL.fact (fun _ => ?_)
  rw [got_int hs 5 (by decide) (by decide), got_int hs 6 (by decide) (by decide), bads_int ls 5 (by decide), bads_int ls 6 (by decide)]
  refine WPL.nil (onto_of ?_)
  refine WP.region ?_
  refine WPL.val (v_addL (k := 2) rfl rfl) ?_
  refine WPL.val (v_move (v := .int .i64 _) rfl) ?_
  refine WPL.nil (rounds_of ?_)
  refine WPR.succ ?_
  refine WP.seq ?_
  refine WP.region ?_
  refine WPL.val (v_lit (b := true) (v_lss rfl rfl) (by decide)) ?_
  refine WPL.nil (onto_of ?_)
  refine WP.seq ?_
  refine WP.condT rfl ?_
  refine WP.skip (onto_of ?_)
  refine WP.seq ?_
  refine WP.block ?_
  refine WP.seq ?_
  refine WP.region ?_
  refine WPL.val (v_index (j := 2) Try.underlying121 Try.sizeOf120 rfl rfl rfl (by omega)) ?_
  refine WPL.val (v_load1 (u := .pointer _) Try.isAgg120 rfl (fun w hw => hw.row_at1 (i := 0) (k := 2) rfl rfl (by decide))) ?_
  refine WPL.val (v_assign (v := .pointer _) rfl) ?_
  refine WPL.nil (onto_of ?_)
  refine WP.region ?_
  refine WPL.val (v_move (v := .pointer _) rfl) ?_
  refine WPL.val (v_move (v := .pointer _) rfl) ?_
  refine WPL.ef (x_call Try.call71 (getLen_ct wk sb ab lb 7 7 (bads ls 7) (got ls cs 7) A c ls (lv ls 7) (lv ls 8) (val cs 7) (val cs 8) hl100 ((got_at ls cs 7).trans (hs.int 7 (by decide) (by decide))) ((got_at1 ls cs 7).trans (hs.int 8 (by decide) (by decide))) (lv_at hl 7 (by decide)) (lv_at hl 8 (by decide))) [1, 2, 3, 4] [0] rfl (fun w hw => ⟨hw.rdM hz (far_four hfar), hfar⟩) (τ := fun _ => [_, _, _, _, _]) (fun _ => rfl)) (fun _ => ?_)
  refine WPL.fact (fun _ => ?_)
  rw [got_int hs 7 (by decide) (by decide), got_int hs 8 (by decide) (by decide), bads_int ls 7 (by decide), bads_int ls 8 (by decide)]
  refine WPL.nil (onto_of ?_)
  refine WP.region ?_
  refine WPL.val (v_addL (k := 3) rfl rfl) ?_
  refine WPL.val (v_move (v := .int .i64 _) rfl) ?_
  refine WPL.nil (rounds_of ?_)
  refine WPR.succ ?_
  refine WP.seq ?_
  refine WP.region ?_
  refine WPL.val (v_lit (b := true) (v_lss rfl rfl) (by decide)) ?_
  refine WPL.nil (onto_of ?_)
  refine WP.seq ?_
  refine WP.condT rfl ?_
  refine WP.skip (onto_of ?_)
  refine WP.seq ?_
  refine WP.block ?_
  refine WP.seq ?_
  refine WP.region ?_
  refine WPL.val (v_index (j := 3) Try.underlying121 Try.sizeOf120 rfl rfl rfl (by omega)) ?_
  refine WPL.val (v_load1 (u := .pointer _) Try.isAgg120 rfl (fun w hw => hw.row_at1 (i := 0) (k := 3) rfl rfl (by decide))) ?_
  refine WPL.val (v_assign (v := .pointer _) rfl) ?_
  refine WPL.nil (onto_of ?_)
  refine WP.region ?_
  refine WPL.val (v_move (v := .pointer _) rfl) ?_
  refine WPL.val (v_move (v := .pointer _) rfl) ?_
  refine WPL.ef (x_call Try.call71 (getLen_ct wk sb ab lb 9 9 (bads ls 9) (got ls cs 9) A c ls (lv ls 9) (lv ls 10) (val cs 9) (val cs 10) hl100 ((got_at ls cs 9).trans (hs.int 9 (by decide) (by decide))) ((got_at1 ls cs 9).trans (hs.int 10 (by decide) (by decide))) (lv_at hl 9 (by decide)) (lv_at hl 10 (by decide))) [1, 2, 3, 4] [0] rfl (fun w hw => ⟨hw.rdM hz (far_four hfar), hfar⟩) (τ := fun _ => [_, _, _, _, _]) (fun _ => rfl)) (fun _ => ?_)
  refine WPL.fact (fun _ => ?_)
  rw [got_int hs 9 (by decide) (by decide), got_int hs 10 (by decide) (by decide), bads_int ls 9 (by decide), bads_int ls 10 (by decide)]
  refine WPL.nil (onto_of ?_)
  refine WP.region ?_
  refine WPL.val (v_addL (k := 4) rfl rfl) ?_
  refine WPL.val (v_move (v := .int .i64 _) rfl) ?_
  refine WPL.nil (rounds_of ?_)
  refine WPR.succ ?_
  refine WP.seq ?_
  refine WP.region ?_
  refine WPL.val (v_lit (b := true) (v_lss rfl rfl) (by decide)) ?_
  refine WPL.nil (onto_of ?_)
  refine WP.seq ?_
  refine WP.condT rfl ?_
  refine WP.skip (onto_of ?_)
  refine WP.seq ?_
  refine WP.block ?_
  refine WP.seq ?_
  refine WP.region ?_
  refine WPL.val (v_index (j := 4) Try.underlying121 Try.sizeOf120 rfl rfl rfl (by omega)) ?_
  refine WPL.val (v_load1 (u := .pointer _) Try.isAgg120 rfl (fun w hw => hw.row_at1 (i := 0) (k := 4) rfl rfl (by decide))) ?_
  refine WPL.val (v_assign (v := .pointer _) rfl) ?_
  refine WPL.nil (onto_of ?_)
  refine WP.region ?_
  refine WPL.val (v_move (v := .pointer _) rfl) ?_
  refine WPL.val (v_move (v := .pointer _) rfl) ?_
  refine WPL.ef (x_call Try.call71 (getLen_ct wk sb ab lb 11 11 (bads ls 11) (got ls cs 11) A c ls (lv ls 11) (lv ls 12) (val cs 11) (val cs 12) hl100 ((got_at ls cs 11).trans (hs.int 11 (by decide) (by decide))) ((got_at1 ls cs 11).trans (hs.int 12 (by decide) (by decide))) (lv_at hl 11 (by decide)) (lv_at hl 12 (by decide))) [1, 2, 3, 4] [0] rfl (fun w hw => ⟨hw.rdM hz (far_four hfar), hfar⟩) (τ := fun _ => [_, _, _, _, _]) (fun _ => rfl)) (fun _ => ?_)
  refine WPL.fact (fun _ => ?_)
  rw [got_int hs 11 (by decide) (by decide), got_int hs 12 (by decide) (by decide), bads_int ls 11 (by decide), bads_int ls 12 (by decide)]
  refine WPL.nil (onto_of ?_)
  refine WP.region ?_
  refine WPL.val (v_addL (k := 5) rfl rfl) ?_
  refine WPL.val (v_move (v := .int .i64 _) rfl) ?_
  refine WPL.nil (rounds_of ?_)
  refine WPR.succ ?_
  refine WP.seq ?_
  refine WP.region ?_
  refine WPL.val (v_lit (b := true) (v_lss rfl rfl) (by decide)) ?_
  refine WPL.nil (onto_of ?_)
  refine WP.seq ?_
  refine WP.condT rfl ?_
  refine WP.skip (onto_of ?_)
  refine WP.seq ?_
  refine WP.block ?_
  refine WP.seq ?_
  refine WP.region ?_
  refine WPL.val (v_index (j := 5) Try.underlying121 Try.sizeOf120 rfl rfl rfl (by omega)) ?_
  refine WPL.val (v_load1 (u := .pointer _) Try.isAgg120 rfl (fun w hw => hw.row_at1 (i := 0) (k := 5) rfl rfl (by decide))) ?_
  refine WPL.val (v_assign (v := .pointer _) rfl) ?_
  refine WPL.nil (onto_of ?_)
  refine WP.region ?_
  refine WPL.val (v_move (v := .pointer _) rfl) ?_
  refine WPL.val (v_move (v := .pointer _) rfl) ?_
  refine WPL.ef (x_call Try.call71 (getLen_ct wk sb ab lb 13 13 (bads ls 13) (got ls cs 13) A c ls (lv ls 13) (lv ls 14) (val cs 13) (val cs 14) hl100 ((got_at ls cs 13).trans (hs.int 13 (by decide) (by decide))) ((got_at1 ls cs 13).trans (hs.int 14 (by decide) (by decide))) (lv_at hl 13 (by decide)) (lv_at hl 14 (by decide))) [1, 2, 3, 4] [0] rfl (fun w hw => ⟨hw.rdM hz (far_four hfar), hfar⟩) (τ := fun _ => [_, _, _, _, _]) (fun _ => rfl)) (fun _ => ?_)
  refine WPL.fact (fun _ => ?_)
  rw [got_int hs 13 (by decide) (by decide), got_int hs 14 (by decide) (by decide), bads_int ls 13 (by decide), bads_int ls 14 (by decide)]
  refine WPL.nil (onto_of ?_)
  refine WP.region ?_
  refine WPL.val (v_addL (k := 6) rfl rfl) ?_
  refine WPL.val (v_move (v := .int .i64 _) rfl) ?_
  refine WPL.nil (rounds_of ?_)
  refine WPR.succ ?_
  refine WP.seq ?_
  refine WP.region ?_
  refine WPL.val (v_lit (b := false) (v_lss rfl rfl) (by decide)) ?_
  refine WPL.nil (onto_of ?_)
  refine WP.seq ?_
  refine WP.condF rfl ?_
  refine WP.exit (onto_of ?_)
  refine WP.seq ?_
  refine WP.seq ?_
  refine WP.region ?_
  refine WPL.val (v_move (v := .int .i64 (0)) rfl) ?_
  refine WPL.nil (onto_of ?_)
  refine WP.block ?_
  refine WP.loopN 5 ?_
  refine WPR.succ ?_
  refine WP.seq ?_
  refine WP.region ?_
  refine WPL.val (v_lit (b := true) (v_lss rfl rfl) (by decide)) ?_
  refine WPL.nil (onto_of ?_)
  refine WP.seq ?_
  refine WP.condT rfl ?_
  refine WP.skip (onto_of ?_)
  refine WP.seq ?_
  refine WP.block ?_
  refine WP.seq ?_
  refine WP.region ?_
  refine WPL.val (v_move (v := .int .i64 _) rfl) ?_
  refine WPL.val (v_assign (v := .int .i64 _) rfl) ?_
  refine WPL.nil (onto_of ?_)
  refine WP.region ?_
  refine WPL.val (v_move (v := .pointer _) rfl) ?_
  refine WPL.val (v_move (v := .pointer _) rfl) ?_
  refine WPL.val (v_move (v := .int .i64 _) rfl) ?_
  refine WPL.val (v_nil rfl) ?_
  refine WPL.val (v_fieldL (o' := 15) Try.underlying57 rfl Try.sizeOf49 rfl rfl) ?_
  refine WPL.val (v_indexA (j := 0) Try.underlying49 Try.sizeOf48 rfl rfl rfl (by decide)) ?_
  refine WPL.ef (x_call Try.call71 (getLen_ct wk sb ab lb 15 15 (bads ls 15) (got ls cs 15) A c ls (lv ls 15) (lv ls 16) (val cs 15) (val cs 16) hl100 ((got_at ls cs 15).trans (hs.int 15 (by decide) (by decide))) ((got_at1 ls cs 15).trans (hs.int 16 (by decide) (by decide))) (lv_at hl 15 (by decide)) (lv_at hl 16 (by decide))) [1, 2, 3, 4] [0] rfl (fun w hw => ⟨hw.rdM hz (far_four hfar), hfar⟩) (τ := fun _ => [_, _, _, _, _]) (fun _ => rfl)) (fun _ => ?_)
  refine WPL.fact (fun _ => ?_)
  rw [got_int hs 15 (by decide) (by decide), got_int hs 16 (by decide) (by decide), bads_int ls 15 (by decide), bads_int ls 16 (by decide)]
  refine WPL.nil (onto_of ?_)
  refine WP.region ?_
  refine WPL.val (v_addL (k := 1) rfl rfl) ?_
  refine WPL.val (v_move (v := .int .i64 _) rfl) ?_
  refine WPL.nil (rounds_of ?_)
  refine WPR.succ ?_
  refine WP.seq ?_
  refine WP.region ?_
  refine WPL.val (v_lit (b := true) (v_lss rfl rfl) (by decide)) ?_
  refine WPL.nil (onto_of ?_)
  refine WP.seq ?_
  refine WP.condT rfl ?_
  refine WP.skip (onto_of ?_)
  refine WP.seq ?_
  refine WP.block ?_
  refine WP.seq ?_
  refine WP.region ?_
  refine WPL.val (v_move (v := .int .i64 _) rfl) ?_
  refine WPL.val (v_assign (v := .int .i64 _) rfl) ?_
  refine WPL.nil (onto_of ?_)
  refine WP.region ?_
  refine WPL.val (v_move (v := .pointer _) rfl) ?_
  refine WPL.val (v_move (v := .pointer _) rfl) ?_
  refine WPL.val (v_move (v := .int .i64 _) rfl) ?_
  refine WPL.val (v_nil rfl) ?_
  refine WPL.val (v_fieldL (o' := 15) Try.underlying57 rfl Try.sizeOf49 rfl rfl) ?_
  refine WPL.val (v_indexA (j := 1) Try.underlying49 Try.sizeOf48 rfl rfl rfl (by decide)) ?_
  refine WPL.ef (x_call Try.call71 (getLen_ct wk sb ab lb 17 17 (bads ls 17) (got ls cs 17) A c ls (lv ls 17) (lv ls 18) (val cs 17) (val cs 18) hl100 ((got_at ls cs 17).trans (hs.int 17 (by decide) (by decide))) ((got_at1 ls cs 17).trans (hs.int 18 (by decide) (by decide))) (lv_at hl 17 (by decide)) (lv_at hl 18 (by decide))) [1, 2, 3, 4] [0] rfl (fun w hw => ⟨hw.rdM hz (far_four hfar), hfar⟩) (τ := fun _ => [_, _, _, _, _]) (fun _ => rfl)) (fun _ => ?_)
  refine WPL.fact (fun _ => ?_)
  rw [got_int hs 17 (by decide) (by decide), got_int hs 18 (by decide) (by decide), bads_int ls 17 (by decide), bads_int ls 18 (by decide)]
  refine WPL.nil (onto_of ?_)
  refine WP.region ?_
  refine WPL.val (v_addL (k := 2) rfl rfl) ?_
  refine WPL.val (v_move (v := .int .i64 _) rfl) ?_
  refine WPL.nil (rounds_of ?_)
  refine WPR.succ ?_
  refine WP.seq ?_
  refine WP.region ?_
  refine WPL.val (v_lit (b := true) (v_lss rfl rfl) (by decide)) ?_
  refine WPL.nil (onto_of ?_)
  refine WP.seq ?_
  refine WP.condT rfl ?_
  refine WP.skip (onto_of ?_)
  refine WP.seq ?_
  refine WP.block ?_
  refine WP.seq ?_
  refine WP.region ?_
  refine WPL.val (v_move (v := .int .i64 _) rfl) ?_
  refine WPL.val (v_assign (v := .int .i64 _) rfl) ?_
  refine WPL.nil (onto_of ?_)
  refine WP.region ?_
  refine WPL.val (v_move (v := .pointer _) rfl) ?_
  refine WPL.val (v_move (v := .pointer _) rfl) ?_
  refine WPL.val (v_move (v := .int .i64 _) rfl) ?_
  refine WPL.val (v_nil rfl) ?_
  refine WPL.val (v_fieldL (o' := 15) Try.underlying57 rfl Try.sizeOf49 rfl rfl) ?_
  refine WPL.val (v_indexA (j := 2) Try.underlying49 Try.sizeOf48 rfl rfl rfl (by decide)) ?_
  refine WPL.ef (x_call Try.call71 (getLen_ct wk sb ab lb 19 19 (bads ls 19) (got ls cs 19) A c ls (lv ls 19) (lv ls 20) (val cs 19) (val cs 20) hl100 ((got_at ls cs 19).trans (hs.int 19 (by decide) (by decide))) ((got_at1 ls cs 19).trans (hs.int 20 (by decide) (by decide))) (lv_at hl 19 (by decide)) (lv_at hl 20 (by decide))) [1, 2, 3, 4] [0] rfl (fun w hw => ⟨hw.rdM hz (far_four hfar), hfar⟩) (τ := fun _ => [_, _, _, _, _]) (fun _ => rfl)) (fun _ => ?_)
  refine WPL.fact (fun _ => ?_)
  rw [got_int hs 19 (by decide) (by decide), got_int hs 20 (by decide) (by decide), bads_int ls 19 (by decide), bads_int ls 20 (by decide)]
  refine WPL.nil (onto_of ?_)
  refine WP.region ?_
  refine WPL.val (v_addL (k := 3) rfl rfl) ?_
  refine WPL.val (v_move (v := .int .i64 _) rfl) ?_
  refine WPL.nil (rounds_of ?_)
  refine WPR.succ ?_
  refine WP.seq ?_
  refine WP.region ?_
  refine WPL.val (v_lit (b := true) (v_lss rfl rfl) (by decide)) ?_
  refine WPL.nil (onto_of ?_)
  refine WP.seq ?_
  refine WP.condT rfl ?_
  refine WP.skip (onto_of ?_)
  refine WP.seq ?_
  refine WP.block ?_
  refine WP.seq ?_
  refine WP.region ?_
  refine WPL.val (v_move (v := .int .i64 _) rfl) ?_
  refine WPL.val (v_assign (v := .int .i64 _) rfl) ?_
  refine WPL.nil (onto_of ?_)
  refine WP.region ?_
  refine WPL.val (v_move (v := .pointer _) rfl) ?_
  refine WPL.val (v_move (v := .pointer _) rfl) ?_
  refine WPL.val (v_move (v := .int .i64 _) rfl) ?_
  refine WPL.val (v_nil rfl) ?_
  refine WPL.val (v_fieldL (o' := 15) Try.underlying57 rfl Try.sizeOf49 rfl rfl) ?_
  refine WPL.val (v_indexA (j := 3) Try.underlying49 Try.sizeOf48 rfl rfl rfl (by decide)) ?_
  refine WPL.ef (x_call Try.call71 (getLen_ct wk sb ab lb 21 21 (bads ls 21) (got ls cs 21) A c ls (lv ls 21) (lv ls 22) (val cs 21) (val cs 22) hl100 ((got_at ls cs 21).trans (hs.int 21 (by decide) (by decide))) ((got_at1 ls cs 21).trans (hs.int 22 (by decide) (by decide))) (lv_at hl 21 (by decide)) (lv_at hl 22 (by decide))) [1, 2, 3, 4] [0] rfl (fun w hw => ⟨hw.rdM hz (far_four hfar), hfar⟩) (τ := fun _ => [_, _, _, _, _]) (fun _ => rfl)) (fun _ => ?_)
  refine WPL.fact (fun _ => ?_)
  rw [got_int hs 21 (by decide) (by decide), got_int hs 22 (by decide) (by decide), bads_int ls 21 (by decide), bads_int ls 22 (by decide)]
  refine WPL.nil (onto_of ?_)
  refine WP.region ?_
  refine WPL.val (v_addL (k := 4) rfl rfl) ?_
  refine WPL.val (v_move (v := .int .i64 _) rfl) ?_
  refine WPL.nil (rounds_of ?_)
  refine WPR.succ ?_
  refine WP.seq ?_
  refine WP.region ?_
  refine WPL.val (v_lit (b := false) (v_lss rfl rfl) (by decide)) ?_
  refine WPL.nil (onto_of ?_)
  refine WP.seq ?_
  refine WP.condF rfl ?_
  refine WP.exit (onto_of ?_)
  refine WP.seq ?_
  refine WP.seq ?_
  refine WP.region ?_
  refine WPL.val (v_move (v := .int .i64 (0)) rfl) ?_
  refine WPL.nil (onto_of ?_)
  refine WP.block ?_
  refine WP.loopN 5 ?_
  refine WPR.succ ?_
  refine WP.seq ?_
  refine WP.region ?_
  refine WPL.val (v_lit (b := true) (v_lss rfl rfl) (by decide)) ?_
  refine WPL.nil (onto_of ?_)
  refine WP.seq ?_
  refine WP.condT rfl ?_
  refine WP.skip (onto_of ?_)
  refine WP.seq ?_
  refine WP.block ?_
  refine WP.seq ?_
  refine WP.region ?_
  refine WPL.val (v_move (v := .int .i64 _) rfl) ?_
  refine WPL.val (v_assign (v := .int .i64 _) rfl) ?_
  refine WPL.nil (onto_of ?_)
  refine WP.region ?_
  refine WPL.val (v_move (v := .pointer _) rfl) ?_
  refine WPL.val (v_move (v := .pointer _) rfl) ?_
  refine WPL.val (v_move (v := .int .i64 _) rfl) ?_
  refine WPL.val (v_nil rfl) ?_
  refine WPL.val (v_fieldL (o' := 23) Try.underlying57 rfl Try.sizeOf49 rfl rfl) ?_
  refine WPL.val (v_indexA (j := 0) Try.underlying49 Try.sizeOf48 rfl rfl rfl (by decide)) ?_
  refine WPL.ef (x_call Try.call71 (getLen_ct wk sb ab lb 23 23 (bads ls 23) (got ls cs 23) A c ls (lv ls 23) (lv ls 24) (val cs 23) (val cs 24) hl100 ((got_at ls cs 23).trans (hs.int 23 (by decide) (by decide))) ((got_at1 ls cs 23).trans (hs.int 24 (by decide) (by decide))) (lv_at hl 23 (by decide)) (lv_at hl 24 (by decide))) [1, 2, 3, 4] [0] rfl (fun w hw => ⟨hw.rdM hz (far_four hfar), hfar⟩) (τ := fun _ => [_, _, _, _, _]) (fun _ => rfl)) (fun _ => ?_)
  refine WPL.fact (fun _ => ?_)
  rw [got_int hs 23 (by decide) (by decide), got_int hs 24 (by decide) (by decide), bads_int ls 23 (by decide), bads_int ls 24 (by decide)]
  refine WPL.nil (onto_of ?_)
  refine WP.region ?_
  refine WPL.val (v_addL (k := 1) rfl rfl) ?_
  refine WPL.val (v_move (v := .int .i64 _) rfl) ?_
  refine WPL.nil (rounds_of ?_)
  refine WPR.succ ?_
  refine WP.seq ?_
  refine WP.region ?_
  refine WPL.val (v_lit (b := true) (v_lss rfl rfl) (by decide)) ?_
  refine WPL.nil (onto_of ?_)
  refine WP.seq ?_
  refine WP.condT rfl ?_
  refine WP.skip (onto_of ?_)
  refine WP.seq ?_
  refine WP.block ?_
  refine WP.seq ?_
  refine WP.region ?_
  refine WPL.val (v_move (v := .int .i64 _) rfl) ?_
  refine WPL.val (v_assign (v := .int .i64 _) rfl) ?_
  refine WPL.nil (onto_of ?_)
  refine WP.region ?_
  refine WPL.val (v_move (v := .pointer _) rfl) ?_
  refine WPL.val (v_move (v := .pointer _) rfl) ?_
  refine WPL.val (v_move (v := .int .i64 _) rfl) ?_
  refine WPL.val (v_nil rfl) ?_
  refine WPL.val (v_fieldL (o' := 23) Try.underlying57 rfl Try.sizeOf49 rfl rfl) ?_
  refine WPL.val (v_indexA (j := 1) Try.underlying49 Try.sizeOf48 rfl rfl rfl (by decide)) ?_
  refine WPL.ef (x_call Try.call71 (getLen_ct wk sb ab lb 25 25 (bads ls 25) (got ls cs 25) A c ls (lv ls 25) (lv ls 26) (val cs 25) (val cs 26) hl100 ((got_at ls cs 25).trans (hs.int 25 (by decide) (by decide))) ((got_at1 ls cs 25).trans (hs.int 26 (by decide) (by decide))) (lv_at hl 25 (by decide)) (lv_at hl 26 (by decide))) [1, 2, 3, 4] [0] rfl (fun w hw => ⟨hw.rdM hz (far_four hfar), hfar⟩) (τ := fun _ => [_, _, _, _, _]) (fun _ => rfl)) (fun _ => ?_)
  refine WPL.fact (fun _ => ?_)
  rw [got_int hs 25 (by decide) (by decide), got_int hs 26 (by decide) (by decide), bads_int ls 25 (by decide), bads_int ls 26 (by decide)]
  refine WPL.nil (onto_of ?_)
  refine WP.region ?_
  refine WPL.val (v_addL (k := 2) rfl rfl) ?_
  refine WPL.val (v_move (v := .int .i64 _) rfl) ?_
  refine WPL.nil (rounds_of ?_)
  refine WPR.succ ?_
  refine WP.seq ?_
  refine WP.region ?_
  refine WPL.val (v_lit (b := true) (v_lss rfl rfl) (by decide)) ?_
  refine WPL.nil (onto_of ?_)
  refine WP.seq ?_
  refine WP.condT rfl ?_
  refine WP.skip (onto_of ?_)
  refine WP.seq ?_
  refine WP.block ?_
  refine WP.seq ?_
  refine WP.region ?_
  refine WPL.val (v_move (v := .int .i64 _) rfl) ?_
  refine WPL.val (v_assign (v := .int .i64 _) rfl) ?_
  refine WPL.nil (onto_of ?_)
  refine WP.region ?_
  refine WPL.val (v_move (v := .pointer _) rfl) ?_
  refine WPL.val (v_move (v := .pointer _) rfl) ?_
  refine WPL.val (v_move (v := .int .i64 _) rfl) ?_
  refine WPL.val (v_nil rfl) ?_
  refine WPL.val (v_fieldL (o' := 23) Try.underlying57 rfl Try.sizeOf49 rfl rfl) ?_
  refine WPL.val (v_indexA (j := 2) Try.underlying49 Try.sizeOf48 rfl rfl rfl (by decide)) ?_
  refine WPL.ef (x_call Try.call71 (getLen_ct wk sb ab lb 27 27 (bads ls 27) (got ls cs 27) A c ls (lv ls 27) (lv ls 28) (val cs 27) (val cs 28) hl100 ((got_at ls cs 27).trans (hs.int 27 (by decide) (by decide))) ((got_at1 ls cs 27).trans (hs.int 28 (by decide) (by decide))) (lv_at hl 27 (by decide)) (lv_at hl 28 (by decide))) [1, 2, 3, 4] [0] rfl (fun w hw => ⟨hw.rdM hz (far_four hfar), hfar⟩) (τ := fun _ => [_, _, _, _, _]) (fun _ => rfl)) (fun _ => ?_)
  refine WPL.fact (fun _ => ?_)
  rw [got_int hs 27 (by decide) (by decide), got_int hs 28 (by decide) (by decide), bads_int ls 27 (by decide), bads_int ls 28 (by decide)]
  refine WPL.nil (onto_of ?_)
  refine WP.region ?_
  refine WPL.val (v_addL (k := 3) rfl rfl) ?_
  refine WPL.val (v_move (v := .int .i64 _) rfl) ?_
  refine WPL.nil (rounds_of ?_)
  refine WPR.succ ?_
  refine WP.seq ?_
  refine WP.region ?_
  refine WPL.val (v_lit (b := true) (v_lss rfl rfl) (by decide)) ?_
  refine WPL.nil (onto_of ?_)
  refine WP.seq ?_
  refine WP.condT rfl ?_
  refine WP.skip (onto_of ?_)
  refine WP.seq ?_
  refine WP.block ?_
  refine WP.seq ?_
  refine WP.region ?_
  refine WPL.val (v_move (v := .int .i64 _) rfl) ?_
  refine WPL.val (v_assign (v := .int .i64 _) rfl) ?_
  refine WPL.nil (onto_of ?_)
  refine WP.region ?_
  refine WPL.val (v_move (v := .pointer _) rfl) ?_
  refine WPL.val (v_move (v := .pointer _) rfl) ?_
  refine WPL.val (v_move (v := .int .i64 _) rfl) ?_
  refine WPL.val (v_nil rfl) ?_
  refine WPL.val (v_fieldL (o' := 23) Try.underlying57 rfl Try.sizeOf49 rfl rfl) ?_
  refine WPL.val (v_indexA (j := 3) Try.underlying49 Try.sizeOf48 rfl rfl rfl (by decide)) ?_
  refine WPL.ef (x_call Try.call71 (getLen_ct wk sb ab lb 29 29 (bads ls 29) (got ls cs 29) A c ls (lv ls 29) (lv ls 30) (val cs 29) (val cs 30) hl100 ((got_at ls cs 29).trans (hs.int 29 (by decide) (by decide))) ((got_at1 ls cs 29).trans (hs.int 30 (by decide) (by decide))) (lv_at hl 29 (by decide)) (lv_at hl 30 (by decide))) [1, 2, 3, 4] [0] rfl (fun w hw => ⟨hw.rdM hz (far_four hfar), hfar⟩) (τ := fun _ => [_, _, _, _, _]) (fun _ => rfl)) (fun _ => ?_)
  refine WPL.fact (fun _ => ?_)
  rw [got_int hs 29 (by decide) (by decide), got_int hs 30 (by decide) (by decide), bads_int ls 29 (by decide), bads_int ls 30 (by decide)]
  refine WPL.nil (onto_of ?_)
  refine WP.region ?_
  refine WPL.val (v_addL (k := 4) rfl rfl) ?_
  refine WPL.val (v_move (v := .int .i64 _) rfl) ?_
  refine WPL.nil (rounds_of ?_)
  refine WPR.succ ?_
  refine WP.seq ?_
  refine WP.region ?_
  refine WPL.val (v_lit (b := false) (v_lss rfl rfl) (by decide)) ?_
  refine WPL.nil (onto_of ?_)
  refine WP.seq ?_
  refine WP.condF rfl ?_
  refine WP.exit (onto_of ?_)
  refine WP.seq ?_
  refine WP.seq ?_
  refine WP.region ?_
  refine WPL.val (v_move (v := .int .i64 (0)) rfl) ?_
  refine WPL.nil (onto_of ?_)
  refine WP.block ?_
  refine WP.loopN 5 ?_
  refine WPR.succ ?_
  refine WP.seq ?_
  refine WP.region ?_
  refine WPL.val (v_lit (b := true) (v_lss rfl rfl) (by decide)) ?_
  refine WPL.nil (onto_of ?_)
  refine WP.seq ?_
  refine WP.condT rfl ?_
  refine WP.skip (onto_of ?_)
  refine WP.seq ?_
  refine WP.block ?_
  refine WP.seq ?_
  refine WP.region ?_
  refine WPL.val (v_move (v := .int .i64 _) rfl) ?_
  refine WPL.val (v_assign (v := .int .i64 _) rfl) ?_
  refine WPL.nil (onto_of ?_)
  refine WP.region ?_
  refine WPL.val (v_move (v := .pointer _) rfl) ?_
  refine WPL.val (v_move (v := .pointer _) rfl) ?_
  refine WPL.val (v_move (v := .int .i64 _) rfl) ?_
  refine WPL.val (v_nil rfl) ?_
  refine WPL.val (v_fieldL (o' := 31) Try.underlying57 rfl Try.sizeOf50 rfl rfl) ?_
  refine WPL.val (v_indexA (j := 0) Try.underlying50 Try.sizeOf3 rfl rfl rfl (by decide)) ?_
  refine WPL.ef (x_call Try.call72 (get72_ct wk sb ab lb 31 31 (bads ls 31) (got ls cs 31) A c ls (lv ls 31) (val cs 31) hl100 ((got_at ls cs 31).trans (hs.int 31 (by decide) (by decide))) (lv_at hl 31 (by decide))) [1, 2, 3, 4] [0] rfl (fun w hw => ⟨hw.rdM hz (far_four hfar), hfar⟩) (τ := fun _ => [_, _, _, _, _]) (fun _ => rfl)) (fun _ => ?_)
  refine WPL.fact (fun _ => ?_)
  rw [got_int hs 31 (by decide) (by decide), bads_int ls 31 (by decide)]
  refine WPL.nil (onto_of ?_)
  refine WP.region ?_
  refine WPL.val (v_addL (k := 1) rfl rfl) ?_
  refine WPL.val (v_move (v := .int .i64 _) rfl) ?_
  refine WPL.nil (rounds_of ?_)
  refine WPR.succ ?_
  refine WP.seq ?_
  refine WP.region ?_
  refine WPL.val (v_lit (b := true) (v_lss rfl rfl) (by decide)) ?_
  refine WPL.nil (onto_of ?_)
  refine WP.seq ?_
  refine WP.condT rfl ?_
  refine WP.skip (onto_of ?_)
  refine WP.seq ?_
  refine WP.block ?_
  refine WP.seq ?_
  refine WP.region ?_
  refine WPL.val (v_move (v := .int .i64 _) rfl) ?_
  refine WPL.val (v_assign (v := .int .i64 _) rfl) ?_
  refine WPL.nil (onto_of ?_)
  refine WP.region ?_
  refine WPL.val (v_move (v := .pointer _) rfl) ?_
  refine WPL.val (v_move (v := .pointer _) rfl) ?_
  refine WPL.val (v_move (v := .int .i64 _) rfl) ?_
  refine WPL.val (v_nil rfl) ?_
  refine WPL.val (v_fieldL (o' := 31) Try.underlying57 rfl Try.sizeOf50 rfl rfl) ?_
  refine WPL.val (v_indexA (j := 1) Try.underlying50 Try.sizeOf3 rfl rfl rfl (by decide)) ?_
  refine WPL.ef (x_call Try.call72 (get72_ct wk sb ab lb 32 32 (bads ls 32) (got ls cs 32) A c ls (lv ls 32) (val cs 32) hl100 ((got_at ls cs 32).trans (hs.int 32 (by decide) (by decide))) (lv_at hl 32 (by decide))) [1, 2, 3, 4] [0] rfl (fun w hw => ⟨hw.rdM hz (far_four hfar), hfar⟩) (τ := fun _ => [_, _, _, _, _]) (fun _ => rfl)) (fun _ => ?_)
  refine WPL.fact (fun _ => ?_)
  rw [got_int hs 32 (by decide) (by decide), bads_int ls 32 (by decide)]
  refine WPL.nil (onto_of ?_)
  refine WP.region ?_
  refine WPL.val (v_addL (k := 2) rfl rfl) ?_
  refine WPL.val (v_move (v := .int .i64 _) rfl) ?_
  refine WPL.nil (rounds_of ?_)
  refine WPR.succ ?_
  refine WP.seq ?_
  refine WP.region ?_
  refine WPL.val (v_lit (b := true) (v_lss rfl rfl) (by decide)) ?_
  refine WPL.nil (onto_of ?_)
  refine WP.seq ?_
  refine WP.condT rfl ?_
  refine WP.skip (onto_of ?_)
  refine WP.seq ?_
  refine WP.block ?_
  refine WP.seq ?_
  refine WP.region ?_
  refine WPL.val (v_move (v := .int .i64 _) rfl) ?_
  refine WPL.val (v_assign (v := .int .i64 _) rfl) ?_
  refine WPL.nil (onto_of ?_)
  refine WP.region ?_
  refine WPL.val (v_move (v := .pointer _) rfl) ?_
  refine WPL.val (v_move (v := .pointer _) rfl) ?_
  refine WPL.val (v_move (v := .int .i64 _) rfl) ?_
  refine WPL.val (v_nil rfl) ?_
  refine WPL.val (v_fieldL (o' := 31) Try.underlying57 rfl Try.sizeOf50 rfl rfl) ?_
  refine WPL.val (v_indexA (j := 2) Try.underlying50 Try.sizeOf3 rfl rfl rfl (by decide)) ?_
  refine WPL.ef (x_call Try.call72 (get72_ct wk sb ab lb 33 33 (bads ls 33) (got ls cs 33) A c ls (lv ls 33) (val cs 33) hl100 ((got_at ls cs 33).trans (hs.int 33 (by decide) (by decide))) (lv_at hl 33 (by decide))) [1, 2, 3, 4] [0] rfl (fun w hw => ⟨hw.rdM hz (far_four hfar), hfar⟩) (τ := fun _ => [_, _, _, _, _]) (fun _ => rfl)) (fun _ => ?_)
  refine WPL.fact (fun _ => ?_)
  rw [got_int hs 33 (by decide) (by decide), bads_int ls 33 (by decide)]
  refine WPL.nil (onto_of ?_)
  refine WP.region ?_
  refine WPL.val (v_addL (k := 3) rfl rfl) ?_
  refine WPL.val (v_move (v := .int .i64 _) rfl) ?_
  refine WPL.nil (rounds_of ?_)
  refine WPR.succ ?_
  refine WP.seq ?_
  refine WP.region ?_
  refine WPL.val (v_lit (b := true) (v_lss rfl rfl) (by decide)) ?_
  refine WPL.nil (onto_of ?_)
  refine WP.seq ?_
  refine WP.condT rfl ?_
  refine WP.skip (onto_of ?_)
  refine WP.seq ?_
  refine WP.block ?_
  refine WP.seq ?_
  refine WP.region ?_
  refine WPL.val (v_move (v := .int .i64 _) rfl) ?_
  refine WPL.val (v_assign (v := .int .i64 _) rfl) ?_
  refine WPL.nil (onto_of ?_)
  refine WP.region ?_
  refine WPL.val (v_move (v := .pointer _) rfl) ?_
  refine WPL.val (v_move (v := .pointer _) rfl) ?_
  refine WPL.val (v_move (v := .int .i64 _) rfl) ?_
  refine WPL.val (v_nil rfl) ?_
  refine WPL.val (v_fieldL (o' := 31) Try.underlying57 rfl Try.sizeOf50 rfl rfl) ?_
  refine WPL.val (v_indexA (j := 3) Try.underlying50 Try.sizeOf3 rfl rfl rfl (by decide)) ?_
  refine WPL.ef (x_call Try.call72 (get72_ct wk sb ab lb 34 34 (bads ls 34) (got ls cs 34) A c ls (lv ls 34) (val cs 34) hl100 ((got_at ls cs 34).trans (hs.int 34 (by decide) (by decide))) (lv_at hl 34 (by decide))) [1, 2, 3, 4] [0] rfl (fun w hw => ⟨hw.rdM hz (far_four hfar), hfar⟩) (τ := fun _ => [_, _, _, _, _]) (fun _ => rfl)) (fun _ => ?_)
  refine WPL.fact (fun _ => ?_)
  rw [got_int hs 34 (by decide) (by decide), bads_int ls 34 (by decide)]
  refine WPL.nil (onto_of ?_)
  refine WP.region ?_
  refine WPL.val (v_addL (k := 4) rfl rfl) ?_
  refine WPL.val (v_move (v := .int .i64 _) rfl) ?_
  refine WPL.nil (rounds_of ?_)
  refine WPR.succ ?_
  refine WP.seq ?_
  refine WP.region ?_
  refine WPL.val (v_lit (b := false) (v_lss rfl rfl) (by decide)) ?_
  refine WPL.nil (onto_of ?_)
  refine WP.seq ?_
  refine WP.condF rfl ?_
  refine WP.exit (onto_of ?_)
  refine WP.seq ?_
  refine WP.seq ?_
  refine WP.region ?_
  refine WPL.val (v_move (v := .int .i64 (0)) rfl) ?_
  refine WPL.nil (onto_of ?_)
  refine WP.block ?_
  refine WP.loopN 5 ?_
  refine WPR.succ ?_
  refine WP.seq ?_
  refine WP.region ?_
  refine WPL.val (v_lit (b := true) (v_lss rfl rfl) (by decide)) ?_
  refine WPL.nil (onto_of ?_)
  refine WP.seq ?_
  refine WP.condT rfl ?_
  refine WP.skip (onto_of ?_)
  refine WP.seq ?_
  refine WP.block ?_
  refine WP.seq ?_
  refine WP.region ?_
  refine WPL.val (v_move (v := .int .i64 _) rfl) ?_
  refine WPL.val (v_assign (v := .int .i64 _) rfl) ?_
  refine WPL.nil (onto_of ?_)
  refine WP.region ?_
  refine WPL.val (v_move (v := .pointer _) rfl) ?_
  refine WPL.val (v_move (v := .pointer _) rfl) ?_
  refine WPL.val (v_move (v := .int .i64 _) rfl) ?_
  refine WPL.val (v_nil rfl) ?_
  refine WPL.val (v_fieldL (o' := 35) Try.underlying57 rfl Try.sizeOf50 rfl rfl) ?_
  refine WPL.val (v_indexA (j := 0) Try.underlying50 Try.sizeOf3 rfl rfl rfl (by decide)) ?_
  refine WPL.ef (x_call Try.call72 (get72_ct wk sb ab lb 35 35 (bads ls 35) (got ls cs 35) A c ls (lv ls 35) (val cs 35) hl100 ((got_at ls cs 35).trans (hs.int 35 (by decide) (by decide))) (lv_at hl 35 (by decide))) [1, 2, 3, 4] [0] rfl (fun w hw => ⟨hw.rdM hz (far_four hfar), hfar⟩) (τ := fun _ => [_, _, _, _, _]) (fun _ => rfl)) (fun _ => ?_)
  refine WPL.fact (fun _ => ?_)
  rw [got_int hs 35 (by decide) (by decide), bads_int ls 35 (by decide)]
  refine WPL.nil (onto_of ?_)
  refine WP.region ?_
  refine WPL.val (v_addL (k := 1) rfl rfl) ?_
  refine WPL.val (v_move (v := .int .i64 _) rfl) ?_
  refine WPL.nil (rounds_of ?_)
  refine WPR.succ ?_
  refine WP.seq ?_
  refine WP.region ?_
  refine WPL.val (v_lit (b := true) (v_lss rfl rfl) (by decide)) ?_
  refine WPL.nil (onto_of ?_)
  refine WP.seq ?_
  refine WP.condT rfl ?_
  refine WP.skip (onto_of ?_)
  refine WP.seq ?_
  refine WP.block ?_
  refine WP.seq ?_
  refine WP.region ?_
  refine WPL.val (v_move (v := .int .i64 _) rfl) ?_
  refine WPL.val (v_assign (v := .int .i64 _) rfl) ?_
  refine WPL.nil (onto_of ?_)
  refine WP.region ?_
  refine WPL.val (v_move (v := .pointer _) rfl) ?_
  refine WPL.val (v_move (v := .pointer _) rfl) ?_
  refine WPL.val (v_move (v := .int .i64 _) rfl) ?_
  refine WPL.val (v_nil rfl) ?_
  refine WPL.val (v_fieldL (o' := 35) Try.underlying57 rfl Try.sizeOf50 rfl rfl) ?_
  refine WPL.val (v_indexA (j := 1) Try.underlying50 Try.sizeOf3 rfl rfl rfl (by decide)) ?_
  refine WPL.ef (x_call Try.call72 (get72_ct wk sb ab lb 36 36 (bads ls 36) (got ls cs 36) A c ls (lv ls 36) (val cs 36) hl100 ((got_at ls cs 36).trans (hs.int 36 (by decide) (by decide))) (lv_at hl 36 (by decide))) [1, 2, 3, 4] [0] rfl (fun w hw => ⟨hw.rdM hz (far_four hfar), hfar⟩) (τ := fun _ => [_, _, _, _, _]) (fun _ => rfl)) (fun _ => ?_)
  refine WPL.fact (fun _ => ?_)
  rw [got_int hs 36 (by decide) (by decide), bads_int ls 36 (by decide)]
  refine WPL.nil (onto_of ?_)
  refine WP.region ?_
  refine WPL.val (v_addL (k := 2) rfl rfl) ?_
  refine WPL.val (v_move (v := .int .i64 _) rfl) ?_
  refine WPL.nil (rounds_of ?_)
  refine WPR.succ ?_
  refine WP.seq ?_
  refine WP.region ?_
  refine WPL.val (v_lit (b := true) (v_lss rfl rfl) (by decide)) ?_
  refine WPL.nil (onto_of ?_)
  refine WP.seq ?_
  refine WP.condT rfl ?_
  refine WP.skip (onto_of ?_)
  refine WP.seq ?_
  refine WP.block ?_
  refine WP.seq ?_
  refine WP.region ?_
  refine WPL.val (v_move (v := .int .i64 _) rfl) ?_
  refine WPL.val (v_assign (v := .int .i64 _) rfl) ?_
  refine WPL.nil (onto_of ?_)
  refine WP.region ?_
  refine WPL.val (v_move (v := .pointer _) rfl) ?_
  refine WPL.val (v_move (v := .pointer _) rfl) ?_
  refine WPL.val (v_move (v := .int .i64 _) rfl) ?_
  refine WPL.val (v_nil rfl) ?_
  refine WPL.val (v_fieldL (o' := 35) Try.underlying57 rfl Try.sizeOf50 rfl rfl) ?_
  refine WPL.val (v_indexA (j := 2) Try.underlying50 Try.sizeOf3 rfl rfl rfl (by decide)) ?_
  refine WPL.ef (x_call Try.call72 (get72_ct wk sb ab lb 37 37 (bads ls 37) (got ls cs 37) A c ls (lv ls 37) (val cs 37) hl100 ((got_at ls cs 37).trans (hs.int 37 (by decide) (by decide))) (lv_at hl 37 (by decide))) [1, 2, 3, 4] [0] rfl (fun w hw => ⟨hw.rdM hz (far_four hfar), hfar⟩) (τ := fun _ => [_, _, _, _, _]) (fun _ => rfl)) (fun _ => ?_)
  refine WPL.fact (fun _ => ?_)
  rw [got_int hs 37 (by decide) (by decide), bads_int ls 37 (by decide)]
  refine WPL.nil (onto_of ?_)
  refine WP.region ?_
  refine WPL.val (v_addL (k := 3) rfl rfl) ?_
  refine WPL.val (v_move (v := .int .i64 _) rfl) ?_
  refine WPL.nil (rounds_of ?_)
  refine WPR.succ ?_
  refine WP.seq ?_
  refine WP.region ?_
  refine WPL.val (v_lit (b := true) (v_lss rfl rfl) (by decide)) ?_
  refine WPL.nil (onto_of ?_)
  refine WP.seq ?_
  refine WP.condT rfl ?_
  refine WP.skip (onto_of ?_)
  refine WP.seq ?_
  refine WP.block ?_
  refine WP.seq ?_
  refine WP.region ?_
  refine WPL.val (v_move (v := .int .i64 _) rfl) ?_
  refine WPL.val (v_assign (v := .int .i64 _) rfl) ?_
  refine WPL.nil (onto_of ?_)
  refine WP.region ?_
  refine WPL.val (v_move (v := .pointer _) rfl) ?_
  refine WPL.val (v_move (v := .pointer _) rfl) ?_
  refine WPL.val (v_move (v := .int .i64 _) rfl) ?_
  refine WPL.val (v_nil rfl) ?_
  refine WPL.val (v_fieldL (o' := 35) Try.underlying57 rfl Try.sizeOf50 rfl rfl) ?_
  refine WPL.val (v_indexA (j := 3) Try.underlying50 Try.sizeOf3 rfl rfl rfl (by decide)) ?_
  refine WPL.ef (x_call Try.call72 (get72_ct wk sb ab lb 38 38 (bads ls 38) (got ls cs 38) A c ls (lv ls 38) (val cs 38) hl100 ((got_at ls cs 38).trans (hs.int 38 (by decide) (by decide))) (lv_at hl 38 (by decide))) [1, 2, 3, 4] [0] rfl (fun w hw => ⟨hw.rdM hz (far_four hfar), hfar⟩) (τ := fun _ => [_, _, _, _, _]) (fun _ => rfl)) (fun _ => ?_)
  refine WPL.fact (fun _ => ?_)
  rw [got_int hs 38 (by decide) (by decide), bads_int ls 38 (by decide)]
  refine WPL.nil (onto_of ?_)
  refine WP.region ?_
  refine WPL.val (v_addL (k := 4) rfl rfl) ?_
  refine WPL.val (v_move (v := .int .i64 _) rfl) ?_
  refine WPL.nil (rounds_of ?_)
  refine WPR.succ ?_
  refine WP.seq ?_
  refine WP.region ?_
  refine WPL.val (v_lit (b := false) (v_lss rfl rfl) (by decide)) ?_
  refine WPL.nil (onto_of ?_)
  refine WP.seq ?_
  refine WP.condF rfl ?_
  refine WP.exit (onto_of ?_)
  refine WP.seq ?_
  refine WP.region ?_
  refine WPL.val (v_move (v := .pointer _) rfl) ?_
  refine WPL.val (v_move (v := .pointer _) rfl) ?_
  refine WPL.val (v_nil rfl) ?_
  refine WPL.val (v_fieldL (o' := 39) Try.underlying57 rfl Try.sizeOf3 rfl rfl) ?_
  refine WPL.ef (x_call Try.call72 (get72_ct wk sb ab lb 39 39 (bads ls 39) (got ls cs 39) A c ls (lv ls 39) (val cs 39) hl100 ((got_at ls cs 39).trans (hs.int 39 (by decide) (by decide))) (lv_at hl 39 (by decide))) [1, 2, 3, 4] [0] rfl (fun w hw => ⟨hw.rdM hz (far_four hfar), hfar⟩) (τ := fun _ => [_, _, _, _, _]) (fun _ => rfl)) (fun _ => ?_)
  refine WPL.fact (fun _ => ?_)
  rw [got_int hs 39 (by decide) (by decide), bads_int ls 39 (by decide)]
  refine WPL.nil (onto_of ?_)
  refine WP.seq ?_
  refine WP.region ?_
  refine WPL.val (v_move (v := .pointer _) rfl) ?_
  refine WPL.val (v_move (v := .pointer _) rfl) ?_
  refine WPL.val (v_nil rfl) ?_
  refine WPL.val (v_fieldL (o' := 40) Try.underlying57 rfl Try.sizeOf3 rfl rfl) ?_
  refine WPL.ef (x_call Try.call72 (get72_ct wk sb ab lb 40 40 (bads ls 40) (got ls cs 40) A c ls (lv ls 40) (val cs 40) hl100 ((got_at ls cs 40).trans (hs.int 40 (by decide) (by decide))) (lv_at hl 40 (by decide))) [1, 2, 3, 4] [0] rfl (fun w hw => ⟨hw.rdM hz (far_four hfar), hfar⟩) (τ := fun _ => [_, _, _, _, _]) (fun _ => rfl)) (fun _ => ?_)
  refine WPL.fact (fun _ => ?_)
  rw [got_int hs 40 (by decide) (by decide), bads_int ls 40 (by decide)]
  refine WPL.nil (onto_of ?_)
  refine WP.seq ?_
  refine WP.region ?_
  refine WPL.val (v_move (v := .pointer _) rfl) ?_
  refine WPL.val (v_move (v := .pointer _) rfl) ?_
  refine WPL.val (v_nil rfl) ?_
  refine WPL.val (v_fieldL (o' := 41) Try.underlying57 rfl Try.sizeOf48 rfl rfl) ?_
  refine WPL.ef (x_call Try.call71 (getLen_ct wk sb ab lb 41 41 (bads ls 41) (got ls cs 41) A c ls (lv ls 41) (lv ls 42) (val cs 41) (val cs 42) hl100 ((got_at ls cs 41).trans (hs.int 41 (by decide) (by decide))) ((got_at1 ls cs 41).trans (hs.int 42 (by decide) (by decide))) (lv_at hl 41 (by decide)) (lv_at hl 42 (by decide))) [1, 2, 3, 4] [0] rfl (fun w hw => ⟨hw.rdM hz (far_four hfar), hfar⟩) (τ := fun _ => [_, _, _, _, _]) (fun _ => rfl)) (fun _ => ?_)
  refine WPL.fact (fun _ => ?_)
  rw [got_int hs 41 (by decide) (by decide), got_int hs 42 (by decide) (by decide), bads_int ls 41 (by decide), bads_int ls 42 (by decide)]
  refine WPL.nil (onto_of ?_)
  refine WP.seq ?_
  refine WP.region ?_
  refine WPL.val (v_move (v := .pointer _) rfl) ?_
  refine WPL.val (v_move (v := .pointer _) rfl) ?_
  refine WPL.val (v_nil rfl) ?_
  refine WPL.val (v_fieldL (o' := 43) Try.underlying57 rfl Try.sizeOf51 rfl rfl) ?_
  refine WPL.ef (x_call Try.call73 (get73_ct wk sb ab lb 43 43 (bads ls 43) (got ls cs 43) A c ls (lv ls 43) (val cs 43) hl100 ((got_at ls cs 43).trans (hs.int 43 (by decide) (by decide))) (lv_at hl 43 (by decide))) [1, 2, 3, 4] [0] rfl (fun w hw => ⟨hw.rdM hz (far_four hfar), hfar⟩) (τ := fun _ => [_, _, _, _, _]) (fun _ => rfl)) (fun _ => ?_)
  refine WPL.fact (fun _ => ?_)
  rw [got_int hs 43 (by decide) (by decide), bads_int ls 43 (by decide)]
  refine WPL.nil (onto_of ?_)
  refine WP.seq ?_
  refine WP.region ?_
  refine WPL.val (v_move (v := .pointer _) rfl) ?_
  refine WPL.val (v_move (v := .pointer _) rfl) ?_
  refine WPL.val (v_nil rfl) ?_
  refine WPL.val (v_fieldL (o' := 44) Try.underlying57 rfl Try.sizeOf52 rfl rfl) ?_
  refine WPL.ef (x_call Try.call74 (get74_ct wk sb ab lb 44 44 (bads ls 44) (got ls cs 44) A c ls (lv ls 44) (val cs 44) hl100 ((got_at ls cs 44).trans (hs.int 44 (by decide) (by decide))) (lv_at hl 44 (by decide))) [1, 2, 3, 4] [0] rfl (fun w hw => ⟨hw.rdM hz (far_four hfar), hfar⟩) (τ := fun _ => [_, _, _, _, _]) (fun _ => rfl)) (fun _ => ?_)
  refine WPL.fact (fun _ => ?_)
  rw [got_int hs 44 (by decide) (by decide), bads_int ls 44 (by decide)]
  refine WPL.nil (onto_of ?_)
  refine WP.seq ?_
  refine WP.region ?_
  refine WPL.val (v_move (v := .pointer _) rfl) ?_
  refine WPL.val (v_move (v := .pointer _) rfl) ?_
  refine WPL.val (v_nil rfl) ?_
  refine WPL.val (v_fieldL (o' := 45) Try.underlying57 rfl Try.sizeOf4 rfl rfl) ?_
  refine WPL.ef (x_call Try.call75 (getBool_ct wk sb ab lb 45 45 (bads ls 45) (got ls cs 45) A c ls (lv ls 45) (bval cs 45) hl100 ((got_at ls cs 45).trans (hs.bit 45 (by decide) (by decide))) (lv_at hl 45 (by decide))) [1, 2, 3, 4] [0] rfl (fun w hw => ⟨hw.rdM hz (far_four hfar), hfar⟩) (τ := fun _ => [_, _, _, _, _]) (fun _ => rfl)) (fun _ => ?_)
  refine WPL.fact (fun _ => ?_)
  rw [got_bit hs 45 (by decide) (by decide), bads_bit ls 45 (by decide)]
  refine WPL.nil (onto_of ?_)
  refine WP.seq ?_
  refine WP.region ?_
  refine WPL.val (v_move (v := .pointer _) rfl) ?_
  refine WPL.val (v_move (v := .pointer _) rfl) ?_
  refine WPL.val (v_nil rfl) ?_
  refine WPL.val (v_fieldL (o' := 46) Try.underlying57 rfl Try.sizeOf3 rfl rfl) ?_
  refine WPL.ef (x_call Try.call72 (get72_ct wk sb ab lb 46 46 (bads ls 46) (got ls cs 46) A c ls (lv ls 46) (val cs 46) hl100 ((got_at ls cs 46).trans (hs.int 46 (by decide) (by decide))) (lv_at hl 46 (by decide))) [1, 2, 3, 4] [0] rfl (fun w hw => ⟨hw.rdM hz (far_four hfar), hfar⟩) (τ := fun _ => [_, _, _, _, _]) (fun _ => rfl)) (fun _ => ?_)
  refine WPL.fact (fun _ => ?_)
  rw [got_int hs 46 (by decide) (by decide), bads_int ls 46 (by decide)]
  refine WPL.nil (onto_of ?_)
  refine WP.seq ?_
  refine WP.region ?_
  refine WPL.val (v_move (v := .pointer _) rfl) ?_
  refine WPL.val (v_move (v := .pointer _) rfl) ?_
  refine WPL.val (v_nil rfl) ?_
  refine WPL.val (v_fieldL (o' := 47) Try.underlying57 rfl Try.sizeOf4 rfl rfl) ?_
  refine WPL.ef (x_call Try.call75 (getBool_ct wk sb ab lb 47 47 (bads ls 47) (got ls cs 47) A c ls (lv ls 47) (bval cs 47) hl100 ((got_at ls cs 47).trans (hs.bit 47 (by decide) (by decide))) (lv_at hl 47 (by decide))) [1, 2, 3, 4] [0] rfl (fun w hw => ⟨hw.rdM hz (far_four hfar), hfar⟩) (τ := fun _ => [_, _, _, _, _]) (fun _ => rfl)) (fun _ => ?_)
  refine WPL.fact (fun _ => ?_)
  rw [got_bit hs 47 (by decide) (by decide), bads_bit ls 47 (by decide)]
  refine WPL.nil (onto_of ?_)
  refine WP.seq ?_
  refine WP.region ?_
  refine WPL.val (v_move (v := .pointer _) rfl) ?_
  refine WPL.val (v_move (v := .pointer _) rfl) ?_
  refine WPL.val (v_nil rfl) ?_
  refine WPL.val (v_fieldL (o' := 48) Try.underlying57 rfl Try.sizeOf3 rfl rfl) ?_
  refine WPL.ef (x_call Try.call72 (get72_ct wk sb ab lb 48 48 (bads ls 48) (got ls cs 48) A c ls (lv ls 48) (val cs 48) hl100 ((got_at ls cs 48).trans (hs.int 48 (by decide) (by decide))) (lv_at hl 48 (by decide))) [1, 2, 3, 4] [0] rfl (fun w hw => ⟨hw.rdM hz (far_four hfar), hfar⟩) (τ := fun _ => [_, _, _, _, _]) (fun _ => rfl)) (fun _ => ?_)
  refine WPL.fact (fun _ => ?_)
  rw [got_int hs 48 (by decide) (by decide), bads_int ls 48 (by decide)]
  refine WPL.nil (onto_of ?_)
  refine WP.seq ?_
  refine WP.region ?_
  refine WPL.val (v_move (v := .pointer _) rfl) ?_
  refine WPL.val (v_move (v := .pointer _) rfl) ?_
  refine WPL.val (v_nil rfl) ?_
  refine WPL.val (v_fieldL (o' := 49) Try.underlying57 rfl Try.sizeOf53 rfl rfl) ?_
  refine WPL.ef (x_call Try.call76 (get76_ct wk sb ab lb 49 49 (bads ls 49) (got ls cs 49) A c ls (lv ls 49) (val cs 49) hl100 ((got_at ls cs 49).trans (hs.int 49 (by decide) (by decide))) (lv_at hl 49 (by decide))) [1, 2, 3, 4] [0] rfl (fun w hw => ⟨hw.rdM hz (far_four hfar), hfar⟩) (τ := fun _ => [_, _, _, _, _]) (fun _ => rfl)) (fun _ => ?_)
  refine WPL.fact (fun _ => ?_)
  rw [got_int hs 49 (by decide) (by decide), bads_int ls 49 (by decide)]
  refine WPL.nil (onto_of ?_)
  refine WP.seq ?_
  refine WP.region ?_
  refine WPL.val (v_move (v := .pointer _) rfl) ?_
  refine WPL.val (v_move (v := .pointer _) rfl) ?_
  refine WPL.val (v_nil rfl) ?_
  refine WPL.val (v_fieldL (o' := 50) Try.underlying57 rfl Try.sizeOf54 rfl rfl) ?_
  refine WPL.ef (x_call Try.call77 (get77_ct wk sb ab lb 50 50 (bads ls 50) (got ls cs 50) A c ls (lv ls 50) (val cs 50) hl100 ((got_at ls cs 50).trans (hs.int 50 (by decide) (by decide))) (lv_at hl 50 (by decide))) [1, 2, 3, 4] [0] rfl (fun w hw => ⟨hw.rdM hz (far_four hfar), hfar⟩) (τ := fun _ => [_, _, _, _, _]) (fun _ => rfl)) (fun _ => ?_)
  refine WPL.fact (fun _ => ?_)
  rw [got_int hs 50 (by decide) (by decide), bads_int ls 50 (by decide)]
  refine WPL.nil (onto_of ?_)
  refine WP.seq ?_
  refine WP.region ?_
  refine WPL.val (v_move (v := .pointer _) rfl) ?_
  refine WPL.val (v_move (v := .pointer _) rfl) ?_
  refine WPL.val (v_nil rfl) ?_
  refine WPL.val (v_fieldL (o' := 51) Try.underlying57 rfl Try.sizeOf4 rfl rfl) ?_
  refine WPL.ef (x_call Try.call75 (getBool_ct wk sb ab lb 51 51 (bads ls 51) (got ls cs 51) A c ls (lv ls 51) (bval cs 51) hl100 ((got_at ls cs 51).trans (hs.bit 51 (by decide) (by decide))) (lv_at hl 51 (by decide))) [1, 2, 3, 4] [0] rfl (fun w hw => ⟨hw.rdM hz (far_four hfar), hfar⟩) (τ := fun _ => [_, _, _, _, _]) (fun _ => rfl)) (fun _ => ?_)
  refine WPL.fact (fun _ => ?_)
  rw [got_bit hs 51 (by decide) (by decide), bads_bit ls 51 (by decide)]
  refine WPL.nil (onto_of ?_)
  refine WP.seq ?_
  refine WP.region ?_
  refine WPL.val (v_move (v := .pointer _) rfl) ?_
  refine WPL.val (v_move (v := .pointer _) rfl) ?_
  refine WPL.val (v_nil rfl) ?_
  refine WPL.val (v_fieldL (o' := 52) Try.underlying57 rfl Try.sizeOf4 rfl rfl) ?_
  refine WPL.ef (x_call Try.call75 (getBool_ct wk sb ab lb 52 52 (bads ls 52) (got ls cs 52) A c ls (lv ls 52) (bval cs 52) hl100 ((got_at ls cs 52).trans (hs.bit 52 (by decide) (by decide))) (lv_at hl 52 (by decide))) [1, 2, 3, 4] [0] rfl (fun w hw => ⟨hw.rdM hz (far_four hfar), hfar⟩) (τ := fun _ => [_, _, _, _, _]) (fun _ => rfl)) (fun _ => ?_)
  refine WPL.fact (fun _ => ?_)
  rw [got_bit hs 52 (by decide) (by decide), bads_bit ls 52 (by decide)]
  refine WPL.nil (onto_of ?_)
  refine WP.seq ?_
  refine WP.region ?_
  refine WPL.val (v_move (v := .pointer _) rfl) ?_
  refine WPL.val (v_move (v := .pointer _) rfl) ?_
  refine WPL.val (v_nil rfl) ?_
  refine WPL.val (v_fieldL (o' := 53) Try.underlying57 rfl Try.sizeOf55 rfl rfl) ?_
  refine WPL.val (v_indexA (j := 0) Try.underlying55 Try.sizeOf3 rfl rfl rfl (by decide)) ?_
  refine WPL.ef (x_call Try.call72 (get72_ct wk sb ab lb 53 53 (bads ls 53) (got ls cs 53) A c ls (lv ls 53) (val cs 53) hl100 ((got_at ls cs 53).trans (hs.int 53 (by decide) (by decide))) (lv_at hl 53 (by decide))) [1, 2, 3, 4] [0] rfl (fun w hw => ⟨hw.rdM hz (far_four hfar), hfar⟩) (τ := fun _ => [_, _, _, _, _]) (fun _ => rfl)) (fun _ => ?_)
  refine WPL.fact (fun _ => ?_)
  rw [got_int hs 53 (by decide) (by decide), bads_int ls 53 (by decide)]
  refine WPL.nil (onto_of ?_)
  refine WP.region ?_
  refine WPL.val (v_move (v := .pointer _) rfl) ?_
  refine WPL.val (v_move (v := .pointer _) rfl) ?_
  refine WPL.val (v_nil rfl) ?_
  refine WPL.val (v_fieldL (o' := 53) Try.underlying57 rfl Try.sizeOf55 rfl rfl) ?_
  refine WPL.val (v_indexA (j := 1) Try.underlying55 Try.sizeOf3 rfl rfl rfl (by decide)) ?_
  refine WPL.ef (x_call Try.call72 (get72_ct wk sb ab lb 54 54 (bads ls 54) (got ls cs 54) A c ls (lv ls 54) (val cs 54) hl100 ((got_at ls cs 54).trans (hs.int 54 (by decide) (by decide))) (lv_at hl 54 (by decide))) [1, 2, 3, 4] [0] rfl (fun w hw => ⟨hw.rdM hz (far_four hfar), hfar⟩) (τ := fun _ => [_, _, _, _, _]) (fun _ => rfl)) (fun _ => ?_)
  refine WPL.fact (fun _ => ?_)
  rw [got_int hs 54 (by decide) (by decide), bads_int ls 54 (by decide)]
  exact WPL.nil fun w hw => RetQ.of0 Try.results55 (.inr rfl) ⟨(), rfl, trivial, (hw.sel [1, 2, 3, 4] (by decide))⟩
end Go.Proofs.Ytabdcfobdehhiaa
