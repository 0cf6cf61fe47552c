/- record's walk through a style, as Put has it; Put. -/
import Derived.Test.YtabdcfobdehhiaaRecBool
namespace Go.Proofs.Ytabdcfobdehhiaa
open Go.RowKit

def num01 : Value → Int
  | .int _ z => z
  | .bool b => bit01 b
  | _ => 0
def val (cs : List Value) (j : Nat) : Int := num01 (cs.getD j undef)
def bval (cs : List Value) (j : Nat) : Bool := match cs.getD j undef with
  | .bool b => b
  | _ => false
def isBit (j : Nat) : Bool := j == 45 || j == 47 || j == 51 || j == 52
/-- The cells of a style. -/
structure SOk (cs : List Value) : Prop where
  len : cs.length = 55
  int : ∀ j, j < 55 → isBit j = false → cs[j]? = some (.int .i64 (val cs j))
  bit : ∀ j, j < 55 → isBit j = true → cs[j]? = some (.bool (bval cs j))
def nums (cs : List Value) : List Int := cs.map num01
theorem nums_at {cs : List Value} (hs : SOk cs) {j : Nat} (hj : j < 55) : (nums cs)[j]? = some (val cs j) := by
  have hl := hs.len
  unfold nums val
  rw [List.getElem?_map, List.getD_eq_getElem?_getD, List.getElem?_eq_getElem (by omega)]
  rfl
theorem take_snoc {α : Type} {l : List α} {i : Nat} {e : α} (h : l[i]? = some e) : l.take (i + 1) = l.take i ++ [e] := by
  rw [List.take_add_one, h]; rfl
theorem SOk.step {cs : List Value} (hs : SOk cs) (j : Nat) (hj : j < 55) : (nums cs).take j ++ [val cs j] = (nums cs).take (j + 1) := (take_snoc (nums_at hs hj)).symm
theorem SOk.bstep {cs : List Value} (hs : SOk cs) (j : Nat) (hj : j < 55) (hb : isBit j = true) : (nums cs).take j ++ [bit01 (bval cs j)] = (nums cs).take (j + 1) := by
  have h1 := hs.bit j hj hb
  have e : val cs j = bit01 (bval cs j) := by
    unfold val
    rw [List.getD_eq_getElem?_getD, h1]
    rfl
  rw [← e]
  exact hs.step j hj
theorem SOk.short {cs : List Value} (hs : SOk cs) (j : Nat) : ((nums cs).take j).length ≤ 55 := by
  have hl := hs.len
  have e : (nums cs).length = 55 := by simp [nums, hl]
  rw [List.length_take]; omega
theorem SOk.len100 {cs : List Value} (hs : SOk cs) (j : Nat) : ((nums cs).take j).length ≤ 100 := Nat.le_trans (hs.short j) (by decide)
theorem SOk.len99 {cs : List Value} (hs : SOk cs) (j : Nat) : ((nums cs).take j).length ≤ 99 := Nat.le_trans (hs.short j) (by decide)

set_option maxRecDepth 100000 in
theorem putStyle_ct (wk sb lb : Nat) (bad : Bool) (cs : List Value) (hs : SOk cs) :
    Ct Try.prog 55 #[.pointer (some ⟨wk, 0, none⟩), .pointer (some ⟨sb, 0, none⟩)] [walkI wk (putF lb) bad, styI sb cs, boxI lb none 0 [], intsI none 0 []] (fun _ => True) (X := Option Addr × Nat) (fun _ => .tuple #[]) (fun _ => True)
      (fun p => [walkI wk (putF lb) bad, styI sb cs, boxI lb p.1 p.2 (nums cs), intsI p.1 p.2 (nums cs)]) := by
  refine Ct.intro Try.func55 rfl Try.ntmps55 (by simp) (fun w0 _ => ?_)
  refine WP.pre (S' := St w0 (foots [walkI wk (putF lb) bad, styI sb cs, boxI lb none 0 [], intsI none 0 []]) [walkI wk (putF lb) bad, styI sb cs, boxI lb none 0 ((nums cs).take 0), intsI none 0 ((nums cs).take 0)]) ?_ (fun w hw => hw)
  refine WP.seq ?_
  refine WP.region ?_
  refine WPL.val (v_move (v := .pointer _) rfl) ?_
  refine WPL.val (v_move (v := .pointer _) rfl) ?_
  refine WPL.val (v_nil rfl) ?_
  refine WPL.val (v_fieldL (o' := 0) Try.underlying57 rfl Try.sizeOf43 rfl rfl) ?_
  refine WPL.ef (x_call Try.call68 (put68_ct wk sb lb 0 bad cs _ _ ((nums cs).take 0) (val cs 0) (hs.len100 0) (hs.int 0 (by decide) (by decide))) [0, 1, 2, 3] [] rfl (fun w hw => trivial) (τ := fun _ => [_, _, _, _]) (fun _ => rfl)) (fun ⟨A0, c0⟩ => ?_)
  refine WPL.fact (fun _ => ?_)
  rw [hs.step 0 (by decide)]
  refine WPL.nil (onto_of ?_)
  refine WP.seq ?_
  refine WP.region ?_
  refine WPL.val (v_move (v := .pointer _) rfl) ?_
  refine WPL.val (v_move (v := .pointer _) rfl) ?_
  refine WPL.val (v_nil rfl) ?_
  refine WPL.val (v_fieldL (o' := 1) Try.underlying57 rfl Try.sizeOf44 rfl rfl) ?_
  refine WPL.ef (x_call Try.call69 (put69_ct wk sb lb 1 bad cs _ _ ((nums cs).take 1) (val cs 1) (hs.len100 1) (hs.int 1 (by decide) (by decide))) [0, 1, 2, 3] [] rfl (fun w hw => trivial) (τ := fun _ => [_, _, _, _]) (fun _ => rfl)) (fun ⟨A1, c1⟩ => ?_)
  refine WPL.fact (fun _ => ?_)
  rw [hs.step 1 (by decide)]
  refine WPL.nil (onto_of ?_)
  refine WP.seq ?_
  refine WP.region ?_
  refine WPL.val (v_move (v := .pointer _) rfl) ?_
  refine WPL.val (v_move (v := .pointer _) rfl) ?_
  refine WPL.val (v_nil rfl) ?_
  refine WPL.val (v_fieldL (o' := 2) Try.underlying57 rfl Try.sizeOf45 rfl rfl) ?_
  refine WPL.ef (x_call Try.call70 (put70_ct wk sb lb 2 bad cs _ _ ((nums cs).take 2) (val cs 2) (hs.len100 2) (hs.int 2 (by decide) (by decide))) [0, 1, 2, 3] [] rfl (fun w hw => trivial) (τ := fun _ => [_, _, _, _]) (fun _ => rfl)) (fun ⟨A2, c2⟩ => ?_)
  refine WPL.fact (fun _ => ?_)
  rw [hs.step 2 (by decide)]
  refine WPL.nil (onto_of ?_)
  refine WP.seq ?_
  refine WP.seq ?_
  refine WP.drawSel none [0, 1, 2, 3] [(0, true), (1, true), (2, true), (3, true), (4, true), (5, true), (6, true), (7, true), (8, true), (9, true), (10, true), (11, true), (12, true), (13, true), (14, true), (15, true), (16, true), (17, true), (20, true), (18, false), (19, true)] mixed (by kernel_rfl) (by decide) ?_
  refine WPD.take rfl (v_move (v := .pointer _) rfl) ?_ (fun _ h => h.sel [0, 1, 2, 3] (by decide))
  refine WPD.take rfl (v_nil rfl) ?_ (fun _ h => h.sel [0, 1, 2, 3] (by decide))
  refine WPD.take rfl (v_fieldL (o' := 3) Try.underlying57 rfl Try.sizeOf48 rfl rfl) ?_ (fun _ h => h.sel [0, 1, 2, 3] (by decide))
  refine WPD.take rfl (v_move (v := .pointer _) rfl) ?_ (fun _ h => h.sel [0, 1, 2, 3] (by decide))
  refine WPD.take rfl (v_nil rfl) ?_ (fun _ h => h.sel [0, 1, 2, 3] (by decide))
  refine WPD.take rfl (v_fieldL (o' := 5) Try.underlying57 rfl Try.sizeOf48 rfl rfl) ?_ (fun _ h => h.sel [0, 1, 2, 3] (by decide))
  refine WPD.take rfl (v_move (v := .pointer _) rfl) ?_ (fun _ h => h.sel [0, 1, 2, 3] (by decide))
  refine WPD.take rfl (v_nil rfl) ?_ (fun _ h => h.sel [0, 1, 2, 3] (by decide))
  refine WPD.take rfl (v_fieldL (o' := 7) Try.underlying57 rfl Try.sizeOf48 rfl rfl) ?_ (fun _ h => h.sel [0, 1, 2, 3] (by decide))
  refine WPD.take rfl (v_move (v := .pointer _) rfl) ?_ (fun _ h => h.sel [0, 1, 2, 3] (by decide))
  refine WPD.take rfl (v_nil rfl) ?_ (fun _ h => h.sel [0, 1, 2, 3] (by decide))
  refine WPD.take rfl (v_fieldL (o' := 9) Try.underlying57 rfl Try.sizeOf48 rfl rfl) ?_ (fun _ h => h.sel [0, 1, 2, 3] (by decide))
  refine WPD.take rfl (v_move (v := .pointer _) rfl) ?_ (fun _ h => h.sel [0, 1, 2, 3] (by decide))
  refine WPD.take rfl (v_nil rfl) ?_ (fun _ h => h.sel [0, 1, 2, 3] (by decide))
  refine WPD.take rfl (v_fieldL (o' := 11) Try.underlying57 rfl Try.sizeOf48 rfl rfl) ?_ (fun _ h => h.sel [0, 1, 2, 3] (by decide))
  refine WPD.take rfl (v_move (v := .pointer _) rfl) ?_ (fun _ h => h.sel [0, 1, 2, 3] (by decide))
  refine WPD.take rfl (v_nil rfl) ?_ (fun _ h => h.sel [0, 1, 2, 3] (by decide))
  refine WPD.take rfl (v_fieldL (o' := 13) Try.underlying57 rfl Try.sizeOf48 rfl rfl) ?_ (fun _ h => h.sel [0, 1, 2, 3] (by decide))
  refine WPD.take rfl (v_move (v := .int .i64 (0)) rfl) ?_ (fun _ h => h.sel [0, 1, 2, 3] (by decide))
  refine WPD.ef rfl (x_buildSlice (us := [.pointer _, .pointer _, .pointer _, .pointer _, .pointer _, .pointer _]) (σ' := fun _ => [_, _, _, _, _]) Try.underlying121 Try.sizeOf120 Try.zeroValue120 rfl rfl rfl (by decide) (by decide) (fun _ => rfl)) (fun _ _ _ h => h.sel [0, 1, 2, 3] (by decide)) (fun g43 => ?_)
  refine WPD.take rfl (v_len Try.underlying121 rfl) ?_ (fun _ h => h.sel [0, 1, 2, 3] (by decide))
  refine WPD.nil (onto_of ?_)
  refine WP.block ?_
  refine WP.loopN 7 ?_
  refine WPR.succ ?_
  refine WP.seq ?_
  refine WP.region ?_
  refine WPL.val (v_lit (b := true) (v_lss rfl rfl) (by decide)) ?_
  refine WPL.nil (onto_of ?_)
  refine WP.seq ?_
  refine WP.condT rfl ?_
  refine WP.skip (onto_of ?_)
  refine WP.seq ?_
  refine WP.block ?_
  refine WP.seq ?_
  refine WP.region ?_
  refine WPL.val (v_index (j := 0) Try.underlying121 Try.sizeOf120 rfl rfl rfl (by omega)) ?_
  refine WPL.val (v_load1 (u := .pointer _) Try.isAgg120 rfl (fun w hw => hw.row_at1 (i := 4) (k := 0) rfl rfl (by decide))) ?_
  refine WPL.val (v_assign (v := .pointer _) rfl) ?_
  refine WPL.nil (onto_of ?_)
  refine WP.region ?_
  refine WPL.val (v_move (v := .pointer _) rfl) ?_
  refine WPL.val (v_move (v := .pointer _) rfl) ?_
  refine WPL.ef (x_call Try.call71 (putLen_ct wk sb lb 3 bad cs _ _ ((nums cs).take 3) (val cs 3) (val cs 4) (hs.len99 3) (hs.int 3 (by decide) (by decide)) (hs.int 4 (by decide) (by decide))) [0, 1, 2, 3] [4] rfl (fun w hw => trivial) (τ := fun _ => [_, _, _, _, _]) (fun _ => rfl)) (fun ⟨A3, c3⟩ => ?_)
  refine WPL.fact (fun _ => ?_)
  rw [hs.step 3 (by decide), hs.step 4 (by decide)]
  refine WPL.nil (onto_of ?_)
  refine WP.region ?_
  refine WPL.val (v_addL (k := 1) rfl rfl) ?_
  refine WPL.val (v_move (v := .int .i64 _) rfl) ?_
  refine WPL.nil (rounds_of ?_)
  refine WPR.succ ?_
  refine WP.seq ?_
  refine WP.region ?_
  refine WPL.val (v_lit (b := true) (v_lss rfl rfl) (by decide)) ?_
  refine WPL.nil (onto_of ?_)
  refine WP.seq ?_
  refine WP.condT rfl ?_
  refine WP.skip (onto_of ?_)
  refine WP.seq ?_
  refine WP.block ?_
  refine WP.seq ?_
  refine WP.region ?_
  refine WPL.val (v_index (j := 1) Try.underlying121 Try.sizeOf120 rfl rfl rfl (by omega)) ?_
  refine WPL.val (v_load1 (u := .pointer _) Try.isAgg120 rfl (fun w hw => hw.row_at1 (i := 0) (k := 1) rfl rfl (by decide))) ?_
  refine WPL.val (v_assign (v := .pointer _) rfl) ?_
  refine WPL.nil (onto_of ?_)
  refine WP.region ?_
  refine WPL.val (v_move (v := .pointer _) rfl) ?_
  refine WPL.val (v_move (v := .pointer _) rfl) ?_
  refine WPL.ef (x_call Try.call71 (putLen_ct wk sb lb 5 bad cs _ _ ((nums cs).take 5) (val cs 5) (val cs 6) (hs.len99 5) (hs.int 5 (by decide) (by decide)) (hs.int 6 (by decide) (by decide))) [1, 2, 3, 4] [0] rfl (fun w hw => trivial) (τ := fun _ => [_, _, _, _, _]) (fun _ => rfl)) (fun ⟨A5, c5⟩ => ?_)
  refine WPL.fact (fun _ => ?_)
  rw [hs.step 5 (by decide), hs.step 6 (by decide)]
  refine WPL.nil (onto_of ?_)
  refine WP.region ?_
  refine WPL.val (v_addL (k := 2) rfl rfl) ?_
  refine WPL.val (v_move (v := .int .i64 _) rfl) ?_
  refine WPL.nil (rounds_of ?_)
  refine WPR.succ ?_
  refine WP.seq ?_
  refine WP.region ?_
  refine WPL.val (v_lit (b := true) (v_lss rfl rfl) (by decide)) ?_
  refine WPL.nil (onto_of ?_)
  refine WP.seq ?_
  refine WP.condT rfl ?_
  refine WP.skip (onto_of ?_)
  refine WP.seq ?_
  refine WP.block ?_
  refine WP.seq ?_
  refine WP.region ?_
  refine WPL.val (v_index (j := 2) Try.underlying121 Try.sizeOf120 rfl rfl rfl (by omega)) ?_
  refine WPL.val (v_load1 (u := .pointer _) Try.isAgg120 rfl (fun w hw => hw.row_at1 (i := 0) (k := 2) rfl rfl (by decide))) ?_
  refine WPL.val (v_assign (v := .pointer _) rfl) ?_
  refine WPL.nil (onto_of ?_)
  refine WP.region ?_
  refine WPL.val (v_move (v := .pointer _) rfl) ?_
  refine WPL.val (v_move (v := .pointer _) rfl) ?_
  refine WPL.ef (x_call Try.call71 (putLen_ct wk sb lb 7 bad cs _ _ ((nums cs).take 7) (val cs 7) (val cs 8) (hs.len99 7) (hs.int 7 (by decide) (by decide)) (hs.int 8 (by decide) (by decide))) [1, 2, 3, 4] [0] rfl (fun w hw => trivial) (τ := fun _ => [_, _, _, _, _]) (fun _ => rfl)) (fun ⟨A7, c7⟩ => ?_)
  refine WPL.fact (fun _ => ?_)
  rw [hs.step 7 (by decide), hs.step 8 (by decide)]
  refine WPL.nil (onto_of ?_)
  refine WP.region ?_
  refine WPL.val (v_addL (k := 3) rfl rfl) ?_
  refine WPL.val (v_move (v := .int .i64 _) rfl) ?_
  refine WPL.nil (rounds_of ?_)
  refine WPR.succ ?_
  refine WP.seq ?_
  refine WP.region ?_
  refine WPL.val (v_lit (b := true) (v_lss rfl rfl) (by decide)) ?_
  refine WPL.nil (onto_of ?_)
  refine WP.seq ?_
  refine WP.condT rfl ?_
  refine WP.skip (onto_of ?_)
  refine WP.seq ?_
  refine WP.block ?_
  refine WP.seq ?_
  refine WP.region ?_
  refine WPL.val (v_index (j := 3) Try.underlying121 Try.sizeOf120 rfl rfl rfl (by omega)) ?_
  refine WPL.val (v_load1 (u := .pointer _) Try.isAgg120 rfl (fun w hw => hw.row_at1 (i := 0) (k := 3) rfl rfl (by decide))) ?_
  refine WPL.val (v_assign (v := .pointer _) rfl) ?_
  refine WPL.nil (onto_of ?_)
  refine WP.region ?_
  refine WPL.val (v_move (v := .pointer _) rfl) ?_
  refine WPL.val (v_move (v := .pointer _) rfl) ?_
  refine WPL.ef (x_call Try.call71 (putLen_ct wk sb lb 9 bad cs _ _ ((nums cs).take 9) (val cs 9) (val cs 10) (hs.len99 9) (hs.int 9 (by decide) (by decide)) (hs.int 10 (by decide) (by decide))) [1, 2, 3, 4] [0] rfl (fun w hw => trivial) (τ := fun _ => [_, _, _, _, _]) (fun _ => rfl)) (fun ⟨A9, c9⟩ => ?_)
  refine WPL.fact (fun _ => ?_)
  rw [hs.step 9 (by decide), hs.step 10 (by decide)]
  refine WPL.nil (onto_of ?_)
  refine WP.region ?_
  refine WPL.val (v_addL (k := 4) rfl rfl) ?_
  refine WPL.val (v_move (v := .int .i64 _) rfl) ?_
  refine WPL.nil (rounds_of ?_)
  refine WPR.succ ?_
  refine WP.seq ?_
  refine WP.region ?_
  refine WPL.val (v_lit (b := true) (v_lss rfl rfl) (by decide)) ?_
  refine WPL.nil (onto_of ?_)
  refine WP.seq ?_
  refine WP.condT rfl ?_
  refine WP.skip (onto_of ?_)
  refine WP.seq ?_
  refine WP.block ?_
  refine WP.seq ?_
  refine WP.region ?_
  refine WPL.val (v_index (j := 4) Try.underlying121 Try.sizeOf120 rfl rfl rfl (by omega)) ?_
  refine WPL.val (v_load1 (u := .pointer _) Try.isAgg120 rfl (fun w hw => hw.row_at1 (i := 0) (k := 4) rfl rfl (by decide))) ?_
  refine WPL.val (v_assign (v := .pointer _) rfl) ?_
  refine WPL.nil (onto_of ?_)
  refine WP.region ?_
  refine WPL.val (v_move (v := .pointer _) rfl) ?_
  refine WPL.val (v_move (v := .pointer _) rfl) ?_
  refine WPL.ef (x_call Try.call71 (putLen_ct wk sb lb 11 bad cs _ _ ((nums cs).take 11) (val cs 11) (val cs 12) (hs.len99 11) (hs.int 11 (by decide) (by decide)) (hs.int 12 (by decide) (by decide))) [1, 2, 3, 4] [0] rfl (fun w hw => trivial) (τ := fun _ => [_, _, _, _, _]) (fun _ => rfl)) (fun ⟨A11, c11⟩ => ?_)
  refine WPL.fact (fun _ => ?_)
  rw [hs.step 11 (by decide), hs.step 12 (by decide)]
  refine WPL.nil (onto_of ?_)
  refine WP.region ?_
  refine WPL.val (v_addL (k := 5) rfl rfl) ?_
  refine WPL.val (v_move (v := .int .i64 _) rfl) ?_
  refine WPL.nil (rounds_of ?_)
  refine WPR.succ ?_
  refine WP.seq ?_
  refine WP.region ?_
  refine WPL.val (v_lit (b := true) (v_lss rfl rfl) (by decide)) ?_
  refine WPL.nil (onto_of ?_)
  refine WP.seq ?_
  refine WP.condT rfl ?_
  refine WP.skip (onto_of ?_)
  refine WP.seq ?_
  refine WP.block ?_
  refine WP.seq ?_
  refine WP.region ?_
  refine WPL.val (v_index (j := 5) Try.underlying121 Try.sizeOf120 rfl rfl rfl (by omega)) ?_
  refine WPL.val (v_load1 (u := .pointer _) Try.isAgg120 rfl (fun w hw => hw.row_at1 (i := 0) (k := 5) rfl rfl (by decide))) ?_
  refine WPL.val (v_assign (v := .pointer _) rfl) ?_
  refine WPL.nil (onto_of ?_)
  refine WP.region ?_
  refine WPL.val (v_move (v := .pointer _) rfl) ?_
  refine WPL.val (v_move (v := .pointer _) rfl) ?_
  refine WPL.ef (x_call Try.call71 (putLen_ct wk sb lb 13 bad cs _ _ ((nums cs).take 13) (val cs 13) (val cs 14) (hs.len99 13) (hs.int 13 (by decide) (by decide)) (hs.int 14 (by decide) (by decide))) [1, 2, 3, 4] [0] rfl (fun w hw => trivial) (τ := fun _ => [_, _, _, _, _]) (fun _ => rfl)) (fun ⟨A13, c13⟩ => ?_)
  refine WPL.fact (fun _ => ?_)
  rw [hs.step 13 (by decide), hs.step 14 (by decide)]
  refine WPL.nil (onto_of ?_)
  refine WP.region ?_
  refine WPL.val (v_addL (k := 6) rfl rfl) ?_
  refine WPL.val (v_move (v := .int .i64 _) rfl) ?_
  refine WPL.nil (rounds_of ?_)
  refine WPR.succ ?_
  refine WP.seq ?_
  refine WP.region ?_
  refine WPL.val (v_lit (b := false) (v_lss rfl rfl) (by decide)) ?_
  refine WPL.nil (onto_of ?_)
  refine WP.seq ?_
  refine WP.condF rfl ?_
  refine WP.exit (onto_of ?_)
  refine WP.seq ?_
  refine WP.seq ?_
  refine WP.region ?_
  refine WPL.val (v_move (v := .int .i64 (0)) rfl) ?_
  refine WPL.nil (onto_of ?_)
  refine WP.block ?_
  refine WP.loopN 5 ?_
  refine WPR.succ ?_
  refine WP.seq ?_
  refine WP.region ?_
  refine WPL.val (v_lit (b := true) (v_lss rfl rfl) (by decide)) ?_
  refine WPL.nil (onto_of ?_)
  refine WP.seq ?_
  refine WP.condT rfl ?_
  refine WP.skip (onto_of ?_)
  refine WP.seq ?_
  refine WP.block ?_
  refine WP.seq ?_
  refine WP.region ?_
  refine WPL.val (v_move (v := .int .i64 _) rfl) ?_
  refine WPL.val (v_assign (v := .int .i64 _) rfl) ?_
  refine WPL.nil (onto_of ?_)
  refine WP.region ?_
  refine WPL.val (v_move (v := .pointer _) rfl) ?_
  refine WPL.val (v_move (v := .pointer _) rfl) ?_
  refine WPL.val (v_move (v := .int .i64 _) rfl) ?_
  refine WPL.val (v_nil rfl) ?_
  refine WPL.val (v_fieldL (o' := 15) Try.underlying57 rfl Try.sizeOf49 rfl rfl) ?_
  refine WPL.val (v_indexA (j := 0) Try.underlying49 Try.sizeOf48 rfl rfl rfl (by decide)) ?_
  refine WPL.ef (x_call Try.call71 (putLen_ct wk sb lb 15 bad cs _ _ ((nums cs).take 15) (val cs 15) (val cs 16) (hs.len99 15) (hs.int 15 (by decide) (by decide)) (hs.int 16 (by decide) (by decide))) [1, 2, 3, 4] [0] rfl (fun w hw => trivial) (τ := fun _ => [_, _, _, _, _]) (fun _ => rfl)) (fun ⟨A15, c15⟩ => ?_)
  refine WPL.fact (fun _ => ?_)
  rw [hs.step 15 (by decide), hs.step 16 (by decide)]
  refine WPL.nil (onto_of ?_)
  refine WP.region ?_
  refine WPL.val (v_addL (k := 1) rfl rfl) ?_
  refine WPL.val (v_move (v := .int .i64 _) rfl) ?_
  refine WPL.nil (rounds_of ?_)
  refine WPR.succ ?_
  refine WP.seq ?_
  refine WP.region ?_
  refine WPL.val (v_lit (b := true) (v_lss rfl rfl) (by decide)) ?_
  refine WPL.nil (onto_of ?_)
  refine WP.seq ?_
  refine WP.condT rfl ?_
  refine WP.skip (onto_of ?_)
  refine WP.seq ?_
  refine WP.block ?_
  refine WP.seq ?_
  refine WP.region ?_
  refine WPL.val (v_move (v := .int .i64 _) rfl) ?_
  refine WPL.val (v_assign (v := .int .i64 _) rfl) ?_
  refine WPL.nil (onto_of ?_)
  refine WP.region ?_
  refine WPL.val (v_move (v := .pointer _) rfl) ?_
  refine WPL.val (v_move (v := .pointer _) rfl) ?_
  refine WPL.val (v_move (v := .int .i64 _) rfl) ?_
  refine WPL.val (v_nil rfl) ?_
  refine WPL.val (v_fieldL (o' := 15) Try.underlying57 rfl Try.sizeOf49 rfl rfl) ?_
  refine WPL.val (v_indexA (j := 1) Try.underlying49 Try.sizeOf48 rfl rfl rfl (by decide)) ?_
  refine WPL.ef (x_call Try.call71 (putLen_ct wk sb lb 17 bad cs _ _ ((nums cs).take 17) (val cs 17) (val cs 18) (hs.len99 17) (hs.int 17 (by decide) (by decide)) (hs.int 18 (by decide) (by decide))) [1, 2, 3, 4] [0] rfl (fun w hw => trivial) (τ := fun _ => [_, _, _, _, _]) (fun _ => rfl)) (fun ⟨A17, c17⟩ => ?_)
  refine WPL.fact (fun _ => ?_)
  rw [hs.step 17 (by decide), hs.step 18 (by decide)]
  refine WPL.nil (onto_of ?_)
  refine WP.region ?_
  refine WPL.val (v_addL (k := 2) rfl rfl) ?_
  refine WPL.val (v_move (v := .int .i64 _) rfl) ?_
  refine WPL.nil (rounds_of ?_)
  refine WPR.succ ?_
  refine WP.seq ?_
  refine WP.region ?_
  refine WPL.val (v_lit (b := true) (v_lss rfl rfl) (by decide)) ?_
  refine WPL.nil (onto_of ?_)
  refine WP.seq ?_
  refine WP.condT rfl ?_
  refine WP.skip (onto_of ?_)
  refine WP.seq ?_
  refine WP.block ?_
  refine WP.seq ?_
  refine WP.region ?_
  refine WPL.val (v_move (v := .int .i64 _) rfl) ?_
  refine WPL.val (v_assign (v := .int .i64 _) rfl) ?_
  refine WPL.nil (onto_of ?_)
  refine WP.region ?_
  refine WPL.val (v_move (v := .pointer _) rfl) ?_
  refine WPL.val (v_move (v := .pointer _) rfl) ?_
  refine WPL.val (v_move (v := .int .i64 _) rfl) ?_
  refine WPL.val (v_nil rfl) ?_
  refine WPL.val (v_fieldL (o' := 15) Try.underlying57 rfl Try.sizeOf49 rfl rfl) ?_
  refine WPL.val (v_indexA (j := 2) Try.underlying49 Try.sizeOf48 rfl rfl rfl (by decide)) ?_
  refine WPL.ef (x_call Try.call71 (putLen_ct wk sb lb 19 bad cs _ _ ((nums cs).take 19) (val cs 19) (val cs 20) (hs.len99 19) (hs.int 19 (by decide) (by decide)) (hs.int 20 (by decide) (by decide))) [1, 2, 3, 4] [0] rfl (fun w hw => trivial) (τ := fun _ => [_, _, _, _, _]) (fun _ => rfl)) (fun ⟨A19, c19⟩ => ?_)
  refine WPL.fact (fun _ => ?_)
  rw [hs.step 19 (by decide), hs.step 20 (by decide)]
  refine WPL.nil (onto_of ?_)
  refine WP.region ?_
  refine WPL.val (v_addL (k := 3) rfl rfl) ?_
  refine WPL.val (v_move (v := .int .i64 _) rfl) ?_
  refine WPL.nil (rounds_of ?_)
  refine WPR.succ ?_
  refine WP.seq ?_
  refine WP.region ?_
  refine WPL.val (v_lit (b := true) (v_lss rfl rfl) (by decide)) ?_
  refine WPL.nil (onto_of ?_)
  refine WP.seq ?_
  refine WP.condT rfl ?_
  refine WP.skip (onto_of ?_)
  refine WP.seq ?_
  refine WP.block ?_
  refine WP.seq ?_
  refine WP.region ?_
  refine WPL.val (v_move (v := .int .i64 _) rfl) ?_
  refine WPL.val (v_assign (v := .int .i64 _) rfl) ?_
  refine WPL.nil (onto_of ?_)
  refine WP.region ?_
  refine WPL.val (v_move (v := .pointer _) rfl) ?_
  refine WPL.val (v_move (v := .pointer _) rfl) ?_
  refine WPL.val (v_move (v := .int .i64 _) rfl) ?_
  refine WPL.val (v_nil rfl) ?_
  refine WPL.val (v_fieldL (o' := 15) Try.underlying57 rfl Try.sizeOf49 rfl rfl) ?_
  refine WPL.val (v_indexA (j := 3) Try.underlying49 Try.sizeOf48 rfl rfl rfl (by decide)) ?_
  refine WPL.ef (x_call Try.call71 (putLen_ct wk sb lb 21 bad cs _ _ ((nums cs).take 21) (val cs 21) (val cs 22) (hs.len99 21) (hs.int 21 (by decide) (by decide)) (hs.int 22 (by decide) (by decide))) [1, 2, 3, 4] [0] rfl (fun w hw => trivial) (τ := fun _ => [_, _, _, _, _]) (fun _ => rfl)) (fun ⟨A21, c21⟩ => ?_)
  refine WPL.fact (fun _ => ?_)
  rw [hs.step 21 (by decide), hs.step 22 (by decide)]
  refine WPL.nil (onto_of ?_)
  refine WP.region ?_
  refine WPL.val (v_addL (k := 4) rfl rfl) ?_
  refine WPL.val (v_move (v := .int .i64 _) rfl) ?_
  refine WPL.nil (rounds_of ?_)
  refine WPR.succ ?_
  refine WP.seq ?_
  refine WP.region ?_
  refine WPL.val (v_lit (b := false) (v_lss rfl rfl) (by decide)) ?_
  refine WPL.nil (onto_of ?_)
  refine WP.seq ?_
  refine WP.condF rfl ?_
  refine WP.exit (onto_of ?_)
  refine WP.seq ?_
  refine WP.seq ?_
  refine WP.region ?_
  refine WPL.val (v_move (v := .int .i64 (0)) rfl) ?_
  refine WPL.nil (onto_of ?_)
  refine WP.block ?_
  refine WP.loopN 5 ?_
  refine WPR.succ ?_
  refine WP.seq ?_
  refine WP.region ?_
  refine WPL.val (v_lit (b := true) (v_lss rfl rfl) (by decide)) ?_
  refine WPL.nil (onto_of ?_)
  refine WP.seq ?_
  refine WP.condT rfl ?_
  refine WP.skip (onto_of ?_)
  refine WP.seq ?_
  refine WP.block ?_
  refine WP.seq ?_
  refine WP.region ?_
  refine WPL.val (v_move (v := .int .i64 _) rfl) ?_
  refine WPL.val (v_assign (v := .int .i64 _) rfl) ?_
  refine WPL.nil (onto_of ?_)
  refine WP.region ?_
  refine WPL.val (v_move (v := .pointer _) rfl) ?_
  refine WPL.val (v_move (v := .pointer _) rfl) ?_
  refine WPL.val (v_move (v := .int .i64 _) rfl) ?_
  refine WPL.val (v_nil rfl) ?_
  refine WPL.val (v_fieldL (o' := 23) Try.underlying57 rfl Try.sizeOf49 rfl rfl) ?_
  refine WPL.val (v_indexA (j := 0) Try.underlying49 Try.sizeOf48 rfl rfl rfl (by decide)) ?_
  refine WPL.ef (x_call Try.call71 (putLen_ct wk sb lb 23 bad cs _ _ ((nums cs).take 23) (val cs 23) (val cs 24) (hs.len99 23) (hs.int 23 (by decide) (by decide)) (hs.int 24 (by decide) (by decide))) [1, 2, 3, 4] [0] rfl (fun w hw => trivial) (τ := fun _ => [_, _, _, _, _]) (fun _ => rfl)) (fun ⟨A23, c23⟩ => ?_)
  refine WPL.fact (fun _ => ?_)
  rw [hs.step 23 (by decide), hs.step 24 (by decide)]
  refine WPL.nil (onto_of ?_)
  refine WP.region ?_
  refine WPL.val (v_addL (k := 1) rfl rfl) ?_
  refine WPL.val (v_move (v := .int .i64 _) rfl) ?_
  refine WPL.nil (rounds_of ?_)
  refine WPR.succ ?_
  refine WP.seq ?_
  refine WP.region ?_
  refine WPL.val (v_lit (b := true) (v_lss rfl rfl) (by decide)) ?_
  refine WPL.nil (onto_of ?_)
  refine WP.seq ?_
  refine WP.condT rfl ?_
  refine WP.skip (onto_of ?_)
  refine WP.seq ?_
  refine WP.block ?_
  refine WP.seq ?_
  refine WP.region ?_
  refine WPL.val (v_move (v := .int .i64 _) rfl) ?_
  refine WPL.val (v_assign (v := .int .i64 _) rfl) ?_
  refine WPL.nil (onto_of ?_)
  refine WP.region ?_
  refine WPL.val (v_move (v := .pointer _) rfl) ?_
  refine WPL.val (v_move (v := .pointer _) rfl) ?_
  refine WPL.val (v_move (v := .int .i64 _) rfl) ?_
  refine WPL.val (v_nil rfl) ?_
  refine WPL.val (v_fieldL (o' := 23) Try.underlying57 rfl Try.sizeOf49 rfl rfl) ?_
  refine WPL.val (v_indexA (j := 1) Try.underlying49 Try.sizeOf48 rfl rfl rfl (by decide)) ?_
  refine WPL.ef (x_call Try.call71 (putLen_ct wk sb lb 25 bad cs _ _ ((nums cs).take 25) (val cs 25) (val cs 26) (hs.len99 25) (hs.int 25 (by decide) (by decide)) (hs.int 26 (by decide) (by decide))) [1, 2, 3, 4] [0] rfl (fun w hw => trivial) (τ := fun _ => [_, _, _, _, _]) (fun _ => rfl)) (fun ⟨A25, c25⟩ => ?_)
  refine WPL.fact (fun _ => ?_)
  rw [hs.step 25 (by decide), hs.step 26 (by decide)]
  refine WPL.nil (onto_of ?_)
  refine WP.region ?_
  refine WPL.val (v_addL (k := 2) rfl rfl) ?_
  refine WPL.val (v_move (v := .int .i64 _) rfl) ?_
  refine WPL.nil (rounds_of ?_)
  refine WPR.succ ?_
  refine WP.seq ?_
  refine WP.region ?_
  refine WPL.val (v_lit (b := true) (v_lss rfl rfl) (by decide)) ?_
  refine WPL.nil (onto_of ?_)
  refine WP.seq ?_
  refine WP.condT rfl ?_
  refine WP.skip (onto_of ?_)
  refine WP.seq ?_
  refine WP.block ?_
  refine WP.seq ?_
  refine WP.region ?_
  refine WPL.val (v_move (v := .int .i64 _) rfl) ?_
  refine WPL.val (v_assign (v := .int .i64 _) rfl) ?_
  refine WPL.nil (onto_of ?_)
  refine WP.region ?_
  refine WPL.val (v_move (v := .pointer _) rfl) ?_
  refine WPL.val (v_move (v := .pointer _) rfl) ?_
  refine WPL.val (v_move (v := .int .i64 _) rfl) ?_
  refine WPL.val (v_nil rfl) ?_
  refine WPL.val (v_fieldL (o' := 23) Try.underlying57 rfl Try.sizeOf49 rfl rfl) ?_
  refine WPL.val (v_indexA (j := 2) Try.underlying49 Try.sizeOf48 rfl rfl rfl (by decide)) ?_
  refine WPL.ef (x_call Try.call71 (putLen_ct wk sb lb 27 bad cs _ _ ((nums cs).take 27) (val cs 27) (val cs 28) (hs.len99 27) (hs.int 27 (by decide) (by decide)) (hs.int 28 (by decide) (by decide))) [1, 2, 3, 4] [0] rfl (fun w hw => trivial) (τ := fun _ => [_, _, _, _, _]) (fun _ => rfl)) (fun ⟨A27, c27⟩ => ?_)
  refine WPL.fact (fun _ => ?_)
  rw [hs.step 27 (by decide), hs.step 28 (by decide)]
  refine WPL.nil (onto_of ?_)
  refine WP.region ?_
  refine WPL.val (v_addL (k := 3) rfl rfl) ?_
  refine WPL.val (v_move (v := .int .i64 _) rfl) ?_
  refine WPL.nil (rounds_of ?_)
  refine WPR.succ ?_
  refine WP.seq ?_
  refine WP.region ?_
  refine WPL.val (v_lit (b := true) (v_lss rfl rfl) (by decide)) ?_
  refine WPL.nil (onto_of ?_)
  refine WP.seq ?_
  refine WP.condT rfl ?_
  refine WP.skip (onto_of ?_)
  refine WP.seq ?_
  refine WP.block ?_
  refine WP.seq ?_
  refine WP.region ?_
  refine WPL.val (v_move (v := .int .i64 _) rfl) ?_
  refine WPL.val (v_assign (v := .int .i64 _) rfl) ?_
  refine WPL.nil (onto_of ?_)
  refine WP.region ?_
  refine WPL.val (v_move (v := .pointer _) rfl) ?_
  refine WPL.val (v_move (v := .pointer _) rfl) ?_
  refine WPL.val (v_move (v := .int .i64 _) rfl) ?_
  refine WPL.val (v_nil rfl) ?_
  refine WPL.val (v_fieldL (o' := 23) Try.underlying57 rfl Try.sizeOf49 rfl rfl) ?_
  refine WPL.val (v_indexA (j := 3) Try.underlying49 Try.sizeOf48 rfl rfl rfl (by decide)) ?_
  refine WPL.ef (x_call Try.call71 (putLen_ct wk sb lb 29 bad cs _ _ ((nums cs).take 29) (val cs 29) (val cs 30) (hs.len99 29) (hs.int 29 (by decide) (by decide)) (hs.int 30 (by decide) (by decide))) [1, 2, 3, 4] [0] rfl (fun w hw => trivial) (τ := fun _ => [_, _, _, _, _]) (fun _ => rfl)) (fun ⟨A29, c29⟩ => ?_)
  refine WPL.fact (fun _ => ?_)
  rw [hs.step 29 (by decide), hs.step 30 (by decide)]
  refine WPL.nil (onto_of ?_)
  refine WP.region ?_
  refine WPL.val (v_addL (k := 4) rfl rfl) ?_
  refine WPL.val (v_move (v := .int .i64 _) rfl) ?_
  refine WPL.nil (rounds_of ?_)
  refine WPR.succ ?_
  refine WP.seq ?_
  refine WP.region ?_
  refine WPL.val (v_lit (b := false) (v_lss rfl rfl) (by decide)) ?_
  refine WPL.nil (onto_of ?_)
  refine WP.seq ?_
  refine WP.condF rfl ?_
  refine WP.exit (onto_of ?_)
  refine WP.seq ?_
  refine WP.seq ?_
  refine WP.region ?_
  refine WPL.val (v_move (v := .int .i64 (0)) rfl) ?_
  refine WPL.nil (onto_of ?_)
  refine WP.block ?_
  refine WP.loopN 5 ?_
  refine WPR.succ ?_
  refine WP.seq ?_
  refine WP.region ?_
  refine WPL.val (v_lit (b := true) (v_lss rfl rfl) (by decide)) ?_
  refine WPL.nil (onto_of ?_)
  refine WP.seq ?_
  refine WP.condT rfl ?_
  refine WP.skip (onto_of ?_)
  refine WP.seq ?_
  refine WP.block ?_
  refine WP.seq ?_
  refine WP.region ?_
  refine WPL.val (v_move (v := .int .i64 _) rfl) ?_
  refine WPL.val (v_assign (v := .int .i64 _) rfl) ?_
  refine WPL.nil (onto_of ?_)
  refine WP.region ?_
  refine WPL.val (v_move (v := .pointer _) rfl) ?_
  refine WPL.val (v_move (v := .pointer _) rfl) ?_
  refine WPL.val (v_move (v := .int .i64 _) rfl) ?_
  refine WPL.val (v_nil rfl) ?_
  refine WPL.val (v_fieldL (o' := 31) Try.underlying57 rfl Try.sizeOf50 rfl rfl) ?_
  refine WPL.val (v_indexA (j := 0) Try.underlying50 Try.sizeOf3 rfl rfl rfl (by decide)) ?_
  refine WPL.ef (x_call Try.call72 (put72_ct wk sb lb 31 bad cs _ _ ((nums cs).take 31) (val cs 31) (hs.len100 31) (hs.int 31 (by decide) (by decide))) [1, 2, 3, 4] [0] rfl (fun w hw => trivial) (τ := fun _ => [_, _, _, _, _]) (fun _ => rfl)) (fun ⟨A31, c31⟩ => ?_)
  refine WPL.fact (fun _ => ?_)
  rw [hs.step 31 (by decide)]
  refine WPL.nil (onto_of ?_)
  refine WP.region ?_
  refine WPL.val (v_addL (k := 1) rfl rfl) ?_
  refine WPL.val (v_move (v := .int .i64 _) rfl) ?_
  refine WPL.nil (rounds_of ?_)
  refine WPR.succ ?_
  refine WP.seq ?_
  refine WP.region ?_
  refine WPL.val (v_lit (b := true) (v_lss rfl rfl) (by decide)) ?_
  refine WPL.nil (onto_of ?_)
  refine WP.seq ?_
  refine WP.condT rfl ?_
  refine WP.skip (onto_of ?_)
  refine WP.seq ?_
  refine WP.block ?_
  refine WP.seq ?_
  refine WP.region ?_
  refine WPL.val (v_move (v := .int .i64 _) rfl) ?_
  refine WPL.val (v_assign (v := .int .i64 _) rfl) ?_
  refine WPL.nil (onto_of ?_)
  refine WP.region ?_
  refine WPL.val (v_move (v := .pointer _) rfl) ?_
  refine WPL.val (v_move (v := .pointer _) rfl) ?_
  refine WPL.val (v_move (v := .int .i64 _) rfl) ?_
  refine WPL.val (v_nil rfl) ?_
  refine WPL.val (v_fieldL (o' := 31) Try.underlying57 rfl Try.sizeOf50 rfl rfl) ?_
  refine WPL.val (v_indexA (j := 1) Try.underlying50 Try.sizeOf3 rfl rfl rfl (by decide)) ?_
  refine WPL.ef (x_call Try.call72 (put72_ct wk sb lb 32 bad cs _ _ ((nums cs).take 32) (val cs 32) (hs.len100 32) (hs.int 32 (by decide) (by decide))) [1, 2, 3, 4] [0] rfl (fun w hw => trivial) (τ := fun _ => [_, _, _, _, _]) (fun _ => rfl)) (fun ⟨A32, c32⟩ => ?_)
  refine WPL.fact (fun _ => ?_)
  rw [hs.step 32 (by decide)]
  refine WPL.nil (onto_of ?_)
  refine WP.region ?_
  refine WPL.val (v_addL (k := 2) rfl rfl) ?_
  refine WPL.val (v_move (v := .int .i64 _) rfl) ?_
  refine WPL.nil (rounds_of ?_)
  refine WPR.succ ?_
  refine WP.seq ?_
  refine WP.region ?_
  refine WPL.val (v_lit (b := true) (v_lss rfl rfl) (by decide)) ?_
  refine WPL.nil (onto_of ?_)
  refine WP.seq ?_
  refine WP.condT rfl ?_
  refine WP.skip (onto_of ?_)
  refine WP.seq ?_
  refine WP.block ?_
  refine WP.seq ?_
  refine WP.region ?_
  refine WPL.val (v_move (v := .int .i64 _) rfl) ?_
  refine WPL.val (v_assign (v := .int .i64 _) rfl) ?_
  refine WPL.nil (onto_of ?_)
  refine WP.region ?_
  refine WPL.val (v_move (v := .pointer _) rfl) ?_
  refine WPL.val (v_move (v := .pointer _) rfl) ?_
  refine WPL.val (v_move (v := .int .i64 _) rfl) ?_
  refine WPL.val (v_nil rfl) ?_
  refine WPL.val (v_fieldL (o' := 31) Try.underlying57 rfl Try.sizeOf50 rfl rfl) ?_
  refine WPL.val (v_indexA (j := 2) Try.underlying50 Try.sizeOf3 rfl rfl rfl (by decide)) ?_
  refine WPL.ef (x_call Try.call72 (put72_ct wk sb lb 33 bad cs _ _ ((nums cs).take 33) (val cs 33) (hs.len100 33) (hs.int 33 (by decide) (by decide))) [1, 2, 3, 4] [0] rfl (fun w hw => trivial) (τ := fun _ => [_, _, _, _, _]) (fun _ => rfl)) (fun ⟨A33, c33⟩ => ?_)
  refine WPL.fact (fun _ => ?_)
  rw [hs.step 33 (by decide)]
  refine WPL.nil (onto_of ?_)
  refine WP.region ?_
  refine WPL.val (v_addL (k := 3) rfl rfl) ?_
  refine WPL.val (v_move (v := .int .i64 _) rfl) ?_
  refine WPL.nil (rounds_of ?_)
  refine WPR.succ ?_
  refine WP.seq ?_
  refine WP.region ?_
  refine WPL.val (v_lit (b := true) (v_lss rfl rfl) (by decide)) ?_
  refine WPL.nil (onto_of ?_)
  refine WP.seq ?_
  refine WP.condT rfl ?_
  refine WP.skip (onto_of ?_)
  refine WP.seq ?_
  refine WP.block ?_
  refine WP.seq ?_
  refine WP.region ?_
  refine WPL.val (v_move (v := .int .i64 _) rfl) ?_
  refine WPL.val (v_assign (v := .int .i64 _) rfl) ?_
  refine WPL.nil (onto_of ?_)
  refine WP.region ?_
  refine WPL.val (v_move (v := .pointer _) rfl) ?_
  refine WPL.val (v_move (v := .pointer _) rfl) ?_
  refine WPL.val (v_move (v := .int .i64 _) rfl) ?_
  refine WPL.val (v_nil rfl) ?_
  refine WPL.val (v_fieldL (o' := 31) Try.underlying57 rfl Try.sizeOf50 rfl rfl) ?_
  refine WPL.val (v_indexA (j := 3) Try.underlying50 Try.sizeOf3 rfl rfl rfl (by decide)) ?_
  refine WPL.ef (x_call Try.call72 (put72_ct wk sb lb 34 bad cs _ _ ((nums cs).take 34) (val cs 34) (hs.len100 34) (hs.int 34 (by decide) (by decide))) [1, 2, 3, 4] [0] rfl (fun w hw => trivial) (τ := fun _ => [_, _, _, _, _]) (fun _ => rfl)) (fun ⟨A34, c34⟩ => ?_)
  refine WPL.fact (fun _ => ?_)
  rw [hs.step 34 (by decide)]
  refine WPL.nil (onto_of ?_)
  refine WP.region ?_
  refine WPL.val (v_addL (k := 4) rfl rfl) ?_
  refine WPL.val (v_move (v := .int .i64 _) rfl) ?_
  refine WPL.nil (rounds_of ?_)
  refine WPR.succ ?_
  refine WP.seq ?_
  refine WP.region ?_
  refine WPL.val (v_lit (b := false) (v_lss rfl rfl) (by decide)) ?_
  refine WPL.nil (onto_of ?_)
  refine WP.seq ?_
  refine WP.condF rfl ?_
  refine WP.exit (onto_of ?_)
  refine WP.seq ?_
  refine WP.seq ?_
  refine WP.region ?_
  refine WPL.val (v_move (v := .int .i64 (0)) rfl) ?_
  refine WPL.nil (onto_of ?_)
  refine WP.block ?_
  refine WP.loopN 5 ?_
  refine WPR.succ ?_
  refine WP.seq ?_
  refine WP.region ?_
  refine WPL.val (v_lit (b := true) (v_lss rfl rfl) (by decide)) ?_
  refine WPL.nil (onto_of ?_)
  refine WP.seq ?_
  refine WP.condT rfl ?_
  refine WP.skip (onto_of ?_)
  refine WP.seq ?_
  refine WP.block ?_
  refine WP.seq ?_
  refine WP.region ?_
  refine WPL.val (v_move (v := .int .i64 _) rfl) ?_
  refine WPL.val (v_assign (v := .int .i64 _) rfl) ?_
  refine WPL.nil (onto_of ?_)
  refine WP.region ?_
  refine WPL.val (v_move (v := .pointer _) rfl) ?_
  refine WPL.val (v_move (v := .pointer _) rfl) ?_
  refine WPL.val (v_move (v := .int .i64 _) rfl) ?_
  refine WPL.val (v_nil rfl) ?_
  refine WPL.val (v_fieldL (o' := 35) Try.underlying57 rfl Try.sizeOf50 rfl rfl) ?_
  refine WPL.val (v_indexA (j := 0) Try.underlying50 Try.sizeOf3 rfl rfl rfl (by decide)) ?_
  refine WPL.ef (x_call Try.call72 (put72_ct wk sb lb 35 bad cs _ _ ((nums cs).take 35) (val cs 35) (hs.len100 35) (hs.int 35 (by decide) (by decide))) [1, 2, 3, 4] [0] rfl (fun w hw => trivial) (τ := fun _ => [_, _, _, _, _]) (fun _ => rfl)) (fun ⟨A35, c35⟩ => ?_)
  refine WPL.fact (fun _ => ?_)
  rw [hs.step 35 (by decide)]
  refine WPL.nil (onto_of ?_)
  refine WP.region ?_
  refine WPL.val (v_addL (k := 1) rfl rfl) ?_
  refine WPL.val (v_move (v := .int .i64 _) rfl) ?_
  refine WPL.nil (rounds_of ?_)
  refine WPR.succ ?_
  refine WP.seq ?_
  refine WP.region ?_
  refine WPL.val (v_lit (b := true) (v_lss rfl rfl) (by decide)) ?_
  refine WPL.nil (onto_of ?_)
  refine WP.seq ?_
  refine WP.condT rfl ?_
  refine WP.skip (onto_of ?_)
  refine WP.seq ?_
  refine WP.block ?_
  refine WP.seq ?_
  refine WP.region ?_
  refine WPL.val (v_move (v := .int .i64 _) rfl) ?_
  refine WPL.val (v_assign (v := .int .i64 _) rfl) ?_
  refine WPL.nil (onto_of ?_)
  refine WP.region ?_
  refine WPL.val (v_move (v := .pointer _) rfl) ?_
  refine WPL.val (v_move (v := .pointer _) rfl) ?_
  refine WPL.val (v_move (v := .int .i64 _) rfl) ?_
  refine WPL.val (v_nil rfl) ?_
  refine WPL.val (v_fieldL (o' := 35) Try.underlying57 rfl Try.sizeOf50 rfl rfl) ?_
  refine WPL.val (v_indexA (j := 1) Try.underlying50 Try.sizeOf3 rfl rfl rfl (by decide)) ?_
  refine WPL.ef (x_call Try.call72 (put72_ct wk sb lb 36 bad cs _ _ ((nums cs).take 36) (val cs 36) (hs.len100 36) (hs.int 36 (by decide) (by decide))) [1, 2, 3, 4] [0] rfl (fun w hw => trivial) (τ := fun _ => [_, _, _, _, _]) (fun _ => rfl)) (fun ⟨A36, c36⟩ => ?_)
  refine WPL.fact (fun _ => ?_)
  rw [hs.step 36 (by decide)]
  refine WPL.nil (onto_of ?_)
  refine WP.region ?_
  refine WPL.val (v_addL (k := 2) rfl rfl) ?_
  refine WPL.val (v_move (v := .int .i64 _) rfl) ?_
  refine WPL.nil (rounds_of ?_)
  refine WPR.succ ?_
  refine WP.seq ?_
  refine WP.region ?_
  refine WPL.val (v_lit (b := true) (v_lss rfl rfl) (by decide)) ?_
  refine WPL.nil (onto_of ?_)
  refine WP.seq ?_
  refine WP.condT rfl ?_
  refine WP.skip (onto_of ?_)
  refine WP.seq ?_
  refine WP.block ?_
  refine WP.seq ?_
  refine WP.region ?_
  refine WPL.val (v_move (v := .int .i64 _) rfl) ?_
  refine WPL.val (v_assign (v := .int .i64 _) rfl) ?_
  refine WPL.nil (onto_of ?_)
  refine WP.region ?_
  refine WPL.val (v_move (v := .pointer _) rfl) ?_
  refine WPL.val (v_move (v := .pointer _) rfl) ?_
  refine WPL.val (v_move (v := .int .i64 _) rfl) ?_
  refine WPL.val (v_nil rfl) ?_
  refine WPL.val (v_fieldL (o' := 35) Try.underlying57 rfl Try.sizeOf50 rfl rfl) ?_
  refine WPL.val (v_indexA (j := 2) Try.underlying50 Try.sizeOf3 rfl rfl rfl (by decide)) ?_
  refine WPL.ef (x_call Try.call72 (put72_ct wk sb lb 37 bad cs _ _ ((nums cs).take 37) (val cs 37) (hs.len100 37) (hs.int 37 (by decide) (by decide))) [1, 2, 3, 4] [0] rfl (fun w hw => trivial) (τ := fun _ => [_, _, _, _, _]) (fun _ => rfl)) (fun ⟨A37, c37⟩ => ?_)
  refine WPL.fact (fun _ => ?_)
  rw [hs.step 37 (by decide)]
  refine WPL.nil (onto_of ?_)
  refine WP.region ?_
  refine WPL.val (v_addL (k := 3) rfl rfl) ?_
  refine WPL.val (v_move (v := .int .i64 _) rfl) ?_
  refine WPL.nil (rounds_of ?_)
  refine WPR.succ ?_
  refine WP.seq ?_
  refine WP.region ?_
  refine WPL.val (v_lit (b := true) (v_lss rfl rfl) (by decide)) ?_
  refine WPL.nil (onto_of ?_)
  refine WP.seq ?_
  refine WP.condT rfl ?_
  refine WP.skip (onto_of ?_)
  refine WP.seq ?_
  refine WP.block ?_
  refine WP.seq ?_
  refine WP.region ?_
  refine WPL.val (v_move (v := .int .i64 _) rfl) ?_
  refine WPL.val (v_assign (v := .int .i64 _) rfl) ?_
  refine WPL.nil (onto_of ?_)
  refine WP.region ?_
  refine WPL.val (v_move (v := .pointer _) rfl) ?_
  refine WPL.val (v_move (v := .pointer _) rfl) ?_
  refine WPL.val (v_move (v := .int .i64 _) rfl) ?_
  refine WPL.val (v_nil rfl) ?_
  refine WPL.val (v_fieldL (o' := 35) Try.underlying57 rfl Try.sizeOf50 rfl rfl) ?_
  refine WPL.val (v_indexA (j := 3) Try.underlying50 Try.sizeOf3 rfl rfl rfl (by decide)) ?_
  refine WPL.ef (x_call Try.call72 (put72_ct wk sb lb 38 bad cs _ _ ((nums cs).take 38) (val cs 38) (hs.len100 38) (hs.int 38 (by decide) (by decide))) [1, 2, 3, 4] [0] rfl (fun w hw => trivial) (τ := fun _ => [_, _, _, _, _]) (fun _ => rfl)) (fun ⟨A38, c38⟩ => ?_)
  refine WPL.fact (fun _ => ?_)
  rw [hs.step 38 (by decide)]
  refine WPL.nil (onto_of ?_)
  refine WP.region ?_
  refine WPL.val (v_addL (k := 4) rfl rfl) ?_
  refine WPL.val (v_move (v := .int .i64 _) rfl) ?_
  refine WPL.nil (rounds_of ?_)
  refine WPR.succ ?_
  refine WP.seq ?_
  refine WP.region ?_
  refine WPL.val (v_lit (b := false) (v_lss rfl rfl) (by decide)) ?_
  refine WPL.nil (onto_of ?_)
  refine WP.seq ?_
  refine WP.condF rfl ?_
  refine WP.exit (onto_of ?_)
  refine WP.seq ?_
  refine WP.region ?_
  refine WPL.val (v_move (v := .pointer _) rfl) ?_
  refine WPL.val (v_move (v := .pointer _) rfl) ?_
  refine WPL.val (v_nil rfl) ?_
  refine WPL.val (v_fieldL (o' := 39) Try.underlying57 rfl Try.sizeOf3 rfl rfl) ?_
  refine WPL.ef (x_call Try.call72 (put72_ct wk sb lb 39 bad cs _ _ ((nums cs).take 39) (val cs 39) (hs.len100 39) (hs.int 39 (by decide) (by decide))) [1, 2, 3, 4] [0] rfl (fun w hw => trivial) (τ := fun _ => [_, _, _, _, _]) (fun _ => rfl)) (fun ⟨A39, c39⟩ => ?_)
  refine WPL.fact (fun _ => ?_)
  rw [hs.step 39 (by decide)]
  refine WPL.nil (onto_of ?_)
  refine WP.seq ?_
  refine WP.region ?_
  refine WPL.val (v_move (v := .pointer _) rfl) ?_
  refine WPL.val (v_move (v := .pointer _) rfl) ?_
  refine WPL.val (v_nil rfl) ?_
  refine WPL.val (v_fieldL (o' := 40) Try.underlying57 rfl Try.sizeOf3 rfl rfl) ?_
  refine WPL.ef (x_call Try.call72 (put72_ct wk sb lb 40 bad cs _ _ ((nums cs).take 40) (val cs 40) (hs.len100 40) (hs.int 40 (by decide) (by decide))) [1, 2, 3, 4] [0] rfl (fun w hw => trivial) (τ := fun _ => [_, _, _, _, _]) (fun _ => rfl)) (fun ⟨A40, c40⟩ => ?_)
  refine WPL.fact (fun _ => ?_)
  rw [hs.step 40 (by decide)]
  refine WPL.nil (onto_of ?_)
  refine WP.seq ?_
  refine WP.region ?_
  refine WPL.val (v_move (v := .pointer _) rfl) ?_
  refine WPL.val (v_move (v := .pointer _) rfl) ?_
  refine WPL.val (v_nil rfl) ?_
  refine WPL.val (v_fieldL (o' := 41) Try.underlying57 rfl Try.sizeOf48 rfl rfl) ?_
  refine WPL.ef (x_call Try.call71 (putLen_ct wk sb lb 41 bad cs _ _ ((nums cs).take 41) (val cs 41) (val cs 42) (hs.len99 41) (hs.int 41 (by decide) (by decide)) (hs.int 42 (by decide) (by decide))) [1, 2, 3, 4] [0] rfl (fun w hw => trivial) (τ := fun _ => [_, _, _, _, _]) (fun _ => rfl)) (fun ⟨A41, c41⟩ => ?_)
  refine WPL.fact (fun _ => ?_)
  rw [hs.step 41 (by decide), hs.step 42 (by decide)]
  refine WPL.nil (onto_of ?_)
  refine WP.seq ?_
  refine WP.region ?_
  refine WPL.val (v_move (v := .pointer _) rfl) ?_
  refine WPL.val (v_move (v := .pointer _) rfl) ?_
  refine WPL.val (v_nil rfl) ?_
  refine WPL.val (v_fieldL (o' := 43) Try.underlying57 rfl Try.sizeOf51 rfl rfl) ?_
  refine WPL.ef (x_call Try.call73 (put73_ct wk sb lb 43 bad cs _ _ ((nums cs).take 43) (val cs 43) (hs.len100 43) (hs.int 43 (by decide) (by decide))) [1, 2, 3, 4] [0] rfl (fun w hw => trivial) (τ := fun _ => [_, _, _, _, _]) (fun _ => rfl)) (fun ⟨A43, c43⟩ => ?_)
  refine WPL.fact (fun _ => ?_)
  rw [hs.step 43 (by decide)]
  refine WPL.nil (onto_of ?_)
  refine WP.seq ?_
  refine WP.region ?_
  refine WPL.val (v_move (v := .pointer _) rfl) ?_
  refine WPL.val (v_move (v := .pointer _) rfl) ?_
  refine WPL.val (v_nil rfl) ?_
  refine WPL.val (v_fieldL (o' := 44) Try.underlying57 rfl Try.sizeOf52 rfl rfl) ?_
  refine WPL.ef (x_call Try.call74 (put74_ct wk sb lb 44 bad cs _ _ ((nums cs).take 44) (val cs 44) (hs.len100 44) (hs.int 44 (by decide) (by decide))) [1, 2, 3, 4] [0] rfl (fun w hw => trivial) (τ := fun _ => [_, _, _, _, _]) (fun _ => rfl)) (fun ⟨A44, c44⟩ => ?_)
  refine WPL.fact (fun _ => ?_)
  rw [hs.step 44 (by decide)]
  refine WPL.nil (onto_of ?_)
  refine WP.seq ?_
  refine WP.region ?_
  refine WPL.val (v_move (v := .pointer _) rfl) ?_
  refine WPL.val (v_move (v := .pointer _) rfl) ?_
  refine WPL.val (v_nil rfl) ?_
  refine WPL.val (v_fieldL (o' := 45) Try.underlying57 rfl Try.sizeOf4 rfl rfl) ?_
  refine WPL.ef (x_call Try.call75 (putBool_ct wk sb lb 45 bad cs _ _ ((nums cs).take 45) (bval cs 45) (hs.len100 45) (hs.bit 45 (by decide) (by decide))) [1, 2, 3, 4] [0] rfl (fun w hw => trivial) (τ := fun _ => [_, _, _, _, _]) (fun _ => rfl)) (fun ⟨A45, c45⟩ => ?_)
  refine WPL.fact (fun _ => ?_)
  rw [hs.bstep 45 (by decide) (by decide)]
  refine WPL.nil (onto_of ?_)
  refine WP.seq ?_
  refine WP.region ?_
  refine WPL.val (v_move (v := .pointer _) rfl) ?_
  refine WPL.val (v_move (v := .pointer _) rfl) ?_
  refine WPL.val (v_nil rfl) ?_
  refine WPL.val (v_fieldL (o' := 46) Try.underlying57 rfl Try.sizeOf3 rfl rfl) ?_
  refine WPL.ef (x_call Try.call72 (put72_ct wk sb lb 46 bad cs _ _ ((nums cs).take 46) (val cs 46) (hs.len100 46) (hs.int 46 (by decide) (by decide))) [1, 2, 3, 4] [0] rfl (fun w hw => trivial) (τ := fun _ => [_, _, _, _, _]) (fun _ => rfl)) (fun ⟨A46, c46⟩ => ?_)
  refine WPL.fact (fun _ => ?_)
  rw [hs.step 46 (by decide)]
  refine WPL.nil (onto_of ?_)
  refine WP.seq ?_
  refine WP.region ?_
  refine WPL.val (v_move (v := .pointer _) rfl) ?_
  refine WPL.val (v_move (v := .pointer _) rfl) ?_
  refine WPL.val (v_nil rfl) ?_
  refine WPL.val (v_fieldL (o' := 47) Try.underlying57 rfl Try.sizeOf4 rfl rfl) ?_
  refine WPL.ef (x_call Try.call75 (putBool_ct wk sb lb 47 bad cs _ _ ((nums cs).take 47) (bval cs 47) (hs.len100 47) (hs.bit 47 (by decide) (by decide))) [1, 2, 3, 4] [0] rfl (fun w hw => trivial) (τ := fun _ => [_, _, _, _, _]) (fun _ => rfl)) (fun ⟨A47, c47⟩ => ?_)
  refine WPL.fact (fun _ => ?_)
  rw [hs.bstep 47 (by decide) (by decide)]
  refine WPL.nil (onto_of ?_)
  refine WP.seq ?_
  refine WP.region ?_
  refine WPL.val (v_move (v := .pointer _) rfl) ?_
  refine WPL.val (v_move (v := .pointer _) rfl) ?_
  refine WPL.val (v_nil rfl) ?_
  refine WPL.val (v_fieldL (o' := 48) Try.underlying57 rfl Try.sizeOf3 rfl rfl) ?_
  refine WPL.ef (x_call Try.call72 (put72_ct wk sb lb 48 bad cs _ _ ((nums cs).take 48) (val cs 48) (hs.len100 48) (hs.int 48 (by decide) (by decide))) [1, 2, 3, 4] [0] rfl (fun w hw => trivial) (τ := fun _ => [_, _, _, _, _]) (fun _ => rfl)) (fun ⟨A48, c48⟩ => ?_)
  refine WPL.fact (fun _ => ?_)
  rw [hs.step 48 (by decide)]
  refine WPL.nil (onto_of ?_)
  refine WP.seq ?_
  refine WP.region ?_
  refine WPL.val (v_move (v := .pointer _) rfl) ?_
  refine WPL.val (v_move (v := .pointer _) rfl) ?_
  refine WPL.val (v_nil rfl) ?_
  refine WPL.val (v_fieldL (o' := 49) Try.underlying57 rfl Try.sizeOf53 rfl rfl) ?_
  refine WPL.ef (x_call Try.call76 (put76_ct wk sb lb 49 bad cs _ _ ((nums cs).take 49) (val cs 49) (hs.len100 49) (hs.int 49 (by decide) (by decide))) [1, 2, 3, 4] [0] rfl (fun w hw => trivial) (τ := fun _ => [_, _, _, _, _]) (fun _ => rfl)) (fun ⟨A49, c49⟩ => ?_)
  refine WPL.fact (fun _ => ?_)
  rw [hs.step 49 (by decide)]
  refine WPL.nil (onto_of ?_)
  refine WP.seq ?_
  refine WP.region ?_
  refine WPL.val (v_move (v := .pointer _) rfl) ?_
  refine WPL.val (v_move (v := .pointer _) rfl) ?_
  refine WPL.val (v_nil rfl) ?_
  refine WPL.val (v_fieldL (o' := 50) Try.underlying57 rfl Try.sizeOf54 rfl rfl) ?_
  refine WPL.ef (x_call Try.call77 (put77_ct wk sb lb 50 bad cs _ _ ((nums cs).take 50) (val cs 50) (hs.len100 50) (hs.int 50 (by decide) (by decide))) [1, 2, 3, 4] [0] rfl (fun w hw => trivial) (τ := fun _ => [_, _, _, _, _]) (fun _ => rfl)) (fun ⟨A50, c50⟩ => ?_)
  refine WPL.fact (fun _ => ?_)
  rw [hs.step 50 (by decide)]
  refine WPL.nil (onto_of ?_)
  refine WP.seq ?_
  refine WP.region ?_
  refine WPL.val (v_move (v := .pointer _) rfl) ?_
  refine WPL.val (v_move (v := .pointer _) rfl) ?_
  refine WPL.val (v_nil rfl) ?_
  refine WPL.val (v_fieldL (o' := 51) Try.underlying57 rfl Try.sizeOf4 rfl rfl) ?_
  refine WPL.ef (x_call Try.call75 (putBool_ct wk sb lb 51 bad cs _ _ ((nums cs).take 51) (bval cs 51) (hs.len100 51) (hs.bit 51 (by decide) (by decide))) [1, 2, 3, 4] [0] rfl (fun w hw => trivial) (τ := fun _ => [_, _, _, _, _]) (fun _ => rfl)) (fun ⟨A51, c51⟩ => ?_)
  refine WPL.fact (fun _ => ?_)
  rw [hs.bstep 51 (by decide) (by decide)]
  refine WPL.nil (onto_of ?_)
  refine WP.seq ?_
  refine WP.region ?_
  refine WPL.val (v_move (v := .pointer _) rfl) ?_
  refine WPL.val (v_move (v := .pointer _) rfl) ?_
  refine WPL.val (v_nil rfl) ?_
  refine WPL.val (v_fieldL (o' := 52) Try.underlying57 rfl Try.sizeOf4 rfl rfl) ?_
  refine WPL.ef (x_call Try.call75 (putBool_ct wk sb lb 52 bad cs _ _ ((nums cs).take 52) (bval cs 52) (hs.len100 52) (hs.bit 52 (by decide) (by decide))) [1, 2, 3, 4] [0] rfl (fun w hw => trivial) (τ := fun _ => [_, _, _, _, _]) (fun _ => rfl)) (fun ⟨A52, c52⟩ => ?_)
  refine WPL.fact (fun _ => ?_)
  rw [hs.bstep 52 (by decide) (by decide)]
  refine WPL.nil (onto_of ?_)
  refine WP.seq ?_
  refine WP.region ?_
  refine WPL.val (v_move (v := .pointer _) rfl) ?_
  refine WPL.val (v_move (v := .pointer _) rfl) ?_
  refine WPL.val (v_nil rfl) ?_
  refine WPL.val (v_fieldL (o' := 53) Try.underlying57 rfl Try.sizeOf55 rfl rfl) ?_
  refine WPL.val (v_indexA (j := 0) Try.underlying55 Try.sizeOf3 rfl rfl rfl (by decide)) ?_
  refine WPL.ef (x_call Try.call72 (put72_ct wk sb lb 53 bad cs _ _ ((nums cs).take 53) (val cs 53) (hs.len100 53) (hs.int 53 (by decide) (by decide))) [1, 2, 3, 4] [0] rfl (fun w hw => trivial) (τ := fun _ => [_, _, _, _, _]) (fun _ => rfl)) (fun ⟨A53, c53⟩ => ?_)
  refine WPL.fact (fun _ => ?_)
  rw [hs.step 53 (by decide)]
  refine WPL.nil (onto_of ?_)
  refine WP.region ?_
  refine WPL.val (v_move (v := .pointer _) rfl) ?_
  refine WPL.val (v_move (v := .pointer _) rfl) ?_
  refine WPL.val (v_nil rfl) ?_
  refine WPL.val (v_fieldL (o' := 53) Try.underlying57 rfl Try.sizeOf55 rfl rfl) ?_
  refine WPL.val (v_indexA (j := 1) Try.underlying55 Try.sizeOf3 rfl rfl rfl (by decide)) ?_
  refine WPL.ef (x_call Try.call72 (put72_ct wk sb lb 54 bad cs _ _ ((nums cs).take 54) (val cs 54) (hs.len100 54) (hs.int 54 (by decide) (by decide))) [1, 2, 3, 4] [0] rfl (fun w hw => trivial) (τ := fun _ => [_, _, _, _, _]) (fun _ => rfl)) (fun ⟨A54, c54⟩ => ?_)
  refine WPL.fact (fun _ => ?_)
  rw [hs.step 54 (by decide)]
  exact WPL.nil fun w hw => RetQ.of0 Try.results55 (.inr rfl) ⟨(A54, c54), rfl, trivial, by have h := (hw.sel [1, 2, 3, 4] (by decide)); rw [show (nums cs).take 55 = nums cs from List.take_of_length_le (by simp [nums, hs.len])] at h; exact h⟩
end Go.Proofs.Ytabdcfobdehhiaa
