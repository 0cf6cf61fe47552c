/- Valid, of record and of the document's layer 13. -/
import Derived.Test.YtabdcfobdehhiaaRecStyle
import Derived.Test.YtabdcfobdehhiaaRecCat
namespace Go.Proofs.Ytabdcfobdehhiaa
open Go.RowKit

def lenPos : List Nat := [3, 5, 7, 9, 11, 13, 41, 15, 17, 19, 21, 23, 25, 27, 29]
def sizPos : List Nat := [46, 31, 32, 33, 34, 35, 36, 37, 38, 53, 54]
def lensOf (cs : List Value) : List (Int × Int) := lenPos.map fun j => (val cs j, val cs (j + 1))
def sizesOf (cs : List Value) : List Int := sizPos.map (val cs)
def kindsB (cs : List Value) : Bool := within (val cs 0) 0 3 && within (val cs 1) 0 4 && within (val cs 2) 0 2
def waysB (cs : List Value) : Bool := within (val cs 43) 0 5 && within (val cs 44) 0 3 && within (val cs 49) 0 2 && within (val cs 50) 0 3
def lensB (cs : List Value) : Bool := !(lensOf cs).any fun p => !lenOk p.1 p.2
def sizesB (cs : List Value) : Bool := !(sizesOf cs).any fun n => !within n 0 1048576
def validB (cs : List Value) : Bool := kindsB cs && waysB cs && lensB cs && sizesB cs && within (val cs 39) 0 1000 && within (val cs 40) 0 1000 && within (val cs 48) (-1048576) 1048576

theorem SOk.seg {cs : List Value} (hs : SOk cs) : ∀ (n o : Nat), o + n ≤ 55 → ((List.range' o n).all fun j => !isBit j) = true → (cs.drop o).take n = (List.range' o n).map fun j => .int .i64 (val cs j)
  | 0, o, _, _ => by simp
  | n + 1, o, h, hb => by
    rw [List.range'_succ, List.all_cons, Bool.and_eq_true] at hb
    have h1 := hs.int o (by omega) (by simpa using hb.1)
    have ho := (List.getElem?_eq_some_iff.1 h1).1
    rw [List.range'_succ, List.map_cons, List.drop_eq_getElem_cons ho, List.take_succ_cons, (List.getElem?_eq_some_iff.1 h1).2, hs.seg n (o + 1) (by omega) hb.2]
theorem SOk.segE {cs us : List Value} (hs : SOk cs) (n o : Nat) (h : o + n ≤ 55) (hb : ((List.range' o n).all fun j => !isBit j) = true) (hl : us.length = n) (e : ((List.range' o n).map fun j => Value.int .i64 (val cs j)) = us) : (cs.drop o).take us.length = us := by
  rw [hl, hs.seg n o h hb, e]
theorem srcAt {w : World} {b o m : Nat} {us : List Value} (h : CellsAt w b o us) : Src w (some ⟨b, o, none⟩) m us := .inr ⟨b, o, rfl, h⟩

set_option maxRecDepth 100000 in
theorem valid_ct (cs : List Value) (hs : SOk cs) : Ct Try.prog 26 #[.agg cs.toArray] [] (fun _ => True) (X := Unit) (fun _ => .bool (validB cs)) (fun _ => True) (fun _ => []) := by
  refine Ct.intro Try.func26 rfl Try.ntmps26 (by simp) (fun w0 _ => ?_)
  refine WP.seq ?_
  refine WP.region ?_
  refine WPL.ef (x_boxA (us := cs) (σ' := fun _ => [_]) rfl (fun _ => rfl)) (fun sty => ?_)
  refine WPL.val (v_assign (v := .bool false) rfl) ?_
  refine WPL.nil (onto_of ?_)
  refine WP.seq ?_
  refine WP.drawSel none [0] [(0, true), (1, true), (2, true), (3, true), (4, true), (5, true), (6, true), (7, true), (8, true), (9, true), (10, true), (11, true), (12, true), (13, true), (15, true), (16, true), (17, true), (18, true), (14, false), (19, false), (20, false), (21, true)] mixed (by kernel_rfl) (by decide) ?_
  refine WPD.take rfl (v_fieldL (o' := 3) Try.underlying57 rfl Try.sizeOf48 rfl rfl) ?_ (fun _ h => h.sel [0] (by decide))
  refine WPD.take rfl (v_loadA (cs := [.int .i64 _, .int .i64 _]) Try.isAgg48 Try.sizeOf48 rfl (fun w hw => hw.cl_at (i := 0) rfl 3 (hs.segE 2 3 (by decide) (by decide) rfl rfl))) ?_ (fun _ h => h.sel [0] (by decide))
  refine WPD.take rfl (v_fieldL (o' := 5) Try.underlying57 rfl Try.sizeOf48 rfl rfl) ?_ (fun _ h => h.sel [0] (by decide))
  refine WPD.take rfl (v_loadA (cs := [.int .i64 _, .int .i64 _]) Try.isAgg48 Try.sizeOf48 rfl (fun w hw => hw.cl_at (i := 0) rfl 5 (hs.segE 2 5 (by decide) (by decide) rfl rfl))) ?_ (fun _ h => h.sel [0] (by decide))
  refine WPD.take rfl (v_fieldL (o' := 7) Try.underlying57 rfl Try.sizeOf48 rfl rfl) ?_ (fun _ h => h.sel [0] (by decide))
  refine WPD.take rfl (v_loadA (cs := [.int .i64 _, .int .i64 _]) Try.isAgg48 Try.sizeOf48 rfl (fun w hw => hw.cl_at (i := 0) rfl 7 (hs.segE 2 7 (by decide) (by decide) rfl rfl))) ?_ (fun _ h => h.sel [0] (by decide))
  refine WPD.take rfl (v_fieldL (o' := 9) Try.underlying57 rfl Try.sizeOf48 rfl rfl) ?_ (fun _ h => h.sel [0] (by decide))
  refine WPD.take rfl (v_loadA (cs := [.int .i64 _, .int .i64 _]) Try.isAgg48 Try.sizeOf48 rfl (fun w hw => hw.cl_at (i := 0) rfl 9 (hs.segE 2 9 (by decide) (by decide) rfl rfl))) ?_ (fun _ h => h.sel [0] (by decide))
  refine WPD.take rfl (v_fieldL (o' := 11) Try.underlying57 rfl Try.sizeOf48 rfl rfl) ?_ (fun _ h => h.sel [0] (by decide))
  refine WPD.take rfl (v_loadA (cs := [.int .i64 _, .int .i64 _]) Try.isAgg48 Try.sizeOf48 rfl (fun w hw => hw.cl_at (i := 0) rfl 11 (hs.segE 2 11 (by decide) (by decide) rfl rfl))) ?_ (fun _ h => h.sel [0] (by decide))
  refine WPD.take rfl (v_fieldL (o' := 13) Try.underlying57 rfl Try.sizeOf48 rfl rfl) ?_ (fun _ h => h.sel [0] (by decide))
  refine WPD.take rfl (v_loadA (cs := [.int .i64 _, .int .i64 _]) Try.isAgg48 Try.sizeOf48 rfl (fun w hw => hw.cl_at (i := 0) rfl 13 (hs.segE 2 13 (by decide) (by decide) rfl rfl))) ?_ (fun _ h => h.sel [0] (by decide))
  refine WPD.take rfl (v_fieldL (o' := 41) Try.underlying57 rfl Try.sizeOf48 rfl rfl) ?_ (fun _ h => h.sel [0] (by decide))
  refine WPD.take rfl (v_loadA (cs := [.int .i64 _, .int .i64 _]) Try.isAgg48 Try.sizeOf48 rfl (fun w hw => hw.cl_at (i := 0) rfl 41 (hs.segE 2 41 (by decide) (by decide) rfl rfl))) ?_ (fun _ h => h.sel [0] (by decide))
  refine WPD.take rfl (v_fieldL (o' := 15) Try.underlying57 rfl Try.sizeOf49 rfl rfl) ?_ (fun _ h => h.sel [0] (by decide))
  refine WPD.take rfl (v_sliceA Try.underlying49 Try.sizeOf48 rfl) ?_ (fun _ h => h.sel [0] (by decide))
  refine WPD.take rfl (v_fieldL (o' := 23) Try.underlying57 rfl Try.sizeOf49 rfl rfl) ?_ (fun _ h => h.sel [0] (by decide))
  refine WPD.take rfl (v_sliceA Try.underlying49 Try.sizeOf48 rfl) ?_ (fun _ h => h.sel [0] (by decide))
  refine WPD.ef rfl (x_buildSlice (us := [.int .i64 _, .int .i64 _, .int .i64 _, .int .i64 _, .int .i64 _, .int .i64 _, .int .i64 _, .int .i64 _, .int .i64 _, .int .i64 _, .int .i64 _, .int .i64 _, .int .i64 _, .int .i64 _]) (σ' := fun _ => [_, _]) Try.underlying79 Try.sizeOf48 Try.zeroValue48 rfl rfl rfl (by decide) (by decide) (fun _ => rfl)) (fun _ _ _ h => h.sel [0] (by decide)) (fun g23 => ?_)
  refine WPD.ef rfl (x_buildSlice (us := [.slice _ _ _, .slice _ _ _, .slice _ _ _]) (σ' := fun _ => [_, _, _]) Try.underlying108 Try.sizeOf79 Try.zeroValue79 rfl rfl rfl (by decide) (by decide) (fun _ => rfl)) (fun _ _ _ h => h.sel [0] (by decide)) (fun g28 => ?_)
  refine WPD.ef rfl (x_call Try.call39 (concat39_ct g28 3 _ _ _ _ _ _ ([.int .i64 (val cs 3), .int .i64 (val cs 4), .int .i64 (val cs 5), .int .i64 (val cs 6), .int .i64 (val cs 7), .int .i64 (val cs 8), .int .i64 (val cs 9), .int .i64 (val cs 10), .int .i64 (val cs 11), .int .i64 (val cs 12), .int .i64 (val cs 13), .int .i64 (val cs 14), .int .i64 (val cs 41), .int .i64 (val cs 42)]) ([.int .i64 (val cs 15), .int .i64 (val cs 16), .int .i64 (val cs 17), .int .i64 (val cs 18), .int .i64 (val cs 19), .int .i64 (val cs 20), .int .i64 (val cs 21), .int .i64 (val cs 22)]) ([.int .i64 (val cs 23), .int .i64 (val cs 24), .int .i64 (val cs 25), .int .i64 (val cs 26), .int .i64 (val cs 27), .int .i64 (val cs 28), .int .i64 (val cs 29), .int .i64 (val cs 30)]) rfl rfl rfl (by simp [Value.oneCell'])) [] [0, 1, 2] rfl (fun w hw => ⟨hw.row_at1 (i := 2) rfl rfl rfl, hw.row_at1 (i := 2) rfl rfl rfl, hw.row_at1 (i := 2) rfl rfl rfl, hw.src_row (i := 1) rfl, srcAt (hw.cl_at (i := 0) rfl 15 (hs.segE 8 15 (by decide) (by decide) rfl rfl)), srcAt (hw.cl_at (i := 0) rfl 23 (hs.segE 8 23 (by decide) (by decide) rfl rfl))⟩) (τ := fun _ => [_, _, _, _]) (fun _ => rfl)) (fun _ _ _ h => h.2.sel [0] (by decide)) (fun ⟨bl, cl⟩ => ?_)
  refine WPD.fact (fun _ => ?_)
  refine WPD.take rfl (v_assign (v := .slice _ _ _) rfl) ?_ (fun _ h => h.sel [0] (by decide))
  refine WPD.nil (onto_of ?_)
  refine WP.seq ?_
  refine WP.drawSel none [0, 1, 2, 3] [(0, true), (1, true), (3, true), (4, true), (5, true), (6, true), (7, true), (8, true), (2, false), (9, false), (10, false), (11, true)] mixed (by kernel_rfl) (by decide) ?_
  refine WPD.take rfl (v_fieldL (o' := 46) Try.underlying57 rfl Try.sizeOf3 rfl rfl) ?_ (fun _ h => h.sel [0, 1, 2, 3] (by decide))
  refine WPD.take rfl (v_load1 (u := .int .i64 _) Try.isAgg3 rfl (fun w hw => hw.cl_at (i := 0) rfl 46 (cell_of (hs.int 46 (by decide) (by decide))))) ?_ (fun _ h => h.sel [0, 1, 2, 3] (by decide))
  refine WPD.take rfl (v_fieldL (o' := 31) Try.underlying57 rfl Try.sizeOf50 rfl rfl) ?_ (fun _ h => h.sel [0, 1, 2, 3] (by decide))
  refine WPD.take rfl (v_sliceA Try.underlying50 Try.sizeOf3 rfl) ?_ (fun _ h => h.sel [0, 1, 2, 3] (by decide))
  refine WPD.take rfl (v_fieldL (o' := 35) Try.underlying57 rfl Try.sizeOf50 rfl rfl) ?_ (fun _ h => h.sel [0, 1, 2, 3] (by decide))
  refine WPD.take rfl (v_sliceA Try.underlying50 Try.sizeOf3 rfl) ?_ (fun _ h => h.sel [0, 1, 2, 3] (by decide))
  refine WPD.take rfl (v_fieldL (o' := 53) Try.underlying57 rfl Try.sizeOf55 rfl rfl) ?_ (fun _ h => h.sel [0, 1, 2, 3] (by decide))
  refine WPD.take rfl (v_sliceA Try.underlying55 Try.sizeOf3 rfl) ?_ (fun _ h => h.sel [0, 1, 2, 3] (by decide))
  refine WPD.ef rfl (x_buildSlice (us := [.int .i64 _]) (σ' := fun _ => [_, _, _, _, _]) Try.underlying32 Try.sizeOf3 Try.zeroValue3 rfl rfl rfl (by decide) (by decide) (fun _ => rfl)) (fun _ _ _ h => h.sel [0, 1, 2, 3] (by decide)) (fun g32 => ?_)
  refine WPD.ef rfl (x_buildSlice (us := [.slice _ _ _, .slice _ _ _, .slice _ _ _, .slice _ _ _]) (σ' := fun _ => [_, _, _, _, _, _]) Try.underlying110 Try.sizeOf32 Try.zeroValue32 rfl rfl rfl (by decide) (by decide) (fun _ => rfl)) (fun _ _ _ h => h.sel [0, 1, 2, 3] (by decide)) (fun g39 => ?_)
  refine WPD.ef rfl (x_call Try.call40 (concat40_ct g39 4 _ _ _ _ _ _ _ _ ([.int .i64 (val cs 46)]) ([.int .i64 (val cs 31), .int .i64 (val cs 32), .int .i64 (val cs 33), .int .i64 (val cs 34)]) ([.int .i64 (val cs 35), .int .i64 (val cs 36), .int .i64 (val cs 37), .int .i64 (val cs 38)]) ([.int .i64 (val cs 53), .int .i64 (val cs 54)]) rfl rfl rfl rfl (by simp [Value.oneCell'])) [] [0, 1, 2, 3, 4, 5] rfl (fun w hw => ⟨hw.row_at1 (i := 5) rfl rfl rfl, hw.row_at1 (i := 5) rfl rfl rfl, hw.row_at1 (i := 5) rfl rfl rfl, hw.row_at1 (i := 5) rfl rfl rfl, hw.src_row (i := 4) rfl, srcAt (hw.cl_at (i := 0) rfl 31 (hs.segE 4 31 (by decide) (by decide) rfl rfl)), srcAt (hw.cl_at (i := 0) rfl 35 (hs.segE 4 35 (by decide) (by decide) rfl rfl)), srcAt (hw.cl_at (i := 0) rfl 53 (hs.segE 2 53 (by decide) (by decide) rfl rfl))⟩) (τ := fun _ => [_, _, _, _, _, _, _]) (fun _ => rfl)) (fun _ _ _ h => h.2.sel [0, 1, 2, 3] (by decide)) (fun ⟨bs, cs2⟩ => ?_)
  refine WPD.fact (fun _ => ?_)
  refine WPD.take rfl (v_assign (v := .slice _ _ _) rfl) ?_ (fun _ h => h.sel [0, 1, 2, 3] (by decide))
  refine WPD.nil (onto_of ?_)
  refine WP.seq ?_
  refine WP.region ?_
  refine WPL.val (v_assign rfl) ?_
  refine WPL.nil (onto_of ?_)
  refine WP.seq ?_
  refine WP.region ?_
  refine WPL.val (v_assign rfl) ?_
  refine WPL.nil (onto_of ?_)
  refine WP.midS [1, 3, 4, 5, 6] [(7, .bool (kindsB cs))] ?_ (fun ρ0 => ?_)
  ·
    refine WP.region ?_
    refine WPL.val (v_fieldL (o' := 0) Try.underlying57 rfl Try.sizeOf43 rfl rfl) ?_
    refine WPL.val (v_load1 (u := .int .i64 _) Try.isAgg43 rfl (fun w hw => hw.cl_at (i := 0) rfl 0 (cell_of (hs.int 0 (by decide) (by decide))))) ?_
    refine WPL.val (v_call Try.call45 (fun w hw => in45_any _ _ _ _)) ?_
    refine WPL.val (v_move (v := .bool _) rfl) ?_
    refine WPL.splitB 44 rfl (fun h44 => ?_) (fun h44 => ?_)
    ·
      refine WPL.valG (v_fieldL (o' := 1) Try.underlying57 rfl Try.sizeOf44 rfl rfl) ?_
      refine WPL.valG (v_load1 (u := .int .i64 _) Try.isAgg44 rfl (fun w hw => hw.cl_at (i := 0) rfl 1 (cell_of (hs.int 1 (by decide) (by decide))))) ?_
      refine WPL.valG (v_call Try.call46 (fun w hw => in46_any _ _ _ _)) ?_
      refine WPL.val (v_pickT (u := .bool _) rfl rfl) ?_
      refine WPL.val (v_move (v := .bool _) rfl) ?_
      refine WPL.splitB 49 rfl (fun h49 => ?_) (fun h49 => ?_)
      ·
        refine WPL.valG (v_fieldL (o' := 2) Try.underlying57 rfl Try.sizeOf45 rfl rfl) ?_
        refine WPL.valG (v_load1 (u := .int .i64 _) Try.isAgg45 rfl (fun w hw => hw.cl_at (i := 0) rfl 2 (cell_of (hs.int 2 (by decide) (by decide))))) ?_
        refine WPL.valG (v_call Try.call47 (fun w hw => in47_any _ _ _ _)) ?_
        refine WPL.val (v_pickT (u := .bool _) rfl rfl) ?_
        refine WPL.val (v_assign (v := .bool _) rfl) ?_
        exact WPL.nil fun w hw => ⟨rfl, ⟨(congrArg Value.bool (by simp only [kindsB, *, Bool.and_true, Bool.and_false, Bool.true_and, Bool.false_and, Bool.not_true, Bool.not_false])), rfl, (via (.slice _ _ _) rfl rfl), (via (.slice _ _ _) rfl rfl), rfl, rfl, trivial⟩, hw⟩
      ·
        refine WPL.skipG ?_
        refine WPL.skipG ?_
        refine WPL.skipG ?_
        refine WPL.val (v_pickF (v := .bool _) rfl rfl) ?_
        refine WPL.val (v_assign (v := .bool _) rfl) ?_
        exact WPL.nil fun w hw => ⟨rfl, ⟨(congrArg Value.bool (by simp only [kindsB, *, Bool.and_true, Bool.and_false, Bool.true_and, Bool.false_and, Bool.not_true, Bool.not_false])), rfl, (via (.slice _ _ _) rfl rfl), (via (.slice _ _ _) rfl rfl), rfl, rfl, trivial⟩, hw⟩
    ·
      refine WPL.skipG ?_
      refine WPL.skipG ?_
      refine WPL.skipG ?_
      refine WPL.val (v_pickF (v := .bool _) rfl rfl) ?_
      refine WPL.val (v_move (v := .bool _) rfl) ?_
      refine WPL.skipG ?_
      refine WPL.skipG ?_
      refine WPL.skipG ?_
      refine WPL.val (v_pickF (v := .bool _) rfl rfl) ?_
      refine WPL.val (v_assign (v := .bool _) rfl) ?_
      exact WPL.nil fun w hw => ⟨rfl, ⟨(congrArg Value.bool (by simp only [kindsB, *, Bool.and_true, Bool.and_false, Bool.true_and, Bool.false_and, Bool.not_true, Bool.not_false])), rfl, (via (.slice _ _ _) rfl rfl), (via (.slice _ _ _) rfl rfl), rfl, rfl, trivial⟩, hw⟩
  ·
    refine WP.midS [1, 3, 4, 5, 6, 7] [(8, .bool (waysB cs))] ?_ (fun ρ0 => ?_)
    ·
      refine WP.region ?_
      refine WPL.val (v_fieldL (o' := 43) Try.underlying57 rfl Try.sizeOf51 rfl rfl) ?_
      refine WPL.val (v_load1 (u := .int .i64 _) Try.isAgg51 rfl (fun w hw => hw.cl_at (i := 0) rfl 43 (cell_of (hs.int 43 (by decide) (by decide))))) ?_
      refine WPL.val (v_call Try.call48 (fun w hw => in48_any _ _ _ _)) ?_
      refine WPL.val (v_move (v := .bool _) rfl) ?_
      refine WPL.splitB 57 rfl (fun h57 => ?_) (fun h57 => ?_)
      ·
        refine WPL.valG (v_fieldL (o' := 44) Try.underlying57 rfl Try.sizeOf52 rfl rfl) ?_
        refine WPL.valG (v_load1 (u := .int .i64 _) Try.isAgg52 rfl (fun w hw => hw.cl_at (i := 0) rfl 44 (cell_of (hs.int 44 (by decide) (by decide))))) ?_
        refine WPL.valG (v_call Try.call49 (fun w hw => in49_any _ _ _ _)) ?_
        refine WPL.val (v_pickT (u := .bool _) rfl rfl) ?_
        refine WPL.val (v_move (v := .bool _) rfl) ?_
        refine WPL.splitB 62 rfl (fun h62 => ?_) (fun h62 => ?_)
        ·
          refine WPL.valG (v_fieldL (o' := 49) Try.underlying57 rfl Try.sizeOf53 rfl rfl) ?_
          refine WPL.valG (v_load1 (u := .int .i64 _) Try.isAgg53 rfl (fun w hw => hw.cl_at (i := 0) rfl 49 (cell_of (hs.int 49 (by decide) (by decide))))) ?_
          refine WPL.valG (v_call Try.call50 (fun w hw => in50_any _ _ _ _)) ?_
          refine WPL.val (v_pickT (u := .bool _) rfl rfl) ?_
          refine WPL.val (v_move (v := .bool _) rfl) ?_
          refine WPL.splitB 67 rfl (fun h67 => ?_) (fun h67 => ?_)
          ·
            refine WPL.valG (v_fieldL (o' := 50) Try.underlying57 rfl Try.sizeOf54 rfl rfl) ?_
            refine WPL.valG (v_load1 (u := .int .i64 _) Try.isAgg54 rfl (fun w hw => hw.cl_at (i := 0) rfl 50 (cell_of (hs.int 50 (by decide) (by decide))))) ?_
            refine WPL.valG (v_call Try.call51 (fun w hw => in51_any _ _ _ _)) ?_
            refine WPL.val (v_pickT (u := .bool _) rfl rfl) ?_
            refine WPL.val (v_assign (v := .bool _) rfl) ?_
            exact WPL.nil fun w hw => ⟨rfl, ⟨(congrArg Value.bool (by simp only [waysB, *, Bool.and_true, Bool.and_false, Bool.true_and, Bool.false_and, Bool.not_true, Bool.not_false])), rfl, (via (.slice _ _ _) rfl rfl), (via (.slice _ _ _) rfl rfl), rfl, rfl, (via (.bool _) rfl rfl), trivial⟩, hw⟩
          ·
            refine WPL.skipG ?_
            refine WPL.skipG ?_
            refine WPL.skipG ?_
            refine WPL.val (v_pickF (v := .bool _) rfl rfl) ?_
            refine WPL.val (v_assign (v := .bool _) rfl) ?_
            exact WPL.nil fun w hw => ⟨rfl, ⟨(congrArg Value.bool (by simp only [waysB, *, Bool.and_true, Bool.and_false, Bool.true_and, Bool.false_and, Bool.not_true, Bool.not_false])), rfl, (via (.slice _ _ _) rfl rfl), (via (.slice _ _ _) rfl rfl), rfl, rfl, (via (.bool _) rfl rfl), trivial⟩, hw⟩
        ·
          refine WPL.skipG ?_
          refine WPL.skipG ?_
          refine WPL.skipG ?_
          refine WPL.val (v_pickF (v := .bool _) rfl rfl) ?_
          refine WPL.val (v_move (v := .bool _) rfl) ?_
          refine WPL.skipG ?_
          refine WPL.skipG ?_
          refine WPL.skipG ?_
          refine WPL.val (v_pickF (v := .bool _) rfl rfl) ?_
          refine WPL.val (v_assign (v := .bool _) rfl) ?_
          exact WPL.nil fun w hw => ⟨rfl, ⟨(congrArg Value.bool (by simp only [waysB, *, Bool.and_true, Bool.and_false, Bool.true_and, Bool.false_and, Bool.not_true, Bool.not_false])), rfl, (via (.slice _ _ _) rfl rfl), (via (.slice _ _ _) rfl rfl), rfl, rfl, (via (.bool _) rfl rfl), trivial⟩, hw⟩
      ·
        refine WPL.skipG ?_
        refine WPL.skipG ?_
        refine WPL.skipG ?_
        refine WPL.val (v_pickF (v := .bool _) rfl rfl) ?_
        refine WPL.val (v_move (v := .bool _) rfl) ?_
        refine WPL.skipG ?_
        refine WPL.skipG ?_
        refine WPL.skipG ?_
        refine WPL.val (v_pickF (v := .bool _) rfl rfl) ?_
        refine WPL.val (v_move (v := .bool _) rfl) ?_
        refine WPL.skipG ?_
        refine WPL.skipG ?_
        refine WPL.skipG ?_
        refine WPL.val (v_pickF (v := .bool _) rfl rfl) ?_
        refine WPL.val (v_assign (v := .bool _) rfl) ?_
        exact WPL.nil fun w hw => ⟨rfl, ⟨(congrArg Value.bool (by simp only [waysB, *, Bool.and_true, Bool.and_false, Bool.true_and, Bool.false_and, Bool.not_true, Bool.not_false])), rfl, (via (.slice _ _ _) rfl rfl), (via (.slice _ _ _) rfl rfl), rfl, rfl, (via (.bool _) rfl rfl), trivial⟩, hw⟩
    ·
      refine WP.seq ?_
      refine WP.region ?_
      refine WPL.val (v_move (v := .bool _) rfl) ?_
      refine WPL.val (v_move (v := .bool _) rfl) ?_
      refine WPL.splitB 73 rfl (fun h73 => ?_) (fun h73 => ?_)
      ·
        refine WPL.valG (v_move (v := .bool _) rfl) ?_
        refine WPL.val (v_pickT (u := .bool _) rfl rfl) ?_
        refine WPL.val (v_move (v := .bool _) rfl) ?_
        refine WPL.splitB 76 rfl (fun h76 => ?_) (fun h76 => ?_)
        ·
          refine WPL.valG (v_move (v := .slice _ _ _) rfl) ?_
          refine WPL.valG (v_move rfl) ?_
          refine WPL.efG (x_call Try.call52 (contains52_ct (some ⟨bl, 0, none⟩) cl (lensOf cs) (by simp [lensOf, lenPos])) [] [0, 1, 2, 3, 4, 5, 6] rfl (fun w hw => hw.rd_row (i := 3) rfl rfl (fun _ => rfl)) (τ := fun _ => [_, _, _, _, _, _, _]) (fun _ => rfl)) (fun _ => ?_)
          refine WPL.fact (fun _ => ?_)
          refine WPL.valG (v_not rfl) ?_
          refine WPL.val (v_pickT (u := .bool _) rfl rfl) ?_
          refine WPL.val (v_move (v := .bool _) rfl) ?_
          refine WPL.splitB 82 rfl (fun h82 => ?_) (fun h82 => ?_)
          ·
            refine WPL.valG (v_move (v := .slice _ _ _) rfl) ?_
            refine WPL.valG (v_move rfl) ?_
            refine WPL.efG (x_call Try.call53 (contains53_ct (some ⟨bs, 0, none⟩) cs2 (sizesOf cs) (by simp [sizesOf, sizPos])) [] [0, 1, 2, 3, 4, 5, 6] rfl (fun w hw => hw.rd_row1 (i := 6) rfl) (τ := fun _ => [_, _, _, _, _, _, _]) (fun _ => rfl)) (fun _ => ?_)
            refine WPL.fact (fun _ => ?_)
            refine WPL.valG (v_not rfl) ?_
            refine WPL.val (v_pickT (u := .bool _) rfl rfl) ?_
            refine WPL.val (v_move (v := .bool _) rfl) ?_
            refine WPL.splitB 88 rfl (fun h88 => ?_) (fun h88 => ?_)
            ·
              refine WPL.valG (v_fieldL (o' := 39) Try.underlying57 rfl Try.sizeOf3 rfl rfl) ?_
              refine WPL.valG (v_load1 (u := .int .i64 _) Try.isAgg3 rfl (fun w hw => hw.cl_at (i := 0) rfl 39 (cell_of (hs.int 39 (by decide) (by decide))))) ?_
              refine WPL.valG (v_call Try.call44 (fun w hw => in44_any _ _ _ _)) ?_
              refine WPL.val (v_pickT (u := .bool _) rfl rfl) ?_
              refine WPL.val (v_move (v := .bool _) rfl) ?_
              refine WPL.splitB 93 rfl (fun h93 => ?_) (fun h93 => ?_)
              ·
                refine WPL.valG (v_fieldL (o' := 40) Try.underlying57 rfl Try.sizeOf3 rfl rfl) ?_
                refine WPL.valG (v_load1 (u := .int .i64 _) Try.isAgg3 rfl (fun w hw => hw.cl_at (i := 0) rfl 40 (cell_of (hs.int 40 (by decide) (by decide))))) ?_
                refine WPL.valG (v_call Try.call44 (fun w hw => in44_any _ _ _ _)) ?_
                refine WPL.val (v_pickT (u := .bool _) rfl rfl) ?_
                refine WPL.val (v_move (v := .bool _) rfl) ?_
                refine WPL.splitB 98 rfl (fun h98 => ?_) (fun h98 => ?_)
                ·
                  refine WPL.valG (v_fieldL (o' := 48) Try.underlying57 rfl Try.sizeOf3 rfl rfl) ?_
                  refine WPL.valG (v_load1 (u := .int .i64 _) Try.isAgg3 rfl (fun w hw => hw.cl_at (i := 0) rfl 48 (cell_of (hs.int 48 (by decide) (by decide))))) ?_
                  refine WPL.valG (v_call Try.call44 (fun w hw => in44_any _ _ _ _)) ?_
                  refine WPL.val (v_pickT (u := .bool _) rfl rfl) ?_
                  refine WPL.val (v_assign (v := .bool _) rfl) ?_
                  refine WPL.nil (onto_of ?_)
                  exact WP.ret1 Try.results26 (fun _ h => h) (fun w hw => ⟨(), congrArg Value.bool (by simp only [validB, lensB, sizesB, *, Bool.and_true, Bool.and_false, Bool.true_and, Bool.false_and, Bool.not_true, Bool.not_false]), trivial, hw.sel [] (by decide)⟩)
                ·
                  refine WPL.skipG ?_
                  refine WPL.skipG ?_
                  refine WPL.skipG ?_
                  refine WPL.val (v_pickF (v := .bool _) rfl rfl) ?_
                  refine WPL.val (v_assign (v := .bool _) rfl) ?_
                  refine WPL.nil (onto_of ?_)
                  exact WP.ret1 Try.results26 (fun _ h => h) (fun w hw => ⟨(), congrArg Value.bool (by simp only [validB, lensB, sizesB, *, Bool.and_true, Bool.and_false, Bool.true_and, Bool.false_and, Bool.not_true, Bool.not_false]), trivial, hw.sel [] (by decide)⟩)
              ·
                refine WPL.skipG ?_
                refine WPL.skipG ?_
                refine WPL.skipG ?_
                refine WPL.val (v_pickF (v := .bool _) rfl rfl) ?_
                refine WPL.val (v_move (v := .bool _) rfl) ?_
                refine WPL.skipG ?_
                refine WPL.skipG ?_
                refine WPL.skipG ?_
                refine WPL.val (v_pickF (v := .bool _) rfl rfl) ?_
                refine WPL.val (v_assign (v := .bool _) rfl) ?_
                refine WPL.nil (onto_of ?_)
                exact WP.ret1 Try.results26 (fun _ h => h) (fun w hw => ⟨(), congrArg Value.bool (by simp only [validB, lensB, sizesB, *, Bool.and_true, Bool.and_false, Bool.true_and, Bool.false_and, Bool.not_true, Bool.not_false]), trivial, hw.sel [] (by decide)⟩)
            ·
              refine WPL.skipG ?_
              refine WPL.skipG ?_
              refine WPL.skipG ?_
              refine WPL.val (v_pickF (v := .bool _) rfl rfl) ?_
              refine WPL.val (v_move (v := .bool _) rfl) ?_
              refine WPL.skipG ?_
              refine WPL.skipG ?_
              refine WPL.skipG ?_
              refine WPL.val (v_pickF (v := .bool _) rfl rfl) ?_
              refine WPL.val (v_move (v := .bool _) rfl) ?_
              refine WPL.skipG ?_
              refine WPL.skipG ?_
              refine WPL.skipG ?_
              refine WPL.val (v_pickF (v := .bool _) rfl rfl) ?_
              refine WPL.val (v_assign (v := .bool _) rfl) ?_
              refine WPL.nil (onto_of ?_)
              exact WP.ret1 Try.results26 (fun _ h => h) (fun w hw => ⟨(), congrArg Value.bool (by simp only [validB, lensB, sizesB, *, Bool.and_true, Bool.and_false, Bool.true_and, Bool.false_and, Bool.not_true, Bool.not_false]), trivial, hw.sel [] (by decide)⟩)
          ·
            refine WPL.skipG ?_
            refine WPL.skipG ?_
            refine WPL.skipG ?_
            refine WPL.skipG ?_
            refine WPL.val (v_pickF (v := .bool _) rfl rfl) ?_
            refine WPL.val (v_move (v := .bool _) rfl) ?_
            refine WPL.skipG ?_
            refine WPL.skipG ?_
            refine WPL.skipG ?_
            refine WPL.val (v_pickF (v := .bool _) rfl rfl) ?_
            refine WPL.val (v_move (v := .bool _) rfl) ?_
            refine WPL.skipG ?_
            refine WPL.skipG ?_
            refine WPL.skipG ?_
            refine WPL.val (v_pickF (v := .bool _) rfl rfl) ?_
            refine WPL.val (v_move (v := .bool _) rfl) ?_
            refine WPL.skipG ?_
            refine WPL.skipG ?_
            refine WPL.skipG ?_
            refine WPL.val (v_pickF (v := .bool _) rfl rfl) ?_
            refine WPL.val (v_assign (v := .bool _) rfl) ?_
            refine WPL.nil (onto_of ?_)
            exact WP.ret1 Try.results26 (fun _ h => h) (fun w hw => ⟨(), congrArg Value.bool (by simp only [validB, lensB, sizesB, *, Bool.and_true, Bool.and_false, Bool.true_and, Bool.false_and, Bool.not_true, Bool.not_false]), trivial, hw.sel [] (by decide)⟩)
        ·
          refine WPL.skipG ?_
          refine WPL.skipG ?_
          refine WPL.skipG ?_
          refine WPL.skipG ?_
          refine WPL.val (v_pickF (v := .bool _) rfl rfl) ?_
          refine WPL.val (v_move (v := .bool _) rfl) ?_
          refine WPL.skipG ?_
          refine WPL.skipG ?_
          refine WPL.skipG ?_
          refine WPL.skipG ?_
          refine WPL.val (v_pickF (v := .bool _) rfl rfl) ?_
          refine WPL.val (v_move (v := .bool _) rfl) ?_
          refine WPL.skipG ?_
          refine WPL.skipG ?_
          refine WPL.skipG ?_
          refine WPL.val (v_pickF (v := .bool _) rfl rfl) ?_
          refine WPL.val (v_move (v := .bool _) rfl) ?_
          refine WPL.skipG ?_
          refine WPL.skipG ?_
          refine WPL.skipG ?_
          refine WPL.val (v_pickF (v := .bool _) rfl rfl) ?_
          refine WPL.val (v_move (v := .bool _) rfl) ?_
          refine WPL.skipG ?_
          refine WPL.skipG ?_
          refine WPL.skipG ?_
          refine WPL.val (v_pickF (v := .bool _) rfl rfl) ?_
          refine WPL.val (v_assign (v := .bool _) rfl) ?_
          refine WPL.nil (onto_of ?_)
          exact WP.ret1 Try.results26 (fun _ h => h) (fun w hw => ⟨(), congrArg Value.bool (by simp only [validB, lensB, sizesB, *, Bool.and_true, Bool.and_false, Bool.true_and, Bool.false_and, Bool.not_true, Bool.not_false]), trivial, hw.sel [] (by decide)⟩)
      ·
        refine WPL.skipG ?_
        refine WPL.val (v_pickF (v := .bool _) rfl rfl) ?_
        refine WPL.val (v_move (v := .bool _) rfl) ?_
        refine WPL.skipG ?_
        refine WPL.skipG ?_
        refine WPL.skipG ?_
        refine WPL.skipG ?_
        refine WPL.val (v_pickF (v := .bool _) rfl rfl) ?_
        refine WPL.val (v_move (v := .bool _) rfl) ?_
        refine WPL.skipG ?_
        refine WPL.skipG ?_
        refine WPL.skipG ?_
        refine WPL.skipG ?_
        refine WPL.val (v_pickF (v := .bool _) rfl rfl) ?_
        refine WPL.val (v_move (v := .bool _) rfl) ?_
        refine WPL.skipG ?_
        refine WPL.skipG ?_
        refine WPL.skipG ?_
        refine WPL.val (v_pickF (v := .bool _) rfl rfl) ?_
        refine WPL.val (v_move (v := .bool _) rfl) ?_
        refine WPL.skipG ?_
        refine WPL.skipG ?_
        refine WPL.skipG ?_
        refine WPL.val (v_pickF (v := .bool _) rfl rfl) ?_
        refine WPL.val (v_move (v := .bool _) rfl) ?_
        refine WPL.skipG ?_
        refine WPL.skipG ?_
        refine WPL.skipG ?_
        refine WPL.val (v_pickF (v := .bool _) rfl rfl) ?_
        refine WPL.val (v_assign (v := .bool _) rfl) ?_
        refine WPL.nil (onto_of ?_)
        exact WP.ret1 Try.results26 (fun _ h => h) (fun w hw => ⟨(), congrArg Value.bool (by simp only [validB, lensB, sizesB, *, Bool.and_true, Bool.and_false, Bool.true_and, Bool.false_and, Bool.not_true, Bool.not_false]), trivial, hw.sel [] (by decide)⟩)
end Go.Proofs.Ytabdcfobdehhiaa
