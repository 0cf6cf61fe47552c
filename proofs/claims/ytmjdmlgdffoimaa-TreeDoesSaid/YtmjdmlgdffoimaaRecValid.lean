/- Valid, of record and of the document's layer 13. -/
import Derived.Test.YtmjdmlgdffoimaaRecSty
import Derived.Test.YtmjdmlgdffoimaaRecCat
namespace Go.Proofs.Ytmjdmlgdffoimaa
open Go.RowKit


set_option maxRecDepth 100000 in
theorem valid_ct (cs : List Value) (hs : SOk cs) : Ct Try.prog 47 #[.agg cs.toArray] [] (fun _ => True) (X := Unit) (fun _ => .bool (validB cs)) (fun _ => True) (fun _ => []) := by
  refine Ct.intro Try.func47 rfl Try.ntmps47 (by simp) (fun w0 _ => ?_)
  refine WP.seq ?_
  refine WP.region ?_
  refine WPL.ef (x_boxA (us := cs) (σ' := fun _ => [_]) rfl (fun _ => rfl)) (fun sty => ?_)
  refine WPL.val (v_assign (v := .bool false) rfl) ?_
  refine WPL.nil (onto_of ?_)
  refine WP.seq ?_
  refine WP.drawSel none [0] [(0, true), (1, true), (2, true), (3, true), (4, true), (5, true), (6, true), (7, true), (8, true), (9, true), (10, true), (11, true), (12, true), (13, true), (15, true), (16, true), (17, true), (18, true), (14, false), (19, false), (20, false), (21, true)] mixed (by kernel_rfl) (by decide) ?_
  refine WPD.take rfl (v_fieldL (o' := 3) Try.underlying43 rfl Try.sizeOf34 rfl rfl) ?_ (fun _ h => h.sel [0] (by decide))
  refine WPD.take rfl (v_loadA (cs := [.int .i64 _, .int .i64 _]) Try.isAgg34 Try.sizeOf34 rfl (fun w hw => hw.cl_at (i := 0) rfl 3 (hs.segE 2 3 (by decide) (by decide) rfl rfl))) ?_ (fun _ h => h.sel [0] (by decide))
  refine WPD.take rfl (v_fieldL (o' := 5) Try.underlying43 rfl Try.sizeOf34 rfl rfl) ?_ (fun _ h => h.sel [0] (by decide))
  refine WPD.take rfl (v_loadA (cs := [.int .i64 _, .int .i64 _]) Try.isAgg34 Try.sizeOf34 rfl (fun w hw => hw.cl_at (i := 0) rfl 5 (hs.segE 2 5 (by decide) (by decide) rfl rfl))) ?_ (fun _ h => h.sel [0] (by decide))
  refine WPD.take rfl (v_fieldL (o' := 7) Try.underlying43 rfl Try.sizeOf34 rfl rfl) ?_ (fun _ h => h.sel [0] (by decide))
  refine WPD.take rfl (v_loadA (cs := [.int .i64 _, .int .i64 _]) Try.isAgg34 Try.sizeOf34 rfl (fun w hw => hw.cl_at (i := 0) rfl 7 (hs.segE 2 7 (by decide) (by decide) rfl rfl))) ?_ (fun _ h => h.sel [0] (by decide))
  refine WPD.take rfl (v_fieldL (o' := 9) Try.underlying43 rfl Try.sizeOf34 rfl rfl) ?_ (fun _ h => h.sel [0] (by decide))
  refine WPD.take rfl (v_loadA (cs := [.int .i64 _, .int .i64 _]) Try.isAgg34 Try.sizeOf34 rfl (fun w hw => hw.cl_at (i := 0) rfl 9 (hs.segE 2 9 (by decide) (by decide) rfl rfl))) ?_ (fun _ h => h.sel [0] (by decide))
  refine WPD.take rfl (v_fieldL (o' := 11) Try.underlying43 rfl Try.sizeOf34 rfl rfl) ?_ (fun _ h => h.sel [0] (by decide))
  refine WPD.take rfl (v_loadA (cs := [.int .i64 _, .int .i64 _]) Try.isAgg34 Try.sizeOf34 rfl (fun w hw => hw.cl_at (i := 0) rfl 11 (hs.segE 2 11 (by decide) (by decide) rfl rfl))) ?_ (fun _ h => h.sel [0] (by decide))
  refine WPD.take rfl (v_fieldL (o' := 13) Try.underlying43 rfl Try.sizeOf34 rfl rfl) ?_ (fun _ h => h.sel [0] (by decide))
  refine WPD.take rfl (v_loadA (cs := [.int .i64 _, .int .i64 _]) Try.isAgg34 Try.sizeOf34 rfl (fun w hw => hw.cl_at (i := 0) rfl 13 (hs.segE 2 13 (by decide) (by decide) rfl rfl))) ?_ (fun _ h => h.sel [0] (by decide))
  refine WPD.take rfl (v_fieldL (o' := 41) Try.underlying43 rfl Try.sizeOf34 rfl rfl) ?_ (fun _ h => h.sel [0] (by decide))
  refine WPD.take rfl (v_loadA (cs := [.int .i64 _, .int .i64 _]) Try.isAgg34 Try.sizeOf34 rfl (fun w hw => hw.cl_at (i := 0) rfl 41 (hs.segE 2 41 (by decide) (by decide) rfl rfl))) ?_ (fun _ h => h.sel [0] (by decide))
  refine WPD.take rfl (v_fieldL (o' := 15) Try.underlying43 rfl Try.sizeOf35 rfl rfl) ?_ (fun _ h => h.sel [0] (by decide))
  refine WPD.take rfl (v_sliceA Try.underlying35 Try.sizeOf34 rfl) ?_ (fun _ h => h.sel [0] (by decide))
  refine WPD.take rfl (v_fieldL (o' := 23) Try.underlying43 rfl Try.sizeOf35 rfl rfl) ?_ (fun _ h => h.sel [0] (by decide))
  refine WPD.take rfl (v_sliceA Try.underlying35 Try.sizeOf34 rfl) ?_ (fun _ h => h.sel [0] (by decide))
  refine WPD.ef rfl (x_buildSlice (us := [.int .i64 _, .int .i64 _, .int .i64 _, .int .i64 _, .int .i64 _, .int .i64 _, .int .i64 _, .int .i64 _, .int .i64 _, .int .i64 _, .int .i64 _, .int .i64 _, .int .i64 _, .int .i64 _]) (σ' := fun _ => [_, _]) Try.underlying93 Try.sizeOf34 Try.zeroValue34 rfl rfl rfl (by decide) (by decide) (fun _ => rfl)) (fun _ _ _ h => h.sel [0] (by decide)) (fun g23 => ?_)
  refine WPD.ef rfl (x_buildSlice (us := [.slice _ _ _, .slice _ _ _, .slice _ _ _]) (σ' := fun _ => [_, _, _]) Try.underlying107 Try.sizeOf93 Try.zeroValue93 rfl rfl rfl (by decide) (by decide) (fun _ => rfl)) (fun _ _ _ h => h.sel [0] (by decide)) (fun g28 => ?_)
  refine WPD.ef rfl (x_call Try.call58 (concat58_ct g28 3 _ _ _ _ _ _ ([.int .i64 (val cs 3), .int .i64 (val cs 4), .int .i64 (val cs 5), .int .i64 (val cs 6), .int .i64 (val cs 7), .int .i64 (val cs 8), .int .i64 (val cs 9), .int .i64 (val cs 10), .int .i64 (val cs 11), .int .i64 (val cs 12), .int .i64 (val cs 13), .int .i64 (val cs 14), .int .i64 (val cs 41), .int .i64 (val cs 42)]) ([.int .i64 (val cs 15), .int .i64 (val cs 16), .int .i64 (val cs 17), .int .i64 (val cs 18), .int .i64 (val cs 19), .int .i64 (val cs 20), .int .i64 (val cs 21), .int .i64 (val cs 22)]) ([.int .i64 (val cs 23), .int .i64 (val cs 24), .int .i64 (val cs 25), .int .i64 (val cs 26), .int .i64 (val cs 27), .int .i64 (val cs 28), .int .i64 (val cs 29), .int .i64 (val cs 30)]) rfl rfl rfl (by simp [Value.oneCell'])) [] [0, 1, 2] rfl (fun w hw => ⟨hw.row_at1 (i := 2) rfl rfl rfl, hw.row_at1 (i := 2) rfl rfl rfl, hw.row_at1 (i := 2) rfl rfl rfl, hw.src_row (i := 1) rfl, srcAt (hw.cl_at (i := 0) rfl 15 (hs.segE 8 15 (by decide) (by decide) rfl rfl)), srcAt (hw.cl_at (i := 0) rfl 23 (hs.segE 8 23 (by decide) (by decide) rfl rfl))⟩) (τ := fun _ => [_, _, _, _]) (fun _ => rfl)) (fun _ _ _ h => h.2.sel [0] (by decide)) (fun ⟨bl, cl⟩ => ?_)
  refine WPD.fact (fun _ => ?_)
  refine WPD.take rfl (v_assign (v := .slice _ _ _) rfl) ?_ (fun _ h => h.sel [0] (by decide))
  refine WPD.nil (onto_of ?_)
  refine WP.seq ?_
  refine WP.drawSel none [0, 1, 2, 3] [(0, true), (1, true), (3, true), (4, true), (5, true), (6, true), (7, true), (8, true), (2, false), (9, false), (10, false), (11, true)] mixed (by kernel_rfl) (by decide) ?_
  refine WPD.take rfl (v_fieldL (o' := 46) Try.underlying43 rfl Try.sizeOf3 rfl rfl) ?_ (fun _ h => h.sel [0, 1, 2, 3] (by decide))
  refine WPD.take rfl (v_load1 (u := .int .i64 _) Try.isAgg3 rfl (fun w hw => hw.cl_at (i := 0) rfl 46 (cell_of (hs.int 46 (by decide) (by decide))))) ?_ (fun _ h => h.sel [0, 1, 2, 3] (by decide))
  refine WPD.take rfl (v_fieldL (o' := 31) Try.underlying43 rfl Try.sizeOf36 rfl rfl) ?_ (fun _ h => h.sel [0, 1, 2, 3] (by decide))
  refine WPD.take rfl (v_sliceA Try.underlying36 Try.sizeOf3 rfl) ?_ (fun _ h => h.sel [0, 1, 2, 3] (by decide))
  refine WPD.take rfl (v_fieldL (o' := 35) Try.underlying43 rfl Try.sizeOf36 rfl rfl) ?_ (fun _ h => h.sel [0, 1, 2, 3] (by decide))
  refine WPD.take rfl (v_sliceA Try.underlying36 Try.sizeOf3 rfl) ?_ (fun _ h => h.sel [0, 1, 2, 3] (by decide))
  refine WPD.take rfl (v_fieldL (o' := 53) Try.underlying43 rfl Try.sizeOf41 rfl rfl) ?_ (fun _ h => h.sel [0, 1, 2, 3] (by decide))
  refine WPD.take rfl (v_sliceA Try.underlying41 Try.sizeOf3 rfl) ?_ (fun _ h => h.sel [0, 1, 2, 3] (by decide))
  refine WPD.ef rfl (x_buildSlice (us := [.int .i64 _]) (σ' := fun _ => [_, _, _, _, _]) Try.underlying50 Try.sizeOf3 Try.zeroValue3 rfl rfl rfl (by decide) (by decide) (fun _ => rfl)) (fun _ _ _ h => h.sel [0, 1, 2, 3] (by decide)) (fun g32 => ?_)
  refine WPD.ef rfl (x_buildSlice (us := [.slice _ _ _, .slice _ _ _, .slice _ _ _, .slice _ _ _]) (σ' := fun _ => [_, _, _, _, _, _]) Try.underlying109 Try.sizeOf50 Try.zeroValue50 rfl rfl rfl (by decide) (by decide) (fun _ => rfl)) (fun _ _ _ h => h.sel [0, 1, 2, 3] (by decide)) (fun g39 => ?_)
  refine WPD.ef rfl (x_call Try.call59 (concat59_ct g39 4 _ _ _ _ _ _ _ _ ([.int .i64 (val cs 46)]) ([.int .i64 (val cs 31), .int .i64 (val cs 32), .int .i64 (val cs 33), .int .i64 (val cs 34)]) ([.int .i64 (val cs 35), .int .i64 (val cs 36), .int .i64 (val cs 37), .int .i64 (val cs 38)]) ([.int .i64 (val cs 53), .int .i64 (val cs 54)]) rfl rfl rfl rfl (by simp [Value.oneCell'])) [] [0, 1, 2, 3, 4, 5] rfl (fun w hw => ⟨hw.row_at1 (i := 5) rfl rfl rfl, hw.row_at1 (i := 5) rfl rfl rfl, hw.row_at1 (i := 5) rfl rfl rfl, hw.row_at1 (i := 5) rfl rfl rfl, hw.src_row (i := 4) rfl, srcAt (hw.cl_at (i := 0) rfl 31 (hs.segE 4 31 (by decide) (by decide) rfl rfl)), srcAt (hw.cl_at (i := 0) rfl 35 (hs.segE 4 35 (by decide) (by decide) rfl rfl)), srcAt (hw.cl_at (i := 0) rfl 53 (hs.segE 2 53 (by decide) (by decide) rfl rfl))⟩) (τ := fun _ => [_, _, _, _, _, _, _]) (fun _ => rfl)) (fun _ _ _ h => h.2.sel [0, 1, 2, 3] (by decide)) (fun ⟨bs, cs2⟩ => ?_)
  refine WPD.fact (fun _ => ?_)
  refine WPD.take rfl (v_assign (v := .slice _ _ _) rfl) ?_ (fun _ h => h.sel [0, 1, 2, 3] (by decide))
  refine WPD.nil (onto_of ?_)
  refine WP.seq ?_
  refine WP.region ?_
  refine WPL.val (v_assign rfl) ?_
  refine WPL.nil (onto_of ?_)
  refine WP.seq ?_
  refine WP.region ?_
  refine WPL.val (v_assign rfl) ?_
  refine WPL.nil (onto_of ?_)
  refine WP.midS [1, 3, 4, 5, 6] [(7, .bool (kindsB cs))] ?_ (fun ρ0 => ?_)
  ·
    refine WP.region ?_
    refine WPL.val (v_fieldL (o' := 0) Try.underlying43 rfl Try.sizeOf29 rfl rfl) ?_
    refine WPL.val (v_load1 (u := .int .i64 _) Try.isAgg29 rfl (fun w hw => hw.cl_at (i := 0) rfl 0 (cell_of (hs.int 0 (by decide) (by decide))))) ?_
    refine WPL.val (v_call Try.call64 (fun w hw => in64_any _ _ _ _)) ?_
    refine WPL.val (v_move (v := .bool _) rfl) ?_
    refine WPL.splitB 44 rfl (fun h44 => ?_) (fun h44 => ?_)
    ·
      refine WPL.valG (v_fieldL (o' := 1) Try.underlying43 rfl Try.sizeOf30 rfl rfl) ?_
      refine WPL.valG (v_load1 (u := .int .i64 _) Try.isAgg30 rfl (fun w hw => hw.cl_at (i := 0) rfl 1 (cell_of (hs.int 1 (by decide) (by decide))))) ?_
      refine WPL.valG (v_call Try.call65 (fun w hw => in65_any _ _ _ _)) ?_
      refine WPL.val (v_pickT (u := .bool _) rfl rfl) ?_
      refine WPL.val (v_move (v := .bool _) rfl) ?_
      refine WPL.splitB 49 rfl (fun h49 => ?_) (fun h49 => ?_)
      ·
        refine WPL.valG (v_fieldL (o' := 2) Try.underlying43 rfl Try.sizeOf31 rfl rfl) ?_
        refine WPL.valG (v_load1 (u := .int .i64 _) Try.isAgg31 rfl (fun w hw => hw.cl_at (i := 0) rfl 2 (cell_of (hs.int 2 (by decide) (by decide))))) ?_
        refine WPL.valG (v_call Try.call66 (fun w hw => in66_any _ _ _ _)) ?_
        refine WPL.val (v_pickT (u := .bool _) rfl rfl) ?_
        refine WPL.val (v_assign (v := .bool _) rfl) ?_
        exact WPL.nil fun w hw => ⟨rfl, ⟨(congrArg Value.bool (by simp only [kindsB, *, Bool.and_true, Bool.and_false, Bool.true_and, Bool.false_and, Bool.not_true, Bool.not_false])), rfl, (via (.slice _ _ _) rfl rfl), (via (.slice _ _ _) rfl rfl), rfl, rfl, trivial⟩, hw⟩
      ·
        refine WPL.skipG ?_
        refine WPL.skipG ?_
        refine WPL.skipG ?_
        refine WPL.val (v_pickF (v := .bool _) rfl rfl) ?_
        refine WPL.val (v_assign (v := .bool _) rfl) ?_
        exact WPL.nil fun w hw => ⟨rfl, ⟨(congrArg Value.bool (by simp only [kindsB, *, Bool.and_true, Bool.and_false, Bool.true_and, Bool.false_and, Bool.not_true, Bool.not_false])), rfl, (via (.slice _ _ _) rfl rfl), (via (.slice _ _ _) rfl rfl), rfl, rfl, trivial⟩, hw⟩
    ·
      refine WPL.skipG ?_
      refine WPL.skipG ?_
      refine WPL.skipG ?_
      refine WPL.val (v_pickF (v := .bool _) rfl rfl) ?_
      refine WPL.val (v_move (v := .bool _) rfl) ?_
      refine WPL.skipG ?_
      refine WPL.skipG ?_
      refine WPL.skipG ?_
      refine WPL.val (v_pickF (v := .bool _) rfl rfl) ?_
      refine WPL.val (v_assign (v := .bool _) rfl) ?_
      exact WPL.nil fun w hw => ⟨rfl, ⟨(congrArg Value.bool (by simp only [kindsB, *, Bool.and_true, Bool.and_false, Bool.true_and, Bool.false_and, Bool.not_true, Bool.not_false])), rfl, (via (.slice _ _ _) rfl rfl), (via (.slice _ _ _) rfl rfl), rfl, rfl, trivial⟩, hw⟩
  ·
    refine WP.midS [1, 3, 4, 5, 6, 7] [(8, .bool (waysB cs))] ?_ (fun ρ0 => ?_)
    ·
      refine WP.region ?_
      refine WPL.val (v_fieldL (o' := 43) Try.underlying43 rfl Try.sizeOf37 rfl rfl) ?_
      refine WPL.val (v_load1 (u := .int .i64 _) Try.isAgg37 rfl (fun w hw => hw.cl_at (i := 0) rfl 43 (cell_of (hs.int 43 (by decide) (by decide))))) ?_
      refine WPL.val (v_call Try.call67 (fun w hw => in67_any _ _ _ _)) ?_
      refine WPL.val (v_move (v := .bool _) rfl) ?_
      refine WPL.splitB 57 rfl (fun h57 => ?_) (fun h57 => ?_)
      ·
        refine WPL.valG (v_fieldL (o' := 44) Try.underlying43 rfl Try.sizeOf38 rfl rfl) ?_
        refine WPL.valG (v_load1 (u := .int .i64 _) Try.isAgg38 rfl (fun w hw => hw.cl_at (i := 0) rfl 44 (cell_of (hs.int 44 (by decide) (by decide))))) ?_
        refine WPL.valG (v_call Try.call68 (fun w hw => in68_any _ _ _ _)) ?_
        refine WPL.val (v_pickT (u := .bool _) rfl rfl) ?_
        refine WPL.val (v_move (v := .bool _) rfl) ?_
        refine WPL.splitB 62 rfl (fun h62 => ?_) (fun h62 => ?_)
        ·
          refine WPL.valG (v_fieldL (o' := 49) Try.underlying43 rfl Try.sizeOf39 rfl rfl) ?_
          refine WPL.valG (v_load1 (u := .int .i64 _) Try.isAgg39 rfl (fun w hw => hw.cl_at (i := 0) rfl 49 (cell_of (hs.int 49 (by decide) (by decide))))) ?_
          refine WPL.valG (v_call Try.call69 (fun w hw => in69_any _ _ _ _)) ?_
          refine WPL.val (v_pickT (u := .bool _) rfl rfl) ?_
          refine WPL.val (v_move (v := .bool _) rfl) ?_
          refine WPL.splitB 67 rfl (fun h67 => ?_) (fun h67 => ?_)
          ·
            refine WPL.valG (v_fieldL (o' := 50) Try.underlying43 rfl Try.sizeOf40 rfl rfl) ?_
            refine WPL.valG (v_load1 (u := .int .i64 _) Try.isAgg40 rfl (fun w hw => hw.cl_at (i := 0) rfl 50 (cell_of (hs.int 50 (by decide) (by decide))))) ?_
            refine WPL.valG (v_call Try.call70 (fun w hw => in70_any _ _ _ _)) ?_
            refine WPL.val (v_pickT (u := .bool _) rfl rfl) ?_
            refine WPL.val (v_assign (v := .bool _) rfl) ?_
            exact WPL.nil fun w hw => ⟨rfl, ⟨(congrArg Value.bool (by simp only [waysB, *, Bool.and_true, Bool.and_false, Bool.true_and, Bool.false_and, Bool.not_true, Bool.not_false])), rfl, (via (.slice _ _ _) rfl rfl), (via (.slice _ _ _) rfl rfl), rfl, rfl, (via (.bool _) rfl rfl), trivial⟩, hw⟩
          ·
            refine WPL.skipG ?_
            refine WPL.skipG ?_
            refine WPL.skipG ?_
            refine WPL.val (v_pickF (v := .bool _) rfl rfl) ?_
            refine WPL.val (v_assign (v := .bool _) rfl) ?_
            exact WPL.nil fun w hw => ⟨rfl, ⟨(congrArg Value.bool (by simp only [waysB, *, Bool.and_true, Bool.and_false, Bool.true_and, Bool.false_and, Bool.not_true, Bool.not_false])), rfl, (via (.slice _ _ _) rfl rfl), (via (.slice _ _ _) rfl rfl), rfl, rfl, (via (.bool _) rfl rfl), trivial⟩, hw⟩
        ·
          refine WPL.skipG ?_
          refine WPL.skipG ?_
          refine WPL.skipG ?_
          refine WPL.val (v_pickF (v := .bool _) rfl rfl) ?_
          refine WPL.val (v_move (v := .bool _) rfl) ?_
          refine WPL.skipG ?_
          refine WPL.skipG ?_
          refine WPL.skipG ?_
          refine WPL.val (v_pickF (v := .bool _) rfl rfl) ?_
          refine WPL.val (v_assign (v := .bool _) rfl) ?_
          exact WPL.nil fun w hw => ⟨rfl, ⟨(congrArg Value.bool (by simp only [waysB, *, Bool.and_true, Bool.and_false, Bool.true_and, Bool.false_and, Bool.not_true, Bool.not_false])), rfl, (via (.slice _ _ _) rfl rfl), (via (.slice _ _ _) rfl rfl), rfl, rfl, (via (.bool _) rfl rfl), trivial⟩, hw⟩
      ·
        refine WPL.skipG ?_
        refine WPL.skipG ?_
        refine WPL.skipG ?_
        refine WPL.val (v_pickF (v := .bool _) rfl rfl) ?_
        refine WPL.val (v_move (v := .bool _) rfl) ?_
        refine WPL.skipG ?_
        refine WPL.skipG ?_
        refine WPL.skipG ?_
        refine WPL.val (v_pickF (v := .bool _) rfl rfl) ?_
        refine WPL.val (v_move (v := .bool _) rfl) ?_
        refine WPL.skipG ?_
        refine WPL.skipG ?_
        refine WPL.skipG ?_
        refine WPL.val (v_pickF (v := .bool _) rfl rfl) ?_
        refine WPL.val (v_assign (v := .bool _) rfl) ?_
        exact WPL.nil fun w hw => ⟨rfl, ⟨(congrArg Value.bool (by simp only [waysB, *, Bool.and_true, Bool.and_false, Bool.true_and, Bool.false_and, Bool.not_true, Bool.not_false])), rfl, (via (.slice _ _ _) rfl rfl), (via (.slice _ _ _) rfl rfl), rfl, rfl, (via (.bool _) rfl rfl), trivial⟩, hw⟩
    ·
      refine WP.seq ?_
      refine WP.region ?_
      refine WPL.val (v_move (v := .bool _) rfl) ?_
      refine WPL.val (v_move (v := .bool _) rfl) ?_
      refine WPL.splitB 73 rfl (fun h73 => ?_) (fun h73 => ?_)
      ·
        refine WPL.valG (v_move (v := .bool _) rfl) ?_
        refine WPL.val (v_pickT (u := .bool _) rfl rfl) ?_
        refine WPL.val (v_move (v := .bool _) rfl) ?_
        refine WPL.splitB 76 rfl (fun h76 => ?_) (fun h76 => ?_)
        ·
          refine WPL.valG (v_move (v := .slice _ _ _) rfl) ?_
          refine WPL.valG (v_move rfl) ?_
          refine WPL.efG (x_call Try.call71 (contains71_ct (some ⟨bl, 0, none⟩) cl (lensOf cs) (by simp [lensOf, lenPos])) [] [0, 1, 2, 3, 4, 5, 6] rfl (fun w hw => hw.rd_row (i := 3) rfl rfl (fun _ => rfl)) (τ := fun _ => [_, _, _, _, _, _, _]) (fun _ => rfl)) (fun _ => ?_)
          refine WPL.fact (fun _ => ?_)
          refine WPL.valG (v_not rfl) ?_
          refine WPL.val (v_pickT (u := .bool _) rfl rfl) ?_
          refine WPL.val (v_move (v := .bool _) rfl) ?_
          refine WPL.splitB 82 rfl (fun h82 => ?_) (fun h82 => ?_)
          ·
            refine WPL.valG (v_move (v := .slice _ _ _) rfl) ?_
            refine WPL.valG (v_move rfl) ?_
            refine WPL.efG (x_call Try.call72 (contains72_ct (some ⟨bs, 0, none⟩) cs2 (sizesOf cs) (by simp [sizesOf, sizPos])) [] [0, 1, 2, 3, 4, 5, 6] rfl (fun w hw => hw.rd_row1 (i := 6) rfl) (τ := fun _ => [_, _, _, _, _, _, _]) (fun _ => rfl)) (fun _ => ?_)
            refine WPL.fact (fun _ => ?_)
            refine WPL.valG (v_not rfl) ?_
            refine WPL.val (v_pickT (u := .bool _) rfl rfl) ?_
            refine WPL.val (v_move (v := .bool _) rfl) ?_
            refine WPL.splitB 88 rfl (fun h88 => ?_) (fun h88 => ?_)
            ·
              refine WPL.valG (v_fieldL (o' := 39) Try.underlying43 rfl Try.sizeOf3 rfl rfl) ?_
              refine WPL.valG (v_load1 (u := .int .i64 _) Try.isAgg3 rfl (fun w hw => hw.cl_at (i := 0) rfl 39 (cell_of (hs.int 39 (by decide) (by decide))))) ?_
              refine WPL.valG (v_call Try.call63 (fun w hw => in63_any _ _ _ _)) ?_
              refine WPL.val (v_pickT (u := .bool _) rfl rfl) ?_
              refine WPL.val (v_move (v := .bool _) rfl) ?_
              refine WPL.splitB 93 rfl (fun h93 => ?_) (fun h93 => ?_)
              ·
                refine WPL.valG (v_fieldL (o' := 40) Try.underlying43 rfl Try.sizeOf3 rfl rfl) ?_
                refine WPL.valG (v_load1 (u := .int .i64 _) Try.isAgg3 rfl (fun w hw => hw.cl_at (i := 0) rfl 40 (cell_of (hs.int 40 (by decide) (by decide))))) ?_
                refine WPL.valG (v_call Try.call63 (fun w hw => in63_any _ _ _ _)) ?_
                refine WPL.val (v_pickT (u := .bool _) rfl rfl) ?_
                refine WPL.val (v_move (v := .bool _) rfl) ?_
                refine WPL.splitB 98 rfl (fun h98 => ?_) (fun h98 => ?_)
                ·
                  refine WPL.valG (v_fieldL (o' := 48) Try.underlying43 rfl Try.sizeOf3 rfl rfl) ?_
                  refine WPL.valG (v_load1 (u := .int .i64 _) Try.isAgg3 rfl (fun w hw => hw.cl_at (i := 0) rfl 48 (cell_of (hs.int 48 (by decide) (by decide))))) ?_
                  refine WPL.valG (v_call Try.call63 (fun w hw => in63_any _ _ _ _)) ?_
                  refine WPL.val (v_pickT (u := .bool _) rfl rfl) ?_
                  refine WPL.val (v_assign (v := .bool _) rfl) ?_
                  refine WPL.nil (onto_of ?_)
                  exact WP.ret1 Try.results47 (fun _ h => h) (fun w hw => ⟨(), congrArg Value.bool (by simp only [validB, lensB, sizesB, *, Bool.and_true, Bool.and_false, Bool.true_and, Bool.false_and, Bool.not_true, Bool.not_false]), trivial, hw.sel [] (by decide)⟩)
                ·
                  refine WPL.skipG ?_
                  refine WPL.skipG ?_
                  refine WPL.skipG ?_
                  refine WPL.val (v_pickF (v := .bool _) rfl rfl) ?_
                  refine WPL.val (v_assign (v := .bool _) rfl) ?_
                  refine WPL.nil (onto_of ?_)
                  exact WP.ret1 Try.results47 (fun _ h => h) (fun w hw => ⟨(), congrArg Value.bool (by simp only [validB, lensB, sizesB, *, Bool.and_true, Bool.and_false, Bool.true_and, Bool.false_and, Bool.not_true, Bool.not_false]), trivial, hw.sel [] (by decide)⟩)
              ·
                refine WPL.skipG ?_
                refine WPL.skipG ?_
                refine WPL.skipG ?_
                refine WPL.val (v_pickF (v := .bool _) rfl rfl) ?_
                refine WPL.val (v_move (v := .bool _) rfl) ?_
                refine WPL.skipG ?_
                refine WPL.skipG ?_
                refine WPL.skipG ?_
                refine WPL.val (v_pickF (v := .bool _) rfl rfl) ?_
                refine WPL.val (v_assign (v := .bool _) rfl) ?_
                refine WPL.nil (onto_of ?_)
                exact WP.ret1 Try.results47 (fun _ h => h) (fun w hw => ⟨(), congrArg Value.bool (by simp only [validB, lensB, sizesB, *, Bool.and_true, Bool.and_false, Bool.true_and, Bool.false_and, Bool.not_true, Bool.not_false]), trivial, hw.sel [] (by decide)⟩)
            ·
              refine WPL.skipG ?_
              refine WPL.skipG ?_
              refine WPL.skipG ?_
              refine WPL.val (v_pickF (v := .bool _) rfl rfl) ?_
              refine WPL.val (v_move (v := .bool _) rfl) ?_
              refine WPL.skipG ?_
              refine WPL.skipG ?_
              refine WPL.skipG ?_
              refine WPL.val (v_pickF (v := .bool _) rfl rfl) ?_
              refine WPL.val (v_move (v := .bool _) rfl) ?_
              refine WPL.skipG ?_
              refine WPL.skipG ?_
              refine WPL.skipG ?_
              refine WPL.val (v_pickF (v := .bool _) rfl rfl) ?_
              refine WPL.val (v_assign (v := .bool _) rfl) ?_
              refine WPL.nil (onto_of ?_)
              exact WP.ret1 Try.results47 (fun _ h => h) (fun w hw => ⟨(), congrArg Value.bool (by simp only [validB, lensB, sizesB, *, Bool.and_true, Bool.and_false, Bool.true_and, Bool.false_and, Bool.not_true, Bool.not_false]), trivial, hw.sel [] (by decide)⟩)
          ·
            refine WPL.skipG ?_
            refine WPL.skipG ?_
            refine WPL.skipG ?_
            refine WPL.skipG ?_
            refine WPL.val (v_pickF (v := .bool _) rfl rfl) ?_
            refine WPL.val (v_move (v := .bool _) rfl) ?_
            refine WPL.skipG ?_
            refine WPL.skipG ?_
            refine WPL.skipG ?_
            refine WPL.val (v_pickF (v := .bool _) rfl rfl) ?_
            refine WPL.val (v_move (v := .bool _) rfl) ?_
            refine WPL.skipG ?_
            refine WPL.skipG ?_
            refine WPL.skipG ?_
            refine WPL.val (v_pickF (v := .bool _) rfl rfl) ?_
            refine WPL.val (v_move (v := .bool _) rfl) ?_
            refine WPL.skipG ?_
            refine WPL.skipG ?_
            refine WPL.skipG ?_
            refine WPL.val (v_pickF (v := .bool _) rfl rfl) ?_
            refine WPL.val (v_assign (v := .bool _) rfl) ?_
            refine WPL.nil (onto_of ?_)
            exact WP.ret1 Try.results47 (fun _ h => h) (fun w hw => ⟨(), congrArg Value.bool (by simp only [validB, lensB, sizesB, *, Bool.and_true, Bool.and_false, Bool.true_and, Bool.false_and, Bool.not_true, Bool.not_false]), trivial, hw.sel [] (by decide)⟩)
        ·
          refine WPL.skipG ?_
          refine WPL.skipG ?_
          refine WPL.skipG ?_
          refine WPL.skipG ?_
          refine WPL.val (v_pickF (v := .bool _) rfl rfl) ?_
          refine WPL.val (v_move (v := .bool _) rfl) ?_
          refine WPL.skipG ?_
          refine WPL.skipG ?_
          refine WPL.skipG ?_
          refine WPL.skipG ?_
          refine WPL.val (v_pickF (v := .bool _) rfl rfl) ?_
          refine WPL.val (v_move (v := .bool _) rfl) ?_
          refine WPL.skipG ?_
          refine WPL.skipG ?_
          refine WPL.skipG ?_
          refine WPL.val (v_pickF (v := .bool _) rfl rfl) ?_
          refine WPL.val (v_move (v := .bool _) rfl) ?_
          refine WPL.skipG ?_
          refine WPL.skipG ?_
          refine WPL.skipG ?_
          refine WPL.val (v_pickF (v := .bool _) rfl rfl) ?_
          refine WPL.val (v_move (v := .bool _) rfl) ?_
          refine WPL.skipG ?_
          refine WPL.skipG ?_
          refine WPL.skipG ?_
          refine WPL.val (v_pickF (v := .bool _) rfl rfl) ?_
          refine WPL.val (v_assign (v := .bool _) rfl) ?_
          refine WPL.nil (onto_of ?_)
          exact WP.ret1 Try.results47 (fun _ h => h) (fun w hw => ⟨(), congrArg Value.bool (by simp only [validB, lensB, sizesB, *, Bool.and_true, Bool.and_false, Bool.true_and, Bool.false_and, Bool.not_true, Bool.not_false]), trivial, hw.sel [] (by decide)⟩)
      ·
        refine WPL.skipG ?_
        refine WPL.val (v_pickF (v := .bool _) rfl rfl) ?_
        refine WPL.val (v_move (v := .bool _) rfl) ?_
        refine WPL.skipG ?_
        refine WPL.skipG ?_
        refine WPL.skipG ?_
        refine WPL.skipG ?_
        refine WPL.val (v_pickF (v := .bool _) rfl rfl) ?_
        refine WPL.val (v_move (v := .bool _) rfl) ?_
        refine WPL.skipG ?_
        refine WPL.skipG ?_
        refine WPL.skipG ?_
        refine WPL.skipG ?_
        refine WPL.val (v_pickF (v := .bool _) rfl rfl) ?_
        refine WPL.val (v_move (v := .bool _) rfl) ?_
        refine WPL.skipG ?_
        refine WPL.skipG ?_
        refine WPL.skipG ?_
        refine WPL.val (v_pickF (v := .bool _) rfl rfl) ?_
        refine WPL.val (v_move (v := .bool _) rfl) ?_
        refine WPL.skipG ?_
        refine WPL.skipG ?_
        refine WPL.skipG ?_
        refine WPL.val (v_pickF (v := .bool _) rfl rfl) ?_
        refine WPL.val (v_move (v := .bool _) rfl) ?_
        refine WPL.skipG ?_
        refine WPL.skipG ?_
        refine WPL.skipG ?_
        refine WPL.val (v_pickF (v := .bool _) rfl rfl) ?_
        refine WPL.val (v_assign (v := .bool _) rfl) ?_
        refine WPL.nil (onto_of ?_)
        exact WP.ret1 Try.results47 (fun _ h => h) (fun w hw => ⟨(), congrArg Value.bool (by simp only [validB, lensB, sizesB, *, Bool.and_true, Bool.and_false, Bool.true_and, Bool.false_and, Bool.not_true, Bool.not_false]), trivial, hw.sel [] (by decide)⟩)
end Go.Proofs.Ytmjdmlgdffoimaa
