/- The document's layer 13: Valid, Put. -/
import Derived.Test.YtmjdmlgdffoimaaRecValid
namespace Go.Proofs.Ytmjdmlgdffoimaa
open Go.RowKit

theorem cellOne {w : World} {b o j : Nat} {us : List Value} {u : Value} (h : CellsAt w b o us) (hu : us[j]? = some u) : CellsAt w b (o + j) [u] := by
  intro i v hi
  cases i with
  | zero => cases hi; exact h j u hu
  | succ i => simp at hi
theorem intAt {l : List Int} {k : Nat} {x : Int} (h : l[k]? = some x) : (l.map (Value.int .i64))[k]? = some (.int .i64 x) := by rw [List.getElem?_map, h]; rfl
theorem val_bit {cs : List Value} (hs : SOk cs) (j : Nat) (hj : j < 55) (hb : isBit j = true) : bit01 (bval cs j) = val cs j := by
  have h1 := hs.bit j hj hb
  unfold val
  rw [List.getD_eq_getElem?_getD, h1]
  rfl
theorem nums_len {cs : List Value} (hs : SOk cs) : (nums cs).length = 55 := by simp [nums, hs.len]
theorem takes {cs : List Value} (hs : SOk cs) : ∀ (n o : Nat), o + n ≤ 55 → (nums cs).take o ++ (List.range' o n).map (val cs) = (nums cs).take (o + n)
  | 0, o, _ => by simp
  | n + 1, o, h => by
    rw [List.range'_succ, List.map_cons, ← List.singleton_append, ← List.append_assoc, hs.step o (by omega), takes hs n (o + 1) (by omega)]
    congr 1; omega
theorem takesV {cs : List Value} (hs : SOk cs) (n o : Nat) (h : o + n ≤ 55) {us : List Value} (e : (List.range' o n).map (fun j => Value.int .i64 (val cs j)) = us) : ((nums cs).take o).map (Value.int .i64) ++ us = ((nums cs).take (o + n)).map (Value.int .i64) := by
  rw [← takes hs n o h, List.map_append, ← e, List.map_map]
  rfl
abbrev numI (A : Option Addr) (c n : Nat) (cs : List Value) : HI := .row 3 1 A n c (((nums cs).take n).map (Value.int .i64))
def lens14 (cs : List Value) : List (Int × Int) := (List.range 14).map fun k => (val cs (3 + 2 * k), val cs (3 + 2 * k + 1))
theorem lens14_at (cs : List Value) {k : Nat} (hk : k < 14) : (lens14 cs)[k]? = some (val cs (3 + 2 * k), val cs (3 + 2 * k + 1)) := by simp [lens14, hk]
theorem lens14_step {cs : List Value} (hs : SOk cs) {k : Nat} (hk : k < 14) : ((nums cs).take (3 + 2 * k)).map (Value.int .i64) ++ [.int .i64 (val cs (3 + 2 * k)), .int .i64 (val cs (3 + 2 * k + 1))] = ((nums cs).take (3 + 2 * (k + 1))).map (Value.int .i64) :=
  takesV hs 2 (3 + 2 * k) (by omega) rfl

def lenPos2 : List Nat := [3, 5, 7, 9, 11, 13, 41, 15, 23, 17, 25, 19, 27, 21, 29]
def sizPos2 : List Nat := [46, 53, 54, 31, 35, 32, 36, 33, 37, 34, 38]
def lens2 (cs : List Value) : List (Int × Int) := lenPos2.map fun j => (val cs j, val cs (j + 1))
def sizes2 (cs : List Value) : List Int := sizPos2.map (val cs)
def kinds7 (cs : List Value) : Bool := within (val cs 0) 0 3 && within (val cs 1) 0 4 && within (val cs 2) 0 2 && within (val cs 43) 0 5 && within (val cs 44) 0 3 && within (val cs 49) 0 2 && within (val cs 50) 0 3
theorem validB_ref (cs : List Value) : validB cs = (kinds7 cs && (lens2 cs).all (fun p => lenOk p.1 p.2) && (sizes2 cs).all (fun n => within n 0 1048576) && within (val cs 39) 0 1000 && within (val cs 40) 0 1000 && within (val cs 48) (-1048576) 1048576) := by
  have h1 : (lens2 cs).all (fun p => lenOk p.1 p.2) = lensB cs := by
    unfold lensB lens2 lensOf
    rw [← all_any (fun p : Int × Int => lenOk p.1 p.2)]
    exact all_perm (List.Perm.map _ (by decide))
  have h2 : (sizes2 cs).all (fun n => within n 0 1048576) = sizesB cs := by
    unfold sizesB sizes2 sizesOf
    rw [← all_any (fun n : Int => within n 0 1048576)]
    exact all_perm (List.Perm.map _ (by decide))
  rw [h1, h2]
  unfold validB kinds7 kindsB waysB
  simp only [Bool.and_assoc]
theorem all_more {α : Type} {p : α → Bool} {l : List α} {k : Nat} {x : α} (hx : l[k]? = some x) : (l.take (k + 1)).all p = ((l.take k).all p && p x) := by
  rw [List.take_add_one, hx, List.all_append]; simp



set_option maxRecDepth 100000 in
theorem rvalid_ct (cs : List Value) (hs : SOk cs) : Ct Try.prog 50 #[.agg cs.toArray] [] (fun _ => True) (X := Unit) (fun _ => .bool (validB cs)) (fun _ => True) (fun _ => []) := by
  refine Ct.intro Try.func50 rfl Try.ntmps50 (by simp) (fun w0 _ => ?_)
  refine WP.seq ?_
  refine WP.region ?_
  refine WPL.ef (x_boxA (us := cs) (σ' := fun _ => [_]) rfl (fun _ => rfl)) (fun sty => ?_)
  refine WPL.val (v_assign (v := .bool false) rfl) ?_
  refine WPL.nil (onto_of ?_)
  refine WP.midS [1] [(3, .bool (kinds7 cs))] ?_ (fun ρ0 => ?_)
  ·
    refine WP.region ?_
    refine WPL.val (v_fieldL (o' := 0) Try.underlying43 rfl Try.sizeOf29 rfl rfl) ?_
    refine WPL.val (v_load1 (u := .int .i64 _) Try.isAgg29 rfl (fun w hw => hw.cl_at (i := 0) rfl 0 (cell_of (hs.int 0 (by decide) (by decide))))) ?_
    refine WPL.val (v_call Try.call73 (fun w hw => in73_any _ _ _ _)) ?_
    refine WPL.val (v_move (v := .bool _) rfl) ?_
    refine WPL.splitB 12 rfl (fun h12 => ?_) (fun h12 => ?_)
    ·
      refine WPL.valG (v_fieldL (o' := 1) Try.underlying43 rfl Try.sizeOf30 rfl rfl) ?_
      refine WPL.valG (v_load1 (u := .int .i64 _) Try.isAgg30 rfl (fun w hw => hw.cl_at (i := 0) rfl 1 (cell_of (hs.int 1 (by decide) (by decide))))) ?_
      refine WPL.valG (v_call Try.call73 (fun w hw => in73_any _ _ _ _)) ?_
      refine WPL.val (v_pickT (u := .bool _) rfl rfl) ?_
      refine WPL.val (v_move (v := .bool _) rfl) ?_
      refine WPL.splitB 17 rfl (fun h17 => ?_) (fun h17 => ?_)
      ·
        refine WPL.valG (v_fieldL (o' := 2) Try.underlying43 rfl Try.sizeOf31 rfl rfl) ?_
        refine WPL.valG (v_load1 (u := .int .i64 _) Try.isAgg31 rfl (fun w hw => hw.cl_at (i := 0) rfl 2 (cell_of (hs.int 2 (by decide) (by decide))))) ?_
        refine WPL.valG (v_call Try.call73 (fun w hw => in73_any _ _ _ _)) ?_
        refine WPL.val (v_pickT (u := .bool _) rfl rfl) ?_
        refine WPL.val (v_move (v := .bool _) rfl) ?_
        refine WPL.splitB 22 rfl (fun h22 => ?_) (fun h22 => ?_)
        ·
          refine WPL.valG (v_fieldL (o' := 43) Try.underlying43 rfl Try.sizeOf37 rfl rfl) ?_
          refine WPL.valG (v_load1 (u := .int .i64 _) Try.isAgg37 rfl (fun w hw => hw.cl_at (i := 0) rfl 43 (cell_of (hs.int 43 (by decide) (by decide))))) ?_
          refine WPL.valG (v_call Try.call73 (fun w hw => in73_any _ _ _ _)) ?_
          refine WPL.val (v_pickT (u := .bool _) rfl rfl) ?_
          refine WPL.val (v_move (v := .bool _) rfl) ?_
          refine WPL.splitB 27 rfl (fun h27 => ?_) (fun h27 => ?_)
          ·
            refine WPL.valG (v_fieldL (o' := 44) Try.underlying43 rfl Try.sizeOf38 rfl rfl) ?_
            refine WPL.valG (v_load1 (u := .int .i64 _) Try.isAgg38 rfl (fun w hw => hw.cl_at (i := 0) rfl 44 (cell_of (hs.int 44 (by decide) (by decide))))) ?_
            refine WPL.valG (v_call Try.call73 (fun w hw => in73_any _ _ _ _)) ?_
            refine WPL.val (v_pickT (u := .bool _) rfl rfl) ?_
            refine WPL.val (v_move (v := .bool _) rfl) ?_
            refine WPL.splitB 32 rfl (fun h32 => ?_) (fun h32 => ?_)
            ·
              refine WPL.valG (v_fieldL (o' := 49) Try.underlying43 rfl Try.sizeOf39 rfl rfl) ?_
              refine WPL.valG (v_load1 (u := .int .i64 _) Try.isAgg39 rfl (fun w hw => hw.cl_at (i := 0) rfl 49 (cell_of (hs.int 49 (by decide) (by decide))))) ?_
              refine WPL.valG (v_call Try.call73 (fun w hw => in73_any _ _ _ _)) ?_
              refine WPL.val (v_pickT (u := .bool _) rfl rfl) ?_
              refine WPL.val (v_move (v := .bool _) rfl) ?_
              refine WPL.splitB 37 rfl (fun h37 => ?_) (fun h37 => ?_)
              ·
                refine WPL.valG (v_fieldL (o' := 50) Try.underlying43 rfl Try.sizeOf40 rfl rfl) ?_
                refine WPL.valG (v_load1 (u := .int .i64 _) Try.isAgg40 rfl (fun w hw => hw.cl_at (i := 0) rfl 50 (cell_of (hs.int 50 (by decide) (by decide))))) ?_
                refine WPL.valG (v_call Try.call73 (fun w hw => in73_any _ _ _ _)) ?_
                refine WPL.val (v_pickT (u := .bool _) rfl rfl) ?_
                refine WPL.val (v_assign (v := .bool _) rfl) ?_
                exact WPL.nil fun w hw => ⟨rfl, ⟨(congrArg Value.bool (by simp only [kinds7, *, Bool.and_true, Bool.and_false, Bool.true_and, Bool.false_and, Bool.not_true, Bool.not_false])), rfl, trivial⟩, hw⟩
              ·
                refine WPL.skipG ?_
                refine WPL.skipG ?_
                refine WPL.skipG ?_
                refine WPL.val (v_pickF (v := .bool _) rfl rfl) ?_
                refine WPL.val (v_assign (v := .bool _) rfl) ?_
                exact WPL.nil fun w hw => ⟨rfl, ⟨(congrArg Value.bool (by simp only [kinds7, *, Bool.and_true, Bool.and_false, Bool.true_and, Bool.false_and, Bool.not_true, Bool.not_false])), rfl, trivial⟩, hw⟩
            ·
              refine WPL.skipG ?_
              refine WPL.skipG ?_
              refine WPL.skipG ?_
              refine WPL.val (v_pickF (v := .bool _) rfl rfl) ?_
              refine WPL.val (v_move (v := .bool _) rfl) ?_
              refine WPL.skipG ?_
              refine WPL.skipG ?_
              refine WPL.skipG ?_
              refine WPL.val (v_pickF (v := .bool _) rfl rfl) ?_
              refine WPL.val (v_assign (v := .bool _) rfl) ?_
              exact WPL.nil fun w hw => ⟨rfl, ⟨(congrArg Value.bool (by simp only [kinds7, *, Bool.and_true, Bool.and_false, Bool.true_and, Bool.false_and, Bool.not_true, Bool.not_false])), rfl, trivial⟩, hw⟩
          ·
            refine WPL.skipG ?_
            refine WPL.skipG ?_
            refine WPL.skipG ?_
            refine WPL.val (v_pickF (v := .bool _) rfl rfl) ?_
            refine WPL.val (v_move (v := .bool _) rfl) ?_
            refine WPL.skipG ?_
            refine WPL.skipG ?_
            refine WPL.skipG ?_
            refine WPL.val (v_pickF (v := .bool _) rfl rfl) ?_
            refine WPL.val (v_move (v := .bool _) rfl) ?_
            refine WPL.skipG ?_
            refine WPL.skipG ?_
            refine WPL.skipG ?_
            refine WPL.val (v_pickF (v := .bool _) rfl rfl) ?_
            refine WPL.val (v_assign (v := .bool _) rfl) ?_
            exact WPL.nil fun w hw => ⟨rfl, ⟨(congrArg Value.bool (by simp only [kinds7, *, Bool.and_true, Bool.and_false, Bool.true_and, Bool.false_and, Bool.not_true, Bool.not_false])), rfl, trivial⟩, hw⟩
        ·
          refine WPL.skipG ?_
          refine WPL.skipG ?_
          refine WPL.skipG ?_
          refine WPL.val (v_pickF (v := .bool _) rfl rfl) ?_
          refine WPL.val (v_move (v := .bool _) rfl) ?_
          refine WPL.skipG ?_
          refine WPL.skipG ?_
          refine WPL.skipG ?_
          refine WPL.val (v_pickF (v := .bool _) rfl rfl) ?_
          refine WPL.val (v_move (v := .bool _) rfl) ?_
          refine WPL.skipG ?_
          refine WPL.skipG ?_
          refine WPL.skipG ?_
          refine WPL.val (v_pickF (v := .bool _) rfl rfl) ?_
          refine WPL.val (v_move (v := .bool _) rfl) ?_
          refine WPL.skipG ?_
          refine WPL.skipG ?_
          refine WPL.skipG ?_
          refine WPL.val (v_pickF (v := .bool _) rfl rfl) ?_
          refine WPL.val (v_assign (v := .bool _) rfl) ?_
          exact WPL.nil fun w hw => ⟨rfl, ⟨(congrArg Value.bool (by simp only [kinds7, *, Bool.and_true, Bool.and_false, Bool.true_and, Bool.false_and, Bool.not_true, Bool.not_false])), rfl, trivial⟩, hw⟩
      ·
        refine WPL.skipG ?_
        refine WPL.skipG ?_
        refine WPL.skipG ?_
        refine WPL.val (v_pickF (v := .bool _) rfl rfl) ?_
        refine WPL.val (v_move (v := .bool _) rfl) ?_
        refine WPL.skipG ?_
        refine WPL.skipG ?_
        refine WPL.skipG ?_
        refine WPL.val (v_pickF (v := .bool _) rfl rfl) ?_
        refine WPL.val (v_move (v := .bool _) rfl) ?_
        refine WPL.skipG ?_
        refine WPL.skipG ?_
        refine WPL.skipG ?_
        refine WPL.val (v_pickF (v := .bool _) rfl rfl) ?_
        refine WPL.val (v_move (v := .bool _) rfl) ?_
        refine WPL.skipG ?_
        refine WPL.skipG ?_
        refine WPL.skipG ?_
        refine WPL.val (v_pickF (v := .bool _) rfl rfl) ?_
        refine WPL.val (v_move (v := .bool _) rfl) ?_
        refine WPL.skipG ?_
        refine WPL.skipG ?_
        refine WPL.skipG ?_
        refine WPL.val (v_pickF (v := .bool _) rfl rfl) ?_
        refine WPL.val (v_assign (v := .bool _) rfl) ?_
        exact WPL.nil fun w hw => ⟨rfl, ⟨(congrArg Value.bool (by simp only [kinds7, *, Bool.and_true, Bool.and_false, Bool.true_and, Bool.false_and, Bool.not_true, Bool.not_false])), rfl, trivial⟩, hw⟩
    ·
      refine WPL.skipG ?_
      refine WPL.skipG ?_
      refine WPL.skipG ?_
      refine WPL.val (v_pickF (v := .bool _) rfl rfl) ?_
      refine WPL.val (v_move (v := .bool _) rfl) ?_
      refine WPL.skipG ?_
      refine WPL.skipG ?_
      refine WPL.skipG ?_
      refine WPL.val (v_pickF (v := .bool _) rfl rfl) ?_
      refine WPL.val (v_move (v := .bool _) rfl) ?_
      refine WPL.skipG ?_
      refine WPL.skipG ?_
      refine WPL.skipG ?_
      refine WPL.val (v_pickF (v := .bool _) rfl rfl) ?_
      refine WPL.val (v_move (v := .bool _) rfl) ?_
      refine WPL.skipG ?_
      refine WPL.skipG ?_
      refine WPL.skipG ?_
      refine WPL.val (v_pickF (v := .bool _) rfl rfl) ?_
      refine WPL.val (v_move (v := .bool _) rfl) ?_
      refine WPL.skipG ?_
      refine WPL.skipG ?_
      refine WPL.skipG ?_
      refine WPL.val (v_pickF (v := .bool _) rfl rfl) ?_
      refine WPL.val (v_move (v := .bool _) rfl) ?_
      refine WPL.skipG ?_
      refine WPL.skipG ?_
      refine WPL.skipG ?_
      refine WPL.val (v_pickF (v := .bool _) rfl rfl) ?_
      refine WPL.val (v_assign (v := .bool _) rfl) ?_
      exact WPL.nil fun w hw => ⟨rfl, ⟨(congrArg Value.bool (by simp only [kinds7, *, Bool.and_true, Bool.and_false, Bool.true_and, Bool.false_and, Bool.not_true, Bool.not_false])), rfl, trivial⟩, hw⟩
  ·
    refine WP.seq ?_
    refine WP.region ?_
    refine WPL.val (v_fieldL (o' := 3) Try.underlying43 rfl Try.sizeOf34 rfl rfl) ?_
    refine WPL.val (v_loadA (cs := [.int .i64 _, .int .i64 _]) Try.isAgg34 Try.sizeOf34 rfl (fun w hw => hw.cl_at (i := 0) rfl 3 (hs.segE 2 3 (by decide) (by decide) rfl rfl))) ?_
    refine WPL.val (v_fieldL (o' := 5) Try.underlying43 rfl Try.sizeOf34 rfl rfl) ?_
    refine WPL.val (v_loadA (cs := [.int .i64 _, .int .i64 _]) Try.isAgg34 Try.sizeOf34 rfl (fun w hw => hw.cl_at (i := 0) rfl 5 (hs.segE 2 5 (by decide) (by decide) rfl rfl))) ?_
    refine WPL.val (v_fieldL (o' := 7) Try.underlying43 rfl Try.sizeOf34 rfl rfl) ?_
    refine WPL.val (v_loadA (cs := [.int .i64 _, .int .i64 _]) Try.isAgg34 Try.sizeOf34 rfl (fun w hw => hw.cl_at (i := 0) rfl 7 (hs.segE 2 7 (by decide) (by decide) rfl rfl))) ?_
    refine WPL.val (v_fieldL (o' := 9) Try.underlying43 rfl Try.sizeOf34 rfl rfl) ?_
    refine WPL.val (v_loadA (cs := [.int .i64 _, .int .i64 _]) Try.isAgg34 Try.sizeOf34 rfl (fun w hw => hw.cl_at (i := 0) rfl 9 (hs.segE 2 9 (by decide) (by decide) rfl rfl))) ?_
    refine WPL.val (v_fieldL (o' := 11) Try.underlying43 rfl Try.sizeOf34 rfl rfl) ?_
    refine WPL.val (v_loadA (cs := [.int .i64 _, .int .i64 _]) Try.isAgg34 Try.sizeOf34 rfl (fun w hw => hw.cl_at (i := 0) rfl 11 (hs.segE 2 11 (by decide) (by decide) rfl rfl))) ?_
    refine WPL.val (v_fieldL (o' := 13) Try.underlying43 rfl Try.sizeOf34 rfl rfl) ?_
    refine WPL.val (v_loadA (cs := [.int .i64 _, .int .i64 _]) Try.isAgg34 Try.sizeOf34 rfl (fun w hw => hw.cl_at (i := 0) rfl 13 (hs.segE 2 13 (by decide) (by decide) rfl rfl))) ?_
    refine WPL.val (v_fieldL (o' := 41) Try.underlying43 rfl Try.sizeOf34 rfl rfl) ?_
    refine WPL.val (v_loadA (cs := [.int .i64 _, .int .i64 _]) Try.isAgg34 Try.sizeOf34 rfl (fun w hw => hw.cl_at (i := 0) rfl 41 (hs.segE 2 41 (by decide) (by decide) rfl rfl))) ?_
    refine WPL.ef (x_buildSlice (us := [.int .i64 _, .int .i64 _, .int .i64 _, .int .i64 _, .int .i64 _, .int .i64 _, .int .i64 _, .int .i64 _, .int .i64 _, .int .i64 _, .int .i64 _, .int .i64 _, .int .i64 _, .int .i64 _]) (σ' := fun _ => [_, _]) Try.underlying93 Try.sizeOf34 Try.zeroValue34 rfl rfl rfl (by decide) (by decide) (fun _ => rfl)) (fun g56 => ?_)
    
    refine WPL.val (v_assign (v := .slice _ _ _) rfl) ?_
    refine WPL.nil (onto_of ?_)
    refine WP.seq ?_
    refine WP.region ?_
    refine WPL.val (v_fieldL (o' := 46) Try.underlying43 rfl Try.sizeOf3 rfl rfl) ?_
    refine WPL.val (v_load1 (u := .int .i64 _) Try.isAgg3 rfl (fun w hw => hw.cl_at (i := 0) rfl 46 (cell_of (hs.int 46 (by decide) (by decide))))) ?_
    refine WPL.val (v_fieldL (o' := 53) Try.underlying43 rfl Try.sizeOf41 rfl rfl) ?_
    refine WPL.val (v_indexA (j := 0) Try.underlying41 Try.sizeOf3 rfl rfl rfl (by decide)) ?_
    refine WPL.val (v_load1 (u := .int .i64 _) Try.isAgg3 rfl (fun w hw => hw.cl_at (i := 0) rfl 53 (cell_of (hs.int 53 (by decide) (by decide))))) ?_
    refine WPL.val (v_fieldL (o' := 53) Try.underlying43 rfl Try.sizeOf41 rfl rfl) ?_
    refine WPL.val (v_indexA (j := 1) Try.underlying41 Try.sizeOf3 rfl rfl rfl (by decide)) ?_
    refine WPL.val (v_load1 (u := .int .i64 _) Try.isAgg3 rfl (fun w hw => hw.cl_at (i := 0) rfl 54 (cell_of (hs.int 54 (by decide) (by decide))))) ?_
    refine WPL.ef (x_buildSlice (us := [.int .i64 _, .int .i64 _, .int .i64 _]) (σ' := fun _ => [_, _, _]) Try.underlying50 Try.sizeOf3 Try.zeroValue3 rfl rfl rfl (by decide) (by decide) (fun _ => rfl)) (fun g65 => ?_)
    
    refine WPL.val (v_assign (v := .slice _ _ _) rfl) ?_
    refine WPL.nil (onto_of ?_)
    refine WP.seq ?_
    refine WP.seq ?_
    refine WP.region ?_
    refine WPL.val (v_assign (v := .int .i64 (0)) rfl) ?_
    refine WPL.nil (onto_of ?_)
    refine WP.block ?_
    refine WP.loopN 5 ?_
    refine WPR.succ ?_
    refine WP.seq ?_
    refine WP.seq ?_
    refine WP.region ?_
    refine WPL.val (v_move (v := .int .i64 _) rfl) ?_
    refine WPL.val (v_lit (b := true) (v_lss rfl rfl) (by decide)) ?_
    refine WPL.nil (onto_of ?_)
    refine WP.condT rfl ?_
    refine WP.skip (onto_of ?_)
    refine WP.seq ?_
    refine WP.block ?_
    refine WP.seq ?_
    refine WP.drawSel none [0, 2] [(0, true), (1, true), (2, true), (3, true), (4, true), (5, true), (6, true), (7, true), (8, true), (9, false), (10, false), (11, true)] mixed (by kernel_rfl) (by decide) ?_
    refine WPD.take rfl (v_move (v := .slice _ _ _) rfl) ?_ (fun _ h => h.sel [0, 2] (by decide))
    refine WPD.take rfl (v_move (v := .int .i64 _) rfl) ?_ (fun _ h => h.sel [0, 2] (by decide))
    refine WPD.take rfl (v_fieldL (o' := 15) Try.underlying43 rfl Try.sizeOf35 rfl rfl) ?_ (fun _ h => h.sel [0, 2] (by decide))
    refine WPD.take rfl (v_indexA (j := 0) Try.underlying35 Try.sizeOf34 rfl rfl rfl (by decide)) ?_ (fun _ h => h.sel [0, 2] (by decide))
    refine WPD.take rfl (v_loadA (cs := [.int .i64 _, .int .i64 _]) Try.isAgg34 Try.sizeOf34 rfl (fun w hw => hw.cl_at (i := 0) rfl 15 (hs.segE 2 15 (by decide) (by decide) rfl rfl))) ?_ (fun _ h => h.sel [0, 2] (by decide))
    refine WPD.take rfl (v_move (v := .int .i64 _) rfl) ?_ (fun _ h => h.sel [0, 2] (by decide))
    refine WPD.take rfl (v_fieldL (o' := 23) Try.underlying43 rfl Try.sizeOf35 rfl rfl) ?_ (fun _ h => h.sel [0, 2] (by decide))
    refine WPD.take rfl (v_indexA (j := 0) Try.underlying35 Try.sizeOf34 rfl rfl rfl (by decide)) ?_ (fun _ h => h.sel [0, 2] (by decide))
    refine WPD.take rfl (v_loadA (cs := [.int .i64 _, .int .i64 _]) Try.isAgg34 Try.sizeOf34 rfl (fun w hw => hw.cl_at (i := 0) rfl 23 (hs.segE 2 23 (by decide) (by decide) rfl rfl))) ?_ (fun _ h => h.sel [0, 2] (by decide))
    refine WPD.ef rfl (x_buildSlice (us := [.int .i64 _, .int .i64 _, .int .i64 _, .int .i64 _]) (σ' := fun _ => [_, _, _, _]) Try.underlying93 Try.sizeOf34 Try.zeroValue34 rfl rfl rfl (by decide) (by decide) (fun _ => rfl)) (fun _ _ _ h => h.sel [0, 2] (by decide)) (fun g79 => ?_)
    refine WPD.ef rfl (x_append (sz := 2) (σ' := fun _ => [_, _, _, _]) Try.underlying93 info34 rfl (by decide) rfl rfl (i := 1) rfl (fun w hw => hw.src_row (i := 3) rfl) rfl (by simp [Value.oneCell']) (by decide) (by decide) (fun _ => rfl)) (fun _ _ _ h => h.sel [0, 2] (by decide)) (fun ⟨A80_0, c80_0⟩ => ?_)
    refine WPD.take rfl (v_assign (v := .slice _ _ _) rfl) ?_ (fun _ h => h.sel [0, 2] (by decide))
    refine WPD.nil (onto_of ?_)
    refine WP.drawSel none [0, 1, 3] [(0, true), (1, true), (2, true), (3, true), (4, true), (5, true), (6, true), (7, true), (8, true), (9, false), (10, false), (11, true)] mixed (by kernel_rfl) (by decide) ?_
    refine WPD.take rfl (v_move (v := .slice _ _ _) rfl) ?_ (fun _ h => h.sel [0, 1, 3] (by decide))
    refine WPD.take rfl (v_move (v := .int .i64 _) rfl) ?_ (fun _ h => h.sel [0, 1, 3] (by decide))
    refine WPD.take rfl (v_fieldL (o' := 31) Try.underlying43 rfl Try.sizeOf36 rfl rfl) ?_ (fun _ h => h.sel [0, 1, 3] (by decide))
    refine WPD.take rfl (v_indexA (j := 0) Try.underlying36 Try.sizeOf3 rfl rfl rfl (by decide)) ?_ (fun _ h => h.sel [0, 1, 3] (by decide))
    refine WPD.take rfl (v_load1 (u := .int .i64 _) Try.isAgg3 rfl (fun w hw => hw.cl_at (i := 0) rfl 31 (cell_of (hs.int 31 (by decide) (by decide))))) ?_ (fun _ h => h.sel [0, 1, 3] (by decide))
    refine WPD.take rfl (v_move (v := .int .i64 _) rfl) ?_ (fun _ h => h.sel [0, 1, 3] (by decide))
    refine WPD.take rfl (v_fieldL (o' := 35) Try.underlying43 rfl Try.sizeOf36 rfl rfl) ?_ (fun _ h => h.sel [0, 1, 3] (by decide))
    refine WPD.take rfl (v_indexA (j := 0) Try.underlying36 Try.sizeOf3 rfl rfl rfl (by decide)) ?_ (fun _ h => h.sel [0, 1, 3] (by decide))
    refine WPD.take rfl (v_load1 (u := .int .i64 _) Try.isAgg3 rfl (fun w hw => hw.cl_at (i := 0) rfl 35 (cell_of (hs.int 35 (by decide) (by decide))))) ?_ (fun _ h => h.sel [0, 1, 3] (by decide))
    refine WPD.ef rfl (x_buildSlice (us := [.int .i64 _, .int .i64 _]) (σ' := fun _ => [_, _, _, _, _]) Try.underlying50 Try.sizeOf3 Try.zeroValue3 rfl rfl rfl (by decide) (by decide) (fun _ => rfl)) (fun _ _ _ h => h.sel [0, 1, 3] (by decide)) (fun g90 => ?_)
    refine WPD.ef rfl (x_append (sz := 1) (σ' := fun _ => [_, _, _, _, _]) Try.underlying50 int_info rfl (by decide) rfl rfl (i := 2) rfl (fun w hw => hw.src_row (i := 4) rfl) rfl (by simp [Value.oneCell']) (by decide) (by decide) (fun _ => rfl)) (fun _ _ _ h => h.sel [0, 1, 3] (by decide)) (fun ⟨A91_0, c91_0⟩ => ?_)
    refine WPD.take rfl (v_assign (v := .slice _ _ _) rfl) ?_ (fun _ h => h.sel [0, 1, 3] (by decide))
    refine WPD.nil (onto_of ?_)
    refine WP.region ?_
    refine WPL.val (v_move (v := .int .i64 _) rfl) ?_
    refine WPL.val (v_addL (k := 1) rfl rfl) ?_
    refine WPL.val (v_assign (v := .int .i64 _) rfl) ?_
    refine WPL.nil (rounds_of ?_)
    refine WPR.succ ?_
    refine WP.seq ?_
    refine WP.seq ?_
    refine WP.region ?_
    refine WPL.val (v_move (v := .int .i64 _) rfl) ?_
    refine WPL.val (v_lit (b := true) (v_lss rfl rfl) (by decide)) ?_
    refine WPL.nil (onto_of ?_)
    refine WP.condT rfl ?_
    refine WP.skip (onto_of ?_)
    refine WP.seq ?_
    refine WP.block ?_
    refine WP.seq ?_
    refine WP.drawSel none [0, 2, 3, 4] [(0, true), (1, true), (2, true), (3, true), (4, true), (5, true), (6, true), (7, true), (8, true), (9, false), (10, false), (11, true)] mixed (by kernel_rfl) (by decide) ?_
    refine WPD.take rfl (v_move (v := .slice _ _ _) rfl) ?_ (fun _ h => h.sel [0, 2, 3, 4] (by decide))
    refine WPD.take rfl (v_move (v := .int .i64 _) rfl) ?_ (fun _ h => h.sel [0, 2, 3, 4] (by decide))
    refine WPD.take rfl (v_fieldL (o' := 15) Try.underlying43 rfl Try.sizeOf35 rfl rfl) ?_ (fun _ h => h.sel [0, 2, 3, 4] (by decide))
    refine WPD.take rfl (v_indexA (j := 1) Try.underlying35 Try.sizeOf34 rfl rfl rfl (by decide)) ?_ (fun _ h => h.sel [0, 2, 3, 4] (by decide))
    refine WPD.take rfl (v_loadA (cs := [.int .i64 _, .int .i64 _]) Try.isAgg34 Try.sizeOf34 rfl (fun w hw => hw.cl_at (i := 0) rfl 17 (hs.segE 2 17 (by decide) (by decide) rfl rfl))) ?_ (fun _ h => h.sel [0, 2, 3, 4] (by decide))
    refine WPD.take rfl (v_move (v := .int .i64 _) rfl) ?_ (fun _ h => h.sel [0, 2, 3, 4] (by decide))
    refine WPD.take rfl (v_fieldL (o' := 23) Try.underlying43 rfl Try.sizeOf35 rfl rfl) ?_ (fun _ h => h.sel [0, 2, 3, 4] (by decide))
    refine WPD.take rfl (v_indexA (j := 1) Try.underlying35 Try.sizeOf34 rfl rfl rfl (by decide)) ?_ (fun _ h => h.sel [0, 2, 3, 4] (by decide))
    refine WPD.take rfl (v_loadA (cs := [.int .i64 _, .int .i64 _]) Try.isAgg34 Try.sizeOf34 rfl (fun w hw => hw.cl_at (i := 0) rfl 25 (hs.segE 2 25 (by decide) (by decide) rfl rfl))) ?_ (fun _ h => h.sel [0, 2, 3, 4] (by decide))
    refine WPD.ef rfl (x_buildSlice (us := [.int .i64 _, .int .i64 _, .int .i64 _, .int .i64 _]) (σ' := fun _ => [_, _, _, _, _, _]) Try.underlying93 Try.sizeOf34 Try.zeroValue34 rfl rfl rfl (by decide) (by decide) (fun _ => rfl)) (fun _ _ _ h => h.sel [0, 2, 3, 4] (by decide)) (fun g79 => ?_)
    refine WPD.ef rfl (x_append (sz := 2) (σ' := fun _ => [_, _, _, _, _, _]) Try.underlying93 info34 rfl (by decide) rfl rfl (i := 1) rfl (fun w hw => hw.src_row (i := 5) rfl) rfl (by simp [Value.oneCell']) (by decide) (by decide) (fun _ => rfl)) (fun _ _ _ h => h.sel [0, 2, 3, 4] (by decide)) (fun ⟨A80_1, c80_1⟩ => ?_)
    refine WPD.take rfl (v_assign (v := .slice _ _ _) rfl) ?_ (fun _ h => h.sel [0, 2, 3, 4] (by decide))
    refine WPD.nil (onto_of ?_)
    refine WP.drawSel none [0, 1, 3, 4, 5] [(0, true), (1, true), (2, true), (3, true), (4, true), (5, true), (6, true), (7, true), (8, true), (9, false), (10, false), (11, true)] mixed (by kernel_rfl) (by decide) ?_
    refine WPD.take rfl (v_move (v := .slice _ _ _) rfl) ?_ (fun _ h => h.sel [0, 1, 3, 4, 5] (by decide))
    refine WPD.take rfl (v_move (v := .int .i64 _) rfl) ?_ (fun _ h => h.sel [0, 1, 3, 4, 5] (by decide))
    refine WPD.take rfl (v_fieldL (o' := 31) Try.underlying43 rfl Try.sizeOf36 rfl rfl) ?_ (fun _ h => h.sel [0, 1, 3, 4, 5] (by decide))
    refine WPD.take rfl (v_indexA (j := 1) Try.underlying36 Try.sizeOf3 rfl rfl rfl (by decide)) ?_ (fun _ h => h.sel [0, 1, 3, 4, 5] (by decide))
    refine WPD.take rfl (v_load1 (u := .int .i64 _) Try.isAgg3 rfl (fun w hw => hw.cl_at (i := 0) rfl 32 (cell_of (hs.int 32 (by decide) (by decide))))) ?_ (fun _ h => h.sel [0, 1, 3, 4, 5] (by decide))
    refine WPD.take rfl (v_move (v := .int .i64 _) rfl) ?_ (fun _ h => h.sel [0, 1, 3, 4, 5] (by decide))
    refine WPD.take rfl (v_fieldL (o' := 35) Try.underlying43 rfl Try.sizeOf36 rfl rfl) ?_ (fun _ h => h.sel [0, 1, 3, 4, 5] (by decide))
    refine WPD.take rfl (v_indexA (j := 1) Try.underlying36 Try.sizeOf3 rfl rfl rfl (by decide)) ?_ (fun _ h => h.sel [0, 1, 3, 4, 5] (by decide))
    refine WPD.take rfl (v_load1 (u := .int .i64 _) Try.isAgg3 rfl (fun w hw => hw.cl_at (i := 0) rfl 36 (cell_of (hs.int 36 (by decide) (by decide))))) ?_ (fun _ h => h.sel [0, 1, 3, 4, 5] (by decide))
    refine WPD.ef rfl (x_buildSlice (us := [.int .i64 _, .int .i64 _]) (σ' := fun _ => [_, _, _, _, _, _, _]) Try.underlying50 Try.sizeOf3 Try.zeroValue3 rfl rfl rfl (by decide) (by decide) (fun _ => rfl)) (fun _ _ _ h => h.sel [0, 1, 3, 4, 5] (by decide)) (fun g90 => ?_)
    refine WPD.ef rfl (x_append (sz := 1) (σ' := fun _ => [_, _, _, _, _, _, _]) Try.underlying50 int_info rfl (by decide) rfl rfl (i := 2) rfl (fun w hw => hw.src_row (i := 6) rfl) rfl (by simp [Value.oneCell']) (by decide) (by decide) (fun _ => rfl)) (fun _ _ _ h => h.sel [0, 1, 3, 4, 5] (by decide)) (fun ⟨A91_1, c91_1⟩ => ?_)
    refine WPD.take rfl (v_assign (v := .slice _ _ _) rfl) ?_ (fun _ h => h.sel [0, 1, 3, 4, 5] (by decide))
    refine WPD.nil (onto_of ?_)
    refine WP.region ?_
    refine WPL.val (v_move (v := .int .i64 _) rfl) ?_
    refine WPL.val (v_addL (k := 2) rfl rfl) ?_
    refine WPL.val (v_assign (v := .int .i64 _) rfl) ?_
    refine WPL.nil (rounds_of ?_)
    refine WPR.succ ?_
    refine WP.seq ?_
    refine WP.seq ?_
    refine WP.region ?_
    refine WPL.val (v_move (v := .int .i64 _) rfl) ?_
    refine WPL.val (v_lit (b := true) (v_lss rfl rfl) (by decide)) ?_
    refine WPL.nil (onto_of ?_)
    refine WP.condT rfl ?_
    refine WP.skip (onto_of ?_)
    refine WP.seq ?_
    refine WP.block ?_
    refine WP.seq ?_
    refine WP.drawSel none [0, 2, 3, 4, 5, 6] [(0, true), (1, true), (2, true), (3, true), (4, true), (5, true), (6, true), (7, true), (8, true), (9, false), (10, false), (11, true)] mixed (by kernel_rfl) (by decide) ?_
    refine WPD.take rfl (v_move (v := .slice _ _ _) rfl) ?_ (fun _ h => h.sel [0, 2, 3, 4, 5, 6] (by decide))
    refine WPD.take rfl (v_move (v := .int .i64 _) rfl) ?_ (fun _ h => h.sel [0, 2, 3, 4, 5, 6] (by decide))
    refine WPD.take rfl (v_fieldL (o' := 15) Try.underlying43 rfl Try.sizeOf35 rfl rfl) ?_ (fun _ h => h.sel [0, 2, 3, 4, 5, 6] (by decide))
    refine WPD.take rfl (v_indexA (j := 2) Try.underlying35 Try.sizeOf34 rfl rfl rfl (by decide)) ?_ (fun _ h => h.sel [0, 2, 3, 4, 5, 6] (by decide))
    refine WPD.take rfl (v_loadA (cs := [.int .i64 _, .int .i64 _]) Try.isAgg34 Try.sizeOf34 rfl (fun w hw => hw.cl_at (i := 0) rfl 19 (hs.segE 2 19 (by decide) (by decide) rfl rfl))) ?_ (fun _ h => h.sel [0, 2, 3, 4, 5, 6] (by decide))
    refine WPD.take rfl (v_move (v := .int .i64 _) rfl) ?_ (fun _ h => h.sel [0, 2, 3, 4, 5, 6] (by decide))
    refine WPD.take rfl (v_fieldL (o' := 23) Try.underlying43 rfl Try.sizeOf35 rfl rfl) ?_ (fun _ h => h.sel [0, 2, 3, 4, 5, 6] (by decide))
    refine WPD.take rfl (v_indexA (j := 2) Try.underlying35 Try.sizeOf34 rfl rfl rfl (by decide)) ?_ (fun _ h => h.sel [0, 2, 3, 4, 5, 6] (by decide))
    refine WPD.take rfl (v_loadA (cs := [.int .i64 _, .int .i64 _]) Try.isAgg34 Try.sizeOf34 rfl (fun w hw => hw.cl_at (i := 0) rfl 27 (hs.segE 2 27 (by decide) (by decide) rfl rfl))) ?_ (fun _ h => h.sel [0, 2, 3, 4, 5, 6] (by decide))
    refine WPD.ef rfl (x_buildSlice (us := [.int .i64 _, .int .i64 _, .int .i64 _, .int .i64 _]) (σ' := fun _ => [_, _, _, _, _, _, _, _]) Try.underlying93 Try.sizeOf34 Try.zeroValue34 rfl rfl rfl (by decide) (by decide) (fun _ => rfl)) (fun _ _ _ h => h.sel [0, 2, 3, 4, 5, 6] (by decide)) (fun g79 => ?_)
    refine WPD.ef rfl (x_append (sz := 2) (σ' := fun _ => [_, _, _, _, _, _, _, _]) Try.underlying93 info34 rfl (by decide) rfl rfl (i := 1) rfl (fun w hw => hw.src_row (i := 7) rfl) rfl (by simp [Value.oneCell']) (by decide) (by decide) (fun _ => rfl)) (fun _ _ _ h => h.sel [0, 2, 3, 4, 5, 6] (by decide)) (fun ⟨A80_2, c80_2⟩ => ?_)
    refine WPD.take rfl (v_assign (v := .slice _ _ _) rfl) ?_ (fun _ h => h.sel [0, 2, 3, 4, 5, 6] (by decide))
    refine WPD.nil (onto_of ?_)
    refine WP.drawSel none [0, 1, 3, 4, 5, 6, 7] [(0, true), (1, true), (2, true), (3, true), (4, true), (5, true), (6, true), (7, true), (8, true), (9, false), (10, false), (11, true)] mixed (by kernel_rfl) (by decide) ?_
    refine WPD.take rfl (v_move (v := .slice _ _ _) rfl) ?_ (fun _ h => h.sel [0, 1, 3, 4, 5, 6, 7] (by decide))
    refine WPD.take rfl (v_move (v := .int .i64 _) rfl) ?_ (fun _ h => h.sel [0, 1, 3, 4, 5, 6, 7] (by decide))
    refine WPD.take rfl (v_fieldL (o' := 31) Try.underlying43 rfl Try.sizeOf36 rfl rfl) ?_ (fun _ h => h.sel [0, 1, 3, 4, 5, 6, 7] (by decide))
    refine WPD.take rfl (v_indexA (j := 2) Try.underlying36 Try.sizeOf3 rfl rfl rfl (by decide)) ?_ (fun _ h => h.sel [0, 1, 3, 4, 5, 6, 7] (by decide))
    refine WPD.take rfl (v_load1 (u := .int .i64 _) Try.isAgg3 rfl (fun w hw => hw.cl_at (i := 0) rfl 33 (cell_of (hs.int 33 (by decide) (by decide))))) ?_ (fun _ h => h.sel [0, 1, 3, 4, 5, 6, 7] (by decide))
    refine WPD.take rfl (v_move (v := .int .i64 _) rfl) ?_ (fun _ h => h.sel [0, 1, 3, 4, 5, 6, 7] (by decide))
    refine WPD.take rfl (v_fieldL (o' := 35) Try.underlying43 rfl Try.sizeOf36 rfl rfl) ?_ (fun _ h => h.sel [0, 1, 3, 4, 5, 6, 7] (by decide))
    refine WPD.take rfl (v_indexA (j := 2) Try.underlying36 Try.sizeOf3 rfl rfl rfl (by decide)) ?_ (fun _ h => h.sel [0, 1, 3, 4, 5, 6, 7] (by decide))
    refine WPD.take rfl (v_load1 (u := .int .i64 _) Try.isAgg3 rfl (fun w hw => hw.cl_at (i := 0) rfl 37 (cell_of (hs.int 37 (by decide) (by decide))))) ?_ (fun _ h => h.sel [0, 1, 3, 4, 5, 6, 7] (by decide))
    refine WPD.ef rfl (x_buildSlice (us := [.int .i64 _, .int .i64 _]) (σ' := fun _ => [_, _, _, _, _, _, _, _, _]) Try.underlying50 Try.sizeOf3 Try.zeroValue3 rfl rfl rfl (by decide) (by decide) (fun _ => rfl)) (fun _ _ _ h => h.sel [0, 1, 3, 4, 5, 6, 7] (by decide)) (fun g90 => ?_)
    refine WPD.ef rfl (x_append (sz := 1) (σ' := fun _ => [_, _, _, _, _, _, _, _, _]) Try.underlying50 int_info rfl (by decide) rfl rfl (i := 2) rfl (fun w hw => hw.src_row (i := 8) rfl) rfl (by simp [Value.oneCell']) (by decide) (by decide) (fun _ => rfl)) (fun _ _ _ h => h.sel [0, 1, 3, 4, 5, 6, 7] (by decide)) (fun ⟨A91_2, c91_2⟩ => ?_)
    refine WPD.take rfl (v_assign (v := .slice _ _ _) rfl) ?_ (fun _ h => h.sel [0, 1, 3, 4, 5, 6, 7] (by decide))
    refine WPD.nil (onto_of ?_)
    refine WP.region ?_
    refine WPL.val (v_move (v := .int .i64 _) rfl) ?_
    refine WPL.val (v_addL (k := 3) rfl rfl) ?_
    refine WPL.val (v_assign (v := .int .i64 _) rfl) ?_
    refine WPL.nil (rounds_of ?_)
    refine WPR.succ ?_
    refine WP.seq ?_
    refine WP.seq ?_
    refine WP.region ?_
    refine WPL.val (v_move (v := .int .i64 _) rfl) ?_
    refine WPL.val (v_lit (b := true) (v_lss rfl rfl) (by decide)) ?_
    refine WPL.nil (onto_of ?_)
    refine WP.condT rfl ?_
    refine WP.skip (onto_of ?_)
    refine WP.seq ?_
    refine WP.block ?_
    refine WP.seq ?_
    refine WP.drawSel none [0, 2, 3, 4, 5, 6, 7, 8] [(0, true), (1, true), (2, true), (3, true), (4, true), (5, true), (6, true), (7, true), (8, true), (9, false), (10, false), (11, true)] mixed (by kernel_rfl) (by decide) ?_
    refine WPD.take rfl (v_move (v := .slice _ _ _) rfl) ?_ (fun _ h => h.sel [0, 2, 3, 4, 5, 6, 7, 8] (by decide))
    refine WPD.take rfl (v_move (v := .int .i64 _) rfl) ?_ (fun _ h => h.sel [0, 2, 3, 4, 5, 6, 7, 8] (by decide))
    refine WPD.take rfl (v_fieldL (o' := 15) Try.underlying43 rfl Try.sizeOf35 rfl rfl) ?_ (fun _ h => h.sel [0, 2, 3, 4, 5, 6, 7, 8] (by decide))
    refine WPD.take rfl (v_indexA (j := 3) Try.underlying35 Try.sizeOf34 rfl rfl rfl (by decide)) ?_ (fun _ h => h.sel [0, 2, 3, 4, 5, 6, 7, 8] (by decide))
    refine WPD.take rfl (v_loadA (cs := [.int .i64 _, .int .i64 _]) Try.isAgg34 Try.sizeOf34 rfl (fun w hw => hw.cl_at (i := 0) rfl 21 (hs.segE 2 21 (by decide) (by decide) rfl rfl))) ?_ (fun _ h => h.sel [0, 2, 3, 4, 5, 6, 7, 8] (by decide))
    refine WPD.take rfl (v_move (v := .int .i64 _) rfl) ?_ (fun _ h => h.sel [0, 2, 3, 4, 5, 6, 7, 8] (by decide))
    refine WPD.take rfl (v_fieldL (o' := 23) Try.underlying43 rfl Try.sizeOf35 rfl rfl) ?_ (fun _ h => h.sel [0, 2, 3, 4, 5, 6, 7, 8] (by decide))
    refine WPD.take rfl (v_indexA (j := 3) Try.underlying35 Try.sizeOf34 rfl rfl rfl (by decide)) ?_ (fun _ h => h.sel [0, 2, 3, 4, 5, 6, 7, 8] (by decide))
    refine WPD.take rfl (v_loadA (cs := [.int .i64 _, .int .i64 _]) Try.isAgg34 Try.sizeOf34 rfl (fun w hw => hw.cl_at (i := 0) rfl 29 (hs.segE 2 29 (by decide) (by decide) rfl rfl))) ?_ (fun _ h => h.sel [0, 2, 3, 4, 5, 6, 7, 8] (by decide))
    refine WPD.ef rfl (x_buildSlice (us := [.int .i64 _, .int .i64 _, .int .i64 _, .int .i64 _]) (σ' := fun _ => [_, _, _, _, _, _, _, _, _, _]) Try.underlying93 Try.sizeOf34 Try.zeroValue34 rfl rfl rfl (by decide) (by decide) (fun _ => rfl)) (fun _ _ _ h => h.sel [0, 2, 3, 4, 5, 6, 7, 8] (by decide)) (fun g79 => ?_)
    refine WPD.ef rfl (x_append (sz := 2) (σ' := fun _ => [_, _, _, _, _, _, _, _, _, _]) Try.underlying93 info34 rfl (by decide) rfl rfl (i := 1) rfl (fun w hw => hw.src_row (i := 9) rfl) rfl (by simp [Value.oneCell']) (by decide) (by decide) (fun _ => rfl)) (fun _ _ _ h => h.sel [0, 2, 3, 4, 5, 6, 7, 8] (by decide)) (fun ⟨A80_3, c80_3⟩ => ?_)
    refine WPD.take rfl (v_assign (v := .slice _ _ _) rfl) ?_ (fun _ h => h.sel [0, 2, 3, 4, 5, 6, 7, 8] (by decide))
    refine WPD.nil (onto_of ?_)
    refine WP.drawSel none [0, 1, 3, 4, 5, 6, 7, 8, 9] [(0, true), (1, true), (2, true), (3, true), (4, true), (5, true), (6, true), (7, true), (8, true), (9, false), (10, false), (11, true)] mixed (by kernel_rfl) (by decide) ?_
    refine WPD.take rfl (v_move (v := .slice _ _ _) rfl) ?_ (fun _ h => h.sel [0, 1, 3, 4, 5, 6, 7, 8, 9] (by decide))
    refine WPD.take rfl (v_move (v := .int .i64 _) rfl) ?_ (fun _ h => h.sel [0, 1, 3, 4, 5, 6, 7, 8, 9] (by decide))
    refine WPD.take rfl (v_fieldL (o' := 31) Try.underlying43 rfl Try.sizeOf36 rfl rfl) ?_ (fun _ h => h.sel [0, 1, 3, 4, 5, 6, 7, 8, 9] (by decide))
    refine WPD.take rfl (v_indexA (j := 3) Try.underlying36 Try.sizeOf3 rfl rfl rfl (by decide)) ?_ (fun _ h => h.sel [0, 1, 3, 4, 5, 6, 7, 8, 9] (by decide))
    refine WPD.take rfl (v_load1 (u := .int .i64 _) Try.isAgg3 rfl (fun w hw => hw.cl_at (i := 0) rfl 34 (cell_of (hs.int 34 (by decide) (by decide))))) ?_ (fun _ h => h.sel [0, 1, 3, 4, 5, 6, 7, 8, 9] (by decide))
    refine WPD.take rfl (v_move (v := .int .i64 _) rfl) ?_ (fun _ h => h.sel [0, 1, 3, 4, 5, 6, 7, 8, 9] (by decide))
    refine WPD.take rfl (v_fieldL (o' := 35) Try.underlying43 rfl Try.sizeOf36 rfl rfl) ?_ (fun _ h => h.sel [0, 1, 3, 4, 5, 6, 7, 8, 9] (by decide))
    refine WPD.take rfl (v_indexA (j := 3) Try.underlying36 Try.sizeOf3 rfl rfl rfl (by decide)) ?_ (fun _ h => h.sel [0, 1, 3, 4, 5, 6, 7, 8, 9] (by decide))
    refine WPD.take rfl (v_load1 (u := .int .i64 _) Try.isAgg3 rfl (fun w hw => hw.cl_at (i := 0) rfl 38 (cell_of (hs.int 38 (by decide) (by decide))))) ?_ (fun _ h => h.sel [0, 1, 3, 4, 5, 6, 7, 8, 9] (by decide))
    refine WPD.ef rfl (x_buildSlice (us := [.int .i64 _, .int .i64 _]) (σ' := fun _ => [_, _, _, _, _, _, _, _, _, _, _]) Try.underlying50 Try.sizeOf3 Try.zeroValue3 rfl rfl rfl (by decide) (by decide) (fun _ => rfl)) (fun _ _ _ h => h.sel [0, 1, 3, 4, 5, 6, 7, 8, 9] (by decide)) (fun g90 => ?_)
    refine WPD.ef rfl (x_append (sz := 1) (σ' := fun _ => [_, _, _, _, _, _, _, _, _, _, _]) Try.underlying50 int_info rfl (by decide) rfl rfl (i := 2) rfl (fun w hw => hw.src_row (i := 10) rfl) rfl (by simp [Value.oneCell']) (by decide) (by decide) (fun _ => rfl)) (fun _ _ _ h => h.sel [0, 1, 3, 4, 5, 6, 7, 8, 9] (by decide)) (fun ⟨A91_3, c91_3⟩ => ?_)
    refine WPD.take rfl (v_assign (v := .slice _ _ _) rfl) ?_ (fun _ h => h.sel [0, 1, 3, 4, 5, 6, 7, 8, 9] (by decide))
    refine WPD.nil (onto_of ?_)
    refine WP.region ?_
    refine WPL.val (v_move (v := .int .i64 _) rfl) ?_
    refine WPL.val (v_addL (k := 4) rfl rfl) ?_
    refine WPL.val (v_assign (v := .int .i64 _) rfl) ?_
    refine WPL.nil (rounds_of ?_)
    refine WPR.succ ?_
    refine WP.seq ?_
    refine WP.seq ?_
    refine WP.region ?_
    refine WPL.val (v_move (v := .int .i64 _) rfl) ?_
    refine WPL.val (v_lit (b := false) (v_lss rfl rfl) (by decide)) ?_
    refine WPL.nil (onto_of ?_)
    refine WP.condF rfl ?_
    refine WP.exit (onto_of ?_)
    refine WP.seq ?_
    refine WP.seq ?_
    refine WP.holds (fun w hw => hw.row_pos (i := 1) rfl (by decide)) (fun ⟨lb, hA⟩ => ?_)
    subst hA
    refine WP.holds (fun w hw => hw.row_pos (i := 2) rfl (by decide)) (fun ⟨nb, hA⟩ => ?_)
    subst hA
    refine WP.region ?_
    refine WPL.val (v_assign (v := .int .i64 (0)) rfl) ?_
    refine WPL.nil (onto_of ?_)
    refine WP.block ?_
    refine WP.loopK (X := Nat) [1, 4, 5] (fun k => [(3, .bool (kinds7 cs && ((lens2 cs).take k).all (fun p => lenOk p.1 p.2))), (7, .int .i64 (k : Int))]) (fun k w => k ≤ 15 ∧ St w0 (foots []) [.cl sty 43 cs, .row 34 2 (some ⟨lb, 0, none⟩) (7 + 2 + 2 + 2 + 2) c80_3 ((lens2 cs).flatMap lenE), .row 3 1 (some ⟨nb, 0, none⟩) (3 + 2 + 2 + 2 + 2) c91_3 ((sizes2 cs).map (Value.int .i64))] w) (fun k => 15 - k) 0 ⟨congrArg Value.bool (by simp), rfl, trivial⟩ (fun w hw => ⟨by omega, (hw.sel [0, 1, 2] (by decide))⟩) (fun k ρ0 => ?_)
    refine WP.fact (fun hk => ?_)
    refine WP.seq ?_
    refine WP.seq ?_
    refine WP.region ?_
    refine WPL.val (v_move (v := .int .i64 _) rfl) ?_
    refine WPL.val (v_move (v := .slice _ _ _) rfl) ?_
    refine WPL.val (v_len Try.underlying93 rfl) ?_
    refine WPL.val (v_lss rfl rfl) ?_
    refine WPL.nil (onto_of ?_)
    refine WP.condP rfl (fun h95 => ?_) (fun h95 => ?_)
    ·
      have hk15 : k < 15 := by omega
      obtain ⟨x, hx⟩ : ∃ x, (lens2 cs)[k]? = some x := ⟨_, List.getElem?_eq_getElem (by simp [lens2, lenPos2]; omega)⟩
      refine WP.skip (onto_of ?_)
      refine WP.seq ?_
      refine WP.block ?_
      refine WP.region ?_
      refine WPL.val (v_move (v := .bool _) rfl) ?_
      refine WPL.val (v_move (v := .bool _) rfl) ?_
      refine WPL.splitB 99 rfl (fun h99 => ?_) (fun h99 => ?_)
      ·
        refine WPL.valG (v_move (v := .slice _ _ _) rfl) ?_
        refine WPL.valG (v_move (v := .int .i64 _) rfl) ?_
        refine WPL.valG (v_index Try.underlying93 Try.sizeOf34 rfl rfl rfl (by omega)) ?_
        refine WPL.valG (v_loadA (cs := [.int .i64 _, .int .i64 _]) Try.isAgg34 Try.sizeOf34 rfl (fun w hw => hw.row_at (i := 1) rfl _ (fun j u hj => by rw [Nat.zero_add]; exact (flatMap_get (sz := 2) (fun _ => rfl) (lens2 cs) k j x hx (by have := (List.getElem?_eq_some_iff.1 hj).1; exact this)).trans hj))) ?_
        refine WPL.efG (x_call Try.call74 (rlenValid_ct x.1 x.2) [] [0, 1, 2] rfl (fun w hw => trivial) (τ := fun _ => [_, _, _]) (fun _ => rfl)) (fun _ => ?_)
        refine WPL.fact (fun _ => ?_)
        refine WPL.val (v_pickT (u := .bool _) rfl rfl) ?_
        refine WPL.val (v_assign (v := .bool _) rfl) ?_
        refine WPL.nil (onto_of ?_)
        refine WP.region ?_
        refine WPL.val (v_move (v := .int .i64 _) rfl) ?_
        refine WPL.val (v_add rfl rfl (by omega)) ?_
        refine WPL.val (v_assign (v := .int .i64 _) rfl) ?_
        exact WPL.nil fun w hw => ⟨rfl, k + 1, (by omega), ⟨(congrArg Value.bool (by rw [all_more hx, ← Bool.and_assoc, h99]; first | rfl | exact (Bool.true_and _).symm)), rfl, rfl, (via (.slice _ _ _) rfl rfl), (via (.slice _ _ _) rfl rfl), trivial⟩, by omega, (hw.sel [0, 1, 2] (by decide))⟩
      ·
        refine WPL.skipG ?_
        refine WPL.skipG ?_
        refine WPL.skipG ?_
        refine WPL.skipG ?_
        refine WPL.skipG ?_
        refine WPL.val (v_pickF (v := .bool _) rfl rfl) ?_
        refine WPL.val (v_assign (v := .bool _) rfl) ?_
        refine WPL.nil (onto_of ?_)
        refine WP.region ?_
        refine WPL.val (v_move (v := .int .i64 _) rfl) ?_
        refine WPL.val (v_add rfl rfl (by omega)) ?_
        refine WPL.val (v_assign (v := .int .i64 _) rfl) ?_
        exact WPL.nil fun w hw => ⟨rfl, k + 1, (by omega), ⟨(congrArg Value.bool (by rw [all_more hx, ← Bool.and_assoc, h99]; first | rfl | exact (Bool.true_and _).symm)), rfl, rfl, (via (.slice _ _ _) rfl rfl), (via (.slice _ _ _) rfl rfl), trivial⟩, by omega, (hw.sel [0, 1, 2] (by decide))⟩
    ·
      obtain rfl : k = 15 := by omega
      have hall : (lens2 cs).take 15 = lens2 cs := List.take_of_length_le (by simp [lens2, lenPos2])
      refine WP.exit (onto_of ?_)
      refine WP.seq ?_
      refine WP.seq ?_
      refine WP.region ?_
      refine WPL.val (v_assign (v := .int .i64 (0)) rfl) ?_
      refine WPL.nil (onto_of ?_)
      refine WP.block ?_
      refine WP.loopK (X := Nat) [1, 5] (fun k => [(3, .bool (kinds7 cs && (lens2 cs).all (fun p => lenOk p.1 p.2) && ((sizes2 cs).take k).all (fun n => within n 0 1048576))), (8, .int .i64 (k : Int))]) (fun k w => k ≤ 11 ∧ St w0 (foots []) [.cl sty 43 cs, .row 3 1 (some ⟨nb, 0, none⟩) (3 + 2 + 2 + 2 + 2) c91_3 ((sizes2 cs).map (Value.int .i64))] w) (fun k => 11 - k) 0 ⟨congrArg Value.bool (by simp [hall]), rfl, trivial⟩ (fun w hw => ⟨by omega, (hw.sel [0, 2] (by decide))⟩) (fun k ρ0 => ?_)
      refine WP.fact (fun hk => ?_)
      refine WP.seq ?_
      refine WP.seq ?_
      refine WP.region ?_
      refine WPL.val (v_move (v := .int .i64 _) rfl) ?_
      refine WPL.val (v_move (v := .slice _ _ _) rfl) ?_
      refine WPL.val (v_len Try.underlying50 rfl) ?_
      refine WPL.val (v_lss rfl rfl) ?_
      refine WPL.nil (onto_of ?_)
      refine WP.condP rfl (fun h109 => ?_) (fun h109 => ?_)
      ·
        have hk11 : k < 11 := by omega
        obtain ⟨x, hx⟩ : ∃ x, (sizes2 cs)[k]? = some x := ⟨_, List.getElem?_eq_getElem (by simp [sizes2, sizPos2]; omega)⟩
        refine WP.skip (onto_of ?_)
        refine WP.seq ?_
        refine WP.block ?_
        refine WP.region ?_
        refine WPL.val (v_move (v := .bool _) rfl) ?_
        refine WPL.val (v_move (v := .bool _) rfl) ?_
        refine WPL.splitB 113 rfl (fun h113 => ?_) (fun h113 => ?_)
        ·
          refine WPL.valG (v_move (v := .slice _ _ _) rfl) ?_
          refine WPL.valG (v_move (v := .int .i64 _) rfl) ?_
          refine WPL.valG (v_index Try.underlying50 Try.sizeOf3 rfl rfl rfl (by omega)) ?_
          refine WPL.valG (v_load1 (u := .int .i64 _) Try.isAgg3 rfl (fun w hw => hw.row_at1 (i := 1) rfl (intAt hx) (Nat.zero_add _ |>.trans (Nat.mul_one _)))) ?_
          refine WPL.valG (v_call Try.call73 (fun w hw => in73_any _ _ _ _)) ?_
          refine WPL.val (v_pickT (u := .bool _) rfl rfl) ?_
          refine WPL.val (v_assign (v := .bool _) rfl) ?_
          refine WPL.nil (onto_of ?_)
          refine WP.region ?_
          refine WPL.val (v_move (v := .int .i64 _) rfl) ?_
          refine WPL.val (v_add rfl rfl (by omega)) ?_
          refine WPL.val (v_assign (v := .int .i64 _) rfl) ?_
          exact WPL.nil fun w hw => ⟨rfl, k + 1, (by omega), ⟨(congrArg Value.bool (by rw [all_more hx, ← Bool.and_assoc, h113]; first | rfl | exact (Bool.true_and _).symm)), rfl, rfl, (via (.slice _ _ _) rfl rfl), trivial⟩, by omega, (hw.sel [0, 1] (by decide))⟩
        ·
          refine WPL.skipG ?_
          refine WPL.skipG ?_
          refine WPL.skipG ?_
          refine WPL.skipG ?_
          refine WPL.skipG ?_
          refine WPL.val (v_pickF (v := .bool _) rfl rfl) ?_
          refine WPL.val (v_assign (v := .bool _) rfl) ?_
          refine WPL.nil (onto_of ?_)
          refine WP.region ?_
          refine WPL.val (v_move (v := .int .i64 _) rfl) ?_
          refine WPL.val (v_add rfl rfl (by omega)) ?_
          refine WPL.val (v_assign (v := .int .i64 _) rfl) ?_
          exact WPL.nil fun w hw => ⟨rfl, k + 1, (by omega), ⟨(congrArg Value.bool (by rw [all_more hx, ← Bool.and_assoc, h113]; first | rfl | exact (Bool.true_and _).symm)), rfl, rfl, (via (.slice _ _ _) rfl rfl), trivial⟩, by omega, (hw.sel [0, 1] (by decide))⟩
      ·
        obtain rfl : k = 11 := by omega
        have hall2 : (sizes2 cs).take 11 = sizes2 cs := List.take_of_length_le (by simp [sizes2, sizPos2])
        rw [hall2]
        refine WP.exit (onto_of ?_)
        refine WP.seq ?_
        refine WP.region ?_
        refine WPL.val (v_move (v := .bool _) rfl) ?_
        refine WPL.val (v_move (v := .bool _) rfl) ?_
        refine WPL.splitB 121 rfl (fun h121 => ?_) (fun h121 => ?_)
        ·
          refine WPL.valG (v_fieldL (o' := 39) Try.underlying43 rfl Try.sizeOf3 rfl rfl) ?_
          refine WPL.valG (v_load1 (u := .int .i64 _) Try.isAgg3 rfl (fun w hw => hw.cl_at (i := 0) rfl 39 (cell_of (hs.int 39 (by decide) (by decide))))) ?_
          refine WPL.valG (v_call Try.call73 (fun w hw => in73_any _ _ _ _)) ?_
          refine WPL.val (v_pickT (u := .bool _) rfl rfl) ?_
          refine WPL.val (v_move (v := .bool _) rfl) ?_
          refine WPL.splitB 126 rfl (fun h126 => ?_) (fun h126 => ?_)
          ·
            refine WPL.valG (v_fieldL (o' := 40) Try.underlying43 rfl Try.sizeOf3 rfl rfl) ?_
            refine WPL.valG (v_load1 (u := .int .i64 _) Try.isAgg3 rfl (fun w hw => hw.cl_at (i := 0) rfl 40 (cell_of (hs.int 40 (by decide) (by decide))))) ?_
            refine WPL.valG (v_call Try.call73 (fun w hw => in73_any _ _ _ _)) ?_
            refine WPL.val (v_pickT (u := .bool _) rfl rfl) ?_
            refine WPL.val (v_move (v := .bool _) rfl) ?_
            refine WPL.splitB 131 rfl (fun h131 => ?_) (fun h131 => ?_)
            ·
              refine WPL.valG (v_fieldL (o' := 48) Try.underlying43 rfl Try.sizeOf3 rfl rfl) ?_
              refine WPL.valG (v_load1 (u := .int .i64 _) Try.isAgg3 rfl (fun w hw => hw.cl_at (i := 0) rfl 48 (cell_of (hs.int 48 (by decide) (by decide))))) ?_
              refine WPL.valG (v_call Try.call73 (fun w hw => in73_any _ _ _ _)) ?_
              refine WPL.val (v_pickT (u := .bool _) rfl rfl) ?_
              refine WPL.val (v_assign (v := .bool _) rfl) ?_
              refine WPL.nil (onto_of ?_)
              exact WP.ret1 Try.results50 (fun _ h => h) (fun w hw => ⟨(), congrArg Value.bool (by rw [validB_ref]; simp only [*, Bool.and_true, Bool.and_false, Bool.true_and, Bool.false_and]), trivial, hw.sel [] (by decide)⟩)
            ·
              refine WPL.skipG ?_
              refine WPL.skipG ?_
              refine WPL.skipG ?_
              refine WPL.val (v_pickF (v := .bool _) rfl rfl) ?_
              refine WPL.val (v_assign (v := .bool _) rfl) ?_
              refine WPL.nil (onto_of ?_)
              exact WP.ret1 Try.results50 (fun _ h => h) (fun w hw => ⟨(), congrArg Value.bool (by rw [validB_ref]; simp only [*, Bool.and_true, Bool.and_false, Bool.true_and, Bool.false_and]), trivial, hw.sel [] (by decide)⟩)
          ·
            refine WPL.skipG ?_
            refine WPL.skipG ?_
            refine WPL.skipG ?_
            refine WPL.val (v_pickF (v := .bool _) rfl rfl) ?_
            refine WPL.val (v_move (v := .bool _) rfl) ?_
            refine WPL.skipG ?_
            refine WPL.skipG ?_
            refine WPL.skipG ?_
            refine WPL.val (v_pickF (v := .bool _) rfl rfl) ?_
            refine WPL.val (v_assign (v := .bool _) rfl) ?_
            refine WPL.nil (onto_of ?_)
            exact WP.ret1 Try.results50 (fun _ h => h) (fun w hw => ⟨(), congrArg Value.bool (by rw [validB_ref]; simp only [*, Bool.and_true, Bool.and_false, Bool.true_and, Bool.false_and]), trivial, hw.sel [] (by decide)⟩)
        ·
          refine WPL.skipG ?_
          refine WPL.skipG ?_
          refine WPL.skipG ?_
          refine WPL.val (v_pickF (v := .bool _) rfl rfl) ?_
          refine WPL.val (v_move (v := .bool _) rfl) ?_
          refine WPL.skipG ?_
          refine WPL.skipG ?_
          refine WPL.skipG ?_
          refine WPL.val (v_pickF (v := .bool _) rfl rfl) ?_
          refine WPL.val (v_move (v := .bool _) rfl) ?_
          refine WPL.skipG ?_
          refine WPL.skipG ?_
          refine WPL.skipG ?_
          refine WPL.val (v_pickF (v := .bool _) rfl rfl) ?_
          refine WPL.val (v_assign (v := .bool _) rfl) ?_
          refine WPL.nil (onto_of ?_)
          exact WP.ret1 Try.results50 (fun _ h => h) (fun w hw => ⟨(), congrArg Value.bool (by rw [validB_ref]; simp only [*, Bool.and_true, Bool.and_false, Bool.true_and, Bool.false_and]), trivial, hw.sel [] (by decide)⟩)
end Go.Proofs.Ytmjdmlgdffoimaa
