/- An act, done to a tree; the document's example. -/
import Derived.Test.YtmjdmlgdffoimaaTreeClone
import Derived.Test.YtmjdmlgdffoimaaRecLeaf
namespace Go.Proofs.Ytmjdmlgdffoimaa
open Go.RowKit

abbrev actC (a : Act (List Value)) : List Value := .int .i64 a.k :: .int .i64 a.a :: .int .i64 a.b :: .int .i64 a.c :: a.sty
set_option maxRecDepth 100000 in
set_option maxHeartbeats 1000000 in
theorem do_ct (tp mb : Nat) (es : List PE) (hk : LOk es) {d : Int → Nat} (hF : WF (FoR es) d) (a : Act (List Value)) (hs : SOk a.sty) :
    Ct Try.prog 28 #[.pointer (some ⟨tp, 0, none⟩), .agg (actC a).toArray] [treeI tp mb es] (fun _ => True) (X := List PE) (fun _ => .tuple #[]) (fun es' => FoR es' = actR zeroS validB (FoR es) a ∧ LOk es') (fun es' => [treeI tp mb es']) := by
  obtain ⟨ak, aa, ab, ac, sty⟩ := a
  simp only at hs
  refine Ct.intro Try.func28 rfl Try.ntmps28 (by simp) (fun w0 _ => ?_)
  refine WP.seq ?_
  refine WP.region ?_
  refine WPL.ef (x_boxA (us := actC ⟨ak, aa, ab, ac, sty⟩) (σ' := fun _ => [_, _]) rfl (fun _ => rfl)) (fun b3 => ?_)
  refine WPL.nil (onto_of ?_)
  refine WP.seq ?_
  refine WP.region ?_
  refine WPL.val (v_fieldL (o' := 0) Try.underlying45 rfl Try.sizeOf3 rfl rfl) ?_
  refine WPL.val (v_load1 (u := .int .i64 _) Try.isAgg3 rfl (fun w hw => hw.cl_at (i := 1) rfl _ rfl)) ?_
  refine WPL.val (v_rem rfl rfl (by decide)) ?_
  refine WPL.nil (onto_of ?_)
  refine WP.block ?_
  refine WP.seq ?_
  refine WP.region ?_
  refine WPL.val (v_eql rfl rfl) ?_
  refine WPL.val (v_assign (v := .bool _) rfl) ?_
  refine WPL.nil (onto_of ?_)
  refine WP.condP rfl (fun h13 => ?_) (fun h13 => ?_)
  ·
    have hr : actR zeroS validB (FoR es) ⟨ak, aa, ab, ac, sty⟩ = (remR (FoR es) aa).1 := by rw [actR, if_pos h13]
    refine WP.region ?_
    refine WPL.val (v_move (v := .pointer _) rfl) ?_
    refine WPL.val (v_fieldL (o' := 1) Try.underlying45 rfl Try.sizeOf3 rfl rfl) ?_
    refine WPL.val (v_load1 (u := .int .i64 _) Try.isAgg3 rfl (fun w hw => hw.cl_at (i := 1) rfl _ rfl)) ?_
    refine WPL.ef (x_call Try.call30 (remove_ct tp mb es hk hF aa) [0] [1] rfl (fun w hw => trivial) (τ := fun _ => [_, _]) (fun _ => rfl)) (fun es1 => ?_)
    refine WPL.fact (fun hf => ?_)
    exact WPL.nil fun w hw => RetQ.of0 Try.results28 (.inr rfl) ⟨es1, rfl, ⟨by rw [hr]; exact hf.1, hf.2⟩, (hw.sel [1] (by decide))⟩
  ·
    refine WP.seq ?_
    refine WP.region ?_
    refine WPL.val (v_eql rfl rfl) ?_
    refine WPL.val (v_assign (v := .bool _) rfl) ?_
    refine WPL.nil (onto_of ?_)
    refine WP.condP rfl (fun h19 => ?_) (fun h19 => ?_)
    ·
      have hr : actR zeroS validB (FoR es) ⟨ak, aa, ab, ac, sty⟩ = (movR (FoR es) aa ab ac).1 := by rw [actR, if_neg h13, if_pos h19]
      refine WP.region ?_
      refine WPL.val (v_move (v := .pointer _) rfl) ?_
      refine WPL.val (v_fieldL (o' := 1) Try.underlying45 rfl Try.sizeOf3 rfl rfl) ?_
      refine WPL.val (v_load1 (u := .int .i64 _) Try.isAgg3 rfl (fun w hw => hw.cl_at (i := 1) rfl _ rfl)) ?_
      refine WPL.val (v_fieldL (o' := 2) Try.underlying45 rfl Try.sizeOf3 rfl rfl) ?_
      refine WPL.val (v_load1 (u := .int .i64 _) Try.isAgg3 rfl (fun w hw => hw.cl_at (i := 1) rfl _ rfl)) ?_
      refine WPL.val (v_fieldL (o' := 3) Try.underlying45 rfl Try.sizeOf3 rfl rfl) ?_
      refine WPL.val (v_load1 (u := .int .i64 _) Try.isAgg3 rfl (fun w hw => hw.cl_at (i := 1) rfl _ rfl)) ?_
      refine WPL.ef (x_call Try.call31 (move_ct tp mb es hk hF aa ab ac) [0] [1] rfl (fun w hw => trivial) (τ := fun _ => [_, _]) (fun _ => rfl)) (fun es1 => ?_)
      refine WPL.fact (fun hf => ?_)
      exact WPL.nil fun w hw => RetQ.of0 Try.results28 (.inr rfl) ⟨es1, rfl, ⟨by rw [hr]; exact hf.1, hf.2⟩, (hw.sel [1] (by decide))⟩
    ·
      refine WP.seq ?_
      refine WP.region ?_
      refine WPL.val (v_eql rfl rfl) ?_
      refine WPL.val (v_assign (v := .bool _) rfl) ?_
      refine WPL.nil (onto_of ?_)
      refine WP.condP rfl (fun h29 => ?_) (fun h29 => ?_)
      ·
        have hr : actR zeroS validB (FoR es) ⟨ak, aa, ab, ac, sty⟩ = (setR validB (FoR es) aa sty).1 := by rw [actR, if_neg h13, if_neg h19, if_pos h29]
        refine WP.region ?_
        refine WPL.val (v_move (v := .pointer _) rfl) ?_
        refine WPL.val (v_fieldL (o' := 1) Try.underlying45 rfl Try.sizeOf3 rfl rfl) ?_
        refine WPL.val (v_load1 (u := .int .i64 _) Try.isAgg3 rfl (fun w hw => hw.cl_at (i := 1) rfl _ rfl)) ?_
        refine WPL.val (v_fieldL (o' := 4) Try.underlying45 rfl Try.sizeOf43 rfl rfl) ?_
        refine WPL.val (v_loadA (cs := sty) Try.isAgg43 Try.sizeOf43 rfl (fun w hw => hw.cl_at (i := 1) rfl 4 (by show List.take _ sty = _; exact List.take_of_length_le (Nat.le_refl _))) hs.len) ?_
        refine WPL.ef (x_call Try.call33 (set_ct tp mb es hk aa sty hs) [0] [1] rfl (fun w hw => trivial) (τ := fun _ => [_, _]) (fun _ => rfl)) (fun es1 => ?_)
        refine WPL.fact (fun hf => ?_)
        exact WPL.nil fun w hw => RetQ.of0 Try.results28 (.inr rfl) ⟨es1, rfl, ⟨by rw [hr]; exact hf.1, hf.2⟩, (hw.sel [1] (by decide))⟩
      ·
        have hr : actR zeroS validB (FoR es) ⟨ak, aa, ab, ac, sty⟩ = (addR zeroS (FoR es) aa ab).1 := by rw [actR, if_neg h13, if_neg h19, if_neg h29]
        refine WP.region ?_
        refine WPL.val (v_move (v := .pointer _) rfl) ?_
        refine WPL.val (v_fieldL (o' := 1) Try.underlying45 rfl Try.sizeOf3 rfl rfl) ?_
        refine WPL.val (v_load1 (u := .int .i64 _) Try.isAgg3 rfl (fun w hw => hw.cl_at (i := 1) rfl _ rfl)) ?_
        refine WPL.val (v_fieldL (o' := 2) Try.underlying45 rfl Try.sizeOf3 rfl rfl) ?_
        refine WPL.val (v_load1 (u := .int .i64 _) Try.isAgg3 rfl (fun w hw => hw.cl_at (i := 1) rfl _ rfl)) ?_
        refine WPL.ef (x_call Try.call32 (add_ct tp mb es hk hF aa ab) [0] [1] rfl (fun w hw => trivial) (τ := fun _ => [_, _]) (fun _ => rfl)) (fun es1 => ?_)
        refine WPL.fact (fun hf => ?_)
        exact WPL.nil fun w hw => RetQ.of0 Try.results28 (.inr rfl) ⟨es1, rfl, ⟨by rw [hr]; exact hf.1, hf.2⟩, (hw.sel [1] (by decide))⟩
/-! ### The example -/
def s3 : List Value := [.int .i64 0, .int .i64 0, .int .i64 0, .int .i64 0, .int .i64 0, .int .i64 0, .int .i64 0, .int .i64 0, .int .i64 0, .int .i64 0, .int .i64 0, .int .i64 0, .int .i64 0, .int .i64 0, .int .i64 0, .int .i64 0, .int .i64 0, .int .i64 0, .int .i64 0, .int .i64 0, .int .i64 0, .int .i64 0, .int .i64 0, .int .i64 0, .int .i64 0, .int .i64 0, .int .i64 0, .int .i64 0, .int .i64 0, .int .i64 0, .int .i64 0, .int .i64 0, .int .i64 0, .int .i64 0, .int .i64 0, .int .i64 0, .int .i64 0, .int .i64 0, .int .i64 0, .int .i64 0, .int .i64 0, .int .i64 0, .int .i64 0, .int .i64 0, .int .i64 0, .bool false, .int .i64 3, .bool false, .int .i64 0, .int .i64 0, .int .i64 0, .bool false, .bool false, .int .i64 0, .int .i64 0]
theorem s3_ok : SOk s3 := SOk.of_leaves rfl
abbrev F0 : Forest (List Value) := newF zeroS
abbrev F1 : Forest (List Value) := (addR zeroS F0 0 0).1
abbrev F2 : Forest (List Value) := (addR zeroS F1 0 1).1
abbrev F3 : Forest (List Value) := (movR F2 1 2 0).1
abbrev F4 : Forest (List Value) := (movR F3 2 1 0).1
abbrev F5 : Forest (List Value) := (setR validB F4 1 s3).1
set_option maxRecDepth 100000 in
theorem e1 : (addR zeroS F0 0 0).2 = (1, 0) := by kernel_rfl
theorem e2 : (addR zeroS F1 0 1).2 = (2, 0) := by kernel_rfl
theorem e3 : (movR F2 1 2 0).2 = 0 := by kernel_rfl
theorem e4 : (movR F3 2 1 0).2 = 3 := by kernel_rfl
theorem e5 : (setR validB F4 1 s3).2 = 0 := by kernel_rfl
theorem e6 : order F5 = [0, 2, 1] := by kernel_rfl
theorem e7 : depthF F5 1 = 2 := by kernel_rfl
theorem e8 : upF F5 1 = 2 := by kernel_rfl
theorem e9 : styF zeroS F5 1 = s3 := by kernel_rfl
theorem e10 : hasF F5 2 = true := by kernel_rfl
theorem e11 : kidsF F5 2 = [1] := by kernel_rfl
theorem wf0 : ∃ d, WF F0 d := ⟨_, WF.new zeroS⟩
theorem wf1 : ∃ d, WF F1 d := by obtain ⟨d, h⟩ := wf0; exact h.addR zeroS 0 0
theorem wf2 : ∃ d, WF F2 d := by obtain ⟨d, h⟩ := wf1; exact h.addR zeroS 0 1
theorem wf3 : ∃ d, WF F3 d := by obtain ⟨d, h⟩ := wf2; exact h.movR 1 2 0
theorem wf4 : ∃ d, WF F4 d := by obtain ⟨d, h⟩ := wf3; exact h.movR 2 1 0
theorem wf5 : ∃ d, WF F5 d := by obtain ⟨d, h⟩ := wf4; exact h.setR validB 1 s3
end Go.Proofs.Ytmjdmlgdffoimaa
