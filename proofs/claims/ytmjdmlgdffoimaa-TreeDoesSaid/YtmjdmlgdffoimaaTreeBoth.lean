/- An act, done by both trees. -/
import Derived.Test.YtmjdmlgdffoimaaRefAdd
import Derived.Test.YtmjdmlgdffoimaaTreeDo
namespace Go.Proofs.Ytmjdmlgdffoimaa
open Go.RowKit

set_option maxRecDepth 100000 in
set_option maxHeartbeats 2000000 in
theorem both_ct (tp mb : Nat) (es : List PE) (hk : LOk es) {d : Int → Nat} (hF : WF (FoR es) d) (rp g bc : Nat) (bs : List RB) (hkr : ROk bs) (hab : absR bs = FoR es) (a : Act (List Value)) (hs : SOk a.sty) :
    Ct Try.prog 13 #[.pointer (some ⟨tp, 0, none⟩), .pointer (some ⟨rp, 0, none⟩), .agg (actC a).toArray] [treeI tp mb es, refI rp g bc bs] (fun _ => True) (X := List PE × Nat × Nat × List RB) (fun _ => .bool true)
      (fun p => FoR p.1 = actR zeroS validB (FoR es) a ∧ LOk p.1 ∧ absR p.2.2.2 = FoR p.1 ∧ ROk p.2.2.2) (fun p => [treeI tp mb p.1, refI rp p.2.1 p.2.2.1 p.2.2.2]) := by
  obtain ⟨ak, aa, ab, ac, sty⟩ := a
  simp only at hs
  have hFr : WF (absR bs) d := by rw [hab]; exact hF
  refine Ct.intro Try.func13 rfl Try.ntmps13 (by simp) (fun w0 _ => ?_)
  refine WP.seq ?_
  refine WP.region ?_
  refine WPL.ef (x_boxA (us := actC ⟨ak, aa, ab, ac, sty⟩) (σ' := fun _ => [_, _, _]) rfl (fun _ => rfl)) (fun b5 => ?_)
  refine WPL.val (v_assign (v := .bool false) rfl) ?_
  refine WPL.nil (onto_of ?_)
  refine WP.seq ?_
  refine WP.seq ?_
  refine WP.region ?_
  refine WPL.val (v_fieldL (o' := 0) Try.underlying45 rfl Try.sizeOf3 rfl rfl) ?_
  refine WPL.val (v_load1 (u := .int .i64 _) Try.isAgg3 rfl (fun w hw => hw.cl_at (i := 2) rfl _ rfl)) ?_
  refine WPL.val (v_rem rfl rfl (by decide)) ?_
  refine WPL.nil (onto_of ?_)
  refine WP.block ?_
  refine WP.seq ?_
  refine WP.region ?_
  refine WPL.val (v_eql rfl rfl) ?_
  refine WPL.val (v_assign (v := .bool _) rfl) ?_
  refine WPL.nil (onto_of ?_)
  refine WP.condP rfl (fun h22 => ?_) (fun h22 => ?_)
  ·
    have hr : actR zeroS validB (FoR es) ⟨ak, aa, ab, ac, sty⟩ = (remR (FoR es) aa).1 := by rw [actR, if_pos h22]
    refine WP.seq ?_
    refine WP.region ?_
    refine WPL.val (v_move (v := .pointer _) rfl) ?_
    refine WPL.val (v_fieldL (o' := 1) Try.underlying45 rfl Try.sizeOf3 rfl rfl) ?_
    refine WPL.val (v_load1 (u := .int .i64 _) Try.isAgg3 rfl (fun w hw => hw.cl_at (i := 2) rfl _ rfl)) ?_
    refine WPL.ef (x_call Try.call30 (remove_ct tp mb es hk hF aa) [0] [1, 2] rfl (fun w hw => trivial) (τ := fun _ => [_, _, _]) (fun _ => rfl)) (fun es1 => ?_)
    refine WPL.fact (fun hf => ?_)
    refine WPL.val (v_move rfl) ?_
    refine WPL.val (v_extract (v := .int .i64 _) rfl rfl) ?_
    refine WPL.val (v_extract (v := .int .i64 _) rfl rfl) ?_
    refine WPL.val (v_assign (v := .int .i64 _) rfl) ?_
    refine WPL.val (v_assign (v := .int .i64 _) rfl) ?_
    refine WPL.nil (onto_of ?_)
    refine WP.seq ?_
    refine WP.region ?_
    refine WPL.val (v_move (v := .pointer _) rfl) ?_
    refine WPL.val (v_fieldL (o' := 1) Try.underlying45 rfl Try.sizeOf3 rfl rfl) ?_
    refine WPL.val (v_load1 (u := .int .i64 _) Try.isAgg3 rfl (fun w hw => hw.cl_at (i := 1) rfl _ rfl)) ?_
    refine WPL.ef (x_call Try.call34 (rremove_ct rp g bc bs hkr hFr aa) [0] [1, 2] rfl (fun w hw => trivial) (τ := fun _ => [_, _, _]) (fun _ => rfl)) (fun bs1 => ?_)
    refine WPL.fact (fun hf2 => ?_)
    refine WPL.val (v_move rfl) ?_
    refine WPL.val (v_extract (v := .int .i64 _) rfl rfl) ?_
    refine WPL.val (v_extract (v := .int .i64 _) rfl rfl) ?_
    refine WPL.val (v_assign (v := .int .i64 _) rfl) ?_
    refine WPL.val (v_assign (v := .int .i64 _) rfl) ?_
    refine WPL.nil (onto_of ?_)
    refine WP.seq ?_
    refine WP.region ?_
    refine WPL.val (v_move (v := .int .i64 _) rfl) ?_
    refine WPL.val (v_move (v := .int .i64 _) rfl) ?_
    refine WPL.val (v_is (b := true) (v_eql rfl rfl) (decide_eq_true (by rw [hab]))) ?_
    refine WPL.val (v_move (v := .bool _) rfl) ?_
    refine WPL.valG (v_move (v := .int .i64 _) rfl) ?_
    refine WPL.valG (v_move (v := .int .i64 _) rfl) ?_
    refine WPL.valG (v_is (b := true) (v_eql rfl rfl) (decide_eq_true (by rw [hab]))) ?_
    refine WPL.val (v_pickT (u := .bool _) rfl rfl) ?_
    refine WPL.val (v_assign (v := .bool _) rfl) ?_
    refine WPL.nil (onto_of ?_)
    exact WP.ret1 Try.results13 (fun _ h => h) (fun w hw => ⟨(es1, g, bc, bs1), rfl, ⟨by rw [hr]; exact hf.1, hf.2, by dsimp only; rw [hf.1, hf2.1, hab], hf2.2⟩, (hw.sel [1, 2] (by decide))⟩)
  ·
    refine WP.seq ?_
    refine WP.region ?_
    refine WPL.val (v_eql rfl rfl) ?_
    refine WPL.val (v_assign (v := .bool _) rfl) ?_
    refine WPL.nil (onto_of ?_)
    refine WP.condP rfl (fun h46 => ?_) (fun h46 => ?_)
    ·
      have hr : actR zeroS validB (FoR es) ⟨ak, aa, ab, ac, sty⟩ = (movR (FoR es) aa ab ac).1 := by rw [actR, if_neg h22, if_pos h46]
      refine WP.seq ?_
      refine WP.region ?_
      refine WPL.val (v_move (v := .pointer _) rfl) ?_
      refine WPL.val (v_fieldL (o' := 1) Try.underlying45 rfl Try.sizeOf3 rfl rfl) ?_
      refine WPL.val (v_load1 (u := .int .i64 _) Try.isAgg3 rfl (fun w hw => hw.cl_at (i := 2) rfl _ rfl)) ?_
      refine WPL.val (v_fieldL (o' := 2) Try.underlying45 rfl Try.sizeOf3 rfl rfl) ?_
      refine WPL.val (v_load1 (u := .int .i64 _) Try.isAgg3 rfl (fun w hw => hw.cl_at (i := 2) rfl _ rfl)) ?_
      refine WPL.val (v_fieldL (o' := 3) Try.underlying45 rfl Try.sizeOf3 rfl rfl) ?_
      refine WPL.val (v_load1 (u := .int .i64 _) Try.isAgg3 rfl (fun w hw => hw.cl_at (i := 2) rfl _ rfl)) ?_
      refine WPL.ef (x_call Try.call31 (move_ct tp mb es hk hF aa ab ac) [0] [1, 2] rfl (fun w hw => trivial) (τ := fun _ => [_, _, _]) (fun _ => rfl)) (fun es1 => ?_)
      refine WPL.fact (fun hf => ?_)
      refine WPL.val (v_assign (v := .int .i64 _) rfl) ?_
      refine WPL.nil (onto_of ?_)
      refine WP.seq ?_
      refine WP.region ?_
      refine WPL.val (v_move (v := .pointer _) rfl) ?_
      refine WPL.val (v_fieldL (o' := 1) Try.underlying45 rfl Try.sizeOf3 rfl rfl) ?_
      refine WPL.val (v_load1 (u := .int .i64 _) Try.isAgg3 rfl (fun w hw => hw.cl_at (i := 1) rfl _ rfl)) ?_
      refine WPL.val (v_fieldL (o' := 2) Try.underlying45 rfl Try.sizeOf3 rfl rfl) ?_
      refine WPL.val (v_load1 (u := .int .i64 _) Try.isAgg3 rfl (fun w hw => hw.cl_at (i := 1) rfl _ rfl)) ?_
      refine WPL.val (v_fieldL (o' := 3) Try.underlying45 rfl Try.sizeOf3 rfl rfl) ?_
      refine WPL.val (v_load1 (u := .int .i64 _) Try.isAgg3 rfl (fun w hw => hw.cl_at (i := 1) rfl _ rfl)) ?_
      refine WPL.ef (x_call Try.call35 (rmove_ct rp g bc bs hkr hFr aa ab ac) [0] [1, 2] rfl (fun w hw => trivial) (τ := fun _ => [_, _, _]) (fun _ => rfl)) (fun bs1 => ?_)
      refine WPL.fact (fun hf2 => ?_)
      refine WPL.val (v_assign (v := .int .i64 _) rfl) ?_
      refine WPL.nil (onto_of ?_)
      refine WP.seq ?_
      refine WP.region ?_
      refine WPL.val (v_move (v := .int .i64 _) rfl) ?_
      refine WPL.val (v_move (v := .int .i64 _) rfl) ?_
      refine WPL.val (v_is (b := true) (v_eql rfl rfl) (decide_eq_true (by rw [hab]))) ?_
      refine WPL.val (v_assign (v := .bool _) rfl) ?_
      refine WPL.nil (onto_of ?_)
      exact WP.ret1 Try.results13 (fun _ h => h) (fun w hw => ⟨(es1, g, bc, bs1), rfl, ⟨by rw [hr]; exact hf.1, hf.2, by dsimp only; rw [hf.1, hf2.1, hab], hf2.2⟩, (hw.sel [1, 2] (by decide))⟩)
    ·
      refine WP.seq ?_
      refine WP.region ?_
      refine WPL.val (v_eql rfl rfl) ?_
      refine WPL.val (v_assign (v := .bool _) rfl) ?_
      refine WPL.nil (onto_of ?_)
      refine WP.condP rfl (fun h67 => ?_) (fun h67 => ?_)
      ·
        have hr : actR zeroS validB (FoR es) ⟨ak, aa, ab, ac, sty⟩ = (setR validB (FoR es) aa sty).1 := by rw [actR, if_neg h22, if_neg h46, if_pos h67]
        refine WP.seq ?_
        refine WP.region ?_
        refine WPL.val (v_move (v := .pointer _) rfl) ?_
        refine WPL.val (v_fieldL (o' := 1) Try.underlying45 rfl Try.sizeOf3 rfl rfl) ?_
        refine WPL.val (v_load1 (u := .int .i64 _) Try.isAgg3 rfl (fun w hw => hw.cl_at (i := 2) rfl _ rfl)) ?_
        refine WPL.val (v_fieldL (o' := 4) Try.underlying45 rfl Try.sizeOf43 rfl rfl) ?_
        refine WPL.val (v_loadA (cs := sty) Try.isAgg43 Try.sizeOf43 rfl (fun w hw => hw.cl_at (i := 2) rfl 4 (by show List.take _ sty = _; exact List.take_of_length_le (Nat.le_refl _))) hs.len) ?_
        refine WPL.ef (x_call Try.call33 (set_ct tp mb es hk aa sty hs) [0] [1, 2] rfl (fun w hw => trivial) (τ := fun _ => [_, _, _]) (fun _ => rfl)) (fun es1 => ?_)
        refine WPL.fact (fun hf => ?_)
        refine WPL.val (v_assign (v := .int .i64 _) rfl) ?_
        refine WPL.nil (onto_of ?_)
        refine WP.seq ?_
        refine WP.region ?_
        refine WPL.val (v_move (v := .pointer _) rfl) ?_
        refine WPL.val (v_fieldL (o' := 1) Try.underlying45 rfl Try.sizeOf3 rfl rfl) ?_
        refine WPL.val (v_load1 (u := .int .i64 _) Try.isAgg3 rfl (fun w hw => hw.cl_at (i := 1) rfl _ rfl)) ?_
        refine WPL.val (v_fieldL (o' := 4) Try.underlying45 rfl Try.sizeOf43 rfl rfl) ?_
        refine WPL.val (v_loadA (cs := sty) Try.isAgg43 Try.sizeOf43 rfl (fun w hw => hw.cl_at (i := 1) rfl 4 (by show List.take _ sty = _; exact List.take_of_length_le (Nat.le_refl _))) hs.len) ?_
        refine WPL.ef (x_call Try.call36 (rset_ct rp g bc bs hkr aa sty hs) [0] [1, 2] rfl (fun w hw => trivial) (τ := fun _ => [_, _, _]) (fun _ => rfl)) (fun bs1 => ?_)
        refine WPL.fact (fun hf2 => ?_)
        refine WPL.val (v_assign (v := .int .i64 _) rfl) ?_
        refine WPL.nil (onto_of ?_)
        refine WP.seq ?_
        refine WP.region ?_
        refine WPL.val (v_move (v := .int .i64 _) rfl) ?_
        refine WPL.val (v_move (v := .int .i64 _) rfl) ?_
        refine WPL.val (v_is (b := true) (v_eql rfl rfl) (decide_eq_true (by rw [hab]))) ?_
        refine WPL.val (v_assign (v := .bool _) rfl) ?_
        refine WPL.nil (onto_of ?_)
        exact WP.ret1 Try.results13 (fun _ h => h) (fun w hw => ⟨(es1, g, bc, bs1), rfl, ⟨by rw [hr]; exact hf.1, hf.2, by dsimp only; rw [hf.1, hf2.1, hab], hf2.2⟩, (hw.sel [1, 2] (by decide))⟩)
      ·
        have hr : actR zeroS validB (FoR es) ⟨ak, aa, ab, ac, sty⟩ = (addR zeroS (FoR es) aa ab).1 := by rw [actR, if_neg h22, if_neg h46, if_neg h67]
        refine WP.skip (onto_of ?_)
        refine WP.seq ?_
        refine WP.region ?_
        refine WPL.val (v_move (v := .pointer _) rfl) ?_
        refine WPL.val (v_fieldL (o' := 1) Try.underlying45 rfl Try.sizeOf3 rfl rfl) ?_
        refine WPL.val (v_load1 (u := .int .i64 _) Try.isAgg3 rfl (fun w hw => hw.cl_at (i := 2) rfl _ rfl)) ?_
        refine WPL.val (v_fieldL (o' := 2) Try.underlying45 rfl Try.sizeOf3 rfl rfl) ?_
        refine WPL.val (v_load1 (u := .int .i64 _) Try.isAgg3 rfl (fun w hw => hw.cl_at (i := 2) rfl _ rfl)) ?_
        refine WPL.ef (x_call Try.call32 (add_ct tp mb es hk hF aa ab) [0] [1, 2] rfl (fun w hw => trivial) (τ := fun _ => [_, _, _]) (fun _ => rfl)) (fun es1 => ?_)
        refine WPL.fact (fun hf => ?_)
        refine WPL.val (v_move rfl) ?_
        refine WPL.val (v_extract (v := .int .i64 _) rfl rfl) ?_
        refine WPL.val (v_extract (v := .int .i64 _) rfl rfl) ?_
        refine WPL.val (v_assign (v := .int .i64 _) rfl) ?_
        refine WPL.val (v_assign (v := .int .i64 _) rfl) ?_
        refine WPL.nil (onto_of ?_)
        refine WP.seq ?_
        refine WP.region ?_
        refine WPL.val (v_move (v := .pointer _) rfl) ?_
        refine WPL.val (v_fieldL (o' := 1) Try.underlying45 rfl Try.sizeOf3 rfl rfl) ?_
        refine WPL.val (v_load1 (u := .int .i64 _) Try.isAgg3 rfl (fun w hw => hw.cl_at (i := 1) rfl _ rfl)) ?_
        refine WPL.val (v_fieldL (o' := 2) Try.underlying45 rfl Try.sizeOf3 rfl rfl) ?_
        refine WPL.val (v_load1 (u := .int .i64 _) Try.isAgg3 rfl (fun w hw => hw.cl_at (i := 1) rfl _ rfl)) ?_
        refine WPL.ef (x_call Try.call37 (radd_ct rp g bc bs hkr hFr aa ab) [0] [1, 2] rfl (fun w hw => trivial) (τ := fun _ => [_, _, _]) (fun _ => rfl)) (fun ⟨g', bc', bs1⟩ => ?_)
        refine WPL.fact (fun hf2 => ?_)
        refine WPL.val (v_move rfl) ?_
        refine WPL.val (v_extract (v := .int .i64 _) rfl rfl) ?_
        refine WPL.val (v_extract (v := .int .i64 _) rfl rfl) ?_
        refine WPL.val (v_assign (v := .int .i64 _) rfl) ?_
        refine WPL.val (v_assign (v := .int .i64 _) rfl) ?_
        refine WPL.nil (onto_of ?_)
        refine WP.seq ?_
        refine WP.region ?_
        refine WPL.val (v_move (v := .int .i64 _) rfl) ?_
        refine WPL.val (v_move (v := .int .i64 _) rfl) ?_
        refine WPL.val (v_is (b := true) (v_eql rfl rfl) (decide_eq_true (by rw [hab]))) ?_
        refine WPL.val (v_move (v := .bool _) rfl) ?_
        refine WPL.valG (v_move (v := .int .i64 _) rfl) ?_
        refine WPL.valG (v_move (v := .int .i64 _) rfl) ?_
        refine WPL.valG (v_is (b := true) (v_eql rfl rfl) (decide_eq_true (by rw [hab]))) ?_
        refine WPL.val (v_pickT (u := .bool _) rfl rfl) ?_
        refine WPL.val (v_assign (v := .bool _) rfl) ?_
        refine WPL.nil (onto_of ?_)
        exact WP.ret1 Try.results13 (fun _ h => h) (fun w hw => ⟨(es1, g', bc', bs1), rfl, ⟨by rw [hr]; exact hf.1, hf.2, by dsimp only; rw [hf.1, hf2.1, hab], hf2.2⟩, (hw.sel [1, 2] (by decide))⟩)
end Go.Proofs.Ytmjdmlgdffoimaa
