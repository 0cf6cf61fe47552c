/- record.Put: what it computes. -/
import Derived.Test.YtabdcfobdehhiaaRecStyle
namespace Go.Proofs.Ytabdcfobdehhiaa
open Go.RowKit

set_option maxRecDepth 100000 in
theorem put_ct (cs : List Value) (hs : SOk cs) :
    Ct Try.prog 27 #[.agg cs.toArray] [] (fun _ => True) (X := Option Addr × Nat) (fun p => intsV p.1 p.2 (nums cs)) (fun _ => True) (fun p => [intsI p.1 p.2 (nums cs)]) := by
  refine Ct.intro Try.func27 rfl Try.ntmps27 (by simp) (fun w0 _ => ?_)
  refine WP.seq ?_
  refine WP.region ?_
  refine WPL.ef (x_boxA (us := cs) (σ' := fun _ => [_]) rfl (fun _ => rfl)) (fun b1 => ?_)
  refine WPL.val (v_assign (v := .slice none 0 0) rfl) ?_
  refine WPL.nil (onto_of ?_)
  refine WP.seq ?_
  refine WP.region ?_
  refine WPL.ef (x_alloc (us := [_]) (σ' := fun _ => [_, _]) Try.zeroValue32 rfl (fun _ => rfl)) (fun b3 => ?_)
  refine WPL.nil (onto_of ?_)
  refine WP.seq ?_
  refine WP.region ?_
  refine WPL.val (v_func) ?_
  refine WPL.val (v_struct (us := [_, .bool _]) (pl := [(0, 1), (1, 1)]) Try.underlying96 Try.zeroValue96 rfl (by kernel_rfl) rfl rfl (by kernel_rfl)) ?_
  refine WPL.ef (x_boxA (us := [_, .bool _]) (σ' := fun _ => [_, _, _]) rfl (fun _ => rfl)) (fun b7 => ?_)
  refine WPL.val (v_assign (v := .pointer _) rfl) ?_
  refine WPL.nil (onto_of ?_)
  refine WP.seq ?_
  refine WP.pre ?_ (fun w hw => hw.nilRow 3 1)
  refine WP.region ?_
  refine WPL.val (v_move (v := .pointer _) rfl) ?_
  refine WPL.ef (x_call Try.call55 (putStyle_ct b7 b1 b3 false cs hs) [2, 0, 1, 3] [] rfl (fun w hw => trivial) (τ := fun _ => [_, _, _, _]) (fun _ => rfl)) (fun ⟨A1, c1⟩ => ?_)
  refine WPL.fact (fun _ => ?_)
  refine WPL.nil (onto_of ?_)
  refine WP.seq ?_
  refine WP.region ?_
  refine WPL.val (v_load1 (u := .slice _ _ _) Try.isAgg32 rfl (fun w hw => hw.cl_at (i := 2) rfl _ rfl)) ?_
  refine WPL.val (v_assign (v := .slice _ _ _) rfl) ?_
  refine WPL.nil (onto_of ?_)
  exact WP.ret1 Try.results27 (fun _ h => h) (fun w hw => ⟨(A1, c1), rfl, trivial, (hw.sel [3] (by decide))⟩)
end Go.Proofs.Ytabdcfobdehhiaa
