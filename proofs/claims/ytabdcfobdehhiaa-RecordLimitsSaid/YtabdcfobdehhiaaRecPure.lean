/- The small functions of record, length and the document's layers 5 and 13. -/
import Derived.Test.YtabdcfobdehhiaaFix
namespace Go.Proofs.Ytabdcfobdehhiaa
open Go.RowKit

def within (n lo hi : Int) : Bool := decide (lo ≤ n ∧ n ≤ hi)
def lenOk (k n : Int) : Bool := decide ((k = 0 ∧ n = 0) ∨ (k = 1 ∧ -1099511627776 ≤ n ∧ n ≤ 1099511627776) ∨ (k = 2 ∧ 0 ≤ n ∧ n ≤ 1000000))
def bit01 (b : Bool) : Int := if b then 1 else 0
theorem cut_same (n : Int) : cut n = n ↔ -1099511627776 ≤ n ∧ n ≤ 1099511627776 := by unfold cut; omega
theorem clamp_same (n : Int) : clamp n 0 1000000 = n ↔ 0 ≤ n ∧ n ≤ 1000000 := by rw [clamp_in (by omega) (by omega) (by omega)]; omega
theorem in44_any (n lo hi : Int) (w : World) : Calls Try.prog 44 #[.int .i64 n, .int .i64 lo, .int .i64 hi] w fun e w' => e = .returned (.bool (within n lo hi)) ∧ w = w' := by
  refine enter_pure Try.func44 rfl Try.ntmps44 (by simp) ?_
  refine WP.seq ?_
  refine WP.region ?_
  refine WPL.val (v_assign (v := .bool false) rfl) ?_
  refine WPL.nil (onto_of ?_)
  refine WP.seq ?_
  refine WP.region ?_
  refine WPL.val (v_move (v := .int .i64 _) rfl) ?_
  refine WPL.val (v_move (v := .int .i64 _) rfl) ?_
  refine WPL.val (v_leq rfl rfl) ?_
  refine WPL.val (v_move (v := .bool _) rfl) ?_
  refine WPL.split 10 rfl (fun h10 => ?_) (fun h10 => ?_)
  ·
    refine WPL.valG (v_move (v := .int .i64 _) rfl) ?_
    refine WPL.valG (v_move (v := .int .i64 _) rfl) ?_
    refine WPL.valG (v_leq rfl rfl) ?_
    refine WPL.val (v_pickT (u := .bool _) rfl rfl) ?_
    refine WPL.val (v_assign (v := .bool _) rfl) ?_
    refine WPL.nil (onto_of ?_)
    exact WP.ret1 Try.results44 (fun _ h => h) (fun w hw => ⟨by first | exact congrArg Value.bool (decide_eq_decide.2 (by omega)) | exact congrArg Value.bool (decide_eq_false (by omega)).symm, hw.symm⟩)
  ·
    refine WPL.skipG ?_
    refine WPL.skipG ?_
    refine WPL.skipG ?_
    refine WPL.val (v_pickF (v := .bool _) rfl rfl) ?_
    refine WPL.val (v_assign (v := .bool _) rfl) ?_
    refine WPL.nil (onto_of ?_)
    exact WP.ret1 Try.results44 (fun _ h => h) (fun w hw => ⟨by first | exact congrArg Value.bool (decide_eq_decide.2 (by omega)) | exact congrArg Value.bool (decide_eq_false (by omega)).symm, hw.symm⟩)
theorem in45_any (n lo hi : Int) (w : World) : Calls Try.prog 45 #[.int .i64 n, .int .i64 lo, .int .i64 hi] w fun e w' => e = .returned (.bool (within n lo hi)) ∧ w = w' := by
  refine enter_pure Try.func45 rfl Try.ntmps45 (by simp) ?_
  refine WP.seq ?_
  refine WP.region ?_
  refine WPL.val (v_assign (v := .bool false) rfl) ?_
  refine WPL.nil (onto_of ?_)
  refine WP.seq ?_
  refine WP.region ?_
  refine WPL.val (v_move (v := .int .i64 _) rfl) ?_
  refine WPL.val (v_move (v := .int .i64 _) rfl) ?_
  refine WPL.val (v_leq rfl rfl) ?_
  refine WPL.val (v_move (v := .bool _) rfl) ?_
  refine WPL.split 10 rfl (fun h10 => ?_) (fun h10 => ?_)
  ·
    refine WPL.valG (v_move (v := .int .i64 _) rfl) ?_
    refine WPL.valG (v_move (v := .int .i64 _) rfl) ?_
    refine WPL.valG (v_leq rfl rfl) ?_
    refine WPL.val (v_pickT (u := .bool _) rfl rfl) ?_
    refine WPL.val (v_assign (v := .bool _) rfl) ?_
    refine WPL.nil (onto_of ?_)
    exact WP.ret1 Try.results45 (fun _ h => h) (fun w hw => ⟨by first | exact congrArg Value.bool (decide_eq_decide.2 (by omega)) | exact congrArg Value.bool (decide_eq_false (by omega)).symm, hw.symm⟩)
  ·
    refine WPL.skipG ?_
    refine WPL.skipG ?_
    refine WPL.skipG ?_
    refine WPL.val (v_pickF (v := .bool _) rfl rfl) ?_
    refine WPL.val (v_assign (v := .bool _) rfl) ?_
    refine WPL.nil (onto_of ?_)
    exact WP.ret1 Try.results45 (fun _ h => h) (fun w hw => ⟨by first | exact congrArg Value.bool (decide_eq_decide.2 (by omega)) | exact congrArg Value.bool (decide_eq_false (by omega)).symm, hw.symm⟩)
theorem in46_any (n lo hi : Int) (w : World) : Calls Try.prog 46 #[.int .i64 n, .int .i64 lo, .int .i64 hi] w fun e w' => e = .returned (.bool (within n lo hi)) ∧ w = w' := by
  refine enter_pure Try.func46 rfl Try.ntmps46 (by simp) ?_
  refine WP.seq ?_
  refine WP.region ?_
  refine WPL.val (v_assign (v := .bool false) rfl) ?_
  refine WPL.nil (onto_of ?_)
  refine WP.seq ?_
  refine WP.region ?_
  refine WPL.val (v_move (v := .int .i64 _) rfl) ?_
  refine WPL.val (v_move (v := .int .i64 _) rfl) ?_
  refine WPL.val (v_leq rfl rfl) ?_
  refine WPL.val (v_move (v := .bool _) rfl) ?_
  refine WPL.split 10 rfl (fun h10 => ?_) (fun h10 => ?_)
  ·
    refine WPL.valG (v_move (v := .int .i64 _) rfl) ?_
    refine WPL.valG (v_move (v := .int .i64 _) rfl) ?_
    refine WPL.valG (v_leq rfl rfl) ?_
    refine WPL.val (v_pickT (u := .bool _) rfl rfl) ?_
    refine WPL.val (v_assign (v := .bool _) rfl) ?_
    refine WPL.nil (onto_of ?_)
    exact WP.ret1 Try.results46 (fun _ h => h) (fun w hw => ⟨by first | exact congrArg Value.bool (decide_eq_decide.2 (by omega)) | exact congrArg Value.bool (decide_eq_false (by omega)).symm, hw.symm⟩)
  ·
    refine WPL.skipG ?_
    refine WPL.skipG ?_
    refine WPL.skipG ?_
    refine WPL.val (v_pickF (v := .bool _) rfl rfl) ?_
    refine WPL.val (v_assign (v := .bool _) rfl) ?_
    refine WPL.nil (onto_of ?_)
    exact WP.ret1 Try.results46 (fun _ h => h) (fun w hw => ⟨by first | exact congrArg Value.bool (decide_eq_decide.2 (by omega)) | exact congrArg Value.bool (decide_eq_false (by omega)).symm, hw.symm⟩)
theorem in47_any (n lo hi : Int) (w : World) : Calls Try.prog 47 #[.int .i64 n, .int .i64 lo, .int .i64 hi] w fun e w' => e = .returned (.bool (within n lo hi)) ∧ w = w' := by
  refine enter_pure Try.func47 rfl Try.ntmps47 (by simp) ?_
  refine WP.seq ?_
  refine WP.region ?_
  refine WPL.val (v_assign (v := .bool false) rfl) ?_
  refine WPL.nil (onto_of ?_)
  refine WP.seq ?_
  refine WP.region ?_
  refine WPL.val (v_move (v := .int .i64 _) rfl) ?_
  refine WPL.val (v_move (v := .int .i64 _) rfl) ?_
  refine WPL.val (v_leq rfl rfl) ?_
  refine WPL.val (v_move (v := .bool _) rfl) ?_
  refine WPL.split 10 rfl (fun h10 => ?_) (fun h10 => ?_)
  ·
    refine WPL.valG (v_move (v := .int .i64 _) rfl) ?_
    refine WPL.valG (v_move (v := .int .i64 _) rfl) ?_
    refine WPL.valG (v_leq rfl rfl) ?_
    refine WPL.val (v_pickT (u := .bool _) rfl rfl) ?_
    refine WPL.val (v_assign (v := .bool _) rfl) ?_
    refine WPL.nil (onto_of ?_)
    exact WP.ret1 Try.results47 (fun _ h => h) (fun w hw => ⟨by first | exact congrArg Value.bool (decide_eq_decide.2 (by omega)) | exact congrArg Value.bool (decide_eq_false (by omega)).symm, hw.symm⟩)
  ·
    refine WPL.skipG ?_
    refine WPL.skipG ?_
    refine WPL.skipG ?_
    refine WPL.val (v_pickF (v := .bool _) rfl rfl) ?_
    refine WPL.val (v_assign (v := .bool _) rfl) ?_
    refine WPL.nil (onto_of ?_)
    exact WP.ret1 Try.results47 (fun _ h => h) (fun w hw => ⟨by first | exact congrArg Value.bool (decide_eq_decide.2 (by omega)) | exact congrArg Value.bool (decide_eq_false (by omega)).symm, hw.symm⟩)
theorem in48_any (n lo hi : Int) (w : World) : Calls Try.prog 48 #[.int .i64 n, .int .i64 lo, .int .i64 hi] w fun e w' => e = .returned (.bool (within n lo hi)) ∧ w = w' := by
  refine enter_pure Try.func48 rfl Try.ntmps48 (by simp) ?_
  refine WP.seq ?_
  refine WP.region ?_
  refine WPL.val (v_assign (v := .bool false) rfl) ?_
  refine WPL.nil (onto_of ?_)
  refine WP.seq ?_
  refine WP.region ?_
  refine WPL.val (v_move (v := .int .i64 _) rfl) ?_
  refine WPL.val (v_move (v := .int .i64 _) rfl) ?_
  refine WPL.val (v_leq rfl rfl) ?_
  refine WPL.val (v_move (v := .bool _) rfl) ?_
  refine WPL.split 10 rfl (fun h10 => ?_) (fun h10 => ?_)
  ·
    refine WPL.valG (v_move (v := .int .i64 _) rfl) ?_
    refine WPL.valG (v_move (v := .int .i64 _) rfl) ?_
    refine WPL.valG (v_leq rfl rfl) ?_
    refine WPL.val (v_pickT (u := .bool _) rfl rfl) ?_
    refine WPL.val (v_assign (v := .bool _) rfl) ?_
    refine WPL.nil (onto_of ?_)
    exact WP.ret1 Try.results48 (fun _ h => h) (fun w hw => ⟨by first | exact congrArg Value.bool (decide_eq_decide.2 (by omega)) | exact congrArg Value.bool (decide_eq_false (by omega)).symm, hw.symm⟩)
  ·
    refine WPL.skipG ?_
    refine WPL.skipG ?_
    refine WPL.skipG ?_
    refine WPL.val (v_pickF (v := .bool _) rfl rfl) ?_
    refine WPL.val (v_assign (v := .bool _) rfl) ?_
    refine WPL.nil (onto_of ?_)
    exact WP.ret1 Try.results48 (fun _ h => h) (fun w hw => ⟨by first | exact congrArg Value.bool (decide_eq_decide.2 (by omega)) | exact congrArg Value.bool (decide_eq_false (by omega)).symm, hw.symm⟩)
theorem in49_any (n lo hi : Int) (w : World) : Calls Try.prog 49 #[.int .i64 n, .int .i64 lo, .int .i64 hi] w fun e w' => e = .returned (.bool (within n lo hi)) ∧ w = w' := by
  refine enter_pure Try.func49 rfl Try.ntmps49 (by simp) ?_
  refine WP.seq ?_
  refine WP.region ?_
  refine WPL.val (v_assign (v := .bool false) rfl) ?_
  refine WPL.nil (onto_of ?_)
  refine WP.seq ?_
  refine WP.region ?_
  refine WPL.val (v_move (v := .int .i64 _) rfl) ?_
  refine WPL.val (v_move (v := .int .i64 _) rfl) ?_
  refine WPL.val (v_leq rfl rfl) ?_
  refine WPL.val (v_move (v := .bool _) rfl) ?_
  refine WPL.split 10 rfl (fun h10 => ?_) (fun h10 => ?_)
  ·
    refine WPL.valG (v_move (v := .int .i64 _) rfl) ?_
    refine WPL.valG (v_move (v := .int .i64 _) rfl) ?_
    refine WPL.valG (v_leq rfl rfl) ?_
    refine WPL.val (v_pickT (u := .bool _) rfl rfl) ?_
    refine WPL.val (v_assign (v := .bool _) rfl) ?_
    refine WPL.nil (onto_of ?_)
    exact WP.ret1 Try.results49 (fun _ h => h) (fun w hw => ⟨by first | exact congrArg Value.bool (decide_eq_decide.2 (by omega)) | exact congrArg Value.bool (decide_eq_false (by omega)).symm, hw.symm⟩)
  ·
    refine WPL.skipG ?_
    refine WPL.skipG ?_
    refine WPL.skipG ?_
    refine WPL.val (v_pickF (v := .bool _) rfl rfl) ?_
    refine WPL.val (v_assign (v := .bool _) rfl) ?_
    refine WPL.nil (onto_of ?_)
    exact WP.ret1 Try.results49 (fun _ h => h) (fun w hw => ⟨by first | exact congrArg Value.bool (decide_eq_decide.2 (by omega)) | exact congrArg Value.bool (decide_eq_false (by omega)).symm, hw.symm⟩)
theorem in50_any (n lo hi : Int) (w : World) : Calls Try.prog 50 #[.int .i64 n, .int .i64 lo, .int .i64 hi] w fun e w' => e = .returned (.bool (within n lo hi)) ∧ w = w' := by
  refine enter_pure Try.func50 rfl Try.ntmps50 (by simp) ?_
  refine WP.seq ?_
  refine WP.region ?_
  refine WPL.val (v_assign (v := .bool false) rfl) ?_
  refine WPL.nil (onto_of ?_)
  refine WP.seq ?_
  refine WP.region ?_
  refine WPL.val (v_move (v := .int .i64 _) rfl) ?_
  refine WPL.val (v_move (v := .int .i64 _) rfl) ?_
  refine WPL.val (v_leq rfl rfl) ?_
  refine WPL.val (v_move (v := .bool _) rfl) ?_
  refine WPL.split 10 rfl (fun h10 => ?_) (fun h10 => ?_)
  ·
    refine WPL.valG (v_move (v := .int .i64 _) rfl) ?_
    refine WPL.valG (v_move (v := .int .i64 _) rfl) ?_
    refine WPL.valG (v_leq rfl rfl) ?_
    refine WPL.val (v_pickT (u := .bool _) rfl rfl) ?_
    refine WPL.val (v_assign (v := .bool _) rfl) ?_
    refine WPL.nil (onto_of ?_)
    exact WP.ret1 Try.results50 (fun _ h => h) (fun w hw => ⟨by first | exact congrArg Value.bool (decide_eq_decide.2 (by omega)) | exact congrArg Value.bool (decide_eq_false (by omega)).symm, hw.symm⟩)
  ·
    refine WPL.skipG ?_
    refine WPL.skipG ?_
    refine WPL.skipG ?_
    refine WPL.val (v_pickF (v := .bool _) rfl rfl) ?_
    refine WPL.val (v_assign (v := .bool _) rfl) ?_
    refine WPL.nil (onto_of ?_)
    exact WP.ret1 Try.results50 (fun _ h => h) (fun w hw => ⟨by first | exact congrArg Value.bool (decide_eq_decide.2 (by omega)) | exact congrArg Value.bool (decide_eq_false (by omega)).symm, hw.symm⟩)
theorem in51_any (n lo hi : Int) (w : World) : Calls Try.prog 51 #[.int .i64 n, .int .i64 lo, .int .i64 hi] w fun e w' => e = .returned (.bool (within n lo hi)) ∧ w = w' := by
  refine enter_pure Try.func51 rfl Try.ntmps51 (by simp) ?_
  refine WP.seq ?_
  refine WP.region ?_
  refine WPL.val (v_assign (v := .bool false) rfl) ?_
  refine WPL.nil (onto_of ?_)
  refine WP.seq ?_
  refine WP.region ?_
  refine WPL.val (v_move (v := .int .i64 _) rfl) ?_
  refine WPL.val (v_move (v := .int .i64 _) rfl) ?_
  refine WPL.val (v_leq rfl rfl) ?_
  refine WPL.val (v_move (v := .bool _) rfl) ?_
  refine WPL.split 10 rfl (fun h10 => ?_) (fun h10 => ?_)
  ·
    refine WPL.valG (v_move (v := .int .i64 _) rfl) ?_
    refine WPL.valG (v_move (v := .int .i64 _) rfl) ?_
    refine WPL.valG (v_leq rfl rfl) ?_
    refine WPL.val (v_pickT (u := .bool _) rfl rfl) ?_
    refine WPL.val (v_assign (v := .bool _) rfl) ?_
    refine WPL.nil (onto_of ?_)
    exact WP.ret1 Try.results51 (fun _ h => h) (fun w hw => ⟨by first | exact congrArg Value.bool (decide_eq_decide.2 (by omega)) | exact congrArg Value.bool (decide_eq_false (by omega)).symm, hw.symm⟩)
  ·
    refine WPL.skipG ?_
    refine WPL.skipG ?_
    refine WPL.skipG ?_
    refine WPL.val (v_pickF (v := .bool _) rfl rfl) ?_
    refine WPL.val (v_assign (v := .bool _) rfl) ?_
    refine WPL.nil (onto_of ?_)
    exact WP.ret1 Try.results51 (fun _ h => h) (fun w hw => ⟨by first | exact congrArg Value.bool (decide_eq_decide.2 (by omega)) | exact congrArg Value.bool (decide_eq_false (by omega)).symm, hw.symm⟩)
theorem in37_any (n lo hi : Int) (w : World) : Calls Try.prog 37 #[.int .i64 n, .int .i64 lo, .int .i64 hi] w fun e w' => e = .returned (.bool (within n lo hi)) ∧ w = w' := by
  refine enter_pure Try.func37 rfl Try.ntmps37 (by simp) ?_
  refine WP.seq ?_
  refine WP.region ?_
  refine WPL.val (v_assign (v := .bool false) rfl) ?_
  refine WPL.nil (onto_of ?_)
  refine WP.seq ?_
  refine WP.region ?_
  refine WPL.val (v_move (v := .int .i64 _) rfl) ?_
  refine WPL.val (v_move (v := .int .i64 _) rfl) ?_
  refine WPL.val (v_geq rfl rfl) ?_
  refine WPL.val (v_move (v := .bool _) rfl) ?_
  refine WPL.split 10 rfl (fun h10 => ?_) (fun h10 => ?_)
  ·
    refine WPL.valG (v_move (v := .int .i64 _) rfl) ?_
    refine WPL.valG (v_move (v := .int .i64 _) rfl) ?_
    refine WPL.valG (v_leq rfl rfl) ?_
    refine WPL.val (v_pickT (u := .bool _) rfl rfl) ?_
    refine WPL.val (v_assign (v := .bool _) rfl) ?_
    refine WPL.nil (onto_of ?_)
    exact WP.ret1 Try.results37 (fun _ h => h) (fun w hw => ⟨by first | exact congrArg Value.bool (decide_eq_decide.2 (by omega)) | exact congrArg Value.bool (decide_eq_false (by omega)).symm, hw.symm⟩)
  ·
    refine WPL.skipG ?_
    refine WPL.skipG ?_
    refine WPL.skipG ?_
    refine WPL.val (v_pickF (v := .bool _) rfl rfl) ?_
    refine WPL.val (v_assign (v := .bool _) rfl) ?_
    refine WPL.nil (onto_of ?_)
    exact WP.ret1 Try.results37 (fun _ h => h) (fun w hw => ⟨by first | exact congrArg Value.bool (decide_eq_decide.2 (by omega)) | exact congrArg Value.bool (decide_eq_false (by omega)).symm, hw.symm⟩)

theorem lenValid_ct (k n : Int) : Ct Try.prog 42 #[.agg #[.int .i64 k, .int .i64 n]] [] (fun _ => True) (X := Unit) (fun _ => .bool (lenOk k n)) (fun _ => True) (fun _ => []) := by
  refine Ct.intro Try.func42 rfl Try.ntmps42 (by simp) (fun w0 _ => ?_)
  refine WP.seq ?_
  refine WP.region ?_
  refine WPL.ef (x_boxA (us := [.int .i64 _, .int .i64 _]) (σ' := fun _ => [_]) rfl (fun _ => rfl)) (fun b1 => ?_)
  refine WPL.val (v_assign (v := .bool false) rfl) ?_
  refine WPL.nil (onto_of ?_)
  refine WP.seq ?_
  refine WP.seq ?_
  refine WP.region ?_
  refine WPL.val (v_fieldL (o' := 0) Try.underlying48 rfl Try.sizeOf46 rfl rfl) ?_
  refine WPL.val (v_load1 (u := .int .i64 _) Try.isAgg46 rfl (fun w hw => hw.cl_at (i := 0) rfl _ rfl)) ?_
  refine WPL.nil (onto_of ?_)
  refine WP.block ?_
  refine WP.seq ?_
  refine WP.region ?_
  refine WPL.val (v_eql rfl rfl) ?_
  refine WPL.val (v_assign (v := .bool _) rfl) ?_
  refine WPL.nil (onto_of ?_)
  refine WP.condP rfl (fun h5 => ?_) (fun h5 => ?_)
  ·
    refine WP.seq ?_
    refine WP.region ?_
    refine WPL.val (v_fieldL (o' := 1) Try.underlying48 rfl Try.sizeOf3 rfl rfl) ?_
    refine WPL.val (v_load1 (u := .int .i64 _) Try.isAgg3 rfl (fun w hw => hw.cl_at (i := 0) rfl _ rfl)) ?_
    refine WPL.val (v_eql rfl rfl) ?_
    refine WPL.val (v_assign (v := .bool _) rfl) ?_
    refine WPL.nil (onto_of ?_)
    exact WP.ret1 Try.results42 (fun _ h => h) (fun w hw => ⟨(), by first | exact congrArg Value.bool (decide_eq_decide.2 (by omega)) | exact congrArg Value.bool (decide_eq_decide.2 (by have h1 := cut_same n; omega)) | exact congrArg Value.bool (decide_eq_decide.2 (by have h2 := clamp_same n; omega)) | exact congrArg Value.bool (decide_eq_false (by omega)).symm, trivial, hw.sel [] (by decide)⟩)
  ·
    refine WP.seq ?_
    refine WP.region ?_
    refine WPL.val (v_eql rfl rfl) ?_
    refine WPL.val (v_assign (v := .bool _) rfl) ?_
    refine WPL.nil (onto_of ?_)
    refine WP.condP rfl (fun h10 => ?_) (fun h10 => ?_)
    ·
      refine WP.seq ?_
      refine WP.drawS none [(0, true), (1, true), (2, true), (3, true), (4, true), (5, true), (6, true)] mixed (by kernel_rfl) (by decide) (fun _ h => h.drawn) ?_
      refine WPD.take rfl (v_fieldL (o' := 1) Try.underlying48 rfl Try.sizeOf3 rfl rfl) ?_ (fun _ h => h)
      refine WPD.take rfl (v_load1 (u := .int .i64 _) Try.isAgg3 rfl (fun w hw => hw.cl_at (i := 0) rfl _ rfl)) ?_ (fun _ h => h)
      refine WPD.take rfl (v_call Try.call63 (fun w hw => cut_any _ _)) ?_ (fun _ h => h)
      refine WPD.take rfl (v_fieldL (o' := 1) Try.underlying48 rfl Try.sizeOf3 rfl rfl) ?_ (fun _ h => h)
      refine WPD.take rfl (v_load1 (u := .int .i64 _) Try.isAgg3 rfl (fun w hw => hw.cl_at (i := 0) rfl _ rfl)) ?_ (fun _ h => h)
      refine WPD.take rfl (v_eql rfl rfl) ?_ (fun _ h => h)
      refine WPD.take rfl (v_assign (v := .bool _) rfl) ?_ (fun _ h => h)
      refine WPD.nil (onto_of ?_)
      exact WP.ret1 Try.results42 (fun _ h => h) (fun w hw => ⟨(), by first | exact congrArg Value.bool (decide_eq_decide.2 (by omega)) | exact congrArg Value.bool (decide_eq_decide.2 (by have h1 := cut_same n; omega)) | exact congrArg Value.bool (decide_eq_decide.2 (by have h2 := clamp_same n; omega)) | exact congrArg Value.bool (decide_eq_false (by omega)).symm, trivial, hw.sel [] (by decide)⟩)
    ·
      refine WP.seq ?_
      refine WP.region ?_
      refine WPL.val (v_eql rfl rfl) ?_
      refine WPL.val (v_assign (v := .bool _) rfl) ?_
      refine WPL.nil (onto_of ?_)
      refine WP.condP rfl (fun h18 => ?_) (fun h18 => ?_)
      ·
        refine WP.seq ?_
        refine WP.drawS none [(0, true), (1, true), (2, true), (3, true), (4, true), (5, true), (6, true)] mixed (by kernel_rfl) (by decide) (fun _ h => h.drawn) ?_
        refine WPD.take rfl (v_fieldL (o' := 1) Try.underlying48 rfl Try.sizeOf3 rfl rfl) ?_ (fun _ h => h)
        refine WPD.take rfl (v_load1 (u := .int .i64 _) Try.isAgg3 rfl (fun w hw => hw.cl_at (i := 0) rfl _ rfl)) ?_ (fun _ h => h)
        refine WPD.take rfl (v_call Try.call36 (fun w hw => clamp_any _ _ _ _)) ?_ (fun _ h => h)
        refine WPD.take rfl (v_fieldL (o' := 1) Try.underlying48 rfl Try.sizeOf3 rfl rfl) ?_ (fun _ h => h)
        refine WPD.take rfl (v_load1 (u := .int .i64 _) Try.isAgg3 rfl (fun w hw => hw.cl_at (i := 0) rfl _ rfl)) ?_ (fun _ h => h)
        refine WPD.take rfl (v_eql rfl rfl) ?_ (fun _ h => h)
        refine WPD.take rfl (v_assign (v := .bool _) rfl) ?_ (fun _ h => h)
        refine WPD.nil (onto_of ?_)
        exact WP.ret1 Try.results42 (fun _ h => h) (fun w hw => ⟨(), by first | exact congrArg Value.bool (decide_eq_decide.2 (by omega)) | exact congrArg Value.bool (decide_eq_decide.2 (by have h1 := cut_same n; omega)) | exact congrArg Value.bool (decide_eq_decide.2 (by have h2 := clamp_same n; omega)) | exact congrArg Value.bool (decide_eq_false (by omega)).symm, trivial, hw.sel [] (by decide)⟩)
      ·
        refine WP.skip (onto_of ?_)
        refine WP.seq ?_
        refine WP.region ?_
        refine WPL.val (v_assign (v := .bool false) rfl) ?_
        refine WPL.nil (onto_of ?_)
        exact WP.ret1 Try.results42 (fun _ h => h) (fun w hw => ⟨(), by first | exact congrArg Value.bool (decide_eq_decide.2 (by omega)) | exact congrArg Value.bool (decide_eq_decide.2 (by have h1 := cut_same n; omega)) | exact congrArg Value.bool (decide_eq_decide.2 (by have h2 := clamp_same n; omega)) | exact congrArg Value.bool (decide_eq_false (by omega)).symm, trivial, hw.sel [] (by decide)⟩)
theorem rlenValid_ct (k n : Int) : Ct Try.prog 38 #[.agg #[.int .i64 k, .int .i64 n]] [] (fun _ => True) (X := Unit) (fun _ => .bool (lenOk k n)) (fun _ => True) (fun _ => []) := by
  refine Ct.intro Try.func38 rfl Try.ntmps38 (by simp) (fun w0 _ => ?_)
  refine WP.seq ?_
  refine WP.region ?_
  refine WPL.ef (x_boxA (us := [.int .i64 _, .int .i64 _]) (σ' := fun _ => [_]) rfl (fun _ => rfl)) (fun b1 => ?_)
  refine WPL.val (v_assign (v := .bool false) rfl) ?_
  refine WPL.nil (onto_of ?_)
  refine WP.seq ?_
  refine WP.seq ?_
  refine WP.region ?_
  refine WPL.val (v_fieldL (o' := 0) Try.underlying48 rfl Try.sizeOf46 rfl rfl) ?_
  refine WPL.val (v_load1 (u := .int .i64 _) Try.isAgg46 rfl (fun w hw => hw.cl_at (i := 0) rfl _ rfl)) ?_
  refine WPL.nil (onto_of ?_)
  refine WP.block ?_
  refine WP.seq ?_
  refine WP.region ?_
  refine WPL.val (v_eql rfl rfl) ?_
  refine WPL.val (v_assign (v := .bool _) rfl) ?_
  refine WPL.nil (onto_of ?_)
  refine WP.condP rfl (fun h5 => ?_) (fun h5 => ?_)
  ·
    refine WP.seq ?_
    refine WP.region ?_
    refine WPL.val (v_fieldL (o' := 1) Try.underlying48 rfl Try.sizeOf3 rfl rfl) ?_
    refine WPL.val (v_load1 (u := .int .i64 _) Try.isAgg3 rfl (fun w hw => hw.cl_at (i := 0) rfl _ rfl)) ?_
    refine WPL.val (v_eql rfl rfl) ?_
    refine WPL.val (v_assign (v := .bool _) rfl) ?_
    refine WPL.nil (onto_of ?_)
    exact WP.ret1 Try.results38 (fun _ h => h) (fun w hw => ⟨(), by first | exact congrArg Value.bool (decide_eq_decide.2 (by omega)) | exact congrArg Value.bool (decide_eq_false (by omega)).symm, trivial, hw.sel [] (by decide)⟩)
  ·
    refine WP.seq ?_
    refine WP.region ?_
    refine WPL.val (v_eql rfl rfl) ?_
    refine WPL.val (v_assign (v := .bool _) rfl) ?_
    refine WPL.nil (onto_of ?_)
    refine WP.condP rfl (fun h10 => ?_) (fun h10 => ?_)
    ·
      refine WP.seq ?_
      refine WP.region ?_
      refine WPL.val (v_fieldL (o' := 1) Try.underlying48 rfl Try.sizeOf3 rfl rfl) ?_
      refine WPL.val (v_load1 (u := .int .i64 _) Try.isAgg3 rfl (fun w hw => hw.cl_at (i := 0) rfl _ rfl)) ?_
      refine WPL.val (v_geq rfl rfl) ?_
      refine WPL.val (v_move (v := .bool _) rfl) ?_
      refine WPL.split 15 rfl (fun h15 => ?_) (fun h15 => ?_)
      ·
        refine WPL.valG (v_fieldL (o' := 1) Try.underlying48 rfl Try.sizeOf3 rfl rfl) ?_
        refine WPL.valG (v_load1 (u := .int .i64 _) Try.isAgg3 rfl (fun w hw => hw.cl_at (i := 0) rfl _ rfl)) ?_
        refine WPL.valG (v_leq rfl rfl) ?_
        refine WPL.val (v_pickT (u := .bool _) rfl rfl) ?_
        refine WPL.val (v_assign (v := .bool _) rfl) ?_
        refine WPL.nil (onto_of ?_)
        exact WP.ret1 Try.results38 (fun _ h => h) (fun w hw => ⟨(), by first | exact congrArg Value.bool (decide_eq_decide.2 (by omega)) | exact congrArg Value.bool (decide_eq_false (by omega)).symm, trivial, hw.sel [] (by decide)⟩)
      ·
        refine WPL.skipG ?_
        refine WPL.skipG ?_
        refine WPL.skipG ?_
        refine WPL.val (v_pickF (v := .bool _) rfl rfl) ?_
        refine WPL.val (v_assign (v := .bool _) rfl) ?_
        refine WPL.nil (onto_of ?_)
        exact WP.ret1 Try.results38 (fun _ h => h) (fun w hw => ⟨(), by first | exact congrArg Value.bool (decide_eq_decide.2 (by omega)) | exact congrArg Value.bool (decide_eq_false (by omega)).symm, trivial, hw.sel [] (by decide)⟩)
    ·
      refine WP.seq ?_
      refine WP.region ?_
      refine WPL.val (v_eql rfl rfl) ?_
      refine WPL.val (v_assign (v := .bool _) rfl) ?_
      refine WPL.nil (onto_of ?_)
      refine WP.condP rfl (fun h20 => ?_) (fun h20 => ?_)
      ·
        refine WP.seq ?_
        refine WP.region ?_
        refine WPL.val (v_fieldL (o' := 1) Try.underlying48 rfl Try.sizeOf3 rfl rfl) ?_
        refine WPL.val (v_load1 (u := .int .i64 _) Try.isAgg3 rfl (fun w hw => hw.cl_at (i := 0) rfl _ rfl)) ?_
        refine WPL.val (v_geq rfl rfl) ?_
        refine WPL.val (v_move (v := .bool _) rfl) ?_
        refine WPL.split 25 rfl (fun h25 => ?_) (fun h25 => ?_)
        ·
          refine WPL.valG (v_fieldL (o' := 1) Try.underlying48 rfl Try.sizeOf3 rfl rfl) ?_
          refine WPL.valG (v_load1 (u := .int .i64 _) Try.isAgg3 rfl (fun w hw => hw.cl_at (i := 0) rfl _ rfl)) ?_
          refine WPL.valG (v_leq rfl rfl) ?_
          refine WPL.val (v_pickT (u := .bool _) rfl rfl) ?_
          refine WPL.val (v_assign (v := .bool _) rfl) ?_
          refine WPL.nil (onto_of ?_)
          exact WP.ret1 Try.results38 (fun _ h => h) (fun w hw => ⟨(), by first | exact congrArg Value.bool (decide_eq_decide.2 (by omega)) | exact congrArg Value.bool (decide_eq_false (by omega)).symm, trivial, hw.sel [] (by decide)⟩)
        ·
          refine WPL.skipG ?_
          refine WPL.skipG ?_
          refine WPL.skipG ?_
          refine WPL.val (v_pickF (v := .bool _) rfl rfl) ?_
          refine WPL.val (v_assign (v := .bool _) rfl) ?_
          refine WPL.nil (onto_of ?_)
          exact WP.ret1 Try.results38 (fun _ h => h) (fun w hw => ⟨(), by first | exact congrArg Value.bool (decide_eq_decide.2 (by omega)) | exact congrArg Value.bool (decide_eq_false (by omega)).symm, trivial, hw.sel [] (by decide)⟩)
      ·
        refine WP.skip (onto_of ?_)
        refine WP.seq ?_
        refine WP.region ?_
        refine WPL.val (v_assign (v := .bool false) rfl) ?_
        refine WPL.nil (onto_of ?_)
        exact WP.ret1 Try.results38 (fun _ h => h) (fun w hw => ⟨(), by first | exact congrArg Value.bool (decide_eq_decide.2 (by omega)) | exact congrArg Value.bool (decide_eq_false (by omega)).symm, trivial, hw.sel [] (by decide)⟩)
theorem one_any (b : Bool) (w : World) : Calls Try.prog 56 #[.bool b] w fun e w' => e = .returned (.int .i64 (bit01 b)) ∧ w = w' := by
  refine enter_pure Try.func56 rfl Try.ntmps56 (by simp) ?_
  refine WP.seq ?_
  refine WP.region ?_
  refine WPL.val (v_assign (v := .int .i64 (0)) rfl) ?_
  refine WPL.nil (onto_of ?_)
  refine WP.seq ?_
  refine WP.seq ?_
  refine WP.region ?_
  refine WPL.val (v_move (v := .bool _) rfl) ?_
  refine WPL.nil (onto_of ?_)
  refine WP.cond rfl (fun h3 => ?_) (fun h3 => ?_)
  ·
    refine WP.seq ?_
    refine WP.region ?_
    refine WPL.val (v_assign (v := .int .i64 (1)) rfl) ?_
    refine WPL.nil (onto_of ?_)
    exact WP.ret1 Try.results56 (fun _ h => h) (fun w hw => ⟨by first | exact congrArg (Value.int .i64) (show (1 : Int) = bit01 b by simp [bit01, h3]) | exact congrArg (Value.int .i64) (show (0 : Int) = bit01 b by simp [bit01, h3]), hw.symm⟩)
  ·
    refine WP.skip (onto_of ?_)
    refine WP.seq ?_
    refine WP.region ?_
    refine WPL.val (v_assign (v := .int .i64 (0)) rfl) ?_
    refine WPL.nil (onto_of ?_)
    exact WP.ret1 Try.results56 (fun _ h => h) (fun w hw => ⟨by first | exact congrArg (Value.int .i64) (show (1 : Int) = bit01 b by simp [bit01, h3]) | exact congrArg (Value.int .i64) (show (0 : Int) = bit01 b by simp [bit01, h3]), hw.symm⟩)
end Go.Proofs.Ytabdcfobdehhiaa
