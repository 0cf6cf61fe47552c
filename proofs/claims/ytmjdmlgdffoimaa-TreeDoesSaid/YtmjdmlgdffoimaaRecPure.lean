/- The small functions of record, length and the document's layers 5 and 13. -/
import Derived.Test.YtmjdmlgdffoimaaFix
namespace Go.Proofs.Ytmjdmlgdffoimaa
open Go.RowKit

def within (n lo hi : Int) : Bool := decide (lo ≤ n ∧ n ≤ hi)
def lenOk (k n : Int) : Bool := decide ((k = 0 ∧ n = 0) ∨ (k = 1 ∧ -1099511627776 ≤ n ∧ n ≤ 1099511627776) ∨ (k = 2 ∧ 0 ≤ n ∧ n ≤ 1000000))
def bit01 (b : Bool) : Int := if b then 1 else 0
theorem cut_same (n : Int) : cut n = n ↔ -1099511627776 ≤ n ∧ n ≤ 1099511627776 := by unfold cut; omega
theorem clamp_same (n : Int) : clamp n 0 1000000 = n ↔ 0 ≤ n ∧ n ≤ 1000000 := by rw [clamp_in (by omega) (by omega) (by omega)]; omega
theorem in63_any (n lo hi : Int) (w : World) : Calls Try.prog 63 #[.int .i64 n, .int .i64 lo, .int .i64 hi] w fun e w' => e = .returned (.bool (within n lo hi)) ∧ w = w' := by
  refine enter_pure Try.func63 rfl Try.ntmps63 (by simp) ?_
  refine WP.seq ?_
  refine WP.region ?_
  refine WPL.val (v_assign (v := .bool false) rfl) ?_
  refine WPL.nil (onto_of ?_)
  refine WP.seq ?_
  refine WP.region ?_
  refine WPL.val (v_move (v := .int .i64 _) rfl) ?_
  refine WPL.val (v_move (v := .int .i64 _) rfl) ?_
  refine WPL.val (v_leq rfl rfl) ?_
  refine WPL.val (v_move (v := .bool _) rfl) ?_
  refine WPL.split 10 rfl (fun h10 => ?_) (fun h10 => ?_)
  ·
    refine WPL.valG (v_move (v := .int .i64 _) rfl) ?_
    refine WPL.valG (v_move (v := .int .i64 _) rfl) ?_
    refine WPL.valG (v_leq rfl rfl) ?_
    refine WPL.val (v_pickT (u := .bool _) rfl rfl) ?_
    refine WPL.val (v_assign (v := .bool _) rfl) ?_
    refine WPL.nil (onto_of ?_)
    exact WP.ret1 Try.results63 (fun _ h => h) (fun w hw => ⟨by first | exact congrArg Value.bool (decide_eq_decide.2 (by omega)) | exact congrArg Value.bool (decide_eq_false (by omega)).symm, hw.symm⟩)
  ·
    refine WPL.skipG ?_
    refine WPL.skipG ?_
    refine WPL.skipG ?_
    refine WPL.val (v_pickF (v := .bool _) rfl rfl) ?_
    refine WPL.val (v_assign (v := .bool _) rfl) ?_
    refine WPL.nil (onto_of ?_)
    exact WP.ret1 Try.results63 (fun _ h => h) (fun w hw => ⟨by first | exact congrArg Value.bool (decide_eq_decide.2 (by omega)) | exact congrArg Value.bool (decide_eq_false (by omega)).symm, hw.symm⟩)
theorem in64_any (n lo hi : Int) (w : World) : Calls Try.prog 64 #[.int .i64 n, .int .i64 lo, .int .i64 hi] w fun e w' => e = .returned (.bool (within n lo hi)) ∧ w = w' := by
  refine enter_pure Try.func64 rfl Try.ntmps64 (by simp) ?_
  refine WP.seq ?_
  refine WP.region ?_
  refine WPL.val (v_assign (v := .bool false) rfl) ?_
  refine WPL.nil (onto_of ?_)
  refine WP.seq ?_
  refine WP.region ?_
  refine WPL.val (v_move (v := .int .i64 _) rfl) ?_
  refine WPL.val (v_move (v := .int .i64 _) rfl) ?_
  refine WPL.val (v_leq rfl rfl) ?_
  refine WPL.val (v_move (v := .bool _) rfl) ?_
  refine WPL.split 10 rfl (fun h10 => ?_) (fun h10 => ?_)
  ·
    refine WPL.valG (v_move (v := .int .i64 _) rfl) ?_
    refine WPL.valG (v_move (v := .int .i64 _) rfl) ?_
    refine WPL.valG (v_leq rfl rfl) ?_
    refine WPL.val (v_pickT (u := .bool _) rfl rfl) ?_
    refine WPL.val (v_assign (v := .bool _) rfl) ?_
    refine WPL.nil (onto_of ?_)
    exact WP.ret1 Try.results64 (fun _ h => h) (fun w hw => ⟨by first | exact congrArg Value.bool (decide_eq_decide.2 (by omega)) | exact congrArg Value.bool (decide_eq_false (by omega)).symm, hw.symm⟩)
  ·
    refine WPL.skipG ?_
    refine WPL.skipG ?_
    refine WPL.skipG ?_
    refine WPL.val (v_pickF (v := .bool _) rfl rfl) ?_
    refine WPL.val (v_assign (v := .bool _) rfl) ?_
    refine WPL.nil (onto_of ?_)
    exact WP.ret1 Try.results64 (fun _ h => h) (fun w hw => ⟨by first | exact congrArg Value.bool (decide_eq_decide.2 (by omega)) | exact congrArg Value.bool (decide_eq_false (by omega)).symm, hw.symm⟩)
theorem in65_any (n lo hi : Int) (w : World) : Calls Try.prog 65 #[.int .i64 n, .int .i64 lo, .int .i64 hi] w fun e w' => e = .returned (.bool (within n lo hi)) ∧ w = w' := by
  refine enter_pure Try.func65 rfl Try.ntmps65 (by simp) ?_
  refine WP.seq ?_
  refine WP.region ?_
  refine WPL.val (v_assign (v := .bool false) rfl) ?_
  refine WPL.nil (onto_of ?_)
  refine WP.seq ?_
  refine WP.region ?_
  refine WPL.val (v_move (v := .int .i64 _) rfl) ?_
  refine WPL.val (v_move (v := .int .i64 _) rfl) ?_
  refine WPL.val (v_leq rfl rfl) ?_
  refine WPL.val (v_move (v := .bool _) rfl) ?_
  refine WPL.split 10 rfl (fun h10 => ?_) (fun h10 => ?_)
  ·
    refine WPL.valG (v_move (v := .int .i64 _) rfl) ?_
    refine WPL.valG (v_move (v := .int .i64 _) rfl) ?_
    refine WPL.valG (v_leq rfl rfl) ?_
    refine WPL.val (v_pickT (u := .bool _) rfl rfl) ?_
    refine WPL.val (v_assign (v := .bool _) rfl) ?_
    refine WPL.nil (onto_of ?_)
    exact WP.ret1 Try.results65 (fun _ h => h) (fun w hw => ⟨by first | exact congrArg Value.bool (decide_eq_decide.2 (by omega)) | exact congrArg Value.bool (decide_eq_false (by omega)).symm, hw.symm⟩)
  ·
    refine WPL.skipG ?_
    refine WPL.skipG ?_
    refine WPL.skipG ?_
    refine WPL.val (v_pickF (v := .bool _) rfl rfl) ?_
    refine WPL.val (v_assign (v := .bool _) rfl) ?_
    refine WPL.nil (onto_of ?_)
    exact WP.ret1 Try.results65 (fun _ h => h) (fun w hw => ⟨by first | exact congrArg Value.bool (decide_eq_decide.2 (by omega)) | exact congrArg Value.bool (decide_eq_false (by omega)).symm, hw.symm⟩)
theorem in66_any (n lo hi : Int) (w : World) : Calls Try.prog 66 #[.int .i64 n, .int .i64 lo, .int .i64 hi] w fun e w' => e = .returned (.bool (within n lo hi)) ∧ w = w' := by
  refine enter_pure Try.func66 rfl Try.ntmps66 (by simp) ?_
  refine WP.seq ?_
  refine WP.region ?_
  refine WPL.val (v_assign (v := .bool false) rfl) ?_
  refine WPL.nil (onto_of ?_)
  refine WP.seq ?_
  refine WP.region ?_
  refine WPL.val (v_move (v := .int .i64 _) rfl) ?_
  refine WPL.val (v_move (v := .int .i64 _) rfl) ?_
  refine WPL.val (v_leq rfl rfl) ?_
  refine WPL.val (v_move (v := .bool _) rfl) ?_
  refine WPL.split 10 rfl (fun h10 => ?_) (fun h10 => ?_)
  ·
    refine WPL.valG (v_move (v := .int .i64 _) rfl) ?_
    refine WPL.valG (v_move (v := .int .i64 _) rfl) ?_
    refine WPL.valG (v_leq rfl rfl) ?_
    refine WPL.val (v_pickT (u := .bool _) rfl rfl) ?_
    refine WPL.val (v_assign (v := .bool _) rfl) ?_
    refine WPL.nil (onto_of ?_)
    exact WP.ret1 Try.results66 (fun _ h => h) (fun w hw => ⟨by first | exact congrArg Value.bool (decide_eq_decide.2 (by omega)) | exact congrArg Value.bool (decide_eq_false (by omega)).symm, hw.symm⟩)
  ·
    refine WPL.skipG ?_
    refine WPL.skipG ?_
    refine WPL.skipG ?_
    refine WPL.val (v_pickF (v := .bool _) rfl rfl) ?_
    refine WPL.val (v_assign (v := .bool _) rfl) ?_
    refine WPL.nil (onto_of ?_)
    exact WP.ret1 Try.results66 (fun _ h => h) (fun w hw => ⟨by first | exact congrArg Value.bool (decide_eq_decide.2 (by omega)) | exact congrArg Value.bool (decide_eq_false (by omega)).symm, hw.symm⟩)
theorem in67_any (n lo hi : Int) (w : World) : Calls Try.prog 67 #[.int .i64 n, .int .i64 lo, .int .i64 hi] w fun e w' => e = .returned (.bool (within n lo hi)) ∧ w = w' := by
  refine enter_pure Try.func67 rfl Try.ntmps67 (by simp) ?_
  refine WP.seq ?_
  refine WP.region ?_
  refine WPL.val (v_assign (v := .bool false) rfl) ?_
  refine WPL.nil (onto_of ?_)
  refine WP.seq ?_
  refine WP.region ?_
  refine WPL.val (v_move (v := .int .i64 _) rfl) ?_
  refine WPL.val (v_move (v := .int .i64 _) rfl) ?_
  refine WPL.val (v_leq rfl rfl) ?_
  refine WPL.val (v_move (v := .bool _) rfl) ?_
  refine WPL.split 10 rfl (fun h10 => ?_) (fun h10 => ?_)
  ·
    refine WPL.valG (v_move (v := .int .i64 _) rfl) ?_
    refine WPL.valG (v_move (v := .int .i64 _) rfl) ?_
    refine WPL.valG (v_leq rfl rfl) ?_
    refine WPL.val (v_pickT (u := .bool _) rfl rfl) ?_
    refine WPL.val (v_assign (v := .bool _) rfl) ?_
    refine WPL.nil (onto_of ?_)
    exact WP.ret1 Try.results67 (fun _ h => h) (fun w hw => ⟨by first | exact congrArg Value.bool (decide_eq_decide.2 (by omega)) | exact congrArg Value.bool (decide_eq_false (by omega)).symm, hw.symm⟩)
  ·
    refine WPL.skipG ?_
    refine WPL.skipG ?_
    refine WPL.skipG ?_
    refine WPL.val (v_pickF (v := .bool _) rfl rfl) ?_
    refine WPL.val (v_assign (v := .bool _) rfl) ?_
    refine WPL.nil (onto_of ?_)
    exact WP.ret1 Try.results67 (fun _ h => h) (fun w hw => ⟨by first | exact congrArg Value.bool (decide_eq_decide.2 (by omega)) | exact congrArg Value.bool (decide_eq_false (by omega)).symm, hw.symm⟩)
theorem in68_any (n lo hi : Int) (w : World) : Calls Try.prog 68 #[.int .i64 n, .int .i64 lo, .int .i64 hi] w fun e w' => e = .returned (.bool (within n lo hi)) ∧ w = w' := by
  refine enter_pure Try.func68 rfl Try.ntmps68 (by simp) ?_
  refine WP.seq ?_
  refine WP.region ?_
  refine WPL.val (v_assign (v := .bool false) rfl) ?_
  refine WPL.nil (onto_of ?_)
  refine WP.seq ?_
  refine WP.region ?_
  refine WPL.val (v_move (v := .int .i64 _) rfl) ?_
  refine WPL.val (v_move (v := .int .i64 _) rfl) ?_
  refine WPL.val (v_leq rfl rfl) ?_
  refine WPL.val (v_move (v := .bool _) rfl) ?_
  refine WPL.split 10 rfl (fun h10 => ?_) (fun h10 => ?_)
  ·
    refine WPL.valG (v_move (v := .int .i64 _) rfl) ?_
    refine WPL.valG (v_move (v := .int .i64 _) rfl) ?_
    refine WPL.valG (v_leq rfl rfl) ?_
    refine WPL.val (v_pickT (u := .bool _) rfl rfl) ?_
    refine WPL.val (v_assign (v := .bool _) rfl) ?_
    refine WPL.nil (onto_of ?_)
    exact WP.ret1 Try.results68 (fun _ h => h) (fun w hw => ⟨by first | exact congrArg Value.bool (decide_eq_decide.2 (by omega)) | exact congrArg Value.bool (decide_eq_false (by omega)).symm, hw.symm⟩)
  ·
    refine WPL.skipG ?_
    refine WPL.skipG ?_
    refine WPL.skipG ?_
    refine WPL.val (v_pickF (v := .bool _) rfl rfl) ?_
    refine WPL.val (v_assign (v := .bool _) rfl) ?_
    refine WPL.nil (onto_of ?_)
    exact WP.ret1 Try.results68 (fun _ h => h) (fun w hw => ⟨by first | exact congrArg Value.bool (decide_eq_decide.2 (by omega)) | exact congrArg Value.bool (decide_eq_false (by omega)).symm, hw.symm⟩)
theorem in69_any (n lo hi : Int) (w : World) : Calls Try.prog 69 #[.int .i64 n, .int .i64 lo, .int .i64 hi] w fun e w' => e = .returned (.bool (within n lo hi)) ∧ w = w' := by
  refine enter_pure Try.func69 rfl Try.ntmps69 (by simp) ?_
  refine WP.seq ?_
  refine WP.region ?_
  refine WPL.val (v_assign (v := .bool false) rfl) ?_
  refine WPL.nil (onto_of ?_)
  refine WP.seq ?_
  refine WP.region ?_
  refine WPL.val (v_move (v := .int .i64 _) rfl) ?_
  refine WPL.val (v_move (v := .int .i64 _) rfl) ?_
  refine WPL.val (v_leq rfl rfl) ?_
  refine WPL.val (v_move (v := .bool _) rfl) ?_
  refine WPL.split 10 rfl (fun h10 => ?_) (fun h10 => ?_)
  ·
    refine WPL.valG (v_move (v := .int .i64 _) rfl) ?_
    refine WPL.valG (v_move (v := .int .i64 _) rfl) ?_
    refine WPL.valG (v_leq rfl rfl) ?_
    refine WPL.val (v_pickT (u := .bool _) rfl rfl) ?_
    refine WPL.val (v_assign (v := .bool _) rfl) ?_
    refine WPL.nil (onto_of ?_)
    exact WP.ret1 Try.results69 (fun _ h => h) (fun w hw => ⟨by first | exact congrArg Value.bool (decide_eq_decide.2 (by omega)) | exact congrArg Value.bool (decide_eq_false (by omega)).symm, hw.symm⟩)
  ·
    refine WPL.skipG ?_
    refine WPL.skipG ?_
    refine WPL.skipG ?_
    refine WPL.val (v_pickF (v := .bool _) rfl rfl) ?_
    refine WPL.val (v_assign (v := .bool _) rfl) ?_
    refine WPL.nil (onto_of ?_)
    exact WP.ret1 Try.results69 (fun _ h => h) (fun w hw => ⟨by first | exact congrArg Value.bool (decide_eq_decide.2 (by omega)) | exact congrArg Value.bool (decide_eq_false (by omega)).symm, hw.symm⟩)
theorem in70_any (n lo hi : Int) (w : World) : Calls Try.prog 70 #[.int .i64 n, .int .i64 lo, .int .i64 hi] w fun e w' => e = .returned (.bool (within n lo hi)) ∧ w = w' := by
  refine enter_pure Try.func70 rfl Try.ntmps70 (by simp) ?_
  refine WP.seq ?_
  refine WP.region ?_
  refine WPL.val (v_assign (v := .bool false) rfl) ?_
  refine WPL.nil (onto_of ?_)
  refine WP.seq ?_
  refine WP.region ?_
  refine WPL.val (v_move (v := .int .i64 _) rfl) ?_
  refine WPL.val (v_move (v := .int .i64 _) rfl) ?_
  refine WPL.val (v_leq rfl rfl) ?_
  refine WPL.val (v_move (v := .bool _) rfl) ?_
  refine WPL.split 10 rfl (fun h10 => ?_) (fun h10 => ?_)
  ·
    refine WPL.valG (v_move (v := .int .i64 _) rfl) ?_
    refine WPL.valG (v_move (v := .int .i64 _) rfl) ?_
    refine WPL.valG (v_leq rfl rfl) ?_
    refine WPL.val (v_pickT (u := .bool _) rfl rfl) ?_
    refine WPL.val (v_assign (v := .bool _) rfl) ?_
    refine WPL.nil (onto_of ?_)
    exact WP.ret1 Try.results70 (fun _ h => h) (fun w hw => ⟨by first | exact congrArg Value.bool (decide_eq_decide.2 (by omega)) | exact congrArg Value.bool (decide_eq_false (by omega)).symm, hw.symm⟩)
  ·
    refine WPL.skipG ?_
    refine WPL.skipG ?_
    refine WPL.skipG ?_
    refine WPL.val (v_pickF (v := .bool _) rfl rfl) ?_
    refine WPL.val (v_assign (v := .bool _) rfl) ?_
    refine WPL.nil (onto_of ?_)
    exact WP.ret1 Try.results70 (fun _ h => h) (fun w hw => ⟨by first | exact congrArg Value.bool (decide_eq_decide.2 (by omega)) | exact congrArg Value.bool (decide_eq_false (by omega)).symm, hw.symm⟩)
theorem in73_any (n lo hi : Int) (w : World) : Calls Try.prog 73 #[.int .i64 n, .int .i64 lo, .int .i64 hi] w fun e w' => e = .returned (.bool (within n lo hi)) ∧ w = w' := by
  refine enter_pure Try.func73 rfl Try.ntmps73 (by simp) ?_
  refine WP.seq ?_
  refine WP.region ?_
  refine WPL.val (v_assign (v := .bool false) rfl) ?_
  refine WPL.nil (onto_of ?_)
  refine WP.seq ?_
  refine WP.region ?_
  refine WPL.val (v_move (v := .int .i64 _) rfl) ?_
  refine WPL.val (v_move (v := .int .i64 _) rfl) ?_
  refine WPL.val (v_geq rfl rfl) ?_
  refine WPL.val (v_move (v := .bool _) rfl) ?_
  refine WPL.split 10 rfl (fun h10 => ?_) (fun h10 => ?_)
  ·
    refine WPL.valG (v_move (v := .int .i64 _) rfl) ?_
    refine WPL.valG (v_move (v := .int .i64 _) rfl) ?_
    refine WPL.valG (v_leq rfl rfl) ?_
    refine WPL.val (v_pickT (u := .bool _) rfl rfl) ?_
    refine WPL.val (v_assign (v := .bool _) rfl) ?_
    refine WPL.nil (onto_of ?_)
    exact WP.ret1 Try.results73 (fun _ h => h) (fun w hw => ⟨by first | exact congrArg Value.bool (decide_eq_decide.2 (by omega)) | exact congrArg Value.bool (decide_eq_false (by omega)).symm, hw.symm⟩)
  ·
    refine WPL.skipG ?_
    refine WPL.skipG ?_
    refine WPL.skipG ?_
    refine WPL.val (v_pickF (v := .bool _) rfl rfl) ?_
    refine WPL.val (v_assign (v := .bool _) rfl) ?_
    refine WPL.nil (onto_of ?_)
    exact WP.ret1 Try.results73 (fun _ h => h) (fun w hw => ⟨by first | exact congrArg Value.bool (decide_eq_decide.2 (by omega)) | exact congrArg Value.bool (decide_eq_false (by omega)).symm, hw.symm⟩)

theorem lenValid_ct (k n : Int) : Ct Try.prog 61 #[.agg #[.int .i64 k, .int .i64 n]] [] (fun _ => True) (X := Unit) (fun _ => .bool (lenOk k n)) (fun _ => True) (fun _ => []) := by
  refine Ct.intro Try.func61 rfl Try.ntmps61 (by simp) (fun w0 _ => ?_)
  refine WP.seq ?_
  refine WP.region ?_
  refine WPL.ef (x_boxA (us := [.int .i64 _, .int .i64 _]) (σ' := fun _ => [_]) rfl (fun _ => rfl)) (fun b1 => ?_)
  refine WPL.val (v_assign (v := .bool false) rfl) ?_
  refine WPL.nil (onto_of ?_)
  refine WP.seq ?_
  refine WP.seq ?_
  refine WP.region ?_
  refine WPL.val (v_fieldL (o' := 0) Try.underlying34 rfl Try.sizeOf32 rfl rfl) ?_
  refine WPL.val (v_load1 (u := .int .i64 _) Try.isAgg32 rfl (fun w hw => hw.cl_at (i := 0) rfl _ rfl)) ?_
  refine WPL.nil (onto_of ?_)
  refine WP.block ?_
  refine WP.seq ?_
  refine WP.region ?_
  refine WPL.val (v_eql rfl rfl) ?_
  refine WPL.val (v_assign (v := .bool _) rfl) ?_
  refine WPL.nil (onto_of ?_)
  refine WP.condP rfl (fun h5 => ?_) (fun h5 => ?_)
  ·
    refine WP.seq ?_
    refine WP.region ?_
    refine WPL.val (v_fieldL (o' := 1) Try.underlying34 rfl Try.sizeOf3 rfl rfl) ?_
    refine WPL.val (v_load1 (u := .int .i64 _) Try.isAgg3 rfl (fun w hw => hw.cl_at (i := 0) rfl _ rfl)) ?_
    refine WPL.val (v_eql rfl rfl) ?_
    refine WPL.val (v_assign (v := .bool _) rfl) ?_
    refine WPL.nil (onto_of ?_)
    exact WP.ret1 Try.results61 (fun _ h => h) (fun w hw => ⟨(), by first | exact congrArg Value.bool (decide_eq_decide.2 (by omega)) | exact congrArg Value.bool (decide_eq_decide.2 (by have h1 := cut_same n; omega)) | exact congrArg Value.bool (decide_eq_decide.2 (by have h2 := clamp_same n; omega)) | exact congrArg Value.bool (decide_eq_false (by omega)).symm, trivial, hw.sel [] (by decide)⟩)
  ·
    refine WP.seq ?_
    refine WP.region ?_
    refine WPL.val (v_eql rfl rfl) ?_
    refine WPL.val (v_assign (v := .bool _) rfl) ?_
    refine WPL.nil (onto_of ?_)
    refine WP.condP rfl (fun h10 => ?_) (fun h10 => ?_)
    ·
      refine WP.seq ?_
      refine WP.drawS none [(0, true), (1, true), (2, true), (3, true), (4, true), (5, true), (6, true)] mixed (by kernel_rfl) (by decide) (fun _ h => h.drawn) ?_
      refine WPD.take rfl (v_fieldL (o' := 1) Try.underlying34 rfl Try.sizeOf3 rfl rfl) ?_ (fun _ h => h)
      refine WPD.take rfl (v_load1 (u := .int .i64 _) Try.isAgg3 rfl (fun w hw => hw.cl_at (i := 0) rfl _ rfl)) ?_ (fun _ h => h)
      refine WPD.take rfl (v_call Try.call78 (fun w hw => cut_any _ _)) ?_ (fun _ h => h)
      refine WPD.take rfl (v_fieldL (o' := 1) Try.underlying34 rfl Try.sizeOf3 rfl rfl) ?_ (fun _ h => h)
      refine WPD.take rfl (v_load1 (u := .int .i64 _) Try.isAgg3 rfl (fun w hw => hw.cl_at (i := 0) rfl _ rfl)) ?_ (fun _ h => h)
      refine WPD.take rfl (v_eql rfl rfl) ?_ (fun _ h => h)
      refine WPD.take rfl (v_assign (v := .bool _) rfl) ?_ (fun _ h => h)
      refine WPD.nil (onto_of ?_)
      exact WP.ret1 Try.results61 (fun _ h => h) (fun w hw => ⟨(), by first | exact congrArg Value.bool (decide_eq_decide.2 (by omega)) | exact congrArg Value.bool (decide_eq_decide.2 (by have h1 := cut_same n; omega)) | exact congrArg Value.bool (decide_eq_decide.2 (by have h2 := clamp_same n; omega)) | exact congrArg Value.bool (decide_eq_false (by omega)).symm, trivial, hw.sel [] (by decide)⟩)
    ·
      refine WP.seq ?_
      refine WP.region ?_
      refine WPL.val (v_eql rfl rfl) ?_
      refine WPL.val (v_assign (v := .bool _) rfl) ?_
      refine WPL.nil (onto_of ?_)
      refine WP.condP rfl (fun h18 => ?_) (fun h18 => ?_)
      ·
        refine WP.seq ?_
        refine WP.drawS none [(0, true), (1, true), (2, true), (3, true), (4, true), (5, true), (6, true)] mixed (by kernel_rfl) (by decide) (fun _ h => h.drawn) ?_
        refine WPD.take rfl (v_fieldL (o' := 1) Try.underlying34 rfl Try.sizeOf3 rfl rfl) ?_ (fun _ h => h)
        refine WPD.take rfl (v_load1 (u := .int .i64 _) Try.isAgg3 rfl (fun w hw => hw.cl_at (i := 0) rfl _ rfl)) ?_ (fun _ h => h)
        refine WPD.take rfl (v_call Try.call79 (fun w hw => clamp_any _ _ _ _)) ?_ (fun _ h => h)
        refine WPD.take rfl (v_fieldL (o' := 1) Try.underlying34 rfl Try.sizeOf3 rfl rfl) ?_ (fun _ h => h)
        refine WPD.take rfl (v_load1 (u := .int .i64 _) Try.isAgg3 rfl (fun w hw => hw.cl_at (i := 0) rfl _ rfl)) ?_ (fun _ h => h)
        refine WPD.take rfl (v_eql rfl rfl) ?_ (fun _ h => h)
        refine WPD.take rfl (v_assign (v := .bool _) rfl) ?_ (fun _ h => h)
        refine WPD.nil (onto_of ?_)
        exact WP.ret1 Try.results61 (fun _ h => h) (fun w hw => ⟨(), by first | exact congrArg Value.bool (decide_eq_decide.2 (by omega)) | exact congrArg Value.bool (decide_eq_decide.2 (by have h1 := cut_same n; omega)) | exact congrArg Value.bool (decide_eq_decide.2 (by have h2 := clamp_same n; omega)) | exact congrArg Value.bool (decide_eq_false (by omega)).symm, trivial, hw.sel [] (by decide)⟩)
      ·
        refine WP.skip (onto_of ?_)
        refine WP.seq ?_
        refine WP.region ?_
        refine WPL.val (v_assign (v := .bool false) rfl) ?_
        refine WPL.nil (onto_of ?_)
        exact WP.ret1 Try.results61 (fun _ h => h) (fun w hw => ⟨(), by first | exact congrArg Value.bool (decide_eq_decide.2 (by omega)) | exact congrArg Value.bool (decide_eq_decide.2 (by have h1 := cut_same n; omega)) | exact congrArg Value.bool (decide_eq_decide.2 (by have h2 := clamp_same n; omega)) | exact congrArg Value.bool (decide_eq_false (by omega)).symm, trivial, hw.sel [] (by decide)⟩)
theorem rlenValid_ct (k n : Int) : Ct Try.prog 74 #[.agg #[.int .i64 k, .int .i64 n]] [] (fun _ => True) (X := Unit) (fun _ => .bool (lenOk k n)) (fun _ => True) (fun _ => []) := by
  refine Ct.intro Try.func74 rfl Try.ntmps74 (by simp) (fun w0 _ => ?_)
  refine WP.seq ?_
  refine WP.region ?_
  refine WPL.ef (x_boxA (us := [.int .i64 _, .int .i64 _]) (σ' := fun _ => [_]) rfl (fun _ => rfl)) (fun b1 => ?_)
  refine WPL.val (v_assign (v := .bool false) rfl) ?_
  refine WPL.nil (onto_of ?_)
  refine WP.seq ?_
  refine WP.seq ?_
  refine WP.region ?_
  refine WPL.val (v_fieldL (o' := 0) Try.underlying34 rfl Try.sizeOf32 rfl rfl) ?_
  refine WPL.val (v_load1 (u := .int .i64 _) Try.isAgg32 rfl (fun w hw => hw.cl_at (i := 0) rfl _ rfl)) ?_
  refine WPL.nil (onto_of ?_)
  refine WP.block ?_
  refine WP.seq ?_
  refine WP.region ?_
  refine WPL.val (v_eql rfl rfl) ?_
  refine WPL.val (v_assign (v := .bool _) rfl) ?_
  refine WPL.nil (onto_of ?_)
  refine WP.condP rfl (fun h5 => ?_) (fun h5 => ?_)
  ·
    refine WP.seq ?_
    refine WP.region ?_
    refine WPL.val (v_fieldL (o' := 1) Try.underlying34 rfl Try.sizeOf3 rfl rfl) ?_
    refine WPL.val (v_load1 (u := .int .i64 _) Try.isAgg3 rfl (fun w hw => hw.cl_at (i := 0) rfl _ rfl)) ?_
    refine WPL.val (v_eql rfl rfl) ?_
    refine WPL.val (v_assign (v := .bool _) rfl) ?_
    refine WPL.nil (onto_of ?_)
    exact WP.ret1 Try.results74 (fun _ h => h) (fun w hw => ⟨(), by first | exact congrArg Value.bool (decide_eq_decide.2 (by omega)) | exact congrArg Value.bool (decide_eq_false (by omega)).symm, trivial, hw.sel [] (by decide)⟩)
  ·
    refine WP.seq ?_
    refine WP.region ?_
    refine WPL.val (v_eql rfl rfl) ?_
    refine WPL.val (v_assign (v := .bool _) rfl) ?_
    refine WPL.nil (onto_of ?_)
    refine WP.condP rfl (fun h10 => ?_) (fun h10 => ?_)
    ·
      refine WP.seq ?_
      refine WP.region ?_
      refine WPL.val (v_fieldL (o' := 1) Try.underlying34 rfl Try.sizeOf3 rfl rfl) ?_
      refine WPL.val (v_load1 (u := .int .i64 _) Try.isAgg3 rfl (fun w hw => hw.cl_at (i := 0) rfl _ rfl)) ?_
      refine WPL.val (v_geq rfl rfl) ?_
      refine WPL.val (v_move (v := .bool _) rfl) ?_
      refine WPL.split 15 rfl (fun h15 => ?_) (fun h15 => ?_)
      ·
        refine WPL.valG (v_fieldL (o' := 1) Try.underlying34 rfl Try.sizeOf3 rfl rfl) ?_
        refine WPL.valG (v_load1 (u := .int .i64 _) Try.isAgg3 rfl (fun w hw => hw.cl_at (i := 0) rfl _ rfl)) ?_
        refine WPL.valG (v_leq rfl rfl) ?_
        refine WPL.val (v_pickT (u := .bool _) rfl rfl) ?_
        refine WPL.val (v_assign (v := .bool _) rfl) ?_
        refine WPL.nil (onto_of ?_)
        exact WP.ret1 Try.results74 (fun _ h => h) (fun w hw => ⟨(), by first | exact congrArg Value.bool (decide_eq_decide.2 (by omega)) | exact congrArg Value.bool (decide_eq_false (by omega)).symm, trivial, hw.sel [] (by decide)⟩)
      ·
        refine WPL.skipG ?_
        refine WPL.skipG ?_
        refine WPL.skipG ?_
        refine WPL.val (v_pickF (v := .bool _) rfl rfl) ?_
        refine WPL.val (v_assign (v := .bool _) rfl) ?_
        refine WPL.nil (onto_of ?_)
        exact WP.ret1 Try.results74 (fun _ h => h) (fun w hw => ⟨(), by first | exact congrArg Value.bool (decide_eq_decide.2 (by omega)) | exact congrArg Value.bool (decide_eq_false (by omega)).symm, trivial, hw.sel [] (by decide)⟩)
    ·
      refine WP.seq ?_
      refine WP.region ?_
      refine WPL.val (v_eql rfl rfl) ?_
      refine WPL.val (v_assign (v := .bool _) rfl) ?_
      refine WPL.nil (onto_of ?_)
      refine WP.condP rfl (fun h20 => ?_) (fun h20 => ?_)
      ·
        refine WP.seq ?_
        refine WP.region ?_
        refine WPL.val (v_fieldL (o' := 1) Try.underlying34 rfl Try.sizeOf3 rfl rfl) ?_
        refine WPL.val (v_load1 (u := .int .i64 _) Try.isAgg3 rfl (fun w hw => hw.cl_at (i := 0) rfl _ rfl)) ?_
        refine WPL.val (v_geq rfl rfl) ?_
        refine WPL.val (v_move (v := .bool _) rfl) ?_
        refine WPL.split 25 rfl (fun h25 => ?_) (fun h25 => ?_)
        ·
          refine WPL.valG (v_fieldL (o' := 1) Try.underlying34 rfl Try.sizeOf3 rfl rfl) ?_
          refine WPL.valG (v_load1 (u := .int .i64 _) Try.isAgg3 rfl (fun w hw => hw.cl_at (i := 0) rfl _ rfl)) ?_
          refine WPL.valG (v_leq rfl rfl) ?_
          refine WPL.val (v_pickT (u := .bool _) rfl rfl) ?_
          refine WPL.val (v_assign (v := .bool _) rfl) ?_
          refine WPL.nil (onto_of ?_)
          exact WP.ret1 Try.results74 (fun _ h => h) (fun w hw => ⟨(), by first | exact congrArg Value.bool (decide_eq_decide.2 (by omega)) | exact congrArg Value.bool (decide_eq_false (by omega)).symm, trivial, hw.sel [] (by decide)⟩)
        ·
          refine WPL.skipG ?_
          refine WPL.skipG ?_
          refine WPL.skipG ?_
          refine WPL.val (v_pickF (v := .bool _) rfl rfl) ?_
          refine WPL.val (v_assign (v := .bool _) rfl) ?_
          refine WPL.nil (onto_of ?_)
          exact WP.ret1 Try.results74 (fun _ h => h) (fun w hw => ⟨(), by first | exact congrArg Value.bool (decide_eq_decide.2 (by omega)) | exact congrArg Value.bool (decide_eq_false (by omega)).symm, trivial, hw.sel [] (by decide)⟩)
      ·
        refine WP.skip (onto_of ?_)
        refine WP.seq ?_
        refine WP.region ?_
        refine WPL.val (v_assign (v := .bool false) rfl) ?_
        refine WPL.nil (onto_of ?_)
        exact WP.ret1 Try.results74 (fun _ h => h) (fun w hw => ⟨(), by first | exact congrArg Value.bool (decide_eq_decide.2 (by omega)) | exact congrArg Value.bool (decide_eq_false (by omega)).symm, trivial, hw.sel [] (by decide)⟩)

end Go.Proofs.Ytmjdmlgdffoimaa
