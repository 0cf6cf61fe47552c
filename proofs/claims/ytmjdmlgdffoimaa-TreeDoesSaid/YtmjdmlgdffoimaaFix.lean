/- Package fix: what its functions compute. -/
import Derived.Test.YtmjdmlgdffoimaaCall
namespace Go.Proofs.Ytmjdmlgdffoimaa
open Go.RowKit

def cut (n : Int) : Int := min (max n (-1099511627776)) 1099511627776
def clamp (n lo hi : Int) : Int := max (cut lo) (min (cut n) (cut hi))

theorem cut_bd (n : Int) : -1099511627776 ≤ cut n ∧ cut n ≤ 1099511627776 := by unfold cut; omega
theorem cut_id {n : Int} (h : -1099511627776 ≤ n) (h' : n ≤ 1099511627776) : cut n = n := by unfold cut; omega
theorem clamp_in {n lo hi : Int} (h0 : -1099511627776 ≤ lo) (h1 : lo ≤ hi) (h2 : hi ≤ 1099511627776) : clamp n lo hi = max lo (min n hi) := by
  unfold clamp cut; omega

theorem cut_any (n : Int) (w : World) :
    Calls Try.prog 78 #[.int .i64 n] w fun e w' => e = .returned (.int .i64 (cut n)) ∧ w = w' := by
  refine enter_pure Try.func78 rfl Try.ntmps78 (by simp) ?_
  refine WP.seq ?_
  refine WP.region ?_
  refine WPL.val (v_assign (v := .int .i64 (0)) rfl) ?_
  refine WPL.nil (onto_of ?_)
  refine WP.seq ?_
  refine WP.region ?_
  refine WPL.val (v_move (v := .int .i64 _) rfl) ?_
  refine WPL.val (v_max rfl rfl) ?_
  refine WPL.val (v_min rfl rfl) ?_
  refine WPL.val (v_assign (v := .int .i64 _) rfl) ?_
  refine WPL.nil (onto_of ?_)
  exact WP.ret1 Try.results78 (fun _ h => h) (fun w hw => ⟨rfl, hw.symm⟩)
theorem clamp_any (n lo hi : Int) (w : World) :
    Calls Try.prog 79 #[.int .i64 n, .int .i64 lo, .int .i64 hi] w fun e w' => e = .returned (.int .i64 (clamp n lo hi)) ∧ w = w' := by
  refine enter_pure Try.func79 rfl Try.ntmps79 (by simp) ?_
  refine WP.seq ?_
  refine WP.region ?_
  refine WPL.val (v_assign (v := .int .i64 (0)) rfl) ?_
  refine WPL.nil (onto_of ?_)
  refine WP.seq ?_
  refine WP.region ?_
  refine WPL.val (v_move (v := .int .i64 _) rfl) ?_
  refine WPL.val (v_call Try.call78 (fun w hw => cut_any _ _)) ?_
  refine WPL.val (v_move (v := .int .i64 _) rfl) ?_
  refine WPL.val (v_call Try.call78 (fun w hw => cut_any _ _)) ?_
  refine WPL.val (v_move (v := .int .i64 _) rfl) ?_
  refine WPL.val (v_call Try.call78 (fun w hw => cut_any _ _)) ?_
  refine WPL.val (v_min rfl rfl) ?_
  refine WPL.val (v_max rfl rfl) ?_
  refine WPL.val (v_assign (v := .int .i64 _) rfl) ?_
  refine WPL.nil (onto_of ?_)
  exact WP.ret1 Try.results79 (fun _ h => h) (fun w hw => ⟨rfl, hw.symm⟩)
end Go.Proofs.Ytmjdmlgdffoimaa
