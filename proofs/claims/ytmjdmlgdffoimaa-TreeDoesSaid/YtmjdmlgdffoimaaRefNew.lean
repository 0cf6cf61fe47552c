/- The document's New. -/
import Derived.Test.YtmjdmlgdffoimaaRefMove
namespace Go.Proofs.Ytmjdmlgdffoimaa
open Go.RowKit

def liveRB (up : Int) : RB := ⟨true, up, none, 0, [], zeroS⟩
theorem liveRB_one (up : Int) : ∀ v ∈ (liveRB up).cells, v.oneCell' = true := by
  intro v hv
  simp only [RB.cells, liveRB, List.mem_cons] at hv
  rcases hv with rfl | rfl | rfl | hv
  · rfl
  · rfl
  · rfl
  · exact zeroS_ok.one v hv
theorem rnew_ok : absR [liveRB (-1)] = newF zeroS ∧ ROk [liveRB (-1)] := by
  refine ⟨?_, fun b hb => ?_⟩
  · funext y
    unfold newF
    by_cases h : y = 0
    · subst h; rfl
    · by_cases h1 : y < 0
      · rw [absR_neg h1, if_neg h]
      · rw [absR_out (by simp; omega), if_neg h]
  · obtain rfl : b = _ := by simpa using hb
    exact zeroS_ok
set_option maxRecDepth 100000 in
theorem rnew_ct : Ct Try.prog 12 #[] [] (fun _ => True) (X := Nat × Nat) (fun p => .pointer (some ⟨p.1, 0, none⟩)) (fun _ => True) (fun p => [refI p.1 p.2 1 [liveRB (-1)]]) := by
  refine Ct.intro Try.func12 rfl Try.ntmps12 (by simp) (fun w0 _ => ?_)
  refine WP.seq ?_
  refine WP.region ?_
  refine WPL.val (v_assign (v := .pointer none) rfl) ?_
  refine WPL.nil (onto_of ?_)
  refine WP.seq ?_
  refine WP.region ?_
  refine WPL.val (v_struct (us := (liveRB (-1)).cells) (pl := [(0, 1), (1, 1), (2, 1), (3, 55)]) Try.underlying74 Try.zeroValue74 rfl (by kernel_rfl) rfl rfl (by kernel_rfl)) ?_
  refine WPL.ef (x_buildSlice (us := (liveRB (-1)).cells) (σ' := fun _ => [_]) Try.underlying75 Try.sizeOf74 Try.zeroValue74 rfl rfl rfl (by decide) (by decide) (fun _ => rfl)) (fun g2 => ?_)
  refine WPL.val (v_struct (us := [.slice _ _ _]) (pl := [(0, 1)]) Try.underlying77 Try.zeroValue77 rfl (by kernel_rfl) rfl rfl (by kernel_rfl)) ?_
  refine WPL.ef (x_boxA (us := [.slice _ _ _]) (σ' := fun _ => [_, _]) rfl (fun _ => rfl)) (fun b4 => ?_)
  refine WPL.val (v_assign (v := .pointer _) rfl) ?_
  refine WPL.nil (onto_of ?_)
  exact WP.ret1 Try.results12 (fun _ h => h) (fun w hw => ⟨(b4, g2), rfl, trivial, St.shutF (bs := [liveRB (-1)]) (St.pack (τ := [(liveRB (-1)).row]) (((hw.sel [0, 1] (by decide)).nilRow 3 1).sel [2, 0, 1] (by decide)) |>.sel [2, 1, 0] (by decide))⟩)
end Go.Proofs.Ytmjdmlgdffoimaa
