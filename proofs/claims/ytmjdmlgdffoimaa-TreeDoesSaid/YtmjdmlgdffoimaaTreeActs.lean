/- Acts as an argument, opened. -/
import Derived.Test.YtmjdmlgdffoimaaTreeLeast
import Derived.Test.YtmjdmlgdffoimaaOpen
namespace Go.Proofs.Ytmjdmlgdffoimaa
open Go.ChangeShapes Go.WideShapes Go.ChangeAt Go.RowKit Go.Deep

theorem leavesT {ks : List Bool} {cs : List Value} (h : leavesB (true :: ks) cs = true) : ∃ (z : Int) (vs : List Value), cs = .int .i64 z :: vs ∧ leavesB ks vs = true := by
  match cs, h with
  | v :: vs, h =>
    simp only [leavesB, Bool.and_eq_true] at h
    obtain ⟨z, hz⟩ := leavesI (cs := [v]) (by simpa [leavesB] using h.1)
    cases hz
    exact ⟨z, vs, rfl, h.2⟩
  | [], h => simp [leavesB] at h
theorem actOf (cs : List Value) (h : leavesB (true :: true :: true :: true :: leafS) cs = true) (_ : ∀ u ∈ cs, Bd u) : ∃ x : AC, encA x = cs := by
  obtain ⟨a, v1, rfl, h1⟩ := leavesT h
  obtain ⟨b, v2, rfl, h2⟩ := leavesT h1
  obtain ⟨c, v3, rfl, h3⟩ := leavesT h2
  obtain ⟨d, v4, rfl, h4⟩ := leavesT h3
  exact ⟨⟨⟨a, b, c, d, v4⟩, SOk.of_leaves h4⟩, rfl⟩
set_option maxRecDepth 100000 in
theorem open_acts {H : Type} {enc : TypeId × Value → H} {W : World} {base : Nat} {sp : Nat → Bool} {held : Bool} {v : Value} {x : DataW H} {p : List MemPlace} {b0 : Nat} {r : Reach}
    (hv : Value.okWide Try.prog W r b0 22 v) (h : DataW.Trod enc Try.prog W base sp held 22 v x p) : ∃ (A : Option Addr) (l : List AC) (c : Nat), v = .slice A l.length c ∧ RdE W A 59 encA l := by
  obtain ⟨A, l, c, rfl, hrd, _, _, h3⟩ := open_flats Try.underlying22 (show leafK Try.prog 10 45 = some (true :: true :: true :: true :: leafS) by kernel_rfl) (by kernel_rfl) (by decide) hv h
  obtain ⟨m, _, e2, hm⟩ := RdE.typed (α := AC) (E := encA) actOf h3 hrd
  exact ⟨A, m, c, by rw [e2], hm⟩
end Go.Proofs.Ytmjdmlgdffoimaa
