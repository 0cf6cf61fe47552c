/- The arguments of flex's laws, opened; the rows' common end. -/
import Derived.Test.YtabdcfobdehhiaaFlexWorks
import Derived.Test.YtabdcfobdehhiaaLaw
namespace Go.Proofs.Ytabdcfobdehhiaa
open Go.ChangeShapes Go.WideShapes Go.ChangeAt Go.RowKit Go.Deep

section
variable {H : Type} {enc : TypeId × Value → H} {W : World} {base b0 : Nat} {sp : Nat → Bool} {held : Bool} {v : Value} {d : DataW H} {p : List MemPlace} {r : Reach}
set_option maxRecDepth 100000 in
theorem open_fitems (hv : Value.okWide Try.prog W r b0 22 v) (h : DataW.Trod enc Try.prog W base sp held 22 v d p) :
    ∃ (A : Option Addr) (l : List FItem) (c : Nat), v = .slice A l.length c ∧ RdE W A 5 FItem.enc l ∧ l.length ≤ 9223372036854775807 := by
  obtain ⟨A, len, cap, rfl⟩ := okWide_slice Try.underlying22 hv
  obtain ⟨fuel, hf⟩ := h
  rcases open_slice_fields Try.underlying22 Try.underlying28 (by kernel_rfl) (by kernel_rfl) hf with hcs | ⟨a, len', cap', m, hcs, hl, hm, hlm, hi⟩
  · simp [Value.cells] at hcs
    obtain ⟨rfl, rfl, rfl⟩ := hcs
    exact ⟨none, [], 0, rfl, RdE.nil _ _ _ _, by simp⟩
  · simp [Value.cells] at hcs
    obtain ⟨rfl, rfl, rfl⟩ := hcs
    obtain ⟨l, hll, hrd⟩ := rdE_of (enc := FItem.enc) (sz := 5) (w := W) (a := a) (fun x => ⟨_, rfl⟩) len (fun i him => by
      have him : i < m := by omega
      obtain ⟨v0, y0, n0, c0, t0⟩ := hi i him 0 _ rfl
      obtain ⟨v1, y1, n1, c1, t1⟩ := hi i him 1 _ rfl
      obtain ⟨v2, y2, n2, c2, t2⟩ := hi i him 2 _ rfl
      obtain ⟨v3, y3, n3, c3, t3⟩ := hi i him 3 _ rfl
      obtain ⟨v4, y4, n4, c4, t4⟩ := hi i him 4 _ rfl
      obtain ⟨z0, e0, _⟩ := DataW.trod_int Try.underlying3 t0
      obtain ⟨z1, e1, _⟩ := DataW.trod_int Try.underlying3 t1
      obtain ⟨z2, e2, _⟩ := DataW.trod_int Try.underlying3 t2
      obtain ⟨z3, e3, _⟩ := DataW.trod_int Try.underlying3 t3
      obtain ⟨z4, e4, _⟩ := DataW.trod_int Try.underlying3 t4
      cases e0; cases e1; cases e2; cases e3; cases e4
      refine ⟨⟨z0, z1, z2, z3, z4⟩, fun j u hu => ?_⟩
      match j, hu with
      | 0, hu => cases hu; exact c0
      | 1, hu => cases hu; exact c1
      | 2, hu => cases hu; exact c2
      | 3, hu => cases hu; exact c3
      | 4, hu => cases hu; exact c4
      | j + 5, hu => simp at hu)
    exact ⟨some a, l, cap, by rw [hll], hrd, by unfold maxLen at hm; omega⟩
end
/-- What a law's walk leaves, as the row wants it. -/
theorem Ct.law {f : FuncId} {args : Array Value} {Fact : World → Prop} (h : Ct Try.prog f args [] Fact (X := Unit) (fun _ => .bool true) (fun _ => True) (fun _ => [])) {W : World} (hF : Fact W) :
    Calls Try.prog f args W fun e W' => e = .returned (.bool true) ∧ Below W.heap.size W W' := by
  refine (h W (by simp) (by simp) hF).mono ?_
  rintro e W' ⟨_, rfl, _, hs⟩
  rw [foots_nil] at hs
  exact ⟨rfl, hs.below⟩
end Go.Proofs.Ytabdcfobdehhiaa
