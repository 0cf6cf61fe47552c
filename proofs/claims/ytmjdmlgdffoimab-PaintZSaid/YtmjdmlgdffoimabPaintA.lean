/- What the statements of layer 16 share. -/
import Derived.Test.YtmjdmlgdffoimabPaintWk
import Derived.Test.YtmjdmlgdffoimabRecRow
import Derived.Test.YtmjdmlgdffoimabOpen
namespace Go.Proofs.Ytmjdmlgdffoimab
open Go.RowKit Go.ChangeShapes Go.WideShapes Go.ChangeAt Go.Deep

theorem leavesT {ks : List Bool} {cs : List Value} (h : leavesB (true :: ks) cs = true) : ∃ (z : Int) (vs : List Value), cs = .int .i64 z :: vs ∧ leavesB ks vs = true := by
  match cs, h with
  | v :: vs, h =>
    simp only [leavesB, Bool.and_eq_true] at h
    obtain ⟨z, hz⟩ := leavesI (cs := [v]) (by simpa [leavesB] using h.1)
    cases hz
    exact ⟨z, vs, rfl, h.2⟩
  | [], h => simp [leavesB] at h
theorem leavesF {ks : List Bool} {cs : List Value} (h : leavesB (false :: ks) cs = true) : ∃ (z : Bool) (vs : List Value), cs = .bool z :: vs ∧ leavesB ks vs = true := by
  match cs, h with
  | v :: vs, h =>
    simp only [leavesB, Bool.and_eq_true] at h
    obtain ⟨h1, h2⟩ := h
    unfold leafB at h1
    split at h1 <;> first | exact ⟨_, vs, rfl, h2⟩ | (exfalso; simp_all; done)
  | [], h => simp [leavesB] at h
theorem nodeOf (cs : List Value) (h : leavesB [true, false, true] cs = true) (_ : ∀ u ∈ cs, Bd u) : ∃ x : PN, encN x = cs := by
  obtain ⟨a, v1, rfl, h1⟩ := leavesT h
  obtain ⟨b, v2, rfl, h2⟩ := leavesF h1
  obtain ⟨c, v3, rfl, h3⟩ := leavesT h2
  cases v3 with
  | nil => exact ⟨⟨a, b, c⟩, rfl⟩
  | cons _ _ => simp [leavesB] at h3
theorem open_nodes {H : Type} {enc : TypeId × Value → H} {W : World} {base : Nat} {sp : Nat → Bool} {held : Bool} {v : Value} {x : DataW H} {p : List MemPlace} {b0 : Nat} {r : Reach}
    (hv : Value.okWide Try.prog W r b0 22 v) (h : DataW.Trod enc Try.prog W base sp held 22 v x p) : ∃ (A : Option Addr) (l : List PN) (c : Nat), v = .slice A l.length c ∧ RdN W A l ∧ l.length ≤ c := by
  obtain ⟨A, l, c, rfl, hrd, hlc, _, h3⟩ := open_flats Try.underlying22 (show leafK Try.prog 10 39 = some [true, false, true] by kernel_rfl) (by kernel_rfl) (by decide) hv h
  obtain ⟨m, _, e2, hm⟩ := RdE.typed (α := PN) (E := encN) nodeOf h3 hrd
  exact ⟨A, m, c, by rw [e2], hm, by omega⟩
section
variable (A : Option Addr) (c : Nat) (L : List PN) (hL : L.length ≤ 1000) (hcap : L.length ≤ c) (hok : okP L = true) (hne : L ≠ [])
include hL hcap hok hne
theorem orderP_ct : Ct Try.prog 16 #[.slice A L.length c] [] (fun w => RdN w A L) (X := Option Addr × Nat) (fun p => .slice p.1 (PT L 0).length p.2) (fun _ => True) (fun p => [kidsI p.1 (PT L 0).length p.2 (PT L 0)]) := by
  have h := order_ct A c L hL hcap
  rw [ordP_ok hne hok] at h
  exact h
theorem beforeP_ct (a b : Int) : Ct Try.prog 20 #[.slice A L.length c, .int .i64 a, .int .i64 b] [] (fun w => RdN w A L) (X := Unit) (fun _ => .bool (befP (PT L 0) a b)) (fun _ => True) (fun _ => []) := by
  have h := before_ct A c L hL hcap a b
  rw [ordP_ok hne hok] at h
  exact h
end
theorem idxP_inj : ∀ {l : List Int} {x y : Int}, 0 ≤ idxP l x → idxP l x = idxP l y → x = y
  | [], x, y, h, _ => by simp [idxP] at h
  | z :: l, x, y, h, e => by
    have hx := idxP_ge l x
    have hy := idxP_ge l y
    unfold idxP at h e
    by_cases h1 : z = x
    · by_cases h2 : z = y
      · exact h1.symm.trans h2
      · rw [if_pos h1, if_neg h2] at e
        split at e <;> omega
    · rw [if_neg h1] at e h
      by_cases h3 : idxP l x < 0
      · rw [if_pos h3] at h; omega
      · rw [if_neg h3] at e h
        by_cases h2 : z = y
        · rw [if_pos h2] at e; omega
        · rw [if_neg h2] at e
          by_cases h4 : idxP l y < 0
          · rw [if_pos h4] at e; omega
          · rw [if_neg h4] at e
            exact idxP_inj (l := l) (by omega) (by omega)
theorem bef_ne {o : List Int} {a b : Int} (h : befP o a b = true) : a ≠ b := fun e => by subst e; have := bef_asym h; rw [h] at this; cases this
theorem bef_tot {o : List Int} {a b : Int} (ha : a ∈ o) (hb : b ∈ o) (hne : a ≠ b) (h : befP o a b = false) : befP o b a = true := by
  have h1 := ((idxP_ge o a).2).2 ha
  have h2 := ((idxP_ge o b).2).2 hb
  unfold befP at *
  rw [decide_eq_true_iff]
  rw [decide_eq_false_iff_not] at h
  have : idxP o a ≠ idxP o b := fun e => hne (idxP_inj h1 e)
  omega
theorem bef_trans {o : List Int} {a b c : Int} (h1 : befP o a b = true) (h2 : befP o b c = true) : befP o a c = true := by
  unfold befP at *
  rw [decide_eq_true_iff] at *
  omega
end Go.Proofs.Ytmjdmlgdffoimab
