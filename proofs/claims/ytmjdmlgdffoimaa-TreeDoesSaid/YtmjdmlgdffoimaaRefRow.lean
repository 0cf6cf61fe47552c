/- Rows of boxes of many cells: as buffers; a store of many cells into them. -/
import Derived.Test.YtmjdmlgdffoimaaOps2
namespace Go.Proofs.Ytmjdmlgdffoimaa
open Go.RowKit

section
variable {w0 w : World} {M : Nat → Prop} {σ σ' : List HI}
theorem St.bufN {i g n cap sz : Nat} {t : TypeId} {xs : List Value} (h : St w0 M σ w) (hi : σ[i]? = some (.row t sz (some ⟨g, 0, none⟩) n cap xs)) : ∃ rest : List Value, (xs.length = n * sz ∧ n * sz + rest.length = cap * sz ∧ n ≤ cap ∧ cap ≤ maxLen) ∧ St w0 M (σ.set i (.cl g t (xs ++ rest))) w := by
  have h1 : w.ownsRow 0 t sz (.slice (some ⟨g, 0, none⟩) n cap) n xs := h.all _ (List.mem_of_getElem? hi)
  obtain ⟨hl, h2⟩ := h1
  rcases h2 with ⟨hv, _⟩ | ⟨gb, cap', cur, hv, _, hh, hnc, hm, hsz, htake⟩
  · cases hv
  · injection hv with e1 e2 e3
    injection e1 with e1
    injection e1 with e1
    subst e1 e3
    have hcur : cur.toList.length = cap * sz := by simpa using hsz
    have hle : n * sz ≤ cap * sz := Nat.mul_le_mul_right _ hnc
    refine ⟨cur.toList.drop (n * sz), ⟨hl, by rw [List.length_drop]; omega, hnc, hm⟩, ?_⟩
    have e : xs ++ cur.toList.drop (n * sz) = cur.toList := by rw [← htake]; exact List.take_append_drop (n * sz) cur.toList
    rw [e]
    refine h.upd hi (St.turn (fun _ _ _ => rfl) ?_ (fun b hb => .inr ⟨_, rfl, hb⟩) rfl rfl rfl (Nat.le_refl _))
    show w.heap[g]? = some (.cells cur.toList.toArray t (0, 0))
    rw [Array.toArray_toList]; exact hh
theorem St.unbufN {i g n cap sz : Nat} {t : TypeId} {cs : List Value} (h : St w0 M σ w) (hi : σ[i]? = some (.cl g t cs)) (hl : cs.length = cap * sz) (hm : cap ≤ maxLen) (hn : n ≤ cap) : St w0 M (σ.set i (.row t sz (some ⟨g, 0, none⟩) n cap (cs.take (n * sz)))) w := by
  have h1 : w.heap[g]? = some (.cells cs.toArray t (0, 0)) := h.all _ (List.mem_of_getElem? hi)
  have hle : n * sz ≤ cap * sz := Nat.mul_le_mul_right _ hn
  refine h.upd hi (St.turn (fun _ _ _ => rfl) ?_ (fun b hb => .inr (by obtain ⟨a, ha, e⟩ := hb; cases ha; exact e)) rfl rfl rfl (Nat.le_refl _))
  exact ⟨by rw [List.length_take]; omega, .inr ⟨g, cap, cs.toArray, rfl, Nat.zero_le _, h1, hn, hm, by simp [hl], by simp⟩⟩
theorem setL_front (xs rest : List Value) : ∀ (us : List Value) (xs : List Value) (o : Nat), o + us.length ≤ xs.length → setL (xs ++ rest) o us = setL xs o us ++ rest
  | [], xs, o, _ => rfl
  | u :: us, xs, o, h => by
    simp only [List.length_cons] at h
    rw [setL, setL, List.set_append_left _ _ (by omega)]
    exact setL_front xs rest us _ _ (by rw [List.length_set]; omega)
variable {P : Program} {r : Option Nat} {ρ : Env} {dst : Option Tmp} {ty : TypeId} {pos : String} {af : Array Edge} {g' : Option (Nat × Bool)} {t : TypeId} {x y : Operand}
theorem x_storeRowA {i g o n cap sz k : Nat} {us : List Value} {tc : TypeId} {xs : List Value} (hz : ∀ w, (sizeOf t).run P w = .ok k w) (hx : evo ρ x = .pointer (some ⟨g, o, none⟩)) (hy : evo ρ y = .agg us.toArray) (hi : σ[i]? = some (.row tc sz (some ⟨g, 0, none⟩) n cap xs)) (ho : o + us.length ≤ xs.length)
    (hσ : σ.set i (.row tc sz (some ⟨g, 0, none⟩) n cap (setL xs o us)) = σ') (h1 : ∀ u ∈ us, u.oneCell' = true) (hk : us.length = k := by rfl) : OpX P r (St w0 M σ) ⟨dst, .store t x y, ty, pos, af, g'⟩ ρ (X := Unit) (fun _ => undef) (fun _ => St w0 M σ') := by
  intro w hw
  obtain ⟨rest, ⟨a1, a2, a3, a4⟩, h2⟩ := hw.bufN hi
  have hlt := (List.getElem?_eq_some_iff.1 hi).1
  have h3 := x_storeA (P := P) (r := r) (ρ := ρ) (w0 := w0) (M := M) (σ := σ.set i (.cl g tc (xs ++ rest))) (σ' := (σ.set i (.cl g tc (xs ++ rest))).set i (.cl g tc (setL (xs ++ rest) o us))) (dst := dst) (ty := ty) (pos := pos) (af := af) (g := g') hz hx hy (i := i) (by rw [List.getElem?_set_self hlt]) (by rw [List.length_append]; omega) rfl h1 hk w h2
  intro a ha K Q hK
  refine h3 a ha K Q fun u w' hw' => hK u w' ?_
  have h4 : St w0 M (((σ.set i (.cl g tc (xs ++ rest))).set i (.cl g tc (setL (xs ++ rest) o us))).set i (.row tc sz (some ⟨g, 0, none⟩) n cap ((setL (xs ++ rest) o us).take (n * sz)))) w' :=
    St.unbufN hw' (i := i) (by rw [List.getElem?_set_self (by rw [List.length_set]; exact hlt)]) (by rw [setL_length, List.length_append]; omega) a4 a3
  rw [List.set_set, List.set_set, setL_front xs rest us xs o ho, List.take_left' (by rw [setL_length]; exact a1), hσ] at h4
  exact h4
end
end Go.Proofs.Ytmjdmlgdffoimaa
