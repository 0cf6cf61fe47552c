/- Nodes in memory; a row that is cut. -/
import Derived.Test.YtmjdmlgdffoimabMapR
import Derived.Test.YtmjdmlgdffoimabOps2
import Derived.Test.YtmjdmlgdffoimabPaintLaw
namespace Go.Proofs.Ytmjdmlgdffoimab
open Go.RowKit

abbrev encN (n : PN) : List Value := [.int .i64 n.up, .bool n.lay, .int .i64 n.z]
abbrev RdN (w : World) (A : Option Addr) (L : List PN) : Prop := RdE w A 3 encN L
abbrev intsI (A : Option Addr) (c : Nat) (l : List Int) : HI := .row 3 1 A l.length c (l.map (Value.int .i64))
theorem take_snoc {α : Type} {l : List α} {i : Nat} {e : α} (h : l[i]? = some e) : l.take (i + 1) = l.take i ++ [e] := by
  rw [List.take_add_one, h]; rfl
theorem CellsAt.one {w : World} {b o o' j : Nat} {us : List Value} {u : Value} (h : CellsAt w b o us) (hj : us[j]? = some u) (ho : o' = o + j) : CellsAt w b o' [u] := by
  subst ho
  intro i v hi
  match i, hi with
  | 0, hi => cases hi; exact h j u hj
  | i + 1, hi => simp at hi
section
variable {w0 w : World} {M : Nat → Prop} {σ : List HI}
theorem St.row_cap {i n cap sz : Nat} {t : TypeId} {A : Option Addr} {xs : List Value} (h : St w0 M σ w) (hi : σ[i]? = some (.row t sz A n cap xs)) : n ≤ cap := by
  have h1 : w.ownsRow 0 t sz (.slice A n cap) n xs := h.all _ (List.mem_of_getElem? hi)
  rcases h1.2 with ⟨_, hn⟩ | ⟨gb, cap', cur, hv, _, _, hnc, _⟩
  · omega
  · injection hv with e1 e2 e3; omega
theorem St.rowCut {i n k cap sz : Nat} {t : TypeId} {A : Option Addr} {xs : List Value} (h : St w0 M σ w) (hi : σ[i]? = some (.row t sz A n cap xs)) (hk : k ≤ n) : St w0 M (σ.set i (.row t sz A k cap (xs.take (k * sz)))) w := by
  have h1 := h.all _ (List.mem_of_getElem? hi)
  refine h.upd hi ⟨rfl, rfl, rfl, Nat.le_refl _, fun _ _ _ => rfl, ?_, List.pairwise_singleton _ _, ?_⟩
  · intro j hj
    obtain rfl : j = _ := by simpa using hj
    exact row_cut h1 hk
  · intro j hj b hb
    obtain rfl : j = _ := by simpa using hj
    exact .inr ⟨_, List.mem_singleton_self _, hb⟩
end
theorem upN {L : List PN} {i : Nat} {n : PN} (h : L[i]? = some n) : upP L i = n.up := (upP_at h).1
theorem layN {L : List PN} {i : Nat} {n : PN} (h : L[i]? = some n) : layP L i = n.lay := (upP_at h).2.1
theorem zN {L : List PN} {i : Nat} {n : PN} (h : L[i]? = some n) : zP L i = n.z := (upP_at h).2.2
end Go.Proofs.Ytmjdmlgdffoimab
