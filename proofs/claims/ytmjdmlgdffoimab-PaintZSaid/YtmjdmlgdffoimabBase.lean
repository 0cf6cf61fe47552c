/- General words of these proofs: slices that are read, blocks, small laws of the walk. -/
import Derived.Test.YtmjdmlgdffoimabProg
import Derived.WalkKit
import Derived.WalkSpells
import Derived.WalkLawsBesides
import Derived.Handy
import Derived.Deep.QuietTactic
import Derived.BigQuiet
import Derived.Deep.Draws
import Derived.Lib.Hide
namespace Go.Proofs.Ytmjdmlgdffoimab
open Go.RowKit

/-! ### max and min of two -/
@[go_sem ↓] theorem run_max2 (P : Program) (w : World) (ats : Array TypeId) (ty : TypeId) (x y : Int) :
    (Builtin.max_ ats ty #[.int .i64 x, .int .i64 y]).run P w = .ok (.int .i64 (max x y)) w := by
  rw [run_max_int2]; congr 2; split <;> omega
@[go_sem ↓] theorem run_min2 (P : Program) (w : World) (ats : Array TypeId) (ty : TypeId) (x y : Int) :
    (Builtin.min_ ats ty #[.int .i64 x, .int .i64 y]).run P w = .ok (.int .i64 (min x y)) w := by
  rw [run_min_int2]; congr 2; split <;> omega

/-! ### slices that are read -/
/-- The slice '.slice A n _' of elements of sz cells reads the cells xs. -/
def Rd (w : World) (sz : Nat) (A : Option Addr) (n : Nat) (xs : List Value) : Prop :=
  xs.length = n * sz ∧ (0 < n → 0 < sz → ∃ b o, A = some ⟨b, o, none⟩ ∧ ∀ j u, xs[j]? = some u → w.cell? ⟨b, o + j, none⟩ = some u)

section
variable {w w' : World} {B sz n : Nat} {A : Option Addr} {xs : List Value}

theorem cell_lt {w : World} {b o : Nat} {v : Value} (h : w.cell? ⟨b, o, none⟩ = some v) : b < w.heap.size := World.block_lt_of_cell? w _ h

theorem Rd.keep (h : Rd w sz A n xs) (hk : ∀ b o, b < w.heap.size → w'.cell? ⟨b, o, none⟩ = w.cell? ⟨b, o, none⟩) : Rd w' sz A n xs :=
  ⟨h.1, fun h0 h1 => by
    obtain ⟨b, o, e, hc⟩ := h.2 h0 h1
    exact ⟨b, o, e, fun j u hu => (hk _ _ (cell_lt (hc j u hu))).trans (hc j u hu)⟩⟩
theorem Rd.below (h : Rd w sz A n xs) (hb : Below w.heap.size w w') : Rd w' sz A n xs := h.keep fun b o hlt => hb.cell (p := ⟨b, o, none⟩) hlt
theorem Rd.drew (h : Rd w sz A n xs) : Rd w.drew sz A n xs := h
theorem Rd.drewN (h : Rd w sz A n xs) (k : Nat) : Rd (w.drewN k) sz A n xs := h
theorem Rd.nil (w : World) (sz : Nat) (A : Option Addr) : Rd w sz A 0 [] := ⟨by simp, fun h _ => by omega⟩
theorem Rd.one {k : Nat} (h : Rd w 1 A n xs) (hk : k < n) : ∃ b o u, A = some ⟨b, o, none⟩ ∧ xs[k]? = some u ∧ w.cell? ⟨b, o + k, none⟩ = some u ∧ b < w.heap.size := by
  obtain ⟨b, o, e, hc⟩ := h.2 (by omega) (by omega)
  have hl : k < xs.length := by have := h.1; omega
  have := hc k _ (List.getElem?_eq_getElem hl)
  exact ⟨b, o, xs[k], e, List.getElem?_eq_getElem hl, this, cell_lt this⟩
theorem Rd.of_own {base : Nat} {e : TypeId} {c : Nat} (h : w.ownsRow base e sz (.slice A n c) n xs) : Rd w sz A n xs := by
  refine ⟨h.1, fun hn _ => ?_⟩
  rcases h.2 with ⟨h0, h1⟩ | ⟨g, cap, cur, hv, _, hh, _, _, _, htake⟩
  · omega
  · simp only [Value.slice.injEq, true_and] at hv
    obtain ⟨rfl, rfl⟩ := hv
    refine ⟨g, 0, rfl, fun j u hu => ?_⟩
    have := h.cellAt j (by have := (List.getElem?_eq_some_iff.1 hu).1; have := h.1; omega)
    simpa [hu] using this
end

/-- All old cells and marks read as before. -/
theorem bcell {W w1 : World} {B : Nat} (hb : Below B W w1) : (∀ b o, b < B → w1.cell? ⟨b, o, none⟩ = W.cell? ⟨b, o, none⟩) ∧ (∀ b o, b < B → w1.frozen? ⟨b, o, none⟩ = W.frozen? ⟨b, o, none⟩) :=
  ⟨fun b o h => hb.cell (p := ⟨b, o, none⟩) h, fun b o h => hb.frozen (p := ⟨b, o, none⟩) h⟩

theorem mixed : Try.prog.follows .mixedOrders = true := by rfl
theorem int_info : (Try.prog.info? 3).map (fun i => (i.zero, i.size, i.bytes)) = some (some (.int .i64 0), 1, 8) := by kernel_rfl

theorem ret_int {k : IntKind} {a b : Int} (h : a = b) : Ending.returned (.int k a) = .returned (.int k b) := by rw [h]
end Go.Proofs.Ytmjdmlgdffoimab
