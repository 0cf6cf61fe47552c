/- Memory as a list of items that a call owns; what an operation does to it. -/
import Derived.Test.YtmjdmlgdffoimabCalc
import Derived.Maps.AppendAt
namespace Go.Proofs.Ytmjdmlgdffoimab
open Go.RowKit

/-! ### Items -/
inductive HI where
  /-- block b is just these cells -/
  | cl (b : Nat) (t : TypeId) (cs : List Value)
  /-- the slice '.slice A n cap' is a row of the call's own; its n elements of sz cells are xs -/
  | row (t : TypeId) (sz : Nat) (A : Option Addr) (n cap : Nat) (xs : List Value)
  /-- block b is this object -/
  | ob (b : Nat) (o : Obj)
  /-- whatever else hangs on these blocks alone -/
  | gen (foot : Nat → Prop) (p : World → Prop)

def Local (foot : Nat → Prop) (p : World → Prop) : Prop :=
  (∀ w w' : World, (∀ b, foot b → w'.heap[b]? = w.heap[b]?) → p w → p w') ∧ (∀ w, p w → ∀ b, foot b → b < w.heap.size)

def HI.foot : HI → Nat → Prop
  | .cl b _ _, k => k = b
  | .row _ _ A _ _ _, k => ∃ a, A = some a ∧ k = a.block
  | .ob b _, k => k = b
  | .gen f _, k => f k
def HI.holds (w : World) : HI → Prop
  | .cl b t cs => w.heap[b]? = some (.cells cs.toArray t (0, 0))
  | .row t sz A n cap xs => w.ownsRow 0 t sz (.slice A n cap) n xs
  | .ob b o => w.heap[b]? = some o
  | .gen f p => Local f p ∧ p w
def foots (σ : List HI) (k : Nat) : Prop := ∃ i ∈ σ, i.foot k

theorem lt_of_some {w : World} {b : Nat} {o : Obj} (h : w.heap[b]? = some o) : b < w.heap.size := (Array.getElem?_eq_some_iff.1 h).1
theorem HI.lt {w : World} {i : HI} (h : i.holds w) {b : Nat} (hb : i.foot b) : b < w.heap.size := by
  cases i with
  | cl c t cs => obtain rfl : b = c := hb; exact lt_of_some h
  | row t sz A n cap xs =>
    obtain ⟨a, rfl, rfl⟩ := hb
    exact (World.ownsRow.lt h a.block rfl).2
  | ob c o => obtain rfl : b = c := hb; exact lt_of_some h
  | gen f p => exact h.1.2 w h.2 b hb
theorem HI.keep {w w' : World} {i : HI} (h : i.holds w) (hk : ∀ b, i.foot b → w'.heap[b]? = w.heap[b]?) : i.holds w' := by
  cases i with
  | cl c t cs => exact (hk c rfl).trans h
  | row t sz A n cap xs =>
    refine ⟨h.1, ?_⟩
    rcases h.2 with hn | ⟨g, cap', cur, hv, hb, hgg, rest⟩
    · exact .inl hn
    · refine .inr ⟨g, cap', cur, hv, hb, ?_, rest⟩
      have hA : A = some ⟨g, 0, none⟩ := by injection hv
      exact (hk g ⟨_, hA, rfl⟩).trans hgg
  | ob c o => exact (hk c rfl).trans h
  | gen f p => exact ⟨h.1, h.1.1 w w' hk h.2⟩

/-! ### States -/
/-- What lay in w0 and is not of M lies as it lay; the items hold, apart from each other; all of them are new, or of M. -/
structure St (w0 : World) (M : Nat → Prop) (σ : List HI) (w : World) : Prop where
  os : w.os = w0.os
  tape : w.tape = w0.tape
  output : w.output = w0.output
  size : w0.heap.size ≤ w.heap.size
  old : ∀ b, b < w0.heap.size → ¬ M b → w.heap[b]? = w0.heap[b]?
  all : ∀ i ∈ σ, i.holds w
  disj : σ.Pairwise fun x y => ∀ b, x.foot b → ¬ y.foot b
  fresh : ∀ i ∈ σ, ∀ b, i.foot b → w0.heap.size ≤ b ∨ M b

abbrev No : Nat → Prop := fun _ => False
theorem foots_nil : foots [] = No := by funext k; simp [foots]
theorem foots_cons (x : HI) (σ : List HI) (k : Nat) : foots (x :: σ) k ↔ x.foot k ∨ foots σ k := by simp [foots]
theorem foots_append (σ τ : List HI) (k : Nat) : foots (σ ++ τ) k ↔ foots σ k ∨ foots τ k := by
  simp only [foots, List.mem_append]
  constructor
  · rintro ⟨i, h | h, hk⟩
    · exact .inl ⟨i, h, hk⟩
    · exact .inr ⟨i, h, hk⟩
  · rintro (⟨i, h, hk⟩ | ⟨i, h, hk⟩)
    · exact ⟨i, .inl h, hk⟩
    · exact ⟨i, .inr h, hk⟩

section
variable {w0 w w' : World} {M : Nat → Prop} {σ σ' τ F : List HI}

theorem St.refl (w : World) : St w No [] w := ⟨rfl, rfl, rfl, Nat.le_refl _, fun _ _ _ => rfl, by simp, List.Pairwise.nil, by simp⟩
/-- Items that hold at the beginning. -/
theorem St.start (hall : ∀ i ∈ σ, i.holds w) (hd : σ.Pairwise fun x y => ∀ b, x.foot b → ¬ y.foot b) : St w (foots σ) σ w :=
  ⟨rfl, rfl, rfl, Nat.le_refl _, fun _ _ _ => rfl, hall, hd, fun i hi _ hb => .inr ⟨i, hi, hb⟩⟩

/-- A change of some items, the rest apart from them. -/
theorem St.trans (h : St w0 M (σ ++ F) w) (k : St w (foots σ) τ w') : St w0 M (τ ++ F) w' := by
  have hF : ∀ i ∈ F, ∀ b, i.foot b → b < w.heap.size ∧ ¬ foots σ b := fun i hi _ hb => by
    refine ⟨HI.lt (h.all i (List.mem_append_right _ hi)) hb, ?_⟩
    rintro ⟨j, hj, hjb⟩
    exact (List.pairwise_append.1 h.disj).2.2 j hj i hi _ hjb hb
  refine ⟨k.os.trans h.os, k.tape.trans h.tape, k.output.trans h.output, Nat.le_trans h.size k.size, fun b hb hM => ?_, fun i hi => ?_, ?_, fun i hi b hb => ?_⟩
  · refine (k.old b (Nat.lt_of_lt_of_le hb h.size) ?_).trans (h.old b hb hM)
    rintro ⟨j, hj, hjb⟩
    rcases h.fresh j (List.mem_append_left _ hj) b hjb with h1 | h1
    · omega
    · exact hM h1
  · rcases List.mem_append.1 hi with hi | hi
    · exact k.all i hi
    · exact HI.keep (h.all i (List.mem_append_right _ hi)) fun b hb => k.old b (hF i hi b hb).1 (hF i hi b hb).2
  · refine List.pairwise_append.2 ⟨k.disj, (List.pairwise_append.1 h.disj).2.1, fun i hi j hj b hb hjb => ?_⟩
    have h1 := hF j hj b hjb
    rcases k.fresh i hi b hb with h2 | h2
    · omega
    · exact h1.2 h2
  · rcases List.mem_append.1 hi with hi | hi
    · rcases k.fresh i hi b hb with h2 | ⟨j, hj, hjb⟩
      · exact .inl (Nat.le_trans h.size h2)
      · exact h.fresh j (List.mem_append_left _ hj) b hjb
    · exact h.fresh i (List.mem_append_right _ hi) b hb
theorem St.perm (h : St w0 M σ w) (hp : σ.Perm σ') : St w0 M σ' w :=
  ⟨h.os, h.tape, h.output, h.size, h.old, fun i hi => h.all i (hp.mem_iff.2 hi), hp.pairwise_iff (fun hxy b hb hb' => hxy b hb' hb) |>.1 h.disj, fun i hi => h.fresh i (hp.mem_iff.2 hi)⟩
theorem St.sub (h : St w0 M σ w) (hp : σ'.Sublist σ) : St w0 M σ' w :=
  ⟨h.os, h.tape, h.output, h.size, h.old, fun i hi => h.all i (hp.subset hi), h.disj.sublist hp, fun i hi => h.fresh i (hp.subset hi)⟩
theorem St.add (h : St w0 M σ w) (k : St w No τ w') : St w0 M (σ ++ τ) w' :=
  (St.trans (σ := []) (F := σ) h (by rw [foots_nil]; exact k)).perm List.perm_append_comm
theorem perm_front : ∀ {σ : List HI} {i : Nat} {x : HI}, σ[i]? = some x → σ.Perm (x :: σ.eraseIdx i)
  | [], i, x, h => by simp at h
  | y :: σ, 0, x, h => by
    obtain rfl : y = x := by simpa using h
    exact List.Perm.refl _
  | y :: σ, i + 1, x, h => by
    have h1 := perm_front (σ := σ) (i := i) (x := x) (by simpa using h)
    exact (List.Perm.cons y h1).trans (List.Perm.swap x y _)
theorem perm_set {σ : List HI} {i : Nat} {y : HI} (hi : i < σ.length) : (y :: σ.eraseIdx i).Perm (σ.set i y) := by
  have h := perm_front (σ := σ.set i y) (i := i) (x := y) (by simp [hi])
  rw [List.eraseIdx_set_eq] at h
  exact h.symm
theorem St.upd {i : Nat} {x y : HI} (h : St w0 M σ w) (hi : σ[i]? = some x) (k : St w (foots [x]) [y] w') : St w0 M (σ.set i y) w' :=
  (St.trans (σ := [x]) (F := σ.eraseIdx i) (h.perm (perm_front hi)) k).perm (perm_set (List.getElem?_eq_some_iff.1 hi).1)
/-- Some items, in a new order; the others are let go. -/
def sel (σ : List HI) (idx : List Nat) : List HI := idx.filterMap (σ[·]?)
theorem St.sel (h : St w0 M σ w) (idx : List Nat) (hn : idx.Nodup) : St w0 M (sel σ idx) w := by
  have hm : ∀ i ∈ Go.Proofs.Ytmjdmlgdffoimab.sel σ idx, i ∈ σ := fun i hi => by
    obtain ⟨k, _, hk⟩ := List.mem_filterMap.1 hi
    exact List.mem_of_getElem? hk
  refine ⟨h.os, h.tape, h.output, h.size, h.old, fun i hi => h.all i (hm i hi), ?_, fun i hi => h.fresh i (hm i hi)⟩
  refine List.pairwise_filterMap.2 (List.Pairwise.imp (fun {p q} hpq x hx y hy b hb hb' => ?_) hn)
  have hx : σ[p]? = some x := hx
  have hy : σ[q]? = some y := hy
  obtain ⟨hp, rfl⟩ := List.getElem?_eq_some_iff.1 hx
  obtain ⟨hq, rfl⟩ := List.getElem?_eq_some_iff.1 hy
  have hd := List.pairwise_iff_getElem.1 h.disj
  rcases Nat.lt_or_gt_of_ne hpq with hlt | hlt
  · exact hd p q hp hq hlt b hb hb'
  · exact hd q p hq hp hlt b hb' hb
/-- A draw. -/
theorem St.drawn (h : St w0 M σ w) : St w0 M σ { w with drawn := w.drawn + 1 } :=
  ⟨h.os, h.tape, h.output, h.size, h.old, fun i hi => HI.keep (h.all i hi) fun _ _ => rfl, h.disj, h.fresh⟩
theorem St.below (h : St w0 No σ w) : Below w0.heap.size w0 w := ⟨h.os, h.tape, h.output, h.size, fun b hb => h.old b hb (fun h => h)⟩
theorem St.of_below (h : Below w.heap.size w w') : St w No [] w' := ⟨h.os, h.tape, h.output, h.size, fun b hb _ => h.block b hb, by simp, List.Pairwise.nil, by simp⟩
theorem St.weak {M' : Nat → Prop} (h : St w0 M σ w) (hM : ∀ b, b < w0.heap.size → M b → M' b) : St w0 M' σ w :=
  ⟨h.os, h.tape, h.output, h.size, fun b hb hn => h.old b hb fun hm => hn (hM b hb hm), h.all, h.disj, fun i hi b hb => by
    rcases h.fresh i hi b hb with h1 | h1
    · exact .inl h1
    · rcases Nat.lt_or_ge b w0.heap.size with h2 | h2
      · exact .inr (hM b h2 h1)
      · exact .inl h2⟩
end
end Go.Proofs.Ytmjdmlgdffoimab
