/- The calculus of items once more, over states that also tell that draws only go forward. -/
import Derived.Test.YtmjdmlgdffoimabPaintMem
namespace Go.Proofs.Ytmjdmlgdffoimab.Q
open Go.RowKit

structure St (w0 : World) (M : Nat → Prop) (σ : List HI) (w : World) : Prop where
  os : w.os = w0.os
  tape : w.tape = w0.tape
  fwd : w0.drawn ≤ w.drawn
  output : w.output = w0.output
  size : w0.heap.size ≤ w.heap.size
  old : ∀ b, b < w0.heap.size → ¬ M b → w.heap[b]? = w0.heap[b]?
  all : ∀ i ∈ σ, i.holds w
  disj : σ.Pairwise fun x y => ∀ b, x.foot b → ¬ y.foot b
  fresh : ∀ i ∈ σ, ∀ b, i.foot b → w0.heap.size ≤ b ∨ M b

section
variable {w0 w w' : World} {M : Nat → Prop} {σ σ' τ F : List HI}

theorem St.refl (w : World) : St w No [] w := ⟨rfl, rfl, Nat.le_refl _, rfl, Nat.le_refl _, fun _ _ _ => rfl, by simp, List.Pairwise.nil, by simp⟩
theorem St.start (hall : ∀ i ∈ σ, i.holds w) (hd : σ.Pairwise fun x y => ∀ b, x.foot b → ¬ y.foot b) : St w (foots σ) σ w :=
  ⟨rfl, rfl, Nat.le_refl _, rfl, Nat.le_refl _, fun _ _ _ => rfl, hall, hd, fun i hi _ hb => .inr ⟨i, hi, hb⟩⟩

theorem St.trans (h : St w0 M (σ ++ F) w) (k : St w (foots σ) τ w') : St w0 M (τ ++ F) w' := by
  have hF : ∀ i ∈ F, ∀ b, i.foot b → b < w.heap.size ∧ ¬ foots σ b := fun i hi _ hb => by
    refine ⟨HI.lt (h.all i (List.mem_append_right _ hi)) hb, ?_⟩
    rintro ⟨j, hj, hjb⟩
    exact (List.pairwise_append.1 h.disj).2.2 j hj i hi _ hjb hb
  refine ⟨k.os.trans h.os, k.tape.trans h.tape, Nat.le_trans h.fwd k.fwd, k.output.trans h.output, Nat.le_trans h.size k.size, fun b hb hM => ?_, fun i hi => ?_, ?_, fun i hi b hb => ?_⟩
  · refine (k.old b (Nat.lt_of_lt_of_le hb h.size) ?_).trans (h.old b hb hM)
    rintro ⟨j, hj, hjb⟩
    rcases h.fresh j (List.mem_append_left _ hj) b hjb with h1 | h1
    · omega
    · exact hM h1
  · rcases List.mem_append.1 hi with hi | hi
    · exact k.all i hi
    · exact HI.keep (h.all i (List.mem_append_right _ hi)) fun b hb => k.old b (hF i hi b hb).1 (hF i hi b hb).2
  · refine List.pairwise_append.2 ⟨k.disj, (List.pairwise_append.1 h.disj).2.1, fun i hi j hj b hb hjb => ?_⟩
    have h1 := hF j hj b hjb
    rcases k.fresh i hi b hb with h2 | h2
    · omega
    · exact h1.2 h2
  · rcases List.mem_append.1 hi with hi | hi
    · rcases k.fresh i hi b hb with h2 | ⟨j, hj, hjb⟩
      · exact .inl (Nat.le_trans h.size h2)
      · exact h.fresh j (List.mem_append_left _ hj) b hjb
    · exact h.fresh i (List.mem_append_right _ hi) b hb
theorem St.perm (h : St w0 M σ w) (hp : σ.Perm σ') : St w0 M σ' w :=
  ⟨h.os, h.tape, h.fwd, h.output, h.size, h.old, fun i hi => h.all i (hp.mem_iff.2 hi), hp.pairwise_iff (fun hxy b hb hb' => hxy b hb' hb) |>.1 h.disj, fun i hi => h.fresh i (hp.mem_iff.2 hi)⟩
theorem St.sub (h : St w0 M σ w) (hp : σ'.Sublist σ) : St w0 M σ' w :=
  ⟨h.os, h.tape, h.fwd, h.output, h.size, h.old, fun i hi => h.all i (hp.subset hi), h.disj.sublist hp, fun i hi => h.fresh i (hp.subset hi)⟩
theorem St.add (h : St w0 M σ w) (k : St w No τ w') : St w0 M (σ ++ τ) w' :=
  (St.trans (σ := []) (F := σ) h (by rw [foots_nil]; exact k)).perm List.perm_append_comm
theorem St.upd {i : Nat} {x y : HI} (h : St w0 M σ w) (hi : σ[i]? = some x) (k : St w (foots [x]) [y] w') : St w0 M (σ.set i y) w' :=
  (St.trans (σ := [x]) (F := σ.eraseIdx i) (h.perm (perm_front hi)) k).perm (perm_set (List.getElem?_eq_some_iff.1 hi).1)
theorem St.sel (h : St w0 M σ w) (idx : List Nat) (hn : idx.Nodup) : St w0 M (sel σ idx) w := by
  have hm : ∀ i ∈ Go.Proofs.Ytmjdmlgdffoimab.sel σ idx, i ∈ σ := fun i hi => by
    obtain ⟨k, _, hk⟩ := List.mem_filterMap.1 hi
    exact List.mem_of_getElem? hk
  refine ⟨h.os, h.tape, h.fwd, h.output, h.size, h.old, fun i hi => h.all i (hm i hi), ?_, fun i hi => h.fresh i (hm i hi)⟩
  refine List.pairwise_filterMap.2 (List.Pairwise.imp (fun {p q} hpq x hx y hy b hb hb' => ?_) hn)
  have hx : σ[p]? = some x := hx
  have hy : σ[q]? = some y := hy
  obtain ⟨hp, rfl⟩ := List.getElem?_eq_some_iff.1 hx
  obtain ⟨hq, rfl⟩ := List.getElem?_eq_some_iff.1 hy
  have hd := List.pairwise_iff_getElem.1 h.disj
  rcases Nat.lt_or_gt_of_ne hpq with hlt | hlt
  · exact hd p q hp hq hlt b hb hb'
  · exact hd q p hq hp hlt b hb' hb
theorem St.drawn (h : St w0 M σ w) : St w0 M σ { w with drawn := w.drawn + 1 } :=
  ⟨h.os, h.tape, Nat.le_succ_of_le h.fwd, h.output, h.size, h.old, fun i hi => HI.keep (h.all i hi) fun _ _ => rfl, h.disj, h.fresh⟩
theorem St.weak {M' : Nat → Prop} (h : St w0 M σ w) (hM : ∀ b, b < w0.heap.size → M b → M' b) : St w0 M' σ w :=
  ⟨h.os, h.tape, h.fwd, h.output, h.size, fun b hb hn => h.old b hb fun hm => hn (hM b hb hm), h.all, h.disj, fun i hi b hb => by
    rcases h.fresh i hi b hb with h1 | h1
    · exact .inl h1
    · rcases Nat.lt_or_ge b w0.heap.size with h2 | h2
      · exact .inr (hM b h2 h1)
      · exact .inl h2⟩
end
section
variable {P : Program} {r : Option Nat} {S : World → Prop} {ρ : Env} {dst : Option Tmp} {ty : TypeId} {pos : String} {af : Array Edge} {g : Option (Nat × Bool)}

section
variable {t t2 : TypeId} {x y : Operand} {m n : Int}
section
variable {w0 w : World} {M : Nat → Prop} {σ : List HI}
theorem St.cl_at {i b : Nat} {t : TypeId} {cs : List Value} (h : St w0 M σ w) (hi : σ[i]? = some (.cl b t cs)) (o : Nat) {us : List Value} (hu : (cs.drop o).take us.length = us) : CellsAt w b o us := by
  have h1 : w.heap[b]? = some (.cells cs.toArray t (0, 0)) := h.all _ (List.mem_of_getElem? hi)
  intro j u hj
  rw [cell_of_row w b (o + j) _ t (0, 0) h1, List.getElem?_toArray]
  have hlt : j < us.length := (List.getElem?_eq_some_iff.1 hj).1
  rw [← hu, List.getElem?_take, if_pos hlt, List.getElem?_drop] at hj
  exact hj
theorem St.row_at {i g n cap sz : Nat} {t : TypeId} {xs : List Value} (h : St w0 M σ w) (hi : σ[i]? = some (.row t sz (some ⟨g, 0, none⟩) n cap xs)) (o : Nat) {us : List Value} (hu : ∀ j u, us[j]? = some u → xs[o + j]? = some u) : CellsAt w g o us := by
  have h1 : w.ownsRow 0 t sz (.slice (some ⟨g, 0, none⟩) n cap) n xs := h.all _ (List.mem_of_getElem? hi)
  intro j u hj
  have h2 := hu j u hj
  rw [h1.cellAt (o + j) (by have := (List.getElem?_eq_some_iff.1 h2).1; have := h1.1; omega)]
  exact h2
theorem St.row_at1 {i gb n cap sz k o : Nat} {t : TypeId} {xs : List Value} {u : Value} (h : St w0 M σ w) (hi : σ[i]? = some (.row t sz (some ⟨gb, 0, none⟩) n cap xs)) (hu : xs[k]? = some u) (ho : o = k) : CellsAt w gb o [u] := by
  subst ho
  refine h.row_at hi o fun j v hj => ?_
  cases j with
  | zero => simp at hj; subst hj; exact hu
  | succ j => simp at hj
theorem St.old_at {b o : Nat} {us : List Value} (h : St w0 M σ w) (hc : CellsAt w0 b o us) (hM : ¬ M b) : CellsAt w b o us := by
  intro j u hj
  have h1 := hc j u hj
  exact (World.cell?_of_block (h.old b (cell_lt h1) hM)).trans h1
end

section
variable {w0 w w' : World} {M : Nat → Prop} {σ σ' : List HI}

theorem St.new (w : World) (t : TypeId) (cs : List Value) : St w No [.cl w.heap.size t cs] (w.alloc (.cells cs.toArray t)) := by
  refine ⟨rfl, rfl, Nat.le_refl _, rfl, by simp, fun b hb _ => Below.heap_alloc w _ b hb, ?_, List.pairwise_singleton _ _, ?_⟩
  · intro i hi
    obtain rfl : i = _ := by simpa using hi
    exact heap_alloc_new w _
  · intro i hi b hb
    obtain rfl : i = _ := by simpa using hi
    obtain rfl : b = w.heap.size := hb
    exact .inl (Nat.le_refl _)
theorem St.turn {x y : HI} (hg : ∀ b, b < w.heap.size → ¬ x.foot b → w'.heap[b]? = w.heap[b]?) (hy : y.holds w') (hf : ∀ b, y.foot b → w.heap.size ≤ b ∨ x.foot b)
    (h1 : w'.os = w.os) (h2 : w'.tape = w.tape) (h3 : w'.output = w.output) (h4 : w.heap.size ≤ w'.heap.size) (hd : w.drawn ≤ w'.drawn := by exact Nat.le_refl _) : St w (foots [x]) [y] w' := by
  refine ⟨h1, h2, hd, h3, h4, fun b hb hn => hg b hb fun hx => hn ⟨x, by simp, hx⟩, ?_, List.pairwise_singleton _ _, ?_⟩
  · intro i hi
    obtain rfl : i = y := by simpa using hi
    exact hy
  · intro i hi b hb
    obtain rfl : i = y := by simpa using hi
    rcases hf b hb with h | h
    · exact .inl h
    · exact .inr ⟨x, by simp, h⟩
theorem St.setCl {b o : Nat} {t : TypeId} {cs : List Value} {u : Value} (h : (HI.cl b t cs).holds w) : St w (foots [.cl b t cs]) [.cl b t (cs.set o u)] (w.setCell ⟨b, o, none⟩ u) :=
  St.turn (fun k _ hn => Below.heap_setCell w _ u k (fun e => hn e)) (setCell_heap_same h) (fun _ hb => .inr hb) rfl rfl rfl (by simp [World.setCell])
theorem St.setRow {g o n cap sz : Nat} {t : TypeId} {xs : List Value} {u : Value} (h : (HI.row t sz (some ⟨g, 0, none⟩) n cap xs).holds w) :
    St w (foots [.row t sz (some ⟨g, 0, none⟩) n cap xs]) [.row t sz (some ⟨g, 0, none⟩) n cap (xs.set o u)] (w.setCell ⟨g, o, none⟩ u) :=
  St.turn (fun k _ hn => Below.heap_setCell w _ u k (fun e => hn ⟨_, rfl, e⟩)) (World.ownsRow.stored h o u).1 (fun _ hb => .inr hb) rfl rfl rfl (by simp [World.setCell])

theorem x_store {i b o : Nat} {u : Value} {tc : TypeId} {cs : List Value} (hz : ∀ w, (sizeOf t).run P w = .ok 1 w) (hx : evo ρ x = .pointer (some ⟨b, o, none⟩)) (hy : evo ρ y = u) (hi : σ[i]? = some (.cl b tc cs)) (ho : o < cs.length)
    (hσ : σ.set i (.cl b tc (cs.set o u)) = σ') (h1 : u.oneCell' = true := by rfl) : OpX P r (St w0 M σ) ⟨dst, .store t x y, ty, pos, af, g⟩ ρ (X := Unit) (fun _ => undef) (fun _ => St w0 M σ') :=
  OpX.of_skip rfl fun w hw => by
    have h := hw.all _ (List.mem_of_getElem? hi)
    have hc := hw.cl_at hi o (us := [cs[o]]) (by rw [List.length_singleton, List.drop_eq_getElem_cons ho]; rfl) 0 cs[o] rfl
    have hf : w.frozen? ⟨b, o, none⟩ = false := frozen_of_row w b o _ tc h
    exact ⟨_, run_store1 hz hx hy h1 hc hf, by rw [← hσ]; exact hw.upd hi (St.setCl h)⟩
theorem x_storeRow {i gb o n cap sz : Nat} {u : Value} {tc : TypeId} {xs : List Value} (hz : ∀ w, (sizeOf t).run P w = .ok 1 w) (hx : evo ρ x = .pointer (some ⟨gb, o, none⟩)) (hy : evo ρ y = u) (hi : σ[i]? = some (.row tc sz (some ⟨gb, 0, none⟩) n cap xs)) (ho : o < xs.length)
    (hσ : σ.set i (.row tc sz (some ⟨gb, 0, none⟩) n cap (xs.set o u)) = σ') (h1 : u.oneCell' = true := by rfl) : OpX P r (St w0 M σ) ⟨dst, .store t x y, ty, pos, af, g⟩ ρ (X := Unit) (fun _ => undef) (fun _ => St w0 M σ') :=
  OpX.of_skip rfl fun w hw => by
    have h : w.ownsRow 0 tc sz (.slice (some ⟨gb, 0, none⟩) n cap) n xs := hw.all _ (List.mem_of_getElem? hi)
    have hc := hw.row_at hi o (us := [xs[o]]) (fun j u hj => by cases j with | zero => simp at hj; subst hj; simp | succ j => simp at hj) 0 xs[o] rfl
    exact ⟨_, run_store1 hz hx hy h1 hc (h.frozenAt o), by rw [← hσ]; exact hw.upd hi (St.setRow h)⟩
theorem x_storeRow' {i gb o n cap sz : Nat} {u : Value} {tc : TypeId} {xs xs' : List Value} (hz : ∀ w, (sizeOf t).run P w = .ok 1 w) (hx : evo ρ x = .pointer (some ⟨gb, o, none⟩)) (hy : evo ρ y = u) (hi : σ[i]? = some (.row tc sz (some ⟨gb, 0, none⟩) n cap xs)) (ho : o < xs.length)
    (hxs : xs.set o u = xs') (hσ : σ.set i (.row tc sz (some ⟨gb, 0, none⟩) n cap xs') = σ') (h1 : u.oneCell' = true := by rfl) : OpX P r (St w0 M σ) ⟨dst, .store t x y, ty, pos, af, g⟩ ρ (X := Unit) (fun _ => undef) (fun _ => St w0 M σ') :=
  x_storeRow hz hx hy hi ho (by rw [hxs]; exact hσ) h1
theorem run_storeCells (P : Program) {b o : Nat} {t : TypeId} : ∀ (us : List Value) (i : Nat) (cs : List Value) (w : World), (HI.cl b t cs).holds w → o + i + us.length ≤ cs.length → (∀ u ∈ us, u.oneCell' = true) →
    ∃ w', (storeCells ⟨b, o, none⟩ us i).run P w = .ok () w' ∧ St w (foots [.cl b t cs]) [.cl b t (setL cs (o + i) us)] w'
  | [], i, cs, w, h, _, _ => ⟨w, rfl, St.turn (fun _ _ _ => rfl) h (fun _ hb => .inr hb) rfl rfl rfl (Nat.le_refl _)⟩
  | u :: us, i, cs, w, h, hl, h1 => by
    simp only [List.length_cons] at hl
    have hu := h1 u (by simp)
    have hc : w.cell? ⟨b, o + i, none⟩ = some (cs[o + i]'(by omega)) := by
      have h2 : w.heap[b]? = some (.cells cs.toArray t (0, 0)) := h
      rw [cell_of_row w b (o + i) _ t (0, 0) h2]
      simp
    have hf : w.frozen? ⟨b, o + i, none⟩ = false := frozen_of_row w b (o + i) _ t h
    have hs : (store ⟨b, o + i, none⟩ u).run P w = .ok () (w.setCell ⟨b, o + i, none⟩ u) := by
      cases u <;> first | (simp [Value.oneCell'] at hu; done) | simp [store, Sem.run, hc, hf]
    obtain ⟨w', h3, h4⟩ := run_storeCells P (b := b) (o := o) (t := t) us (i + 1) (cs.set (o + i) u) (w.setCell ⟨b, o + i, none⟩ u) (setCell_heap_same h) (by simp; omega) (fun u' hu' => h1 u' (by simp [hu']))
    refine ⟨w', ?_, ?_⟩
    · simp only [storeCells, add_lit', Sem.run_bind, hs, Result.andThen]
      exact h3
    · have h5 := St.setCl (w := w) (b := b) (o := o + i) (t := t) (cs := cs) (u := u) h
      have h6 : St w (foots [.cl b t cs]) ([.cl b t (setL cs (o + i) (u :: us))] ++ []) w' := by
        refine St.trans (σ := [.cl b t (cs.set (o + i) u)]) (F := []) (by simpa using h5) ?_
        have e : setL cs (o + i) (u :: us) = setL (cs.set (o + i) u) (o + (i + 1)) us := rfl
        rw [e]
        exact h4
      simpa using h6
theorem x_storeA {i b o k : Nat} {us : List Value} {tc : TypeId} {cs : List Value} (hz : ∀ w, (sizeOf t).run P w = .ok k w) (hx : evo ρ x = .pointer (some ⟨b, o, none⟩)) (hy : evo ρ y = .agg us.toArray) (hi : σ[i]? = some (.cl b tc cs)) (ho : o + us.length ≤ cs.length)
    (hσ : σ.set i (.cl b tc (setL cs o us)) = σ') (h1 : ∀ u ∈ us, u.oneCell' = true) (hk : us.length = k := by rfl) : OpX P r (St w0 M σ) ⟨dst, .store t x y, ty, pos, af, g⟩ ρ (X := Unit) (fun _ => undef) (fun _ => St w0 M σ') :=
  OpX.of_skip rfl fun w hw => by
    subst hk
    have h := hw.all _ (List.mem_of_getElem? hi)
    obtain ⟨w', h2, h3⟩ := run_storeCells P (o := o) us 0 cs w h (by omega) h1
    refine ⟨w', ?_, by rw [← hσ]; exact hw.upd hi h3⟩
    simp [execOp, Instr.storeAt, Instr.sureAddr, hx, hy, storeVar, Value.cells, hz, h2]

theorem x_new {o : Oper} {us : List Value} {te : TypeId} {σ' : Nat → List HI} (hd : notDefer o = true) (hσ : ∀ b, σ ++ [.cl b te us] = σ' b) (h : ∀ w, (execOp (evo ρ) o).run P w = .ok (.value (.pointer (some ⟨w.heap.size, 0, none⟩))) (w.alloc (.cells us.toArray te))) :
    OpX P r (St w0 M σ) o ρ (X := Nat) (fun b => .pointer (some ⟨b, 0, none⟩)) (fun b => St w0 M (σ' b)) :=
  OpX.of_run hd fun w hw => ⟨w.heap.size, _, h w, by rw [← hσ]; exact hw.add (St.new w te us)⟩
theorem x_box1 {σ' : Nat → List HI} {u : Value} (hx : evo ρ x = u) (hσ : ∀ b, σ ++ [.cl b t [u]] = σ' b) (h1 : u.oneCell' = true := by rfl) : OpX P r (St w0 M σ) ⟨dst, .box t x, ty, pos, af, g⟩ ρ (X := Nat) (fun b => .pointer (some ⟨b, 0, none⟩)) (fun b => St w0 M (σ' b)) :=
  x_new rfl hσ fun w => by
    have e : u.cells = #[u] := by cases u <;> first | rfl | simp [Value.oneCell'] at h1
    simp [execOp, Instr.box, hx, newVar, newRow, newObj, Sem.run, e]
theorem x_boxA {σ' : Nat → List HI} {us : List Value} (hx : evo ρ x = .agg us.toArray) (hσ : ∀ b, σ ++ [.cl b t us] = σ' b) : OpX P r (St w0 M σ) ⟨dst, .box t x, ty, pos, af, g⟩ ρ (X := Nat) (fun b => .pointer (some ⟨b, 0, none⟩)) (fun b => St w0 M (σ' b)) :=
  x_new rfl hσ fun w => by simp [execOp, Instr.box, hx, newVar, newRow, newObj, Sem.run, Value.cells]
theorem x_alloc {σ' : Nat → List HI} {z : Value} {us : List Value} (hz : ∀ w, (zeroValue t).run P w = .ok z w) (hu : z.cells = us.toArray) (hσ : ∀ b, σ ++ [.cl b t us] = σ' b) : OpX P r (St w0 M σ) ⟨dst, .alloc t, ty, pos, af, g⟩ ρ (X := Nat) (fun b => .pointer (some ⟨b, 0, none⟩)) (fun b => St w0 M (σ' b)) :=
  x_new rfl hσ fun w => by simp [execOp, Instr.alloc, newVar, newRow, newObj, Sem.run, hz, hu]

theorem St.newRow (w : World) (t : TypeId) (sz n : Nat) (cs : List Value) (hl : cs.length = n * sz) (hm : n ≤ maxLen) : St w No [.row t sz (some ⟨w.heap.size, 0, none⟩) n n cs] (w.alloc (.cells cs.toArray t)) := by
  refine ⟨rfl, rfl, Nat.le_refl _, rfl, by simp, fun b hb _ => Below.heap_alloc w _ b hb, ?_, List.pairwise_singleton _ _, ?_⟩
  · intro i hi
    obtain rfl : i = _ := by simpa using hi
    have := World.ownsRow_lit (base := 0) (e := t) (size := sz) w cs.toArray n (Nat.zero_le _) hm (by simpa using hl)
    simpa [HI.holds] using this
  · intro i hi b hb
    obtain rfl : i = _ := by simpa using hi
    obtain ⟨a, ha, rfl⟩ := hb
    cases ha
    exact .inl (Nat.le_refl _)
theorem x_newRow {o : Oper} {us : List Value} {te : TypeId} {sz n : Nat} {σ' : Nat → List HI} (hd : notDefer o = true) (hl : us.length = n * sz) (hm : n ≤ maxLen) (hσ : ∀ b, σ ++ [.row te sz (some ⟨b, 0, none⟩) n n us] = σ' b)
    (h : ∀ w, (execOp (evo ρ) o).run P w = .ok (.value (.slice (some ⟨w.heap.size, 0, none⟩) n n)) (w.alloc (.cells us.toArray te))) :
    OpX P r (St w0 M σ) o ρ (X := Nat) (fun b => .slice (some ⟨b, 0, none⟩) n n) (fun b => St w0 M (σ' b)) :=
  OpX.of_run hd fun w hw => ⟨w.heap.size, _, h w, by rw [← hσ]; exact hw.add (St.newRow w te sz n us hl hm)⟩
theorem x_buildSlice {σ' : Nat → List HI} {te : TypeId} {sz n : Nat} {z : Value} {us : List Value} {parts : List (Nat × Operand)} (ht : P.underlying t = some (.slice te)) (hz : ∀ w, (sizeOf te).run P w = .ok sz w) (hv : ∀ w, (zeroValue te).run P w = .ok z w)
    (hi : parts.map (·.1) = List.range' 0 n) (hc' : parts.map (fun p => (evo ρ p.2).cells.size) = List.replicate n sz) (hu : (parts.flatMap fun p => (evo ρ p.2).cells.toList) = us) (hn : n * sz ≤ 16777216) (h0 : n * sz ≠ 0)
    (hσ : ∀ b, σ ++ [.row te sz (some ⟨b, 0, none⟩) n n us] = σ' b) :
    OpX P r (St w0 M σ) ⟨dst, .buildSlice t n parts.toArray, ty, pos, af, g⟩ ρ (X := Nat) (fun b => .slice (some ⟨b, 0, none⟩) n n) (fun b => St w0 M (σ' b)) := by
  have hl : parts.length = n := by have := congrArg List.length hi; simpa using this
  have hc : ∀ p ∈ parts, (evo ρ p.2).cells.size = sz := fun p hp => by
    have h1 : (evo ρ p.2).cells.size ∈ parts.map (fun p => (evo ρ p.2).cells.size) := List.mem_map.2 ⟨p, hp, rfl⟩
    rw [hc'] at h1
    exact List.eq_of_mem_replicate h1
  clear hc'
  have hul : us.length = n * sz := by
    rw [← hu, ← hl]
    clear hu hi hl hn h0
    induction parts with
    | nil => simp
    | cons p parts ih =>
      have h1 := hc p (by simp)
      have h2 := ih fun q hq => hc q (by simp [hq])
      simp only [List.flatMap_cons, List.length_append, Array.length_toList, h1, h2, List.length_cons, Nat.add_mul, Nat.one_mul]
      omega
  have hm : n ≤ maxLen := by
    have : n ≤ n * sz := Nat.le_mul_of_pos_right n (by rcases Nat.eq_zero_or_pos sz with e | e; · simp [e] at h0
                                                       · exact e)
    unfold maxLen; omega
  refine x_newRow rfl hul hm hσ fun w => ?_
  have hmap : (parts.map fun x => (x.1, evo ρ x.2)) = (List.range' 0 (parts.map fun p => evo ρ p.2).length).zip (parts.map fun p => evo ρ p.2) := by
    rw [List.length_map, hl, ← hi]
    clear hc hu hi hl hul hm
    induction parts with
    | nil => rfl
    | cons p parts ih => simp [ih]
  have hcell : ∃ rest : List Value, ((Array.range (n * sz)).map (z.cells[· % z.cells.size]!)) = rest.toArray ∧ rest.length = n * sz := ⟨_, (Array.toArray_toList (xs := (Array.range (n * sz)).map (z.cells[· % z.cells.size]!))).symm, by simp⟩
  obtain ⟨rest, hrest, hrl⟩ := hcell
  have hf := fill_seq sz (parts.map fun p => evo ρ p.2) 0 [] rest (fun v hv => by
    obtain ⟨p, hp, rfl⟩ := List.mem_map.1 hv
    exact hc p hp) (by simp) (by rw [hrl]; simp [hl])
  simp only [List.nil_append, List.flatMap_map] at hf
  rw [hu, ← hmap] at hf
  have hlt : ¬ (16777216 < n * sz) := by omega
  simp [execOp, Instr.buildSlice, run_underlying ht, hz, hv, hlt, h0, hrest, hf, newRow, newObj, Sem.run, Result.andThen]
theorem St.nilRow (h : St w0 M σ w) (t : TypeId) (sz : Nat) : St w0 M (σ ++ [.row t sz none 0 0 []]) w :=
  h.add ⟨rfl, rfl, Nat.le_refl _, rfl, Nat.le_refl _, fun _ _ _ => rfl, fun i hi => by
    obtain rfl : i = _ := by simpa using hi
    exact World.ownsRow_nil w 0 t sz, List.pairwise_singleton _ _, fun i hi b hb => by
    obtain rfl : i = _ := by simpa using hi
    obtain ⟨a, ha, _⟩ := hb
    cases ha⟩
theorem St.row_pos {i n cap sz : Nat} {t : TypeId} {A : Option Addr} {xs : List Value} (h : St w0 M σ w) (hi : σ[i]? = some (.row t sz A n cap xs)) (hn : 0 < n) : ∃ b, A = some ⟨b, 0, none⟩ := by
  have h1 : w.ownsRow 0 t sz (.slice A n cap) n xs := h.all _ (List.mem_of_getElem? hi)
  rcases h1.2 with ⟨_, h0⟩ | ⟨gb, cap', cur, hv, _⟩
  · omega
  · exact ⟨gb, by injection hv⟩
theorem St.row_len {i n cap sz : Nat} {t : TypeId} {A : Option Addr} {xs : List Value} (h : St w0 M σ w) (hi : σ[i]? = some (.row t sz A n cap xs)) : xs.length = n * sz :=
  have h1 : w.ownsRow 0 t sz (.slice A n cap) n xs := h.all _ (List.mem_of_getElem? hi)
  h1.1
theorem St.rd {α : Type} {A : Option Addr} {sz : Nat} {enc : α → List Value} {l : List α} (h : St w0 M σ w) (hr : RdE w0 A sz enc l) (hM : ∀ b, ¬ M b) : RdE w A sz enc l :=
  hr.of_cells fun b _ _ hc => (World.cell?_of_block (h.old b (cell_lt hc) (hM b))).trans hc
theorem St.rd_row1 {α : Type} {i n cap : Nat} {t : TypeId} {A : Option Addr} {l : List α} {f : α → Value} (h : St w0 M σ w) (hi : σ[i]? = some (.row t 1 A n cap (l.map f))) : RdE w A 1 (fun x => [f x]) l := fun k x hx => by
  have hl : l.length = n := by have := h.row_len hi; simpa using this
  have hk := (List.getElem?_eq_some_iff.1 hx).1
  obtain ⟨b, rfl⟩ := h.row_pos hi (by omega)
  exact ⟨b, 0, rfl, h.row_at1 hi (k := k) (by simp [hx]) (by omega)⟩
theorem St.rd_row {α : Type} {i n cap sz : Nat} {t : TypeId} {A : Option Addr} {l : List α} {enc : α → List Value} (h : St w0 M σ w) (hi : σ[i]? = some (.row t sz A n cap (l.flatMap enc))) (hn : l.length = n) (hz : ∀ x, (enc x).length = sz) : RdE w A sz enc l := fun k x hx => by
  have hk := (List.getElem?_eq_some_iff.1 hx).1
  obtain ⟨b, rfl⟩ := h.row_pos hi (by omega)
  refine ⟨b, 0, rfl, h.row_at hi _ fun j u hj => ?_⟩
  rw [Nat.zero_add, flatMap_get hz l k j x hx (by have := (List.getElem?_eq_some_iff.1 hj).1; rw [hz] at this; exact this)]
  exact hj
end

end
end
theorem WP.drawSel {P : Program} {r : Option Nat} {N : Nat} {Q : XP} {ρ : Env} {ds : List Deferred} {w0 : World} {M : Nat → Prop} {σ : List HI} {id : Nat} {l : List Oper} (fin : Option Nat) (idx : List Nat) (plan : List (Nat × Bool))
    (hm : P.follows .mixedOrders = true) (hB : orderB l.toArray fin plan = true) (hN : dstsB N l = true) (h : WPD P r N l fin (St w0 M (sel σ idx)) plan Q ρ ds (St w0 M σ)) : WP P r N (.region id l.toArray true) Q ρ ds (St w0 M σ) :=
  WP.draw fin (St w0 M (sel σ idx)) plan hm hB hN (fun _ h => h.drawn) h
section
variable {P : Program} {r : Option Nat} {N : Nat} {Q : XP} {ρ : Env} {S : World → Prop} {fn : Func} {R : Value → World → Prop}
theorem x_storeW {w0 : World} {M : Nat → Prop} {σ σ' : List HI} {dst : Option Tmp} {ty : TypeId} {pos : String} {af : Array Edge} {g : Option (Nat × Bool)} {x y : Operand} {t tc : TypeId} {i b k : Nat} {us cs : List Value} (hz : ∀ w, (sizeOf t).run P w = .ok k w) (hx : evo ρ x = .pointer (some ⟨b, 0, none⟩)) (hy : evo ρ y = .agg us.toArray) (hi : σ[i]? = some (.cl b tc cs)) (ho : us.length = cs.length)
    (hσ : σ.set i (.cl b tc us) = σ') (h1 : ∀ u ∈ us, u.oneCell' = true) (hk : us.length = k := by rfl) : OpX P r (St w0 M σ) ⟨dst, .store t x y, ty, pos, af, g⟩ ρ (X := Unit) (fun _ => undef) (fun _ => St w0 M σ') :=
  x_storeA hz hx hy hi (by omega) (by rw [setL_all _ _ ho]; exact hσ) h1 hk
section
variable {dst : Option Tmp} {ty : TypeId} {pos : String} {af : Array Edge} {g : Option (Nat × Bool)} {t t2 : TypeId} {x y : Operand} {a b : Bool}
end
end
def Ct (P : Program) (f : FuncId) (args : Array Value) (pre : List HI) (Fact : World → Prop) {X : Type} (v : X → Value) (facts : X → Prop) (post : X → List HI) : Prop :=
  ∀ w, (∀ i ∈ pre, i.holds w) → pre.Pairwise (fun x y => ∀ b, x.foot b → ¬ y.foot b) → Fact w →
    Calls P f args w fun e w' => ∃ x, e = .returned (v x) ∧ facts x ∧ St w (foots pre) (post x) w'

theorem Ct.intro {P : Program} {f : FuncId} {fn : Func} {c : Code} {N : Nat} {args : Array Value} {pre : List HI} {Fact : World → Prop} {X : Type} {v : X → Value} {facts : X → Prop} {post : X → List HI} (hf : P.funcs[f]? = some fn) (hb : fn.body = some c) (hn : fn.ntmps = N) (ha : args.size ≤ N)
    (h : ∀ w, Fact w → WP P none N c (RetQ P fn (fun u w' => ∃ x, u = v x ∧ facts x ∧ St w (foots pre) (post x) w')) (argEnv args.toList) [] (St w (foots pre) pre)) : Ct P f args pre Fact v facts post := by
  intro w h1 h2 h3
  refine (enter hf hb hn ha ((h w h3).pre fun w' e => ?_)).mono ?_
  · subst e; exact St.start h1 h2
  · rintro e w' ⟨u, rfl, x, rfl, hx, hs⟩
    exact ⟨x, rfl, hx, hs⟩
section
variable {P : Program} {r : Option Nat} {N : Nat} {Q : XP} {ρ : Env} {S : World → Prop} {fn : Func} {R : Value → World → Prop}
end

section
variable {P : Program} {r : Option Nat} {S : World → Prop} {ρ : Env} {dst : Option Tmp} {ty : TypeId} {pos : String} {af : Array Edge} {g : Option (Nat × Bool)} {f : FuncId} {xs : List Operand} {ats : Array TypeId} {args : List Value}
section
variable {w0 : World} {M : Nat → Prop} {σ σ' : List HI} {pre : List HI} {Fact : World → Prop} {X : Type} {v : X → Value} {facts : X → Prop} {post : X → List HI}
theorem Ct.apply (hc : Ct P f args.toArray pre Fact v facts post) (idx rest : List Nat) (hn : (idx ++ rest).Nodup) (hp : sel σ idx = pre) (hF : ∀ w, St w0 M σ w → Fact w) {τ : X → List HI} (hτ : ∀ x, sel σ rest ++ post x = τ x) (w : World) (hw : St w0 M σ w) :
    Calls P f args.toArray w fun e w' => ∃ x, e = .returned (v x) ∧ facts x ∧ St w0 M (τ x) w' := by
  have h1 := hw.sel (idx ++ rest) hn
  have e : sel σ (idx ++ rest) = pre ++ sel σ rest := by rw [← hp]; simp [sel]
  rw [e] at h1
  refine (hc w (fun i hi => h1.all i (List.mem_append_left _ hi)) (List.pairwise_append.1 h1.disj).1 (hF w hw)).mono ?_
  rintro e w' ⟨x, rfl, hx, hs⟩
  refine ⟨x, rfl, hx, ?_⟩
  rw [← hτ]
  exact (h1.trans hs).perm List.perm_append_comm
theorem x_call (hf : ∀ args w, (callFunc f args).run P w = .ok (.enter f args) w) (hc : Ct P f args.toArray pre Fact v facts post) (idx rest : List Nat) (hp : sel σ idx = pre) (hF : ∀ w, St w0 M σ w → Fact w) {τ : X → List HI} (hτ : ∀ x, sel σ rest ++ post x = τ x)
    (ha : xs.map (evo ρ) = args := by rfl) (hn : (idx ++ rest).Nodup := by decide) :
    OpX P r (St w0 M σ) ⟨dst, .call ⟨.value (.func f), xs.toArray, ats⟩, ty, pos, af, g⟩ ρ v (fun x w' => facts x ∧ St w0 M (τ x) w') :=
  OpX.of_call rfl (fun w _ => run_call hf ha w) (fun w hw => hc.apply idx rest hn hp hF hτ w hw)
theorem x_callV {x : Operand} {first cap : List Value} (hf : ∀ args w, (callFunc f args).run P w = .ok (.enter f args) w) (hc : Ct P f args.toArray pre Fact v facts post) (idx rest : List Nat) (hp : sel σ idx = pre) (hF : ∀ w, St w0 M σ w → Fact w)
    {τ : X → List HI} (hτ : ∀ x, sel σ rest ++ post x = τ x) (hx : evo ρ x = .func (.func f) first.toArray cap.toArray := by rfl) (ha : first ++ xs.map (evo ρ) ++ cap = args := by rfl) (hn : (idx ++ rest).Nodup := by decide) :
    OpX P r (St w0 M σ) ⟨dst, .call ⟨.value x, xs.toArray, ats⟩, ty, pos, af, g⟩ ρ v (fun x w' => facts x ∧ St w0 M (τ x) w') :=
  OpX.of_call rfl (fun w _ => run_callV hf hx ha w) (fun w hw => hc.apply idx rest hn hp hF hτ w hw)
end
end
end Go.Proofs.Ytmjdmlgdffoimab.Q
