/- Arguments whose leaves are integers and bools, opened. -/
import Derived.Test.YtmjdmlgdffoimabLaw
import Derived.Test.YtmjdmlgdffoimabEqF
import Derived.OpenShut
namespace Go.Proofs.Ytmjdmlgdffoimab
open Go.ChangeShapes Go.WideShapes Go.ChangeAt Go.RowKit Go.Deep

def Bd (v : Value) : Prop := ∀ z, v = .int .i64 z → -9223372036854775808 ≤ z ∧ z ≤ 9223372036854775807
theorem leavesB_app : ∀ {ks ls : List Bool} {xs ys : List Value}, leavesB ks xs = true → leavesB ls ys = true → leavesB (ks ++ ls) (xs ++ ys) = true
  | [], ls, [], ys, _, h => by simpa using h
  | k :: ks, ls, v :: vs, ys, h1, h2 => by
    simp only [leavesB, Bool.and_eq_true] at h1
    simp only [List.cons_append, leavesB, Bool.and_eq_true]
    exact ⟨h1.1, leavesB_app h1.2 h2⟩
  | [], _, _ :: _, _, h, _ => by simp [leavesB] at h
  | _ :: _, _, [], _, h, _ => by simp [leavesB] at h
theorem cells_size {P : Program} {t : TypeId} {n : Nat} (h : (P.info? t).map (·.size) = some n) : P.cellsOf t = n := by
  obtain ⟨i, hi, rfl⟩ := Option.map_eq_some_iff.1 h
  simp [Program.cellsOf, hi]
theorem take_split {α : Type} (l : List α) (o a b : Nat) : (l.drop o).take (a + b) = (l.drop o).take a ++ (l.drop (o + a)).take b := by
  rw [List.take_add, List.drop_drop]
section
variable {H : Type} {enc : TypeId × Value → H} {P : Program} {W : World} {base : Nat} {sp : Nat → Bool} {held : Bool}
theorem trod_flatF (d n : Nat) (cs : List Value) (hrec : ∀ (t : TypeId) (ks : List Bool) (us : List Value) (x : DataW H × List MemPlace), leafK P d t = some ks → (P.info? t).map (·.size) = some ks.length → DataW.trod enc P W base sp held n t us = some x → leavesB ks us = true ∧ ∀ v ∈ us, Bd v) :
    ∀ (fs : List Field) (o : Nat) (ks : List Bool), leafF (fun t => (P.info? t).map (·.size)) (leafK P d) o fs = some ks → (∀ f ∈ fs, ∃ x, DataW.trod enc P W base sp held n f.type ((cs.drop f.offset).take (P.cellsOf f.type)) = some x) →
      leavesB ks ((cs.drop o).take ks.length) = true ∧ ∀ v ∈ (cs.drop o).take ks.length, Bd v
  | [], o, ks, hk, _ => by
    simp only [leafF, Option.some.injEq] at hk
    subst hk
    simp [leavesB]
  | f :: fs, o, ks, hk, hx => by
    unfold leafF at hk
    cases hf : leafK P d f.type with
    | none => simp [hf] at hk
    | some k1 =>
      simp only [hf] at hk
      split at hk
      · rename_i hc
        obtain ⟨hn, ho, hs⟩ := hc
        obtain ⟨k2, hk2, rfl⟩ := Option.map_eq_some_iff.1 hk
        obtain ⟨x, h1⟩ := hx f (by simp)
        rw [ho, cells_size hs] at h1
        obtain ⟨a1, a2⟩ := hrec _ _ _ _ hf hs h1
        obtain ⟨b1, b2⟩ := trod_flatF d n cs hrec fs (o + k1.length) k2 hk2 (fun g hg => hx g (by simp [hg]))
        rw [List.length_append, take_split]
        refine ⟨leavesB_app a1 b1, fun v hv => ?_⟩
        rcases List.mem_append.1 hv with h | h
        · exact a2 v h
        · exact b2 v h
      · cases hk
theorem trod_flat : ∀ (d : Nat) (t : TypeId) (ks : List Bool) (fuel : Nat) (cs : List Value) (x : DataW H × List MemPlace), leafK P d t = some ks → (P.info? t).map (·.size) = some ks.length → DataW.trod enc P W base sp held fuel t cs = some x →
    leavesB ks cs = true ∧ ∀ v ∈ cs, Bd v
  | 0, t, ks, _, _, _, hk, _, _ => by simp [leafK] at hk
  | d + 1, t, ks, fuel, cs, x, hk, hs, hx => by
    unfold leafK at hk
    cases hu : P.underlying t with
    | none => simp [hu] at hk
    | some k =>
      cases k <;> simp only [hu] at hk <;> try (cases hk; done)
      case bool =>
        cases hk
        obtain ⟨b, rfl, _⟩ := DataW.trod_bool hu hx
        exact ⟨rfl, fun v hv z hz => by simp at hv; rw [hv] at hz; cases hz⟩
      case int q =>
        split at hk <;> cases hk
        rename_i hq
        subst hq
        obtain ⟨z, rfl, _, hw⟩ := DataW.trod_int hu hx
        refine ⟨rfl, fun v hv y hy => ?_⟩
        simp at hv
        rw [hv] at hy
        cases hy
        simpa [Lit.wf, IntKind.min, IntKind.max, IntKind.signed, IntKind.bits] using hw
      case struct fs =>
        split at hk
        · cases hk
        · obtain ⟨ys, n, rfl, _, hl, hyl, hf⟩ := DataW.trod_struct hu hx
          have h := trod_flatF d n cs (fun t ks us x h1 h2 h3 => trod_flat d t ks n us x h1 h2 h3) fs.toList 0 ks hk (fun f hf' => by
            obtain ⟨i, hi⟩ := List.getElem?_of_mem hf'
            have hi' : fs[i]? = some f := by simpa using hi
            have hlt := (Array.getElem?_eq_some_iff.1 hi').1
            have h1 := hf i f hi'
            rw [List.getElem?_eq_getElem (by omega)] at h1
            exact ⟨_, h1⟩)
          rw [cells_size hs] at hl
          rw [List.drop_zero, List.take_of_length_le (by omega)] at h
          exact h
      case array n el =>
        split at hk
        · rename_i k1 hk1
          split at hk
          · rename_i hsz
            cases hk
            obtain ⟨ys, m, rfl, _, hl, hyl, hf⟩ := DataW.trod_array hu hx
            rw [cells_size hs] at hl
            have key : ∀ (j i : Nat), i + j = n → leavesB (List.replicate j k1).flatten ((cs.drop (i * k1.length)).take (j * k1.length)) = true ∧ ∀ v ∈ (cs.drop (i * k1.length)).take (j * k1.length), Bd v := by
              intro j
              induction j with
              | zero => intro i _; simp [leavesB]
              | succ j ih =>
                intro i hij
                have h1 := hf i (by omega)
                rw [List.getElem?_eq_getElem (by omega), cells_size hsz] at h1
                obtain ⟨a1, a2⟩ := trod_flat d el k1 m _ _ hk1 hsz h1
                obtain ⟨b1, b2⟩ := ih (i + 1) (by omega)
                have e1 : (j + 1) * k1.length = k1.length + j * k1.length := by rw [Nat.add_mul, Nat.one_mul, Nat.add_comm]
                have e2 : i * k1.length + k1.length = (i + 1) * k1.length := by rw [Nat.add_mul, Nat.one_mul]
                rw [e1, take_split, e2, List.replicate_succ, List.flatten_cons]
                refine ⟨leavesB_app a1 b1, fun v hv => ?_⟩
                rcases List.mem_append.1 hv with h | h
                · exact a2 v h
                · exact b2 v h
            have h := key n 0 (by omega)
            have e : (List.replicate n k1).flatten.length = n * k1.length := by simp
            rw [Nat.zero_mul, List.drop_zero, List.take_of_length_le (by omega)] at h
            exact h
          · cases hk
        · cases hk
/-- A struct or an array. -/
theorem open_flat {t : TypeId} {ks : List Bool} {v : Value} {x : DataW H} {p : List MemPlace} {b0 : Nat} {r : Reach} {d : Nat} (hk : leafK P d t = some ks) (hs : (P.info? t).map (·.size) = some ks.length) (ha : ∀ w, (isAgg t).run P w = .ok true w)
    (hv : Value.okWide P W r b0 t v) (h : DataW.Trod enc P W base sp held t v x p) : ∃ cs : List Value, v = .agg cs.toArray ∧ leavesB ks cs = true ∧ ∀ u ∈ cs, Bd u := by
  obtain ⟨fuel, hf⟩ := h
  have h1 := trod_flat d t ks fuel _ _ hk hs hf
  have hag : ∃ cs, v = .agg cs := by
    unfold Value.okWide at hv
    have h2 := ha W
    unfold isAgg at h2
    cases hu : P.underlying t with
    | none =>
      cases d with
      | zero => simp [leafK] at hk
      | succ d => unfold leafK at hk; simp [hu] at hk
    | some k =>
      rw [Sem.run_bind, run_underlying hu] at h2
      cases k <;> simp [hu] at hv h2 <;> exact ⟨_, hv.choose_spec.1⟩
  obtain ⟨⟨l⟩, rfl⟩ := hag
  exact ⟨l, rfl, h1.1, h1.2⟩
/-- A slice of such. -/
theorem open_flats {t e : TypeId} {ks : List Bool} {v : Value} {x : DataW H} {p : List MemPlace} {b0 : Nat} {r : Reach} {d : Nat} (ht : P.underlying t = some (.slice e)) (hk : leafK P d e = some ks) (hs : (P.info? e).map (·.size) = some ks.length) (h0 : 0 < ks.length)
    (hv : Value.okWide P W r b0 t v) (h : DataW.Trod enc P W base sp held t v x p) : ∃ (A : Option Addr) (l : List (List Value)) (c : Nat), v = .slice A l.length c ∧ RdE W A ks.length (fun x => x) l ∧ l.length ≤ c ∧ c ≤ 9223372036854775807 ∧ ∀ cs ∈ l, leavesB ks cs = true ∧ ∀ u ∈ cs, Bd u := by
  obtain ⟨A, len, cap, rfl⟩ := okWide_slice ht hv
  obtain ⟨fuel, hf⟩ := h
  rcases open_slice ht hf with ⟨hcs, _⟩ | ⟨a, len', cap', m, n, D, Pl, hcs, _, hl, hm, hmm, _, hi⟩
  · simp [Value.cells] at hcs
    obtain ⟨rfl, rfl, rfl⟩ := hcs
    exact ⟨none, [], 0, rfl, RdE.nil _ _ _ _, by simp, by omega, by simp⟩
  · simp [Value.cells] at hcs
    obtain ⟨rfl, rfl, rfl⟩ := hcs
    have hlm : len ≤ m := by rw [hmm]; split <;> omega
    let α := { cs : List Value // leavesB ks cs = true ∧ ∀ u ∈ cs, Bd u }
    obtain ⟨l, hll, hrd⟩ := rdE_of (α := α) (enc := fun x => x.1) (sz := ks.length) (w := W) (a := a) (fun x => by
      have := leavesB_len x.2.1
      exact ⟨_, List.getElem?_eq_getElem (by omega)⟩) len (fun i him => by
      obtain ⟨cs', hc, ht'⟩ := hi i (by omega)
      rw [cells_size hs] at hc
      obtain ⟨_, hcl, hat⟩ := World.cells?_some hc
      refine ⟨⟨cs', trod_flat d e ks n cs' _ hk hs ht'⟩, fun j u hu => ?_⟩
      have hj := (List.getElem?_eq_some_iff.1 hu).1
      have h1 := hat j (by simp only at hj; omega)
      rw [← Go.Deep.add_add, h1]
      exact hu)
    refine ⟨some a, l.map (·.1), cap, by simp [hll], fun k y hy => ?_, by simp; omega, by unfold maxLen at hm; omega, fun cs hcs => ?_⟩
    · rw [List.getElem?_map] at hy
      cases hx : l[k]? with
      | none => rw [hx] at hy; cases hy
      | some z =>
        rw [hx] at hy
        cases hy
        exact hrd k z hx
    · obtain ⟨z, _, rfl⟩ := List.mem_map.1 hcs
      exact z.2
end
/-- Rows of cells as what they stand for. -/
theorem RdE.typed {α : Type} {ks : List Bool} {E : α → List Value} (hE : ∀ cs, leavesB ks cs = true → (∀ u ∈ cs, Bd u) → ∃ x : α, E x = cs) {w : World} {A : Option Addr} {l : List (List Value)} (hl : ∀ cs ∈ l, leavesB ks cs = true ∧ ∀ u ∈ cs, Bd u) {sz : Nat} (h : RdE w A sz (fun x => x) l) :
    ∃ m : List α, m.map E = l ∧ m.length = l.length ∧ RdE w A sz E m := by
  have key : ∀ l : List (List Value), (∀ cs ∈ l, leavesB ks cs = true ∧ ∀ u ∈ cs, Bd u) → ∃ m : List α, m.map E = l := by
    intro l
    induction l with
    | nil => exact fun _ => ⟨[], rfl⟩
    | cons c l ih =>
      intro hl
      obtain ⟨m, rfl⟩ := ih fun cs hcs => hl cs (by simp [hcs])
      obtain ⟨x, rfl⟩ := hE c (hl c (by simp)).1 (hl c (by simp)).2
      exact ⟨x :: m, rfl⟩
  obtain ⟨m, rfl⟩ := key l hl
  refine ⟨m, rfl, by simp, fun k x hx => ?_⟩
  exact h k (E x) (by rw [List.getElem?_map, hx]; rfl)
theorem leavesI {cs : List Value} (h : leavesB [true] cs = true) : ∃ z : Int, cs = [.int .i64 z] := by
  match cs, h with
  | [v], h =>
    simp only [leavesB, Bool.and_true] at h
    unfold leafB at h
    split at h <;> simp_all
  | [], h => simp [leavesB] at h
  | _ :: _ :: _, h => simp [leavesB] at h
theorem open_ints2 {H : Type} {enc : TypeId × Value → H} {P : Program} {W : World} {base : Nat} {sp : Nat → Bool} {held : Bool} {t e : TypeId} {v : Value} {x : DataW H} {p : List MemPlace} {b0 : Nat} {r : Reach} (ht : P.underlying t = some (.slice e)) (he : leafK P 10 e = some [true]) (hs : (P.info? e).map (·.size) = some 1)
    (hv : Value.okWide P W r b0 t v) (h : DataW.Trod enc P W base sp held t v x p) : ∃ (A : Option Addr) (zs : List Int) (c : Nat), v = .slice A zs.length c ∧ RdI W A zs ∧ zs.length ≤ c ∧ c ≤ 9223372036854775807 ∧ ∀ z ∈ zs, -9223372036854775808 ≤ z ∧ z ≤ 9223372036854775807 := by
  obtain ⟨A, l, c, rfl, hrd, h1, h2, h3⟩ := open_flats ht he hs (by decide) hv h
  obtain ⟨m, e1, e2, hm⟩ := RdE.typed (α := Int) (E := encI) (fun cs hc _ => by obtain ⟨z, rfl⟩ := leavesI hc; exact ⟨z, rfl⟩) h3 hrd
  refine ⟨A, m, c, by rw [e2], hm, by omega, h2, fun z hz => ?_⟩
  have h4 := (h3 (encI z) (by rw [← e1]; exact List.mem_map_of_mem hz)).2 (.int .i64 z) (by simp [encI])
  exact h4 z rfl
/-- What a law's walk leaves, as the row wants it. -/
theorem Ct.lawF {f : FuncId} {args : Array Value} {Fact : World → Prop} (h : Ct Try.prog f args [] Fact (X := Unit) (fun _ => .bool true) (fun _ => True) (fun _ => [])) {W : World} (hF : Fact W) :
    Calls Try.prog f args W fun e W' => e = .returned (.bool true) ∧ Below W.heap.size W W' := by
  refine (h W (by simp) (by simp) hF).mono ?_
  rintro e W' ⟨_, rfl, _, hs⟩
  rw [foots_nil] at hs
  exact ⟨rfl, hs.below⟩
end Go.Proofs.Ytmjdmlgdffoimab
