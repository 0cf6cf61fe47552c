/- A law's frame: arguments opened, the statement's form shut: what any law of this kind needs around its walk. -/
import Derived.Test.YtmjdmlgdffoimabCall
import Derived.Test.YtmjdmlgdffoimabRows
import Derived.ProofKit
import Derived.Deep.Slices
import Derived.Deep.Fields
namespace Go.Proofs.Ytmjdmlgdffoimab
open Go.ChangeShapes Go.WideShapes Go.ChangeAt Go.RowKit Go.Deep

theorem own : ownKnob Try.prog.godebug = none := by kernel_rfl
theorem laidOut : laidOutB Try.prog = true := by kernel_rfl

theorem carryAll {H : Type} {enc : TypeId × Value → H} {P : Program} {W W' : World} (hl : laidOutB P = true) (hb : Below W.heap.size W W') : ∀ {ts : List TypeId} {vs : List Value} {ds : List (DataW H)} {ps : List MemPlace},
    ts.all (fun t => P.readableRec t && decide (t < P.types.size)) = true → DataW.TrodAll enc P W 0 (fun _ => true) true ts vs ds ps → (∀ x ∈ ps, x.block < W.heap.size) → DataW.TrodAll enc P W' 0 (fun b => decide (b < W.heap.size)) true ts vs ds ps
  | [], _, _, _, _, h, _ => by
    obtain ⟨rfl, rfl, rfl⟩ := trodAll_nil h
    exact trodAll_mk0
  | t :: ts, _, _, _, ht, h, hp => by
    obtain ⟨v, vs, d, ds, p, q, rfl, rfl, rfl, h1, h2⟩ := trodAll_cons h
    simp only [List.all_cons, Bool.and_eq_true, decide_eq_true_eq] at ht
    exact ⟨p, q, Below.trod hl ht.1.1 ht.1.2 h1 hb (fun x hx => hp x (List.mem_append_left _ hx)), carryAll hl hb (by simpa using ht.2) h2 (fun x hx => hp x (List.mem_append_right _ hx)), rfl⟩

theorem law_post {H : Type} {enc : TypeId × Value → H} {P : Program} {f : Func} {s : ChangeSpec} {W W' : World} {args : Array Value} {ds gs : List (DataW H)} {before : List MemPlace} {tb : TypeId} (hl : laidOutB P = true)
    (hW : DataW.Whole enc P f.params.toList s.vars false W args.toList ds gs before) (hvars : s.vars = []) (hty : f.params.toList.all (fun t => P.readableRec t && decide (t < P.types.size)) = true) (hres : f.resultTypes = #[tb]) (htb : P.underlying tb = some .bool)
    (hs : gs = [] → s.fn H ds = { results := [.lit (.bool true)], args := ds }) (hb : Below W.heap.size W W') : s.post enc P f false true false false W args (.bool true) W' := by
  have hW' := hW
  have hlt : ∀ x ∈ before, x.block < W.heap.size := fun x hx => by simpa using hW.lt x hx
  obtain ⟨p, q, hA, hV, rfl, hfz, hnd⟩ := hW
  rw [hvars] at hV
  obtain ⟨rfl, rfl⟩ := trodVars_none hV
  have e := hs rfl
  refine ⟨ds, [], p ++ [], [], p, [], hW', ?_, ?_, ?_, hb.frame _, fun h => by cases h⟩
  · rw [List.append_nil, e, hres]
    exact trodAll_mk1 (shut_bool htb true)
  · rw [List.append_nil, e]
    exact carryAll hl hb hty hA (fun x hx => hlt x (List.mem_append_left _ hx))
  · rw [List.append_nil, e, hvars]
    exact rfl

/-! ### Slices, opened as the walks want them -/
theorem rdE_of {α : Type} {enc : α → List Value} {sz : Nat} {w : World} {a : Addr} (h0 : ∀ x : α, ∃ u, (enc x)[0]? = some u) (len : Nat)
    (h : ∀ i, i < len → ∃ x : α, ∀ j u, (enc x)[j]? = some u → w.cell? (a.add (i * sz + j)) = some u) : ∃ l : List α, l.length = len ∧ RdE w (some a) sz enc l := by
  have key : ∀ n, n ≤ len → ∃ l : List α, l.length = n ∧ ∀ k x, l[k]? = some x → ∀ j u, (enc x)[j]? = some u → w.cell? (a.add (k * sz + j)) = some u := by
    intro n
    induction n with
    | zero => exact fun _ => ⟨[], rfl, by simp⟩
    | succ n ih =>
      intro hn
      obtain ⟨l, hl, hc⟩ := ih (by omega)
      obtain ⟨x, hx⟩ := h n (by omega)
      refine ⟨l ++ [x], by simp [hl], fun k y hy j u hu => ?_⟩
      by_cases hk : k < n
      · rw [List.getElem?_append_left (by omega)] at hy
        exact hc k y hy j u hu
      · have hkl := (List.getElem?_eq_some_iff.1 hy).1
        simp at hkl
        obtain rfl : k = n := by omega
        rw [List.getElem?_append_right (by omega), hl, Nat.sub_self] at hy
        cases hy
        exact hx j u hu
  obtain ⟨l, hl, hc⟩ := key len (Nat.le_refl _)
  refine ⟨l, hl, fun k x hx => ?_⟩
  have hpos : 0 < l.length := by have := (List.getElem?_eq_some_iff.1 hx).1; omega
  obtain ⟨u0, hu0⟩ := h0 l[0]
  have h1 := hc 0 l[0] (List.getElem?_eq_getElem hpos) 0 u0 hu0
  obtain ⟨b, o, s⟩ := a
  have hs : s = none := by
    cases s with
    | none => rfl
    | some k =>
      simp only [Nat.zero_mul, Nat.add_zero, Addr.add, if_true, World.cell?] at h1
      split at h1 <;> simp at h1
  subst hs
  refine ⟨b, o, rfl, fun j u hu => ?_⟩
  have h2 := hc k x hx j u hu
  rw [Addr.add_lit] at h2
  rw [Nat.add_assoc]
  exact h2

section
variable {H : Type} {enc : TypeId × Value → H} {P : Program} {W : World} {base b0 : Nat} {sp : Nat → Bool} {held : Bool} {t e : TypeId} {v : Value} {d : DataW H} {p : List MemPlace} {r : Reach}
theorem open_ilist (ht : P.underlying t = some (.slice e)) (he : P.underlying e = some (.int .i64)) (hc : P.cellsOf e = 1) (hv : Value.okWide P W r b0 t v) (h : DataW.Trod enc P W base sp held t v d p) :
    ∃ (A : Option Addr) (zs : List Int) (c : Nat), v = .slice A zs.length c ∧ RdI W A zs ∧ zs.length ≤ 9223372036854775807 ∧ ∀ z ∈ zs, -9223372036854775808 ≤ z ∧ z ≤ 9223372036854775807 := by
  obtain ⟨A, len, cap, rfl⟩ := okWide_slice ht hv
  obtain ⟨fuel, hf⟩ := h
  rcases open_ints ht he hc hf with ⟨hcs, _⟩ | ⟨a, len', cap', zs, hcs, _, hl, hm, hz, _, hcell, hws⟩
  · simp [Value.cells] at hcs
    obtain ⟨rfl, rfl, rfl⟩ := hcs
    exact ⟨none, [], 0, rfl, RdE.nil _ _ _ _, by simp, by simp⟩
  · simp [Value.cells] at hcs
    obtain ⟨rfl, rfl, rfl⟩ := hcs
    have hlz : len ≤ zs.length := by rw [hz]; split <;> omega
    obtain ⟨l, hll, hrd⟩ := rdE_of (enc := encI) (sz := 1) (w := W) (a := a) (fun x => ⟨_, rfl⟩) len (fun i hi => ⟨zs.getD i 0, fun j u hu => by
      match j, hu with
      | 0, hu => cases hu; simpa using hcell i (by omega)
      | j + 1, hu => simp at hu⟩)
    have hin : ∀ z ∈ l, z ∈ zs := by
      intro z hz'
      obtain ⟨k, hk, rfl⟩ := List.getElem_of_mem hz'
      obtain ⟨b, o, ha, hc'⟩ := hrd k _ (List.getElem?_eq_getElem hk)
      have h1 := hc' 0 (.int .i64 l[k]) rfl
      cases ha
      have h2 := hcell k (by omega)
      rw [Addr.add_lit] at h2
      rw [Nat.mul_one, Nat.add_zero, h2] at h1
      have h3 : zs.getD k 0 = l[k] := by simpa using h1
      rw [← h3, List.getD_eq_getElem?_getD, List.getElem?_eq_getElem (show k < zs.length by omega)]
      simp
    refine ⟨some a, l, cap, by rw [hll], hrd, by unfold maxLen at hm; omega, fun z hz' => ?_⟩
    have := hws z (hin z hz')
    simpa [Lit.wf, IntKind.min, IntKind.max, IntKind.signed, IntKind.bits] using this
theorem open_slice_fields {fs : Array Field} {fuel : Nat} {cs : List Value} {x : DataW H × List MemPlace} (ht : P.underlying t = some (.slice e)) (he : P.underlying e = some (.struct fs))
    (hone : oneCellFields P fs = true) (hC : P.cellsOf e = fs.size) (h : DataW.trod enc P W base sp held fuel t cs = some x) :
    cs = [.slice none 0 0] ∨ ∃ (a : Addr) (len cap m : Nat), cs = [.slice (some a) len cap] ∧ len ≤ cap ∧ cap ≤ maxLen ∧ len ≤ m ∧
      ∀ i, i < m → ∀ (j : Nat) (f : Field), fs[j]? = some f → ∃ (v : Value) (y : DataW H × List MemPlace) (n : Nat), W.cell? (a.add (i * fs.size + j)) = some v ∧ DataW.trod enc P W base sp held n f.type [v] = some y := by
  rcases open_slice ht h with h0 | ⟨a, len, cap, m, n, D, Pl, hcs, hb, hl, hm, hmm, hx, hi⟩
  · exact .inl h0.1
  · refine .inr ⟨a, len, cap, m, hcs, hl, hm, by rw [hmm]; split <;> omega, fun i him => ?_⟩
    obtain ⟨cs', hc, ht'⟩ := hi i him
    rw [hC] at hc
    obtain ⟨ys, n', hn', hy, hlen, hyl, hf⟩ := DataW.trod_struct he ht'
    obtain ⟨_, hcl, hat⟩ := World.cells?_some hc
    intro j f hj
    obtain ⟨ho, hk⟩ := hone_of hone j f hj
    have hjl : j < fs.size := (Array.getElem?_eq_some_iff.1 hj).1
    have hcell := hat j hjl
    have hv : cs'[j]? = some (cs'[j]'(by omega)) := List.getElem?_eq_getElem (by omega)
    have h1 := hf j f hj
    rw [ho, hk] at h1
    have hone' : (cs'.drop j).take 1 = [cs'[j]'(by omega)] := by
      rw [List.drop_eq_getElem_cons (by omega)]
      rfl
    rw [hone'] at h1
    have hys : ys[j]? = some (ys[j]'(by omega)) := List.getElem?_eq_getElem (by omega)
    refine ⟨_, _, n', ?_, h1.trans hys⟩
    rw [← Go.Deep.add_add, hcell, hv]
end
end Go.Proofs.Ytmjdmlgdffoimab
