/- '==' of structs and arrays whose leaves are integers and bools. -/
import Derived.Test.YtmjdmlgdffoimabCall
import Derived.Laws.StructEq
import Derived.ChangeKeysEq
namespace Go.Proofs.Ytmjdmlgdffoimab
open Go.RowKit

/-- Which leaves a flat type has: true for an integer, false for a bool. -/
def leafF (sz : TypeId → Option Nat) (rec : TypeId → Option (List Bool)) : Nat → List Field → Option (List Bool)
  | _, [] => some []
  | o, f :: fs =>
    match rec f.type with
    | some ks => if f.name ≠ "_" ∧ f.offset = o ∧ sz f.type = some ks.length then (leafF sz rec (o + ks.length) fs).map (ks ++ ·) else none
    | none => none
def leafK (P : Program) : Nat → TypeId → Option (List Bool)
  | 0, _ => none
  | d + 1, t =>
    match P.underlying t with
    | some .bool => some [false]
    | some (.int q) => if q = .i64 then some [true] else none
    | some (.struct fs) => if P.stoodInHeld t then none else leafF (fun t => (P.info? t).map (·.size)) (leafK P d) 0 fs.toList
    | some (.array n e) =>
      match leafK P d e with
      | some ks => if (P.info? e).map (·.size) = some ks.length then some (List.replicate n ks).flatten else none
      | none => none
    | _ => none
def leafB : Bool → Value → Bool
  | true, .int .i64 _ => true
  | false, .bool _ => true
  | _, _ => false
def leavesB : List Bool → List Value → Bool
  | [], [] => true
  | k :: ks, v :: vs => leafB k v && leavesB ks vs
  | _, _ => false
def valF (P : Program) (t : TypeId) (cs : List Value) : Value :=
  match P.underlying t with
  | some (.struct _) | some (.array _ _) => .agg cs.toArray
  | _ => cs.headD undef

theorem leavesB_len : ∀ {ks : List Bool} {cs : List Value}, leavesB ks cs = true → cs.length = ks.length
  | [], [], _ => rfl
  | k :: ks, v :: vs, h => by
    simp only [leavesB, Bool.and_eq_true] at h
    simp [leavesB_len h.2]
  | [], _ :: _, h => by simp [leavesB] at h
  | _ :: _, [], h => by simp [leavesB] at h
theorem leavesB_split : ∀ {ks ls : List Bool} {cs : List Value}, leavesB (ks ++ ls) cs = true → leavesB ks (cs.take ks.length) = true ∧ leavesB ls (cs.drop ks.length) = true
  | [], ls, cs, h => by simpa [leavesB] using h
  | k :: ks, ls, [], h => by simp [leavesB] at h
  | k :: ks, ls, v :: vs, h => by
    simp only [List.cons_append, leavesB, Bool.and_eq_true] at h
    have := leavesB_split h.2
    simp only [List.length_cons, List.take_succ_cons, List.drop_succ_cons, leavesB, Bool.and_eq_true]
    exact ⟨⟨h.1, this.1⟩, this.2⟩
theorem leavesB_of {ks : List Bool} {cs : List Value} (hl : cs.length = ks.length) (h : ∀ (i : Nat) (k : Bool) (v : Value), ks[i]? = some k → cs[i]? = some v → leafB k v = true) : leavesB ks cs = true := by
  induction ks generalizing cs with
  | nil => cases cs with
    | nil => rfl
    | cons _ _ => simp at hl
  | cons k ks ih => cases cs with
    | nil => simp at hl
    | cons v vs =>
      simp only [leavesB, Bool.and_eq_true]
      exact ⟨h 0 k v rfl rfl, ih (by simpa using hl) fun i k' v' h1 h2 => h (i + 1) k' v' (by simpa using h1) (by simpa using h2)⟩

theorem info_size {P : Program} {t : TypeId} {n : Nat} (h : (P.info? t).map (·.size) = some n) (w : World) : (sizeOf t).run P w = .ok n w := by
  obtain ⟨i, hi, rfl⟩ := Option.map_eq_some_iff.1 h
  simp [sizeOf, typeInfo, hi]
/-- A part of a row of cells. -/
theorem run_partF {P : Program} (w : World) {t : TypeId} {d : Nat} {ks : List Bool} {xs : List Value} {o : Nat} (hk : leafK P d t = some ks) (hs : (P.info? t).map (·.size) = some ks.length) (hl : leavesB ks ((xs.drop o).take ks.length) = true) :
    (part t xs.toArray o).run P w = .ok (valF P t ((xs.drop o).take ks.length)) w := by
  cases d with
  | zero => simp [leafK] at hk
  | succ d =>
    unfold leafK at hk
    unfold valF part isAgg
    have hsz := info_size hs w
    cases hu : P.underlying t with
    | none => simp [hu] at hk
    | some k =>
      have one : ks.length = 1 → (match xs.toArray[o]? with | some v => (pure v : Sem Value) | none => stuck "part: no such cell").run P w = .ok (((xs.drop o).take ks.length).headD undef) w := by
        intro e
        have h1 := leavesB_len hl
        rw [e] at h1 ⊢
        have h2 : o < xs.length := by
          rcases Nat.lt_or_ge o xs.length with h | h
          · exact h
          · rw [List.drop_eq_nil_of_le h] at h1; simp at h1
        rw [List.getElem?_toArray, List.getElem?_eq_getElem h2, List.drop_eq_getElem_cons h2]
        rfl
      cases k <;> simp only [hu] at hk <;> try (cases hk; done)
      case bool => cases hk; simp only [Sem.run_bind, run_underlying hu, Result.andThen_ok, Sem.run_pure, Bool.false_eq_true, if_false]; exact one rfl
      case int q => split at hk <;> cases hk; simp only [Sem.run_bind, run_underlying hu, Result.andThen_ok, Sem.run_pure, Bool.false_eq_true, if_false]; exact one rfl
      case struct fs =>
        simp only [Sem.run_bind, run_underlying hu, Result.andThen_ok, Sem.run_pure, if_true, hsz]
        simp
      case array n e =>
        simp only [Sem.run_bind, run_underlying hu, Result.andThen_ok, Sem.run_pure, if_true, hsz]
        simp

theorem valF_leaf {P : Program} {t : TypeId} {b : Bool} (hu : (P.underlying t = some .bool ∧ b = false) ∨ ((∃ q, P.underlying t = some (.int q)) ∧ b = true)) {xs : List Value} (h : leavesB [b] xs = true) : ∃ v, xs = [v] ∧ leafB b v = true ∧ valF P t xs = v := by
  match xs, h with
  | [v], h =>
    refine ⟨v, rfl, by simpa [leavesB] using h, ?_⟩
    rcases hu with ⟨h1, _⟩ | ⟨⟨q, h1⟩, _⟩ <;> simp [valF, h1]
  | [], h => simp [leavesB] at h
  | _ :: _ :: _, h => simp [leavesB] at h

/-- Are two rows of cells the same? -/
noncomputable def eqv (xs ys : List Value) : Bool := @decide (xs = ys) (Classical.propDecidable _)
theorem eqv_iff {xs ys : List Value} : eqv xs ys = true ↔ xs = ys := by unfold eqv; exact @decide_eq_true_iff _ (Classical.propDecidable _)
theorem eqv_self (xs : List Value) : eqv xs xs = true := eqv_iff.2 rfl
theorem eqv_ne {xs ys : List Value} (h : xs ≠ ys) : eqv xs ys = false := by
  cases e : eqv xs ys with
  | false => rfl
  | true => exact absurd (eqv_iff.1 e) h
theorem eqv_congr {xs ys xs' ys' : List Value} (h : xs = ys ↔ xs' = ys') : eqv xs ys = eqv xs' ys' := by
  cases e : eqv xs' ys' with
  | true => exact eqv_iff.2 (h.2 (eqv_iff.1 e))
  | false => exact eqv_ne fun e' => by rw [eqv_iff.2 (h.1 e')] at e; cases e
def EqOk (P : Program) (D : Nat) (t : TypeId) (ks : List Bool) : Prop := ∀ (w : World) xs ys, leavesB ks xs = true → leavesB ks ys = true → (Op.equalIn D t (valF P t xs) (valF P t ys)).run P w = .ok (eqv xs ys) w

theorem seg_eq {xs ys : List Value} {n : Nat} : xs = ys ↔ xs.take n = ys.take n ∧ xs.drop n = ys.drop n := by
  constructor
  · rintro rfl; exact ⟨rfl, rfl⟩
  · rintro ⟨h1, h2⟩
    rw [← List.take_append_drop n xs, ← List.take_append_drop n ys, h1, h2]
theorem eqFieldsF {P : Program} (D d : Nat) (hD : ∀ t ks, leafK P d t = some ks → EqOk P D t ks) : ∀ (fs : List Field) (o : Nat) (ks : List Bool), leafF (fun t => (P.info? t).map (·.size)) (leafK P d) o fs = some ks →
    ∀ (w : World) (xs ys : List Value), leavesB ks (xs.drop o) = true → leavesB ks (ys.drop o) = true → (Op.eqFields D xs.toArray ys.toArray fs).run P w = .ok (eqv (xs.drop o) (ys.drop o)) w
  | [], o, ks, hk, w, xs, ys, hx, hy => by
    simp only [leafF, Option.some.injEq] at hk
    subst hk
    have h1 := List.eq_nil_of_length_eq_zero (leavesB_len hx)
    have h2 := List.eq_nil_of_length_eq_zero (leavesB_len hy)
    rw [h1, h2]; simp [Op.eqFields, eqv_self]
  | f :: fs, o, ks, hk, w, xs, ys, hx, hy => by
    unfold leafF at hk
    cases hf : leafK P d f.type with
    | none => simp [hf] at hk
    | some k1 =>
      simp only [hf] at hk
      split at hk
      · rename_i hc
        obtain ⟨hn, ho, hs⟩ := hc
        obtain ⟨k2, hk2, rfl⟩ := Option.map_eq_some_iff.1 hk
        obtain ⟨hx1, hx2⟩ := leavesB_split hx
        obtain ⟨hy1, hy2⟩ := leavesB_split hy
        rw [List.drop_drop] at hx2 hy2
        have ih := eqFieldsF D d hD fs (o + k1.length) k2 hk2 w xs ys hx2 hy2
        have hd := hD _ _ hf w _ _ hx1 hy1
        unfold Op.eqFields
        rw [if_pos hn, ho]
        simp only [Sem.run_bind, run_partF w hf hs hx1, run_partF w hf hs hy1, Result.andThen_ok, hd]
        have he : (xs.drop o = ys.drop o) ↔ ((xs.drop o).take k1.length = (ys.drop o).take k1.length ∧ xs.drop (o + k1.length) = ys.drop (o + k1.length)) := by
          rw [← List.drop_drop, ← List.drop_drop]; exact seg_eq
        by_cases h1 : (xs.drop o).take k1.length = (ys.drop o).take k1.length
        · simp only [h1, eqv_self, Bool.not_true, Bool.false_eq_true, if_false, ih]
          congr 1
          exact eqv_congr (by rw [he]; exact ⟨fun h => ⟨h1, h⟩, fun h => h.2⟩)
        · simp only [eqv_ne h1, Bool.not_false, if_true, Sem.run_pure]
          congr 1
          exact (eqv_ne fun h => h1 (he.1 h).1).symm
      · cases hk
theorem eqItemsF {P : Program} (D : Nat) {e : TypeId} {ks : List Bool} {d : Nat} (hk : leafK P d e = some ks) (hs : (P.info? e).map (·.size) = some ks.length) (hD : EqOk P D e ks) : ∀ (n i : Nat) (w : World) (xs ys : List Value),
    leavesB (List.replicate n ks).flatten (xs.drop (i * ks.length)) = true → leavesB (List.replicate n ks).flatten (ys.drop (i * ks.length)) = true →
    (Op.eqItems D e ks.length xs.toArray ys.toArray (List.range' i n)).run P w = .ok (eqv (xs.drop (i * ks.length)) (ys.drop (i * ks.length))) w
  | 0, i, w, xs, ys, hx, hy => by
    have h1 := List.eq_nil_of_length_eq_zero (leavesB_len hx)
    have h2 := List.eq_nil_of_length_eq_zero (leavesB_len hy)
    rw [h1, h2]; simp [Op.eqItems, eqv_self]
  | n + 1, i, w, xs, ys, hx, hy => by
    rw [List.replicate_succ, List.flatten_cons] at hx hy
    obtain ⟨hx1, hx2⟩ := leavesB_split hx
    obtain ⟨hy1, hy2⟩ := leavesB_split hy
    have e1 : i * ks.length + ks.length = (i + 1) * ks.length := by rw [Nat.add_mul, Nat.one_mul]
    rw [List.drop_drop, e1] at hx2 hy2
    have ih := eqItemsF D hk hs hD n (i + 1) w xs ys hx2 hy2
    have hd := hD w _ _ hx1 hy1
    rw [List.range'_succ]
    unfold Op.eqItems
    simp only [Sem.run_bind, run_partF w hk hs hx1, run_partF w hk hs hy1, Result.andThen_ok, hd]
    have he : (xs.drop (i * ks.length) = ys.drop (i * ks.length)) ↔ ((xs.drop (i * ks.length)).take ks.length = (ys.drop (i * ks.length)).take ks.length ∧ xs.drop ((i + 1) * ks.length) = ys.drop ((i + 1) * ks.length)) := by
      rw [← e1, ← List.drop_drop, ← List.drop_drop]; exact seg_eq
    by_cases h1 : (xs.drop (i * ks.length)).take ks.length = (ys.drop (i * ks.length)).take ks.length
    · simp only [h1, eqv_self, Bool.not_true, Bool.false_eq_true, if_false, ih]
      congr 1
      exact eqv_congr (by rw [he]; exact ⟨fun h => ⟨h1, h⟩, fun h => h.2⟩)
    · simp only [eqv_ne h1, Bool.not_false, if_true, Sem.run_pure]
      congr 1
      exact (eqv_ne fun h => h1 (he.1 h).1).symm
theorem eqF {P : Program} : ∀ (d e : Nat) (t : TypeId) (ks : List Bool), leafK P d t = some ks → EqOk P (d + e) t ks
  | 0, _, t, ks, hk => by simp [leafK] at hk
  | d + 1, e, t, ks, hk => by
    intro w xs ys hx hy
    unfold leafK at hk
    rw [show d + 1 + e = (d + e) + 1 by omega]
    cases hu : P.underlying t with
    | none => simp [hu] at hk
    | some k =>
      cases k <;> simp only [hu] at hk <;> try (cases hk; done)
      case bool =>
        cases hk
        obtain ⟨u, rfl, h1, e1⟩ := valF_leaf (.inl ⟨hu, rfl⟩) hx
        obtain ⟨v, rfl, h2, e2⟩ := valF_leaf (.inl ⟨hu, rfl⟩) hy
        rw [e1, e2]
        cases u <;> simp only [leafB, Bool.false_eq_true] at h1
        cases v <;> simp only [leafB, Bool.false_eq_true] at h2
        rw [run_equalIn_bool' w _ _ _ _ hu]
        congr 1
        rename_i a b
        cases a <;> cases b <;> first | exact (eqv_self _).symm | exact (eqv_ne (by simp)).symm
      case int q =>
        split at hk <;> cases hk
        obtain ⟨u, rfl, h1, e1⟩ := valF_leaf (.inr ⟨⟨q, hu⟩, rfl⟩) hx
        obtain ⟨v, rfl, h2, e2⟩ := valF_leaf (.inr ⟨⟨q, hu⟩, rfl⟩) hy
        rw [e1, e2]
        unfold leafB at h1 h2
        split at h1 <;> simp_all
        split at h2 <;> simp_all
        rw [run_equalIn_int w _ _ _ _ _ _ hu]
        congr 1
        rename_i a b _
        exact Bool.eq_iff_iff.2 (by rw [eqv_iff]; simp)
      case struct fs =>
        split at hk
        · cases hk
        · rename_i hst
          have hfs : P.fieldsOf t = fs := by simp [Program.fieldsOf, hu]
          have hv : ∀ zs, valF P t zs = .agg zs.toArray := fun zs => by simp [valF, hu]
          rw [hv, hv, run_equalIn_struct w (d + e) t _ _ (by rw [hfs]; exact hu) (by simpa using hst), hfs]
          have := eqFieldsF (d + e) d (fun t ks h => eqF d e t ks h) fs.toList 0 ks hk w xs ys (by simpa using hx) (by simpa using hy)
          simpa using this
      case array n el =>
        split at hk
        · rename_i k1 hk1
          split at hk
          · rename_i hs
            cases hk
            obtain ⟨i, hi, hsz⟩ := Option.map_eq_some_iff.1 hs
            have hv : ∀ zs, valF P t zs = .agg zs.toArray := fun zs => by simp [valF, hu]
            have hco : P.cellsOf el = k1.length := by simp [Program.cellsOf, hi, hsz]
            rw [hv, hv, run_equalIn_array w (d + e) _ _ hu hi, hco, List.range_eq_range']
            have := eqItemsF (d + e) hk1 hs (eqF d e el k1 hk1) n 0 w xs ys (by simpa using hx) (by simpa using hy)
            simpa using this
          · cases hk
        · cases hk

section
variable {P : Program} {r : Option Nat} {S : World → Prop} {ρ : Env} {dst : Option Tmp} {ty : TypeId} {pos : String} {af : Array Edge} {g : Option (Nat × Bool)} {t t2 : TypeId} {x y : Operand}
theorem run_eqA {w : World} {xs ys : List Value} {ks : List Bool} (hk : leafK P 10 t = some ks) (hm : P.eqGuardType P.depth t = false) (ha : ∀ cs, valF P t cs = .agg cs.toArray) (hx : evo ρ x = .agg xs.toArray) (hy : evo ρ y = .agg ys.toArray) (h1 : leavesB ks xs = true) (h2 : leavesB ks ys = true) :
    (execOp (evo ρ) ⟨dst, .binOp .eql t x y t2, ty, pos, af, g⟩).run P w = .ok (.value (.bool (eqv xs ys))) w := by
  have h := eqF 10 9990 t ks hk w xs ys h1 h2
  rw [ha, ha] at h
  have h3 := run_eql_struct (P := P) w t xs.toArray ys.toArray
  rw [h] at h3
  simp only [execOp, Sem.run_bind, hx, hy, run_eqGuard_agg w .eql t x y _ _ hm, h3, Sem.run_pure, Result.andThen]
theorem run_neA {w : World} {xs ys : List Value} {ks : List Bool} (hk : leafK P 10 t = some ks) (hm : P.eqGuardType P.depth t = false) (ha : ∀ cs, valF P t cs = .agg cs.toArray) (hx : evo ρ x = .agg xs.toArray) (hy : evo ρ y = .agg ys.toArray) (h1 : leavesB ks xs = true) (h2 : leavesB ks ys = true) :
    (execOp (evo ρ) ⟨dst, .binOp .neq t x y t2, ty, pos, af, g⟩).run P w = .ok (.value (.bool (!eqv xs ys))) w := by
  have h := eqF 10 9990 t ks hk w xs ys h1 h2
  rw [ha, ha] at h
  have h3 := run_neq_struct (P := P) w t xs.toArray ys.toArray
  rw [h] at h3
  simp only [execOp, Sem.run_bind, hx, hy, run_eqGuard_agg w .neq t x y _ _ hm, h3, Sem.run_pure, Result.andThen]
theorem v_eqA {xs ys : List Value} {ks : List Bool} (hk : leafK P 10 t = some ks) (hm : P.eqGuardType P.depth t = false) (ha : ∀ cs, valF P t cs = .agg cs.toArray) (hx : evo ρ x = .agg xs.toArray) (hy : evo ρ y = .agg ys.toArray) (h1 : leavesB ks xs = true) (h2 : leavesB ks ys = true) :
    OpV P S ⟨dst, .binOp .eql t x y t2, ty, pos, af, g⟩ ρ (.bool (eqv xs ys)) := v_run fun _ _ => run_eqA hk hm ha hx hy h1 h2
theorem v_neA {xs ys : List Value} {ks : List Bool} (hk : leafK P 10 t = some ks) (hm : P.eqGuardType P.depth t = false) (ha : ∀ cs, valF P t cs = .agg cs.toArray) (hx : evo ρ x = .agg xs.toArray) (hy : evo ρ y = .agg ys.toArray) (h1 : leavesB ks xs = true) (h2 : leavesB ks ys = true) :
    OpV P S ⟨dst, .binOp .neq t x y t2, ty, pos, af, g⟩ ρ (.bool (!eqv xs ys)) := v_run fun _ _ => run_neA hk hm ha hx hy h1 h2
end
end Go.Proofs.Ytmjdmlgdffoimab
