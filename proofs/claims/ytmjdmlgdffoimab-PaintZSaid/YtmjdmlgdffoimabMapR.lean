/- for k, v := range m, over a map whose keys are integers: whichever order comes. -/
import Derived.Test.YtmjdmlgdffoimabMap
import Derived.Maps.RangeRun
namespace Go.Proofs.Ytmjdmlgdffoimab
open Go.RowKit

/-- Map b, ranged over by iterator r; done: the places of the entries that have come. -/
def rngP (b r : Nat) (m : List (Int × Value)) (done : List Nat) (w : World) : Prop :=
  (∀ j ∈ done, j < m.length) ∧ ∃ (bs : List Nat) (clock : Nat), bs.length = m.length ∧ bs.Nodup ∧ (∀ s ∈ bs, s < clock) ∧ w.heap[b]? = some (.map (entsL m bs).toArray clock) ∧ w.heap[r]? = some (.mapIter (some b) clock (done.map fun j => bs.getD j 0).toArray clock)
def rngI (b r : Nat) (m : List (Int × Value)) (done : List Nat) : HI := .gen (fun k => k = b ∨ k = r) (rngP b r m done)
theorem rngP_local (b r : Nat) (m : List (Int × Value)) (done : List Nat) : Local (fun k => k = b ∨ k = r) (rngP b r m done) :=
  ⟨fun w w' hk ⟨h0, bs, c, h1, h2, h3, h4, h5⟩ => ⟨h0, bs, c, h1, h2, h3, (hk b (.inl rfl)).trans h4, (hk r (.inr rfl)).trans h5⟩, fun w ⟨h0, bs, c, h1, h2, h3, h4, h5⟩ k hk => by rcases hk with rfl | rfl; exact lt_of_some h4; exact lt_of_some h5⟩
theorem entsL_get : ∀ (m : List (Int × Value)) (bs : List Nat) (j : Nat), bs.length = m.length → (entsL m bs)[j]? = (m[j]?).map fun p => ⟨.int .i64 p.1, p.2, bs.getD j 0⟩
  | [], [], j, _ => by simp [entsL]
  | p :: m, b :: bs, 0, _ => by simp [entsL]
  | p :: m, b :: bs, j + 1, h => by simp only [entsL, List.getElem?_cons_succ]; rw [entsL_get m bs j (by simpa using h)]; simp
theorem entsL_born (m : List (Int × Value)) (bs : List Nat) (h : bs.length = m.length) : (entsL m bs).map (·.born) = bs := by
  apply List.ext_getElem?
  intro j
  rw [List.getElem?_map, entsL_get m bs j h, Option.map_map]
  by_cases hj : j < m.length
  · rw [List.getElem?_eq_getElem hj, List.getElem?_eq_getElem (by omega)]
    simp [List.getD_eq_getElem?_getD, List.getElem?_eq_getElem (show j < bs.length by omega)]
  · rw [List.getElem?_eq_none (by omega), List.getElem?_eq_none (by omega)]; rfl
def nextV (m : List (Int × Value)) : Option Nat → Value
  | none => .tuple #[.bool false]
  | some j => .tuple #[.bool true, .int .i64 ((m[j]?.getD (0, undef)).1), (m[j]?.getD (0, undef)).2]
def nextD (done : List Nat) : Option Nat → List Nat
  | none => done
  | some j => done ++ [j]
/-- What is known of what came. -/
def nextOk (m : List (Int × Value)) (done : List Nat) : Option Nat → Prop
  | none => ∀ j < m.length, j ∈ done
  | some j => j < m.length ∧ j ∉ done
section
variable {P : Program} {ρ : Env} {r : Option Nat} {dst : Option Tmp} {ty : TypeId} {pos : String} {af : Array Edge} {g : Option (Nat × Bool)} {t kt et : TypeId} {x : Operand} {w0 : World} {M : Nat → Prop} {σ σ' : List HI} {m : List (Int × Value)} {done : List Nat}
theorem x_range {σ'' : Nat → List HI} {i b : Nat} (ht : P.underlying t = some (.map kt et)) (hx : evo ρ x = .map (some b)) (hi : σ[i]? = some (mapI b m)) (hσ : ∀ q, σ.set i (rngI b q m []) = σ'' q) :
    OpX P r (St w0 M σ) ⟨dst, .range t x, ty, pos, af, g⟩ ρ (X := Nat) (fun q => .pointer (some ⟨q, 0, none⟩)) (fun q => St w0 M (σ'' q)) := OpX.of_run rfl fun w hw => by
  obtain ⟨bs, c, h1, h2, h3, h4⟩ := hw.mapAt hi
  have hb : b < w.heap.size := lt_of_some h4
  refine ⟨w.heap.size, w.alloc (.mapIter (some b) c #[] c), by simp [execOp, hx, run_range_map w t kt et b _ c ht h4, Result.andThen], ?_⟩
  rw [← hσ]
  refine hw.upd hi (St.turn (fun k hk _ => Below.heap_alloc w _ k hk) ⟨rngP_local _ _ _ _, by simp, bs, c, h1, h2, h3, (Below.heap_alloc w _ b hb).trans h4, World.alloc_heap_new w _⟩ ?_ rfl rfl rfl (by simp))
  intro k hk
  rcases hk with rfl | rfl
  · exact .inr rfl
  · exact .inl (Nat.le_refl _)
theorem x_next {σ'' : Option Nat → List HI} {i b q : Nat} (hx : evo ρ x = .pointer (some ⟨q, 0, none⟩)) (hi : σ[i]? = some (rngI b q m done)) (hσ : ∀ o, σ.set i (rngI b q m (nextD done o)) = σ'' o) :
    OpX P r (St w0 M σ) ⟨dst, .next x false, ty, pos, af, g⟩ ρ (X := Option Nat) (nextV m) (fun o w' => nextOk m done o ∧ St w0 M (σ'' o) w') := OpX.of_run rfl fun w hw => by
  obtain ⟨hdl, bs, c, h1, h2, h3, h4, h5⟩ : rngP b q m done w := (hw.all _ (List.mem_of_getElem? hi)).2
  have hold : ∀ e ∈ (entsL m bs).toArray.toList, e.born < c := fun e he => by
    refine h3 _ ?_
    rw [← entsL_born m bs h1]
    exact List.mem_map.2 ⟨e, by simpa using he, rfl⟩
  rcases run_next_at (P := P) w ty q b c c _ _ c h5 h4 hold (Nat.le_refl _) with ⟨h0, hrun⟩ | ⟨e, he, w1, hal, hrun⟩
  · refine ⟨none, w, by simp [execOp, hx, hrun, Result.andThen, nextV], ?_, ?_⟩
    · intro j hj
      have hg := entsL_get m bs j h1
      rw [List.getElem?_eq_getElem hj] at hg
      have h6 := all_seen _ _ h0 _ (by simpa using List.mem_of_getElem? hg)
      simp only [List.contains_toArray, List.contains_iff_mem, List.mem_map] at h6
      obtain ⟨j2, hj2, e2⟩ := h6
      have hl2 : j2 < bs.length := by have := hdl j2 hj2; omega
      have hl : j < bs.length := by omega
      simp only [List.getD_eq_getElem?_getD, List.getElem?_eq_getElem hl2, List.getElem?_eq_getElem hl, Option.getD_some] at e2
      have := (List.getElem_inj h2).1 e2
      rw [← this]; exact hj2
    · rw [← hσ]
      have e1 : σ.set i (rngI b q m (nextD done none)) = σ := by
        apply List.ext_getElem?
        intro j
        rw [List.getElem?_set]
        split
        · rename_i hij; subst hij
          rw [if_pos (List.getElem?_eq_some_iff.1 hi).1]; exact hi.symm
        · rfl
      rw [e1]; exact hw
  · obtain ⟨hem, hes⟩ := mem_left he
    obtain ⟨j, hj⟩ := List.getElem?_of_mem (show e ∈ entsL m bs by simpa using hem)
    rw [entsL_get m bs j h1] at hj
    obtain ⟨p, hp, rfl⟩ := Option.map_eq_some_iff.1 hj
    have hlt := (List.getElem?_eq_some_iff.1 hp).1
    have hr1 : w1.heap[q]? = some (.mapIter (some b) c (done.map fun j => bs.getD j 0).toArray c) := by rcases hal with rfl | rfl <;> exact h5
    have hb1 : w1.heap[b]? = some (.map (entsL m bs).toArray c) := by rcases hal with rfl | rfl <;> exact h4
    have hne : b ≠ q := fun e => by rw [e, h5] at h4; cases h4
    have hset := MapKept.heap_set (o' := .mapIter (some b) c ((done.map fun j => bs.getD j 0).toArray.push (bs.getD j 0)) c) hr1
    refine ⟨some j, ChangeMaps.setBlock w1 q (.mapIter (some b) c ((done.map fun j => bs.getD j 0).toArray.push (bs.getD j 0)) c), by simp only [execOp, Sem.run_bind, hx, hrun, Sem.run_pure, Result.andThen, nextV, hp, Option.getD_some], ⟨hlt, fun hd => ?_⟩, ?_⟩
    · have : (bs.getD j 0) ∈ done.map fun j => bs.getD j 0 := List.mem_map.2 ⟨j, hd, rfl⟩
      simp only [List.contains_toArray] at hes
      rw [List.contains_iff_mem.2 this] at hes
      cases hes
    · rw [← hσ]
      refine hw.upd hi (St.turn (fun k _ hn => ?_) ⟨rngP_local _ _ _ _, fun k hk => (by rcases List.mem_append.1 hk with hk | hk; exact hdl k hk; simp at hk; rw [hk]; exact hlt), bs, c, h1, h2, h3, (hset.2 b hne).trans hb1, ?_⟩ (fun k hk => .inr hk) ?_ ?_ ?_ ?_)
      · rw [show w.heap[k]? = w1.heap[k]? by rcases hal with rfl | rfl <;> rfl]
        exact hset.2 k fun e => hn (.inr e)
      · rw [show (nextD done (some j)).map (fun j => bs.getD j 0) = (done.map fun j => bs.getD j 0) ++ [bs.getD j 0] by simp [nextD]]
        rw [← List.push_toArray]
        exact hset.1
      · rcases hal with rfl | rfl <;> rfl
      · rcases hal with rfl | rfl <;> rfl
      · rcases hal with rfl | rfl <;> rfl
      · rw [show w.heap.size = w1.heap.size by rcases hal with rfl | rfl <;> rfl]
        simp [ChangeMaps.setBlock]
theorem v_isNext {o : Option Nat} {S : World → Prop} (hx : evo ρ x = nextV m o) : OpV P S ⟨dst, .extract x 0, ty, pos, af, g⟩ ρ (.bool o.isSome) := by
  cases o with
  | none => exact v_extract hx rfl
  | some j => exact v_extract hx rfl
theorem v_entry {i b q j : Nat} {p : Int × Value} (hx : evo ρ x = .pointer (some ⟨q, 0, none⟩)) (hi : σ[i]? = some (rngI b q m (done ++ [j]))) (hp : m[j]? = some p) : OpV P (St w0 M σ) ⟨dst, .entry x, ty, pos, af, g⟩ ρ (.tuple #[.int .i64 p.1, p.2]) := v_run fun w hw => by
  obtain ⟨_, bs, c, h1, h2, h3, h4, h5⟩ : rngP b q m (done ++ [j]) w := (hw.all _ (List.mem_of_getElem? hi)).2
  have hg := entsL_get m bs j h1
  rw [hp] at hg
  have h6 := run_entry_at (P := P) w q b c (done.map fun j => bs.getD j 0).toArray (entsL m bs).toArray c ⟨.int .i64 p.1, p.2, bs.getD j 0⟩ (by rw [h5, List.push_toArray]; simp) h4 (by simpa using List.mem_of_getElem? hg) (by rw [List.toList_toArray, entsL_born m bs h1]; exact h2)
  simp [execOp, hx, h6, Result.andThen]
/-- The loop is over: the map is there. -/
theorem St.rngEnd {w : World} {b q : Nat} {F : List HI} (h : St w0 M (rngI b q m done :: F) w) : St w0 M (mapI b m :: F) w := by
  have hh := h.all (rngI b q m done) (by simp)
  obtain ⟨_, bs, c, h1, h2, h3, h4, h5⟩ := hh.2
  refine h.upd (i := 0) rfl (St.turn (fun _ _ _ => rfl) ⟨mapP_local b m, bs, c, h1, h2, h3, h4⟩ (fun k hk => .inr (.inl hk)) rfl rfl rfl (Nat.le_refl _))
end
end Go.Proofs.Ytmjdmlgdffoimab
