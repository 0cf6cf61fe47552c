/- Maps whose keys are integers. -/
import Derived.Test.YtmjdmlgdffoimabIter
namespace Go.Proofs.Ytmjdmlgdffoimab
open Go.RowKit

def lookM : List (Int × Value) → Int → Option Value
  | [], _ => none
  | p :: m, k => if p.1 = k then some p.2 else lookM m k
def putM : List (Int × Value) → Int → Value → List (Int × Value)
  | [], k, v => [(k, v)]
  | p :: m, k, v => if p.1 = k then (k, v) :: m else p :: putM m k v
def delM : List (Int × Value) → Int → List (Int × Value)
  | [], _ => []
  | p :: m, k => if p.1 = k then m else p :: delM m k
def entsL : List (Int × Value) → List Nat → List MapEntry
  | p :: m, b :: bs => ⟨.int .i64 p.1, p.2, b⟩ :: entsL m bs
  | _, _ => []
/-- Block b is a map with these entries. -/
def mapP (b : Nat) (m : List (Int × Value)) (w : World) : Prop := ∃ (bs : List Nat) (clock : Nat), bs.length = m.length ∧ bs.Nodup ∧ (∀ s ∈ bs, s < clock) ∧ w.heap[b]? = some (.map (entsL m bs).toArray clock)
def mapI (b : Nat) (m : List (Int × Value)) : HI := .gen (fun k => k = b) (mapP b m)
theorem mapP_local (b : Nat) (m : List (Int × Value)) : Local (fun k => k = b) (mapP b m) :=
  ⟨fun w w' hk ⟨bs, c, h1, h2, h3, h4⟩ => ⟨bs, c, h1, h2, h3, (hk b rfl).trans h4⟩, fun w ⟨bs, c, h1, h2, h3, h4⟩ k hk => by subst hk; exact lt_of_some h4⟩
theorem entsL_len : ∀ {m : List (Int × Value)} {bs : List Nat}, bs.length = m.length → (entsL m bs).length = m.length
  | [], [], _ => rfl
  | _ :: m, _ :: bs, h => by simp only [entsL, List.length_cons]; rw [entsL_len (by simpa using h)]
theorem findNow_int {q : IntKind} (k : Int) : ∀ (m : List (Int × Value)) (bs : List Nat) (i : Nat), bs.length = m.length →
    ∃ r, Instr.findNow (.int q) (.int .i64 k) (entsL m bs) i = some r ∧ r.map (·.2) = lookM m k ∧ (∀ p, r = some p → ∃ j, p.1 = i + j ∧ (∀ v, putM m k v = m.set j (k, v)) ∧ delM m k = m.eraseIdx j ∧ j < m.length ∧ ∃ u, m[j]? = some (k, u)) ∧ (r = none → (∀ v, putM m k v = m ++ [(k, v)]) ∧ delM m k = m ∧ ∀ p ∈ m, p.1 ≠ k)
  | [], [], i, _ => ⟨none, rfl, rfl, fun p h => (by cases h), fun _ => ⟨fun _ => rfl, rfl, by simp⟩⟩
  | p :: m, b :: bs, i, h => by
    simp only [entsL, Instr.findNow, Instr.sameNow, if_true]
    by_cases e : p.1 = k
    · have e' : (k == p.1) = true := by simp [e]
      rw [e']
      refine ⟨some (i, p.2), rfl, by simp [lookM, e], fun q hq => ?_, fun h => (by cases h)⟩
      cases hq
      exact ⟨0, rfl, fun v => by simp [putM, e], by simp [delM, e], by simp, p.2, by rw [← e]; rfl⟩
    · have e' : (k == p.1) = false := by simpa using fun h => e h.symm
      rw [e']
      obtain ⟨r, h1, h2, h3, h4⟩ := findNow_int k m bs (i + 1) (by simpa using h)
      refine ⟨r, h1, by rw [h2]; simp [lookM, e], fun q hq => ?_, fun hn => ?_⟩
      · obtain ⟨j, hj, hp, hd, hl, u, hu⟩ := h3 q hq
        exact ⟨j + 1, by omega, fun v => by simp [putM, e, hp v], by simp [delM, e, hd], by simp; omega, u, by simpa using hu⟩
      · obtain ⟨hp, hd, hall⟩ := h4 hn
        refine ⟨fun v => by simp [putM, e, hp v], by simp [delM, e, hd], fun x hx => ?_⟩
        rcases List.mem_cons.1 hx with rfl | hx
        · exact e
        · exact hall x hx
theorem entsL_set (k : Int) (v : Value) : ∀ (m : List (Int × Value)) (bs : List Nat) (j : Nat), bs.length = m.length → (∃ u, m[j]? = some (k, u)) → (entsL m bs).modify j (fun e => { e with key := .int .i64 k, val := v }) = entsL (m.set j (k, v)) bs
  | [], [], j, _, ⟨u, hu⟩ => by simp at hu
  | p :: m, b :: bs, 0, _, ⟨u, hu⟩ => by simp [entsL]
  | p :: m, b :: bs, j + 1, h, ⟨u, hu⟩ => by
    simp only [entsL, List.modify_succ_cons, List.set_cons_succ]
    rw [entsL_set k v m bs j (by simpa using h) ⟨u, by simpa using hu⟩]
theorem entsL_erase : ∀ (m : List (Int × Value)) (bs : List Nat) (j : Nat), bs.length = m.length → (entsL m bs).eraseIdx j = entsL (m.eraseIdx j) (bs.eraseIdx j)
  | [], [], j, _ => by simp [entsL]
  | p :: m, b :: bs, 0, _ => by simp [entsL]
  | p :: m, b :: bs, j + 1, h => by
    simp only [entsL, List.eraseIdx_cons_succ]
    rw [entsL_erase m bs j (by simpa using h)]
theorem entsL_snoc (p : Int × Value) (s : Nat) : ∀ (m : List (Int × Value)) (bs : List Nat), bs.length = m.length → entsL (m ++ [p]) (bs ++ [s]) = entsL m bs ++ [⟨.int .i64 p.1, p.2, s⟩]
  | [], [], _ => rfl
  | q :: m, b :: bs, h => by
    simp only [List.cons_append, entsL]
    rw [entsL_snoc p s m bs (by simpa using h)]

section
variable {P : Program} {r : Option Nat} {S : World → Prop} {ρ : Env} {dst : Option Tmp} {ty : TypeId} {pos : String} {af : Array Edge} {g : Option (Nat × Bool)} {t kt et : TypeId} {x y v : Operand} {q : IntKind}
theorem run_checkKeyN {w : World} (e : Bool) (n : Nat) (hk : P.underlying kt = some (.int q)) (k : Int) : (Instr.checkKey e (n + 1) kt (.int .i64 k)).run P w = .ok () w := by
  simp [Instr.checkKey, run_underlying hk]
theorem run_checkKey {w : World} (e : Bool) (hk : P.underlying kt = some (.int q)) (k : Int) : (Instr.checkKey e 10000 kt (.int .i64 k)).run P w = .ok () w := run_checkKeyN e 9999 hk k
theorem run_lookup {w : World} {b : Nat} {m : List (Int × Value)} {z : Value} (ht : P.underlying t = some (.map kt et)) (hk : P.underlying kt = some (.int q)) (hz : (zeroValue et).run P w = .ok z w) (hm : mapP b m w) (k : Int) (ok : Bool) :
    (Instr.lookup t (.map (some b)) (.int .i64 k) ok).run P w = .ok (if ok then .tuple #[(lookM m k).getD z, .bool (lookM m k).isSome] else (lookM m k).getD z) w := by
  obtain ⟨bs, c, h1, h2, h3, h4⟩ := hm
  obtain ⟨rr, e1, e2, _, _⟩ := findNow_int (q := q) k m bs 0 h1
  have hf : (Instr.findKey kt (.int .i64 k) (entsL m bs).toArray.toList).run P w = .ok rr w := by simp [Instr.findKey, run_underlying hk, e1]
  have hg : (getObj b).run P w = .ok (.map (entsL m bs).toArray c) w := by simp [getObj, Sem.run, h4]
  simp only [Instr.lookup, Sem.run_bind, run_underlying ht, Result.andThen_ok, hg, Sem.run_pure, run_checkKey _ hk, hf]
  rw [← e2]
  cases rr with
  | none => cases ok <;> simp [hz]
  | some p => cases ok <;> simp
theorem v_lookup {b : Nat} {m : List (Int × Value)} {z : Value} {k : Int} (ht : P.underlying t = some (.map kt et)) (hk : P.underlying kt = some (.int q)) (hz : ∀ w, (zeroValue et).run P w = .ok z w) (hx : evo ρ x = .map (some b)) (hy : evo ρ y = .int .i64 k) (hm : ∀ w, S w → mapP b m w) :
    OpV P S ⟨dst, .lookup t x y false, ty, pos, af, g⟩ ρ ((lookM m k).getD z) := v_run fun w hw => by
  have h := run_lookup ht hk (hz w) (hm w hw) k false
  simp only [execOp, Sem.run_bind, hx, hy, Sem.run_pure, Result.andThen]
  rw [h]; rfl
theorem v_lookupOk {b : Nat} {m : List (Int × Value)} {z : Value} {k : Int} (ht : P.underlying t = some (.map kt et)) (hk : P.underlying kt = some (.int q)) (hz : ∀ w, (zeroValue et).run P w = .ok z w) (hx : evo ρ x = .map (some b)) (hy : evo ρ y = .int .i64 k) (hm : ∀ w, S w → mapP b m w) :
    OpV P S ⟨dst, .lookup t x y true, ty, pos, af, g⟩ ρ (.tuple #[(lookM m k).getD z, .bool (lookM m k).isSome]) := v_run fun w hw => by
  have h := run_lookup ht hk (hz w) (hm w hw) k true
  simp only [execOp, Sem.run_bind, hx, hy, Sem.run_pure, Result.andThen]
  rw [h]; rfl
theorem v_lenMap {b : Nat} {m : List (Int × Value)} (ht : P.underlying t = some (.map kt et)) (hx : evo ρ x = .map (some b)) (hm : ∀ w, S w → mapP b m w) : OpV P S ⟨dst, .call ⟨.builtin .len, #[x], #[t]⟩, ty, pos, af, g⟩ ρ (.int .i64 (m.length : Int)) := v_run fun w hw => by
  obtain ⟨bs, c, h1, h2, h3, h4⟩ := hm w hw
  have hg : (getObj b).run P w = .ok (.map (entsL m bs).toArray c) w := by simp [getObj, Sem.run, h4]
  simp [execOp, resolve, invoke, builtin, hx, Builtin.len_, Result.andThen, goInt, run_underlying ht, hg, entsL_len h1]
/-- A pointer and nil. -/
theorem run_eqNilN {e : TypeId} {p : Option Addr} (n : Nat) (ht : P.underlying t = some (.pointer e)) (w : World) : (Op.equalIn (n + 1) t (.pointer p) (.pointer none)).run P w = .ok p.isNone w := by
  cases p <;> simp [Op.equalIn, run_underlying ht]
theorem run_ptrNil {e : TypeId} {p : Option Addr} {t2 : TypeId} (op : BinOp) (hop : op = .eql ∨ op = .neq) (ht : P.underlying t = some (.pointer e)) (hx : evo ρ x = .pointer p) (hy : evo ρ y = .pointer none) (w : World) :
    (execOp (evo ρ) ⟨dst, .binOp op t x y t2, ty, pos, af, g⟩).run P w = .ok (.value (.bool (if op = .eql then p.isNone else p.isSome))) w := by
  have e : (eqGuard op t x y (.pointer p) (.pointer none)).run P w = .ok () w := by rcases hop with rfl | rfl <;> rfl
  have h1 : (Op.equalIn 10000 t (.pointer p) (.pointer none)).run P w = .ok p.isNone w := run_eqNilN 9999 ht w
  rcases hop with rfl | rfl
  · simp [execOp, hx, hy, e, binOp, Op.equal, Op.maxDepth, h1, Result.andThen]
  · simp [execOp, hx, hy, e, binOp, Op.equal, Op.maxDepth, h1, Result.andThen]
theorem v_eqNil {e : TypeId} {p : Option Addr} {t2 : TypeId} (ht : P.underlying t = some (.pointer e)) (hx : evo ρ x = .pointer p) (hy : evo ρ y = .pointer none) : OpV P S ⟨dst, .binOp .eql t x y t2, ty, pos, af, g⟩ ρ (.bool p.isNone) := v_run fun w _ => by
  have h := run_ptrNil (P := P) (dst := dst) (ty := ty) (pos := pos) (af := af) (g := g) (t2 := t2) .eql (.inl rfl) ht hx hy w
  simpa using h
theorem v_neNil {e : TypeId} {p : Option Addr} {t2 : TypeId} (ht : P.underlying t = some (.pointer e)) (hx : evo ρ x = .pointer p) (hy : evo ρ y = .pointer none) : OpV P S ⟨dst, .binOp .neq t x y t2, ty, pos, af, g⟩ ρ (.bool p.isSome) := v_run fun w _ => by
  have h := run_ptrNil (P := P) (dst := dst) (ty := ty) (pos := pos) (af := af) (g := g) (t2 := t2) .neq (.inr rfl) ht hx hy w
  simpa using h

section
variable {w0 : World} {M : Nat → Prop} {σ σ' : List HI}
theorem St.mapAt {w : World} {i b : Nat} {m : List (Int × Value)} (h : St w0 M σ w) (hi : σ[i]? = some (mapI b m)) : mapP b m w := (h.all _ (List.mem_of_getElem? hi)).2
theorem run_setObj {w : World} {b : Nat} {es : Array MapEntry} {c : Nat} {o' : Obj} (h : w.heap[b]? = some (.map es c)) : (setObj b o').run P w = .ok () (w.putObj b o') := by
  simp [setObj, Sem.run, World.putObj, h]
theorem St.putMap {w : World} {i b : Nat} {m m' : List (Int × Value)} {o' : Obj} (h : St w0 M σ w) (hi : σ[i]? = some (mapI b m)) (hp : ∀ w', w'.heap[b]? = some o' → mapP b m' w') : St w0 M (σ.set i (mapI b m')) (w.putObj b o') := by
  obtain ⟨bs, c, h1, h2, h3, h4⟩ := h.mapAt hi
  have hlt := lt_of_some h4
  refine h.upd hi (St.turn (fun k _ hn => World.putObj_heap_other hn) ⟨mapP_local b m', hp _ (World.putObj_heap_same hlt)⟩ (fun _ hb => .inr hb) rfl rfl rfl (by simp))
theorem x_mapPut {i b : Nat} {m : List (Int × Value)} {k : Int} {u : Value} (ht : P.underlying t = some (.map kt et)) (hk : P.underlying kt = some (.int q)) (hx : evo ρ x = .map (some b)) (hy : evo ρ y = .int .i64 k) (hv : evo ρ v = u) (hi : σ[i]? = some (mapI b m)) (hσ : σ.set i (mapI b (putM m k u)) = σ') :
    OpX P r (St w0 M σ) ⟨dst, .mapUpdate t x y v, ty, pos, af, g⟩ ρ (X := Unit) (fun _ => undef) (fun _ => St w0 M σ') := OpX.of_skip rfl fun w hw => by
  have hm := hw.mapAt hi
  obtain ⟨bs, c, h1, h2, h3, h4⟩ := hm
  obtain ⟨rr, e1, _, e3, e4⟩ := findNow_int (q := q) k m bs 0 h1
  have hf : (Instr.findKey kt (.int .i64 k) (entsL m bs).toArray.toList).run P w = .ok rr w := by simp [Instr.findKey, run_underlying hk, e1]
  have hg : (getObj b).run P w = .ok (.map (entsL m bs).toArray c) w := by simp [getObj, Sem.run, h4]
  cases rr with
  | none =>
    obtain ⟨hp, _, hall⟩ := e4 rfl
    refine ⟨w.putObj b (.map ((entsL m bs).toArray.push ⟨.int .i64 k, u, c⟩) (c + 1)), ?_, ?_⟩
    · simp only [execOp, Sem.run_bind, hx, hy, hv, Sem.run_pure, Result.andThen, Instr.mapUpdate, run_underlying ht, hg, run_checkKey _ hk, hf, run_setObj h4]
    · rw [← hσ]
      refine hw.putMap hi fun w' hw' => ⟨bs ++ [c], c + 1, by rw [hp]; simp [h1], ?_, fun s hs => ?_, ?_⟩
      · rw [List.nodup_append]
        refine ⟨h2, by simp, fun a ha d hd e => ?_⟩
        have := h3 a ha
        simp at hd
        omega
      · rcases List.mem_append.1 hs with hs | hs
        · have := h3 s hs; omega
        · simp at hs; omega
      · rw [hp, entsL_snoc _ _ _ _ h1, hw']
        simp
  | some p =>
    obtain ⟨j, hj, hp, hd, hl, u0, hu⟩ := e3 p rfl
    have hj' : p.1 = j := by omega
    have hent : ∃ en, (entsL m bs)[j]? = some en ∧ en.key = .int .i64 k := by
      have key : ∀ (m : List (Int × Value)) (bs : List Nat) (j : Nat), bs.length = m.length → m[j]? = some (k, u0) → ∃ en, (entsL m bs)[j]? = some en ∧ en.key = .int .i64 k := by
        intro m
        induction m with
        | nil => intro bs j _ h; simp at h
        | cons p m ih =>
          intro bs j hb h
          cases bs with
          | nil => simp at hb
          | cons b bs =>
            cases j with
            | zero => simp at h; exact ⟨_, rfl, by rw [h]⟩
            | succ j => exact ih bs j (by simpa using hb) (by simpa using h)
      exact key m bs j h1 hu
    obtain ⟨en, hen, henk⟩ := hent
    refine ⟨w.putObj b (.map ((entsL m bs).toArray.modify p.1 fun e => { e with key := .int .i64 k, val := u }) c), ?_, ?_⟩
    · have hst : (Instr.keyThatStays ((((entsL m bs).toArray[p.1]?).map (·.key)).getD (.int .i64 k)) (.int .i64 k)).run P w = .ok (.int .i64 k) w := by
        rw [hj', List.getElem?_toArray, hen]
        simp [henk, Instr.keyThatStays, Instr.sameBits]
      simp only [execOp, Sem.run_bind, hx, hy, hv, Sem.run_pure, Result.andThen, Instr.mapUpdate, run_underlying ht, hg, run_checkKey _ hk, hf, hst, run_setObj h4]
    · rw [← hσ]
      refine hw.putMap hi fun w' hw' => ⟨bs, c, by rw [hp]; simp [h1], h2, h3, ?_⟩
      rw [hp, hw', hj', ← entsL_set k u m bs j h1 ⟨u0, hu⟩]
      simp [List.modify_toArray]
theorem x_mapIns {i b : Nat} {m : List (Int × Value)} {k : Int} {u : Value} (ht : P.underlying t = some (.map kt et)) (hk : P.underlying kt = some (.int q)) (hx : evo ρ x = .map (some b)) (hy : evo ρ y = .int .i64 k) (hv : evo ρ v = u) (hi : σ[i]? = some (mapI b m)) (hσ : σ.set i (mapI b (putM m k u)) = σ') :
    OpX P r (St w0 M σ) ⟨dst, .insert t x y v, ty, pos, af, g⟩ ρ (X := Unit) (fun _ => undef) (fun _ => St w0 M σ') := OpX.of_skip rfl fun w hw => by
  have hm := hw.mapAt hi
  obtain ⟨bs, c, h1, h2, h3, h4⟩ := hm
  obtain ⟨rr, e1, _, e3, e4⟩ := findNow_int (q := q) k m bs 0 h1
  have hf : (Instr.findKey kt (.int .i64 k) (entsL m bs).toArray.toList).run P w = .ok rr w := by simp [Instr.findKey, run_underlying hk, e1]
  have hg : (getObj b).run P w = .ok (.map (entsL m bs).toArray c) w := by simp [getObj, Sem.run, h4]
  cases rr with
  | none =>
    obtain ⟨hp, _, hall⟩ := e4 rfl
    refine ⟨w.putObj b (.map ((entsL m bs).toArray.push ⟨.int .i64 k, u, c⟩) (c + 1)), ?_, ?_⟩
    · simp only [execOp, Sem.run_bind, hx, hy, hv, Sem.run_pure, Result.andThen, Instr.mapUpdate, run_underlying ht, hg, run_checkKey _ hk, hf, run_setObj h4]
    · rw [← hσ]
      refine hw.putMap hi fun w' hw' => ⟨bs ++ [c], c + 1, by rw [hp]; simp [h1], ?_, fun s hs => ?_, ?_⟩
      · rw [List.nodup_append]
        refine ⟨h2, by simp, fun a ha d hd e => ?_⟩
        have := h3 a ha
        simp at hd
        omega
      · rcases List.mem_append.1 hs with hs | hs
        · have := h3 s hs; omega
        · simp at hs; omega
      · rw [hp, entsL_snoc _ _ _ _ h1, hw']
        simp
  | some p =>
    obtain ⟨j, hj, hp, hd, hl, u0, hu⟩ := e3 p rfl
    have hj' : p.1 = j := by omega
    have hent : ∃ en, (entsL m bs)[j]? = some en ∧ en.key = .int .i64 k := by
      have key : ∀ (m : List (Int × Value)) (bs : List Nat) (j : Nat), bs.length = m.length → m[j]? = some (k, u0) → ∃ en, (entsL m bs)[j]? = some en ∧ en.key = .int .i64 k := by
        intro m
        induction m with
        | nil => intro bs j _ h; simp at h
        | cons p m ih =>
          intro bs j hb h
          cases bs with
          | nil => simp at hb
          | cons b bs =>
            cases j with
            | zero => simp at h; exact ⟨_, rfl, by rw [h]⟩
            | succ j => exact ih bs j (by simpa using hb) (by simpa using h)
      exact key m bs j h1 hu
    obtain ⟨en, hen, henk⟩ := hent
    refine ⟨w.putObj b (.map ((entsL m bs).toArray.modify p.1 fun e => { e with key := .int .i64 k, val := u }) c), ?_, ?_⟩
    · have hst : (Instr.keyThatStays ((((entsL m bs).toArray[p.1]?).map (·.key)).getD (.int .i64 k)) (.int .i64 k)).run P w = .ok (.int .i64 k) w := by
        rw [hj', List.getElem?_toArray, hen]
        simp [henk, Instr.keyThatStays, Instr.sameBits]
      simp only [execOp, Sem.run_bind, hx, hy, hv, Sem.run_pure, Result.andThen, Instr.mapUpdate, run_underlying ht, hg, run_checkKey _ hk, hf, hst, run_setObj h4]
    · rw [← hσ]
      refine hw.putMap hi fun w' hw' => ⟨bs, c, by rw [hp]; simp [h1], h2, h3, ?_⟩
      rw [hp, hw', hj', ← entsL_set k u m bs j h1 ⟨u0, hu⟩]
      simp [List.modify_toArray]
theorem x_mapDel {i b : Nat} {m : List (Int × Value)} {k : Int} (ht : P.underlying t = some (.map kt et)) (hk : P.underlying kt = some (.int q)) (hx : evo ρ x = .map (some b)) (hy : evo ρ y = .int .i64 k) (hi : σ[i]? = some (mapI b m)) (hσ : σ.set i (mapI b (delM m k)) = σ') {t2 : TypeId} :
    OpX P r (St w0 M σ) ⟨dst, .call ⟨.builtin .delete, #[x, y], #[t, t2]⟩, ty, pos, af, g⟩ ρ (X := Unit) (fun _ => .tuple #[]) (fun _ => St w0 M σ') := OpX.of_run rfl fun w hw => by
  have hm := hw.mapAt hi
  obtain ⟨bs, c, h1, h2, h3, h4⟩ := hm
  obtain ⟨rr, e1, _, e3, e4⟩ := findNow_int (q := q) k m bs 0 h1
  have hf : (Instr.findKey kt (.int .i64 k) (entsL m bs).toArray.toList).run P w = .ok rr w := by simp [Instr.findKey, run_underlying hk, e1]
  have hg : (getObj b).run P w = .ok (.map (entsL m bs).toArray c) w := by simp [getObj, Sem.run, h4]
  cases rr with
  | none =>
    obtain ⟨_, hd, hall⟩ := e4 rfl
    refine ⟨(), w.putObj b (.map (entsL m bs).toArray c), ?_, ?_⟩
    · simp [execOp, resolve, invoke, builtin, hx, hy, Builtin.delete_, run_underlying ht, hg, run_checkKey _ hk, hf, run_setObj h4, Result.andThen]
    · rw [← hσ, hd]
      exact hw.putMap hi fun w' hw' => ⟨bs, c, h1, h2, h3, hw'⟩
  | some p =>
    obtain ⟨j, hj, hp, hd, hl, u0, hu⟩ := e3 p rfl
    have hj' : p.1 = j := by omega
    refine ⟨(), w.putObj b (.map ((entsL m bs).toArray.eraseIdxIfInBounds p.1) c), ?_, ?_⟩
    · simp [execOp, resolve, invoke, builtin, hx, hy, Builtin.delete_, run_underlying ht, hg, run_checkKey _ hk, hf, run_setObj h4, Result.andThen]
    · rw [← hσ, hd]
      refine hw.putMap hi fun w' hw' => ⟨bs.eraseIdx j, c, ?_, h2.sublist (List.eraseIdx_sublist _ _), fun s hs => h3 s (List.mem_of_mem_eraseIdx hs), ?_⟩
      · rw [List.length_eraseIdx, List.length_eraseIdx, h1]
      · rw [hw', hj', ← entsL_erase m bs j h1]
        simp
theorem x_makeMap {σ' : Nat → List HI} (hσ : ∀ b, σ ++ [mapI b []] = σ' b) : OpX P r (St w0 M σ) ⟨dst, .makeMap t none, ty, pos, af, g⟩ ρ (X := Nat) (fun b => .map (some b)) (fun b => St w0 M (σ' b)) := OpX.of_run rfl fun w hw => by
  refine ⟨w.heap.size, w.alloc (.map #[] 0), by simp [execOp, Instr.makeMap, newObj, Sem.run], ?_⟩
  rw [← hσ]
  refine hw.add ⟨rfl, rfl, rfl, by simp, fun b hb _ => Below.heap_alloc w _ b hb, ?_, List.pairwise_singleton _ _, ?_⟩
  · intro i hi
    obtain rfl : i = _ := by simpa using hi
    exact ⟨mapP_local _ _, [], 0, rfl, List.nodup_nil, by simp, World.alloc_heap_new w _⟩
  · intro i hi b hb
    obtain rfl : i = _ := by simpa using hi
    obtain rfl : b = w.heap.size := hb
    exact .inl (Nat.le_refl _)
end
end
end Go.Proofs.Ytmjdmlgdffoimab
