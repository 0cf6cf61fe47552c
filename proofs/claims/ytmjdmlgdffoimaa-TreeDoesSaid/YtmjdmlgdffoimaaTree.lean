/- A tree in memory: boxes by numbers; what is read of it. -/
import Derived.Test.YtmjdmlgdffoimaaMap
import Derived.Test.YtmjdmlgdffoimaaTreeAct
import Derived.Test.YtmjdmlgdffoimaaRecValid
namespace Go.Proofs.Ytmjdmlgdffoimaa
open Go.RowKit

/-- A box as it lies: its number, its block, its kids' row. -/
structure PE where
  id : Int
  bb : Nat
  A : Option Addr
  c : Nat
  up : Int
  kids : List Int
  sty : List Value
def PE.ent (e : PE) : Int × Value := (e.id, .pointer (some ⟨e.bb, 0, none⟩))
def PE.cells (e : PE) : List Value := .int .i64 e.up :: .slice e.A e.kids.length e.c :: e.sty
abbrev kidsI (A : Option Addr) (n c : Nat) (l : List Int) : HI := .row 3 1 A n c (l.map (Value.int .i64))
def PE.items (e : PE) : List HI := [.cl e.bb 69 e.cells, kidsI e.A e.kids.length e.c e.kids]
def ptree (tp mb : Nat) (es : List PE) : List HI := .cl tp 72 [.map (some mb)] :: mapI mb (es.map PE.ent) :: es.flatMap PE.items
def treeI (tp mb : Nat) (es : List PE) : HI := bundle (ptree tp mb es)
def lookE : List PE → Int → Option PE
  | [], _ => none
  | e :: es, x => if e.id = x then some e else lookE es x
def FoR (es : List PE) : Forest (List Value) := fun x => (lookE es x).map fun e => ⟨e.up, e.kids, e.sty⟩
def ptrE (es : List PE) (x : Int) : Option Addr := (lookE es x).map fun e => ⟨e.bb, 0, none⟩
def kA (es : List PE) (x : Int) : Option Addr := match lookE es x with | some e => e.A | none => none
def kC (es : List PE) (x : Int) : Nat := match lookE es x with | some e => e.c | none => 0
def ofV (es : List PE) (x : Int) : List Value := .int .i64 (upF (FoR es) x) :: .slice (kA es x) (kidsF (FoR es) x).length (kC es x) :: styF zeroS (FoR es) x
/-- Each style is one; each number is once. -/
structure LOk (es : List PE) : Prop where
  sty : ∀ e ∈ es, SOk e.sty
  nodup : (es.map PE.id).Nodup

theorem lookE_mem : ∀ {es : List PE} {x : Int} {e : PE}, lookE es x = some e → e ∈ es ∧ e.id = x
  | [], _, _, h => by cases h
  | e :: es, x, e', h => by
    unfold lookE at h
    split at h
    · cases h; exact ⟨by simp, ‹_›⟩
    · have := lookE_mem h; exact ⟨by simp [this.1], this.2⟩
theorem look_ent : ∀ (es : List PE) (x : Int), lookM (es.map PE.ent) x = (lookE es x).map fun e => .pointer (some ⟨e.bb, 0, none⟩)
  | [], _ => rfl
  | e :: es, x => by
    simp only [List.map_cons, lookM, lookE, PE.ent]
    split
    · rfl
    · exact look_ent es x
theorem look_ptr (es : List PE) (x : Int) : (lookM (es.map PE.ent) x).getD (.pointer none) = .pointer (ptrE es x) := by
  rw [look_ent]; unfold ptrE; cases lookE es x <;> rfl
theorem ptr_has (es : List PE) (x : Int) : (ptrE es x).isSome = hasF (FoR es) x := by unfold ptrE hasF FoR; cases lookE es x <;> rfl
theorem ofV_some {es : List PE} {x : Int} {e : PE} (h : lookE es x = some e) : ofV es x = e.cells := by simp [ofV, PE.cells, upF, kidsF, styF, FoR, kA, kC, h]
theorem ofV_none {es : List PE} {x : Int} (h : lookE es x = none) : ofV es x = .int .i64 (-1) :: .slice none 0 0 :: zeroS := by simp [ofV, upF, kidsF, styF, FoR, kA, kC, h]
theorem LOk.styOk {es : List PE} (h : LOk es) (x : Int) : SOk (styF zeroS (FoR es) x) := by
  unfold styF FoR
  cases e : lookE es x with
  | none => exact zeroS_ok
  | some b => exact h.sty b (lookE_mem e).1
theorem LOk.of_len {es : List PE} (h : LOk es) (x : Int) : (ofV es x).length = 57 := by
  have := (h.styOk x).len
  simp [ofV, this]
theorem LOk.of_one {es : List PE} (h : LOk es) (x : Int) : ∀ u ∈ ofV es x, u.oneCell' = true := by
  intro u hu
  simp only [ofV, List.mem_cons] at hu
  rcases hu with rfl | rfl | hu
  · rfl
  · rfl
  · exact (h.styOk x).one u hu

theorem sty_part {es : List PE} (hk : LOk es) (x : Int) : (ofV es x).toArray.extract 2 (2 + 55) = (styF zeroS (FoR es) x).toArray := by
  have h := (hk.styOk x).len
  apply Array.ext'
  simp [ofV, List.take_of_length_le, h]
section
variable {w0 w : World} {M : Nat → Prop} {σ : List HI} {i tp mb : Nat} {es : List PE}
theorem St.tree (h : St w0 M σ w) (hi : σ[i]? = some (treeI tp mb es)) : ∀ j ∈ ptree tp mb es, j.holds w := (h.all _ (List.mem_of_getElem? hi)).2.1
theorem cells_of_cl {b : Nat} {t : TypeId} {cs : List Value} (h : (HI.cl b t cs).holds w) (o : Nat) {us : List Value} (hu : (cs.drop o).take us.length = us) : CellsAt w b o us := by
  have h1 : w.heap[b]? = some (.cells cs.toArray t (0, 0)) := h
  intro j u hj
  rw [cell_of_row w b (o + j) _ t (0, 0) h1, List.getElem?_toArray]
  have h2 := congrArg (·[j]?) hu
  simp only [hj] at h2
  rw [List.getElem?_take] at h2
  split at h2
  · rw [List.getElem?_drop] at h2; exact h2
  · cases h2
theorem St.treeRoot (h : St w0 M σ w) (hi : σ[i]? = some (treeI tp mb es)) : CellsAt w tp 0 [.map (some mb)] := cells_of_cl (h.tree hi (.cl tp 72 [.map (some mb)]) (by simp [ptree])) 0 rfl
theorem St.treeMap (h : St w0 M σ w) (hi : σ[i]? = some (treeI tp mb es)) : mapP mb (es.map PE.ent) w := (h.tree hi (mapI mb (es.map PE.ent)) (by simp [ptree])).2
theorem St.treeBox (h : St w0 M σ w) (hi : σ[i]? = some (treeI tp mb es)) {e : PE} (he : e ∈ es) : CellsAt w e.bb 0 e.cells :=
  cells_of_cl (h.tree hi (.cl e.bb 69 e.cells) (List.mem_cons_of_mem _ (List.mem_cons_of_mem _ (List.mem_flatMap.2 ⟨e, he, by simp [PE.items]⟩)))) 0 (by simp)
theorem St.treeKids (h : St w0 M σ w) (hi : σ[i]? = some (treeI tp mb es)) {e : PE} (he : e ∈ es) : RdI w e.A e.kids ∧ e.kids.length ≤ e.c := by
  have h1 : (kidsI e.A e.kids.length e.c e.kids).holds w := h.tree hi _ (List.mem_cons_of_mem _ (List.mem_cons_of_mem _ (List.mem_flatMap.2 ⟨e, he, by simp [PE.items]⟩)))
  obtain ⟨h2, h3⟩ := h1
  rcases h3 with ⟨hv, hn⟩ | ⟨gb, cap, cur, hv, _, hh, hnc, _, hsz, htake⟩
  · have : e.kids = [] := List.eq_nil_of_length_eq_zero hn
    rw [this]
    exact ⟨RdE.nil _ _ _ _, Nat.zero_le _⟩
  · injection hv with e1 e2 e3
    refine ⟨fun k x hx => ⟨gb, 0, e1, fun j u hj => ?_⟩, by omega⟩
    match j, hj with
    | 0, hj =>
      cases hj
      have hk := (List.getElem?_eq_some_iff.1 hx).1
      rw [cell_of_row w gb _ _ _ _ hh]
      have h4 : (cur.toList.take (e.kids.length * 1))[k]? = some (.int .i64 x) := by rw [htake, List.getElem?_map, hx]; rfl
      rw [List.getElem?_take, if_pos (by omega)] at h4
      simpa using h4
    | j + 1, hj => simp at hj
theorem St.treeKidsOf (h : St w0 M σ w) (hi : σ[i]? = some (treeI tp mb es)) (x : Int) : RdI w (kA es x) (kidsF (FoR es) x) ∧ (kidsF (FoR es) x).length ≤ kC es x := by
  unfold kA kidsF kC FoR
  cases e : lookE es x with
  | none => exact ⟨RdE.nil _ _ _ _, Nat.zero_le _⟩
  | some b => exact h.treeKids hi (lookE_mem e).1
theorem St.treeSrcOf (h : St w0 M σ w) (hi : σ[i]? = some (treeI tp mb es)) (x : Int) : Src w (kA es x) (kidsF (FoR es) x).length ((kidsF (FoR es) x).map (Value.int .i64)) := by
  unfold kA kidsF FoR
  cases e : lookE es x with
  | none => exact .inl ⟨rfl, rfl⟩
  | some b =>
    have h1 : (kidsI b.A b.kids.length b.c b.kids).holds w := h.tree hi _ (List.mem_cons_of_mem _ (List.mem_cons_of_mem _ (List.mem_flatMap.2 ⟨b, (lookE_mem e).1, by simp [PE.items]⟩)))
    have h2 : St w (foots [kidsI b.A b.kids.length b.c b.kids]) [kidsI b.A b.kids.length b.c b.kids] w := St.start (by simpa using h1) (List.pairwise_singleton _ _)
    exact h2.src_row (i := 0) rfl
variable {P : Program} {ρ : Env} {dst : Option Tmp} {ty : TypeId} {pos : String} {af : Array Edge} {g : Option (Nat × Bool)} {t kt et : TypeId} {x y : Operand} {q : IntKind}
theorem v_lookT {k : Int} (hi : σ[i]? = some (treeI tp mb es)) (ht : P.underlying t = some (.map kt et)) (hk : P.underlying kt = some (.int q)) (hz : ∀ w, (zeroValue et).run P w = .ok (.pointer none) w) (hx : evo ρ x = .map (some mb)) (hy : evo ρ y = .int .i64 k) :
    OpV P (St w0 M σ) ⟨dst, .lookup t x y false, ty, pos, af, g⟩ ρ (.pointer (ptrE es k)) := by
  have h := v_lookup (P := P) (S := St w0 M σ) (dst := dst) (ty := ty) (pos := pos) (af := af) (g := g) (m := es.map PE.ent) ht hk hz hx hy (fun w hw => hw.treeMap hi)
  rwa [look_ptr] at h
theorem run_eqNilSN {e : TypeId} {A : Option Addr} {k c : Nat} (n : Nat) (ht : P.underlying t = some (.slice e)) (w : World) : (Op.equalIn (n + 1) t (.slice A k c) (.slice none 0 0)).run P w = .ok A.isNone w := by
  cases A <;> simp [Op.equalIn, run_underlying ht]
theorem v_eqNilS {e : TypeId} {A : Option Addr} {n c : Nat} {t2 : TypeId} (ht : P.underlying t = some (.slice e)) (hx : evo ρ x = .slice A n c) (hy : evo ρ y = .slice none 0 0) {S : World → Prop} : OpV P S ⟨dst, .binOp .eql t x y t2, ty, pos, af, g⟩ ρ (.bool A.isNone) := v_run fun w _ => by
  have e : (eqGuard .eql t x y (.slice A n c) (.slice none 0 0)).run P w = .ok () w := rfl
  have h1 : (Op.equalIn 10000 t (.slice A n c) (.slice none 0 0)).run P w = .ok A.isNone w := run_eqNilSN 9999 ht w
  simp [execOp, hx, hy, e, binOp, Op.equal, Op.maxDepth, h1, Result.andThen]
/-- An empty row. -/
theorem x_buildSlice0 {r : Option Nat} {σ' : Nat → List HI} {te : TypeId} {sz : Nat} (ht : P.underlying t = some (.slice te)) (hz : ∀ w, (sizeOf te).run P w = .ok sz w) (hσ : ∀ b, σ ++ [.row te sz (some ⟨b, 0, none⟩) 0 0 []] = σ' b) :
    OpX P r (St w0 M σ) ⟨dst, .buildSlice t 0 #[], ty, pos, af, g⟩ ρ (X := Nat) (fun b => .slice (some ⟨b, 0, none⟩) 0 0) (fun b => St w0 M (σ' b)) := by
  refine x_newRow rfl (by simp) (by unfold maxLen; omega) hσ fun w => ?_
  simp [execOp, Instr.buildSlice, run_underlying ht, hz, Instr.fill, newRow, newObj, Sem.run, Result.andThen]
  have e : Array.map (fun _ : Nat => (default : Value)) (Array.range 0) = #[] := Array.eq_empty_of_size_eq_zero (by simp)
  rw [e]
end
end Go.Proofs.Ytmjdmlgdffoimaa
