/- Rows of one-cell elements as buffers: copy, append in place, clear; Index, Insert, Delete of numbers. -/
import Derived.Test.YtmjdmlgdffoimaaTree
import Derived.Lib.AppendZerosOnto
import Derived.Lib.Overlaps
namespace Go.Proofs.Ytmjdmlgdffoimaa
open Go.RowKit

theorem setL_eq : ∀ (us cs : List Value) (o : Nat), o + us.length ≤ cs.length → setL cs o us = cs.take o ++ us ++ cs.drop (o + us.length)
  | [], cs, o, _ => by simp [setL]
  | u :: us, cs, o, h => by
    simp only [List.length_cons] at h
    rw [setL, setL_eq us _ _ (by rw [List.length_set]; omega)]
    have ho : o < cs.length := by omega
    rw [List.take_set, List.drop_set]
    have e1 : (cs.take (o + 1)).set o u = cs.take o ++ [u] := by
      rw [List.take_succ_eq_append_getElem ho, List.set_append_right _ _ (by simp; omega)]
      simp [List.length_take, Nat.min_eq_left (Nat.le_of_lt ho)]
    rw [e1, if_pos (by omega)]
    simp only [List.length_cons, List.append_assoc, List.cons_append, List.nil_append]
    rw [show o + 1 + us.length = o + (us.length + 1) by omega]
section
variable {w0 w : World} {M : Nat → Prop} {σ σ' : List HI}
/-- A row as its buffer. -/
theorem St.buf {i g n cap : Nat} {t : TypeId} {xs : List Value} (h : St w0 M σ w) (hi : σ[i]? = some (.row t 1 (some ⟨g, 0, none⟩) n cap xs)) : ∃ rest : List Value, (xs.length = n ∧ n + rest.length = cap ∧ cap ≤ maxLen) ∧ St w0 M (σ.set i (.cl g t (xs ++ rest))) w := by
  have h1 : w.ownsRow 0 t 1 (.slice (some ⟨g, 0, none⟩) n cap) n xs := h.all _ (List.mem_of_getElem? hi)
  obtain ⟨hl, h2⟩ := h1
  rcases h2 with ⟨hv, _⟩ | ⟨gb, cap', cur, hv, _, hh, hnc, hm, hsz, htake⟩
  · cases hv
  · injection hv with e1 e2 e3
    injection e1 with e1
    injection e1 with e1
    subst e1 e3
    rw [Nat.mul_one] at hl htake hsz
    have hcur : cur.toList.length = cap := by simpa using hsz
    refine ⟨cur.toList.drop n, ⟨hl, by rw [List.length_drop]; omega, hm⟩, ?_⟩
    have e : xs ++ cur.toList.drop n = cur.toList := by rw [← htake]; exact List.take_append_drop n cur.toList
    rw [e]
    refine h.upd hi (St.turn (fun _ _ _ => rfl) ?_ (fun b hb => .inr ⟨_, rfl, hb⟩) rfl rfl rfl (Nat.le_refl _))
    show w.heap[g]? = some (.cells cur.toList.toArray t (0, 0))
    rw [Array.toArray_toList]; exact hh
/-- A buffer as a row. -/
theorem St.unbuf {i g n cap : Nat} {t : TypeId} {cs : List Value} (h : St w0 M σ w) (hi : σ[i]? = some (.cl g t cs)) (hl : cs.length = cap) (hm : cap ≤ maxLen) (hn : n ≤ cap) : St w0 M (σ.set i (.row t 1 (some ⟨g, 0, none⟩) n cap (cs.take n))) w := by
  have h1 : w.heap[g]? = some (.cells cs.toArray t (0, 0)) := h.all _ (List.mem_of_getElem? hi)
  refine h.upd hi (St.turn (fun _ _ _ => rfl) ?_ (fun b hb => .inr (by obtain ⟨a, ha, e⟩ := hb; cases ha; exact e)) rfl rfl rfl (Nat.le_refl _))
  exact ⟨by rw [List.length_take]; omega, .inr ⟨g, cap, cs.toArray, rfl, Nat.zero_le _, h1, hn, hm, by simp [hl], by simp⟩⟩

variable {P : Program} {r : Option Nat} {ρ : Env} {dst : Option Tmp} {ty : TypeId} {pos : String} {af : Array Edge} {g' : Option (Nat × Bool)} {t t2 te : TypeId} {x y : Operand}
theorem size1 (hs : (P.info? te).map (·.size) = some 1) (w : World) : (sizeOf te).run P w = .ok 1 w := by
  obtain ⟨i, hi, he⟩ := Option.map_eq_some_iff.1 hs
  simp [sizeOf, typeInfo, hi, he]
theorem x_copyIn {i g o n c g2 o2 m c2 : Nat} {tc : TypeId} {cs us : List Value} (ht : P.underlying t = some (.slice te)) (hs : (P.info? te).map (·.size) = some 1) (hx : evo ρ x = .slice (some ⟨g, o, none⟩) n c) (hy : evo ρ y = .slice (some ⟨g2, o2, none⟩) m c2) (hi : σ[i]? = some (.cl g tc cs))
    (hl : us.length = Nat.min m n) (hsrc : ∀ w, St w0 M σ w → CellsAt w g2 o2 us) (ho : o + us.length ≤ cs.length) (h1 : ∀ u ∈ us, u.oneCell' = true) (hσ : σ.set i (.cl g tc (setL cs o us)) = σ') :
    OpX P r (St w0 M σ) ⟨dst, .call ⟨.builtin .copy, #[x, y], #[t, t2]⟩, ty, pos, af, g'⟩ ρ (X := Unit) (fun _ => .int .i64 (us.length : Int)) (fun _ => St w0 M σ') := OpX.of_run rfl fun w hw => by
  have h : (HI.cl g tc cs).holds w := hw.all _ (List.mem_of_getElem? hi)
  obtain ⟨w', hrun, hst⟩ := run_storeCells P (b := g) (o := o) (t := tc) us 0 cs w h (by omega) h1
  have hload := run_loadCells P (hsrc w hw)
  refine ⟨(), w', ?_, by rw [← hσ]; exact hw.upd hi (by simpa using hst)⟩
  simp [execOp, resolve, invoke, builtin, hx, hy, Builtin.copy_, run_underlying ht, Builtin.lenOf, Builtin.firstCells, size1 hs, ← hl, hload, hrun, Result.andThen, goInt]
theorem x_appendIn {i g o n c m c2 : Nat} {B : Option Addr} {tc : TypeId} {cs us : List Value} (ht : P.underlying t = some (.slice te)) (hs : (P.info? te).map (·.size) = some 1) (hx : evo ρ x = .slice (some ⟨g, o, none⟩) n c) (hy : evo ρ y = .slice B m c2) (hi : σ[i]? = some (.cl g tc cs))
    (hl : us.length = m) (hsrc : ∀ w, St w0 M σ w → Src w B m us) (hroom : n + m ≤ c) (ho : o + n + us.length ≤ cs.length) (h1 : ∀ u ∈ us, u.oneCell' = true) (hσ : σ.set i (.cl g tc (setL cs (o + n) us)) = σ') (ht2 : t2 = t := by rfl) :
    OpX P r (St w0 M σ) ⟨dst, .call ⟨.builtin .append, #[x, y], #[t, t2]⟩, ty, pos, af, g'⟩ ρ (X := Unit) (fun _ => .slice (some ⟨g, o, none⟩) (n + m) c) (fun _ => St w0 M σ') := OpX.of_run rfl fun w hw => by
  subst ht2
  have h : (HI.cl g tc cs).holds w := hw.all _ (List.mem_of_getElem? hi)
  obtain ⟨w', hrun, hst⟩ := run_storeCells P (b := g) (o := o + n) (t := tc) us 0 cs w h (by omega) h1
  have hload : (Builtin.firstCells 1 m (.slice B m c2)).run P w = .ok us.toArray w := by
    rcases hsrc w hw with ⟨rfl, rfl⟩ | ⟨b, o2, rfl, hc⟩
    · have : us = [] := List.eq_nil_of_length_eq_zero hl
      subst this; rfl
    · have := run_loadCells P hc
      rw [hl] at this
      simp [Builtin.firstCells, this]
  refine ⟨(), w', ?_, by rw [← hσ]; exact hw.upd hi (by simpa using hst)⟩
  have hz : ∀ q : IntKind, (TypeDesc.slice te) ≠ .int q := fun q e => by cases e
  simp [execOp, resolve, invoke, builtin, hx, hy, Builtin.append_, run_underlying ht, Builtin.lenOf, size1 hs, hroom, hload, hrun, Result.andThen, add_lit']
theorem x_clearIn {i g o n c : Nat} {tc : TypeId} {cs : List Value} {z : Value} (ht : P.underlying t = some (.slice te)) (hz : ∀ w, (zeroValue te).run P w = .ok z w) (hz1 : z.cells = #[z]) (hone : z.oneCell' = true) (hx : evo ρ x = .slice (some ⟨g, o, none⟩) (n + 1) c) (hi : σ[i]? = some (.cl g tc cs))
    (ho : o + (n + 1) ≤ cs.length) (hσ : σ.set i (.cl g tc (setL cs o (List.replicate (n + 1) z))) = σ') :
    OpX P r (St w0 M σ) ⟨dst, .call ⟨.builtin .clear, #[x], #[t]⟩, ty, pos, af, g'⟩ ρ (X := Unit) (fun _ => .tuple #[]) (fun _ => St w0 M σ') := OpX.of_run rfl fun w hw => by
  have h : (HI.cl g tc cs).holds w := hw.all _ (List.mem_of_getElem? hi)
  have hzc : (Builtin.zeroCells z.cells (n + 1)).toList = List.replicate (n + 1) z := by
    rw [hz1]
    simp [Builtin.zeroCells]
    apply List.ext_getElem
    · simp
    · intro i h1 h2
      simp [Nat.mod_one]
  obtain ⟨w', hrun, hst⟩ := run_storeCells P (b := g) (o := o) (t := tc) (List.replicate (n + 1) z) 0 cs w h (by simp; omega) (fun u hu => by rw [List.eq_of_mem_replicate hu]; exact hone)
  refine ⟨(), w', ?_, by rw [← hσ]; exact hw.upd hi (by simpa using hst)⟩
  simp [execOp, resolve, invoke, builtin, hx, Builtin.clear_, run_underlying ht, hz, hzc, hrun, Result.andThen]
/-- x[lo:hi:max]. -/
theorem v_slice3 {sz n c l h m : Nat} {A : Option Addr} {lo : Option Operand} {hi mx : Operand} {kl kh km : Int} (ht : P.underlying t = some (.slice te)) (hz : ∀ w, (sizeOf te).run P w = .ok sz w) (hx : evo ρ x = .slice A n c) {S : World → Prop}
    (hl : match lo with | some o => evo ρ o = .int .i64 kl ∧ kl = (l : Int) | none => l = 0) (hh : evo ρ hi = .int .i64 kh ∧ kh = (h : Int)) (hmx : evo ρ mx = .int .i64 km ∧ km = (m : Int)) (hlh : l ≤ h) (hhm : h ≤ m) (hmc : m ≤ c) :
    OpV P S ⟨dst, .slice t x lo (some hi) (some mx), ty, pos, af, g'⟩ ρ (.slice (if m = l then A else A.map fun a => a.add (l * sz)) (h - l) (m - l)) := v_run fun w _ => by
  obtain ⟨h1, rfl⟩ := hh
  obtain ⟨h2, rfl⟩ := hmx
  cases lo <;> simp only at hl
  · subst hl
    simp [execOp, Instr.sliceAt, Instr.slice, Instr.sliceBounds, Instr.sliceBound, asIntOf, run_underlying ht, hx, hz, h1, h2, hhm, hmc]
  · obtain ⟨h3, rfl⟩ := hl
    simp [execOp, Instr.sliceAt, Instr.slice, Instr.sliceBounds, Instr.sliceBound, asIntOf, run_underlying ht, hx, hz, h1, h2, h3, hlh, hhm, hmc]
theorem growBy_le (need : Nat) : ∀ (r c : Nat), Builtin.growBy need r c ≤ 2 ^ r * (c + 192)
  | 0, c => by simp [Builtin.growBy]
  | r + 1, c => by
    rw [Builtin.growBy]
    split
    · have : 1 ≤ 2 ^ (r + 1) := Nat.one_le_two_pow
      calc c ≤ 1 * (c + 192) := by omega
        _ ≤ 2 ^ (r + 1) * (c + 192) := Nat.mul_le_mul_right _ this
    · refine Nat.le_trans (growBy_le need r _) ?_
      rw [Nat.pow_succ, Nat.mul_assoc]
      exact Nat.mul_le_mul_left _ (by omega)
theorem nextcap_le {need old : Nat} (h : need ≤ 10000) (h2 : old ≤ 10000) : Builtin.nextslicecap need old ≤ 200000 := by
  unfold Builtin.nextslicecap
  split
  · omega
  · split
    · omega
    · have := growBy_le need 4 old
      omega
theorem zeroCells_one {z : Value} (hz : z.cells = #[z]) (n : Nat) : Builtin.zeroCells z.cells n = (List.replicate n z).toArray := by
  apply Array.ext'
  rw [hz]
  simp [Builtin.zeroCells]
  apply List.ext_getElem
  · simp
  · intro i h1 h2
    simp [Nat.mod_one]
/-- append(x, make(j)) that moves to a new row. -/
theorem x_appendGrowZ {k j c bytes : Nat} {q : IntKind} {A : Option Addr} {us : List Value} {z : Value} {jj : Int} {σ'' : Nat × Nat → List HI} (ht : P.underlying t = some (.slice te)) (ht2 : P.underlying t2 = some (.int q)) (hinfo : (P.info? te).map (fun i => (i.zero, i.size, i.bytes)) = some (some z, 1, bytes)) (hz1 : z.cells = #[z])
    (hx : evo ρ x = .slice A k c) (hy : evo ρ y = .int .i64 jj) (hj : jj = (j : Int)) (hl : us.length = k) (hsrc : ∀ w, St w0 M σ w → Src w A k us) (h0 : 0 < j) (hg : c < k + j) (hb : k + j ≤ 10000) (hc : c ≤ 10000) (hby : bytes ≤ 1000)
    (hσ : ∀ p : Nat × Nat, σ ++ [.cl p.1 te (us ++ List.replicate j z ++ List.replicate (p.2 - (k + j)) z)] = σ'' p) :
    OpX P r (St w0 M σ) ⟨dst, .call ⟨.builtin .append, #[x, y], #[t, t2]⟩, ty, pos, af, g'⟩ ρ (X := Nat × Nat) (fun p => .slice (some ⟨p.1, 0, none⟩) (k + j) p.2) (fun p w => (k + j ≤ p.2 ∧ p.2 ≤ maxLen) ∧ St w0 M (σ'' p) w) := OpX.of_run rfl fun w hw => by
  subst hj
  obtain ⟨info, hf, hz, hs, hb'⟩ := info_parts hinfo
  have hload : (Builtin.firstCells info.size k (.slice A k c)).run P w.drew = .ok us.toArray w.drew := by
    rw [hs]
    rcases hsrc w hw with ⟨rfl, rfl⟩ | ⟨b, o2, rfl, hcc⟩
    · have : us = [] := List.eq_nil_of_length_eq_zero hl
      subst this; rfl
    · have := run_loadCells P (w := w.drew) (b := b) (o := o2) (cs := us) hcc
      rw [hl] at this
      simp [Builtin.firstCells, this]
  have hcap := nextcap_le (need := k + j) (old := c) hb hc
  have hr := Lib.run_append_grow_zeros (P := P) w t t2 ty te info z .i64 q ht ht2 hf hz A k c us hload j h0 (by omega) hg (by omega) (by
      have : j * info.bytes ≤ 10000 * 1000 := Nat.mul_le_mul (by omega) (by omega)
      omega) (by
      have : Builtin.nextslicecap (k + j) c * info.bytes ≤ 200000 * 1000 := Nat.mul_le_mul hcap (by omega)
      omega)
  have hge := grownCap_ge w (k + j) c te
  have hle := grownCap_le_maxLen w (k + j) c te (by unfold maxLen; omega)
  refine ⟨(w.heap.size, grownCap w (k + j) c te), w.drew.alloc (.cells (us.toArray ++ Builtin.zeroCells z.cells j ++ Builtin.zeroCells z.cells (grownCap w (k + j) c te - (k + j))) te), ?_, ⟨hge, hle⟩, ?_⟩
  · simp only [execOp, Sem.run_bind, resolve, List.map_toArray, List.map_cons, List.map_nil, hx, hy, Sem.run_pure, Result.andThen, invoke, builtin, hr]
  · rw [← hσ]
    have h1 := St.new w.drew te (us ++ List.replicate j z ++ List.replicate (grownCap w (k + j) c te - (k + j)) z)
    rw [zeroCells_one hz1, zeroCells_one hz1]
    have e : (us.toArray ++ (List.replicate j z).toArray ++ (List.replicate (grownCap w (k + j) c te - (k + j)) z).toArray) = (us ++ List.replicate j z ++ List.replicate (grownCap w (k + j) c te - (k + j)) z).toArray := by simp
    rw [e]
    exact hw.drawn.add h1
theorem WP.buf {N : Nat} {c : Code} {Q : XP} {ds : List Deferred} {i g n cap : Nat} {xs : List Value} (hi : σ[i]? = some (.row t 1 (some ⟨g, 0, none⟩) n cap xs)) (h : ∀ rest : List Value, xs.length = n → n + rest.length = cap → cap ≤ maxLen → WP P r N c Q ρ ds (St w0 M (σ.set i (.cl g t (xs ++ rest))))) : WP P r N c Q ρ ds (St w0 M σ) := fun w hw => by
  obtain ⟨rest, ⟨h1, h2, h3⟩, hs⟩ := hw.buf hi
  exact h rest h1 h2 h3 w hs
theorem St.row_cap {i n cap sz : Nat} {t : TypeId} {A : Option Addr} {xs : List Value} (h : St w0 M σ w) (hi : σ[i]? = some (.row t sz A n cap xs)) : n ≤ cap ∧ cap ≤ maxLen := by
  have h1 : w.ownsRow 0 t sz (.slice A n cap) n xs := h.all _ (List.mem_of_getElem? hi)
  rcases h1.2 with ⟨hv, hn⟩ | ⟨gb, cap', cur, hv, _, hh, hnc, hm, _⟩
  · injection hv with e1 e2 e3
    exact ⟨by omega, by rw [e3]; exact Nat.zero_le _⟩
  · injection hv with e1 e2 e3
    subst e3
    exact ⟨hnc, hm⟩
theorem cutAddr_if (b o l m sz : Nat) : cutAddr (some ⟨b, o, none⟩) l m sz = some ⟨b, o + (if m = l then 0 else l * sz), none⟩ := by
  unfold cutAddr
  split
  · simp
  · simp [Addr.add]
theorem cutAddr_ne {b o l m sz : Nat} (h : m ≠ l) : cutAddr (some ⟨b, o, none⟩) l m sz = some ⟨b, o + l * sz, none⟩ := by rw [cutAddr_if, if_neg h]
theorem ints_one (l : List Int) : ∀ u ∈ l.map (Value.int .i64), u.oneCell' = true := by
  intro u hu
  obtain ⟨z, _, rfl⟩ := List.mem_map.1 hu
  rfl
end
end Go.Proofs.Ytmjdmlgdffoimaa
