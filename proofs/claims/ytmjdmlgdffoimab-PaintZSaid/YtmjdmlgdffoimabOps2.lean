/- More ways of leaving a function. -/
import Derived.Test.YtmjdmlgdffoimabCall
import Derived.Laws.StructEq
namespace Go.Proofs.Ytmjdmlgdffoimab
open Go.RowKit
section
variable {P : Program} {r : Option Nat} {N : Nat} {Q : XP} {ρ : Env} {S : World → Prop} {fn : Func} {R : Value → World → Prop}
/-- Two results: cells, and a slot. -/
theorem RetQ.ofCT {t v : Tmp} {ty : TypeId} {w : World} {e : Exit} {b o k : Nat} {us : List Value} (hr : fn.results = #[.cell t ty, .tmp v]) (he : e = .ret ∨ e = .normal) (hx : ρ t = .pointer (some ⟨b, o, none⟩)) (ha : ∀ w, (isAgg ty).run P w = .ok true w) (hz : ∀ w, (sizeOf ty).run P w = .ok k w)
    (hc : CellsAt w b o us) (hk : us.length = k) (h : R (.tuple #[.agg us.toArray, ρ v]) w) : RetQ P fn R e ρ [] w :=
  ⟨he, [], rfl, List.nodup_nil, by simp, fun tmps ht => ⟨.tuple #[.agg us.toArray, ρ v], by
    subst hk
    show (results fn tmps).run P w = _
    simp [results, hr, ht, hx, loadVar, ha, hz, run_loadCells P hc, asAddr]
    rfl, h⟩⟩
theorem WP.retCT {t v : Tmp} {ty : TypeId} {b o k : Nat} {us : List Value} (hr : fn.results = #[.cell t ty, .tmp v]) (hx : ρ t = .pointer (some ⟨b, o, none⟩)) (ha : ∀ w, (isAgg ty).run P w = .ok true w) (hz : ∀ w, (sizeOf ty).run P w = .ok k w)
    (hc : ∀ w, S w → CellsAt w b o us) (hk : us.length = k) (hq : ∀ w, RetQ P fn R .ret ρ [] w → Q .ret ρ [] w) (h : ∀ w, S w → R (.tuple #[.agg us.toArray, ρ v]) w) : WP P r N .ret Q ρ [] S :=
  WP.ret fun w hw => hq w (RetQ.ofCT hr (.inl rfl) hx ha hz (hc w hw) hk (h w hw))
/-- append(nil, make(n)): a new row of zeros. -/
theorem run_append_zeros {w : World} (t u ty e : TypeId) (k : IntKind) (i : TypeInfo) (z : Value) (ht : P.underlying t = some (.slice e)) (hu : P.underlying u = some (.int k)) (hi : P.info? e = some i) (hz : i.zero = some z) (hs : i.size ≠ 0)
    (n : Nat) (h0 : 0 < n) (h63 : (n : Int) ≤ 9223372036854775807) (h48 : n * i.bytes ≤ 281474976710656) :
    (Builtin.append_ #[t, u] ty #[.slice none 0 0, .int .i64 (n : Int)]).run P w =
      .ok (.slice (some ⟨w.heap.size, 0, none⟩) n (grownCap w n 0 e)) (w.drew.alloc (.cells (Builtin.zeroCells z.cells n ++ Builtin.zeroCells z.cells (grownCap w n 0 e - n)) e)) := by
  have hn : n ≠ 0 := by omega
  have h63' : ¬ (9223372036854775807 < (n : Int)) := by omega
  have h48' : ¬ (281474976710656 < Builtin.nextslicecap n 0 * i.bytes) := by rw [nextslicecap_zero h0]; omega
  have hw : IntKind.i64.wrap (n : Int) = (n : Int) := by
    unfold IntKind.wrap
    have e : ((n : Int) % (2 ^ IntKind.i64.bits : Int)) = n := Int.emod_eq_of_lt (by omega) (by simp [IntKind.bits]; omega)
    simp only [e]
    rw [if_neg (by simp [IntKind.signed, IntKind.bits]; omega)]
  have hneg : ¬ ((n : Int) < 0) := by omega
  have hbig : ¬ (281474976710656 < (n : Int) * (i.bytes : Int)) := by rw [← Int.natCast_mul]; omega
  simp [Builtin.append_, run_underlying ht, run_underlying hu, sizeOf, typeInfo, zeroValue, hi, hz, asInt, asIntOf, hw, hneg, hbig, hn, h63', h48', Question.forced, run_firstCells_none, newRow, grownCap]
  intro h
  exact absurd h (Nat.mul_ne_zero hn hs)
/-- A row of which the last elements are let go: they may be written anew by an append. -/
theorem row_cut {w : World} {t : TypeId} {sz n cap k : Nat} {A : Option Addr} {xs : List Value} (h : (HI.row t sz A n cap xs).holds w) (hk : k ≤ n) : (HI.row t sz A k cap (xs.take (k * sz))).holds w := by
  obtain ⟨hl, h2⟩ := h
  have hks : k * sz ≤ n * sz := Nat.mul_le_mul_right sz hk
  refine ⟨by rw [List.length_take]; omega, ?_⟩
  rcases h2 with ⟨hv, hn⟩ | ⟨gb, cap', cur, hv, hb, hh, hnc, hm, hsz, htake⟩
  · subst hn
    obtain rfl : k = 0 := by omega
    exact .inl ⟨hv, rfl⟩
  · injection hv with e1 e2 e3
    subst e1 e3
    refine .inr ⟨gb, cap, cur, rfl, hb, hh, by omega, hm, hsz, ?_⟩
    rw [← htake, List.take_take, Nat.min_eq_left hks]

theorem cutAddr_zero (A : Option Addr) (m sz : Nat) : cutAddr A 0 m sz = A := by
  unfold cutAddr
  split
  · rfl
  · cases A with
    | none => rfl
    | some a => obtain ⟨b, o, p⟩ := a; simp [Addr.add]
/-- append(nil, make(n)) whose elements are let go: a new row with room. -/
theorem x_grow {w0 : World} {M : Nat → Prop} {σ : List HI} {dst : Option Tmp} {ty : TypeId} {pos : String} {af : Array Edge} {g : Option (Nat × Bool)} {x y : Operand} {t u te : TypeId} {q : IntKind} {n sz bytes : Nat} {k : Int} {z : Value} {σ' : Nat × Nat → List HI}
    (ht : P.underlying t = some (.slice te)) (hu : P.underlying u = some (.int q)) (hinfo : (P.info? te).map (fun i => (i.zero, i.size, i.bytes)) = some (some z, sz, bytes)) (hzs : z.cells.size = sz) (hsz : 0 < sz)
    (hx : evo ρ x = .slice none 0 0) (hy : evo ρ y = .int .i64 k) (hk : k = (n : Int)) (h0 : 0 < n) (hn : n ≤ 1000) (hb : bytes ≤ 1000) (hσ : ∀ p : Nat × Nat, σ ++ [.row te sz (some ⟨p.1, 0, none⟩) 0 p.2 []] = σ' p) :
    OpX P r (St w0 M σ) ⟨dst, .call ⟨.builtin .append, #[x, y], #[t, u]⟩, ty, pos, af, g⟩ ρ (X := Nat × Nat) (fun p => .slice (some ⟨p.1, 0, none⟩) n p.2) (fun p w => n ≤ p.2 ∧ St w0 M (σ' p) w) :=
  OpX.of_run rfl fun w hw => by
    obtain ⟨info, hf, hz, hs, hb'⟩ := info_parts hinfo
    subst hk
    have hr := run_append_zeros (P := P) (w := w) t u ty te q info z ht hu hf hz (by omega) n h0 (by omega) (by
      have h1 : n * info.bytes ≤ 1000 * 1000 := Nat.mul_le_mul hn (by omega)
      omega)
    have hge := grownCap_ge w n 0 te
    have hle := grownCap_le_maxLen w n 0 te (by unfold maxLen; omega)
    refine ⟨(w.heap.size, grownCap w n 0 te), w.drew.alloc (.cells (Builtin.zeroCells z.cells n ++ Builtin.zeroCells z.cells (grownCap w n 0 te - n)) te), ?_, hge, ?_⟩
    · simp only [execOp, Sem.run_bind, resolve, List.map_toArray, List.map_cons, List.map_nil, hx, hy, Sem.run_pure, Result.andThen, invoke, builtin, hr]
    · rw [← hσ]
      have hlen : (Builtin.zeroCells z.cells n ++ Builtin.zeroCells z.cells (grownCap w n 0 te - n)).size = grownCap w n 0 te * sz := by
        rw [Array.size_append, size_zeroCells, size_zeroCells, hzs, ← Nat.add_mul]; congr 1; omega
      have h1 := St.newRow w.drew te sz (grownCap w n 0 te) (Builtin.zeroCells z.cells n ++ Builtin.zeroCells z.cells (grownCap w n 0 te - n)).toList (by simpa using hlen) hle
      rw [Array.toArray_toList] at h1
      have h2 := hw.drawn.add h1
      refine ⟨h2.os, h2.tape, h2.output, h2.size, h2.old, fun i hi => ?_, ?_, fun i hi b hb => ?_⟩
      · rcases List.mem_append.1 hi with hi' | hi'
        · exact h2.all i (List.mem_append_left _ hi')
        · obtain rfl : i = _ := by simpa using hi'
          have h3 := row_cut (k := 0) (h2.all _ (List.mem_append_right _ (List.mem_singleton_self _))) (Nat.zero_le _)
          simpa using h3
      · refine List.pairwise_append.2 ⟨(List.pairwise_append.1 h2.disj).1, List.pairwise_singleton _ _, fun i hi j hj b hb hbj => ?_⟩
        obtain rfl : j = _ := by simpa using hj
        exact (List.pairwise_append.1 h2.disj).2.2 i hi _ (List.mem_singleton_self _) b hb hbj
      · rcases List.mem_append.1 hi with hi' | hi'
        · exact h2.fresh i (List.mem_append_left _ hi') b hb
        · obtain rfl : i = _ := by simpa using hi'
          exact h2.fresh _ (List.mem_append_right _ (List.mem_singleton_self _)) b hb
theorem St.oldSrc {w0 w : World} {M : Nat → Prop} {σ : List HI} {B : Option Addr} {m : Nat} {news : List Value} (h : St w0 M σ w) (hs : Src w0 B m news) (hM : ∀ a, B = some a → ¬ M a.block) : Src w B m news := by
  rcases hs with hs | ⟨b, o, rfl, hc⟩
  · exact .inl hs
  · exact .inr ⟨b, o, rfl, h.old_at hc (hM _ rfl)⟩
theorem setL_all : ∀ (cs us : List Value), us.length = cs.length → setL cs 0 us = us := by
  have key : ∀ (us zs bs : List Value), us.length = bs.length → setL (zs ++ bs) zs.length us = zs ++ us := by
    intro us
    induction us with
    | nil => intro zs bs h; rw [List.eq_nil_of_length_eq_zero (l := bs) (by simpa using h.symm)]; rfl
    | cons u us ih =>
      intro zs bs h
      cases bs with
      | nil => simp at h
      | cons b bs =>
        have h1 := ih (zs ++ [u]) bs (by simpa using h)
        simp only [List.length_append, List.length_cons, List.length_nil, List.append_assoc, List.singleton_append] at h1
        show setL ((zs ++ b :: bs).set zs.length u) (zs.length + 1) us = _
        rw [List.set_append_right _ _ (Nat.le_refl _)]
        simpa using h1
  intro cs us h
  simpa using key us [] cs h
/-- A store of all cells of a block. -/
theorem x_storeW {w0 : World} {M : Nat → Prop} {σ σ' : List HI} {dst : Option Tmp} {ty : TypeId} {pos : String} {af : Array Edge} {g : Option (Nat × Bool)} {x y : Operand} {t tc : TypeId} {i b k : Nat} {us cs : List Value} (hz : ∀ w, (sizeOf t).run P w = .ok k w) (hx : evo ρ x = .pointer (some ⟨b, 0, none⟩)) (hy : evo ρ y = .agg us.toArray) (hi : σ[i]? = some (.cl b tc cs)) (ho : us.length = cs.length)
    (hσ : σ.set i (.cl b tc us) = σ') (h1 : ∀ u ∈ us, u.oneCell' = true) (hk : us.length = k := by rfl) : OpX P r (St w0 M σ) ⟨dst, .store t x y, ty, pos, af, g⟩ ρ (X := Unit) (fun _ => undef) (fun _ => St w0 M σ') :=
  x_storeA hz hx hy hi (by omega) (by rw [setL_all _ _ ho]; exact hσ) h1 hk
theorem v_is {o : Oper} {a b : Bool} (h : OpV P S o ρ (.bool a)) (e : a = b) : OpV P S o ρ (.bool b) := by rw [← e]; exact h
section
variable {dst : Option Tmp} {ty : TypeId} {pos : String} {af : Array Edge} {g : Option (Nat × Bool)} {t t2 : TypeId} {x y : Operand} {a b : Bool}
theorem run_binB (op : BinOp) (hop : op = .eql ∨ op = .neq) (ht : P.underlying t = some .bool) (hx : evo ρ x = .bool a) (hy : evo ρ y = .bool b) (w : World) :
    (execOp (evo ρ) ⟨dst, .binOp op t x y t2, ty, pos, af, g⟩).run P w = .ok (.value (.bool (if op = .eql then a == b else a != b))) w := by
  have e : (eqGuard op t x y (.bool a) (.bool b)).run P w = .ok () w := by rcases hop with rfl | rfl <;> rfl
  have h1 : (Op.equalIn 10000 t (.bool a) (.bool b)).run P w = .ok (a == b) w := run_equalIn_bool w 9999 t a b ht
  rcases hop with rfl | rfl
  · simp [execOp, hx, hy, e, binOp, Op.equal, Op.maxDepth, h1, Result.andThen]
  · simp [execOp, hx, hy, e, binOp, Op.equal, Op.maxDepth, h1, Result.andThen]
    cases a <;> cases b <;> rfl
theorem v_eqB (ht : P.underlying t = some .bool) (hx : evo ρ x = .bool a) (hy : evo ρ y = .bool b) : OpV P S ⟨dst, .binOp .eql t x y t2, ty, pos, af, g⟩ ρ (.bool (a == b)) := v_run fun w _ => by
  have h := run_binB (P := P) (dst := dst) (ty := ty) (pos := pos) (af := af) (g := g) (t2 := t2) .eql (.inl rfl) ht hx hy w
  simpa using h
theorem v_neB (ht : P.underlying t = some .bool) (hx : evo ρ x = .bool a) (hy : evo ρ y = .bool b) : OpV P S ⟨dst, .binOp .neq t x y t2, ty, pos, af, g⟩ ρ (.bool (a != b)) := v_run fun w _ => by
  have h := run_binB (P := P) (dst := dst) (ty := ty) (pos := pos) (af := af) (g := g) (t2 := t2) .neq (.inr rfl) ht hx hy w
  simpa using h
end
/-- An array out of its parts. -/
theorem v_array {dst : Option Tmp} {ty : TypeId} {pos : String} {af : Array Edge} {g : Option (Nat × Bool)} {t e : TypeId} {n sz : Nat} {z : Value} {zs us : List Value} {parts : List (Nat × Operand)} (ht : P.underlying t = some (.array n e)) (hz : ∀ w, (zeroValue t).run P w = .ok z w) (hse : ∀ w, (sizeOf e).run P w = .ok sz w) (hzs : z.cells = zs.toArray)
    (hf : fitsB (fun i => some (i * sz, sz)) zs.length (parts.map fun p => (p.1, (evo ρ p.2).cells.size)) = true) (hu : fillL zs (parts.map fun p => (p.1 * sz, (evo ρ p.2).cells.toList)) = us) :
    OpV P S ⟨dst, .build t parts.toArray, ty, pos, af, g⟩ ρ (.agg us.toArray) := v_build fun w => by
  have h2 := fill_list (fun i => some (i * sz, sz)) (parts.map fun p => (p.1, evo ρ p.2)) zs (by rw [List.map_map]; exact hf)
  simp only [List.map_map, Function.comp_def, Option.map_some, Option.getD_some] at h2
  rw [hu] at h2
  simp only [Instr.build, Sem.run_bind, hz, run_underlying ht, Result.andThen, hzs, hse, List.map_toArray]
  rw [h2]
  rfl
end
theorem v_rem {P : Program} {S : World → Prop} {ρ : Env} {dst : Option Tmp} {ty : TypeId} {pos : String} {af : Array Edge} {g : Option (Nat × Bool)} {t t2 : TypeId} {x y : Operand} {m n : Int} (hx : evo ρ x = .int .i64 m) (hy : evo ρ y = .int .i64 n) (h : n ≠ 0) : OpV P S ⟨dst, .binOp .rem t x y t2, ty, pos, af, g⟩ ρ (.int .i64 (m.tmod n)) :=
  v_run fun w _ => run_bin .rem t2 hx hy w _ (by simp [binOp, Op.intDiv, h])
end Go.Proofs.Ytmjdmlgdffoimab
