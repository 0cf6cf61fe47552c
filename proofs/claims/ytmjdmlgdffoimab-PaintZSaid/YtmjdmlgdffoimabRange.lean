/- A range over a function: the loop's record, a round, the statement. -/
import Derived.Test.YtmjdmlgdffoimabCall
import Derived.ScopeJumps
namespace Go.Proofs.Ytmjdmlgdffoimab
open Go.RowKit

/-- What stays of a loop's record. -/
structure LK where
  fn : FuncId
  tmps : Array Value
  params : Array Tmp
  assign : Code
  body : Code
  defers : Nat
def LK.at (k : LK) (st : LoopState) (pe : Option Code) : Loop := { state := st, pending := pe, fn := k.fn, tmps := k.tmps, params := k.params, assign := k.assign, body := k.body, defers := k.defers }
/-- The record as an item; the block for deferred calls as one. -/
abbrev lp (l : Nat) (k : LK) (st : LoopState) (pe : Option Code) : HI := .ob l (.loop (k.at st pe))
abbrev dfr (D : Nat) : HI := .ob D (.deferred (some []))

theorem St.putOb {w0 w : World} {M : Nat → Prop} {σ : List HI} {i l : Nat} {o : Obj} (h : St w0 M σ w) (hi : σ[i]? = some (.ob l o)) (o' : Obj) : St w0 M (σ.set i (.ob l o')) (w.putObj l o') := by
  have hl : w.heap[l]? = some o := h.all _ (List.mem_of_getElem? hi)
  have hlt : l < w.heap.size := lt_of_some hl
  refine h.upd hi ⟨rfl, rfl, rfl, by simp, fun b _ hM => ?_, ?_, by simp, ?_⟩
  · have hb : b ≠ l := fun e => hM ⟨.ob l o, by simp, e⟩
    exact World.putObj_heap_other hb
  · intro j hj
    obtain rfl : j = .ob l o' := by simpa using hj
    exact World.putObj_heap_same hlt
  · intro j hj b hb
    obtain rfl : j = .ob l o' := by simpa using hj
    exact .inr ⟨.ob l o, by simp, hb⟩

section
variable {P : Program} {r : Option Nat} {N : Nat} {Q : XP} {ρ : Env} {ds : List Deferred} {S : World → Prop} {w0 : World} {M : Nat → Prop} {σ : List HI}

/-! ### The call of yield -/
theorem x_yield {dst : Option Tmp} {ty : TypeId} {pos : String} {af : Array Edge} {g : Option (Nat × Bool)} {xs : List Operand} {ats : Array TypeId} {args : List Value} {l : Nat} {x : Operand} {X : Type} {v : X → Value} {T : X → World → Prop}
    (hy : ∀ w, S w → YieldAt (FW none) 0 P l args.toArray w fun e w' => ∃ x, e = .returned (v x) ∧ T x w') (hx : evo ρ x = .func (.yield l) #[] #[] := by rfl) (ha : xs.map (evo ρ) = args := by rfl) :
    OpX P r S ⟨dst, .call ⟨.value x, xs.toArray, ats⟩, ty, pos, af, g⟩ ρ v T := by
  intro w hw a hev K Q hK
  obtain ⟨fn, tmps, asg, body, hrun, hround⟩ := hy w hw
  refine ⟨fun _ _ => fw_fn r _, ?_⟩
  rw [FW_round, Oper.semAt_eq r _ _ (by intro c e; cases e), hev]
  have h1 : (execOp (evo ρ) ⟨dst, .call ⟨.value x, xs.toArray, ats⟩, ty, pos, af, g⟩).run P w = .ok (.round l fn tmps asg body) w := by
    subst ha
    simp [execOp, resolve, hx, Deferred.ofValue, invoke]
    exact hrun
  rw [h1]
  have h2 : RoundIn (FW r) 0 P l fn tmps asg body w fun e w' => ∃ x, e = .returned (v x) ∧ T x w' := by
    cases r with
    | none => exact hround
    | some l' => exact hround
  refine ⟨fw_depth r, h2.mono ?_⟩
  rintro e w' ⟨x, rfl, hT⟩
  exact hK x w' hT

/-! ### A round -/
def parEnv : List Tmp → List Value → Env → Env
  | p :: ps, v :: vs, ρ => parEnv ps vs (upd ρ p v)
  | _, _, ρ => ρ
def RoundE (P : Program) (l : Nat) (R : Ending → World → Prop) (e : Exit) (w : World) : Prop :=
  match e with
  | .normal => ∃ v w', (Instr.endRound l none).run P w = .ok v w' ∧ R (.returned v) w'
  | .ret => ∃ v w', (Instr.endRound l (some .ret)).run P w = .ok v w' ∧ R (.returned v) w'
  | .exit id => ∃ v w', (Instr.endRound l (some (.exit id))).run P w = .ok v w' ∧ R (.returned v) w'
  | .goto t => ∃ v w', (Instr.endRound l (some (.goto t))).run P w = .ok v w' ∧ R (.returned v) w'
  | _ => False
structure RoundQ (P : Program) (l : Nat) (R : Ending → World → Prop) (e : Exit) (ρ : Env) (ds : List Deferred) (w : World) : Prop where
  ok : RoundE P l R e w
def begun (P : Program) (l N : Nat) (body : Code) (Q : XP) : Env → List Deferred → World → Prop := fun ρ ds w =>
  ∃ w2, (Instr.beginRound l).run P w = .ok () w2 ∧ WP P (some l) N body Q ρ ds (fun w' => w' = w2)
def noE : XP := fun _ _ _ _ => False
theorem begun_of {l i : Nat} {k : LK} {body : Code} (hi : σ[i]? = some (lp l k .ready none)) (h : WP P (some l) N body Q ρ ds (St w0 M (σ.set i (lp l k .busy none)))) : ∀ w, St w0 M σ w → begun P l N body Q ρ ds w := by
  intro w hw
  have hl : w.heap[l]? = some (.loop (k.at .ready none)) := hw.all _ (List.mem_of_getElem? hi)
  refine ⟨_, run_beginRound hl rfl, h.pre ?_⟩
  intro w' e
  subst e
  exact hw.putOb hi (.loop (k.at .busy none))
theorem RoundQ.normal {l i : Nat} {k : LK} {R : Ending → World → Prop} {w : World} (hi : σ[i]? = some (lp l k .busy none)) (hw : St w0 M σ w) (h : ∀ w', St w0 M (σ.set i (lp l k .ready none)) w' → R (.returned (.bool true)) w') : RoundQ P l R .normal ρ ds w := by
  have hl : w.heap[l]? = some (.loop (k.at .busy none)) := hw.all _ (List.mem_of_getElem? hi)
  exact ⟨⟨_, _, run_endRound none hl, h _ (hw.putOb hi (.loop (k.at .ready none)))⟩⟩
theorem RoundQ.jump {l i : Nat} {k : LK} {R : Ending → World → Prop} {w : World} {e : Exit} {c : Code} (he : (e = .ret ∧ c = .ret) ∨ (∃ id, e = .exit id ∧ c = .exit id)) (hi : σ[i]? = some (lp l k .busy none)) (hw : St w0 M σ w) (h : ∀ w', St w0 M (σ.set i (lp l k .done (some c))) w' → R (.returned (.bool false)) w') : RoundQ P l R e ρ ds w := by
  have hl : w.heap[l]? = some (.loop (k.at .busy none)) := hw.all _ (List.mem_of_getElem? hi)
  rcases he with ⟨rfl, rfl⟩ | ⟨id, rfl, rfl⟩ <;> exact ⟨⟨_, _, run_endRound (some _) hl, h _ (hw.putOb hi (.loop (k.at .done (some _))))⟩⟩

theorem fr_params {N : Nat} : ∀ (ps : List Tmp) (vs : List Value) (t : Array Value) (ρ : Env), (∀ p ∈ ps, p < N) → Fr N ρ [] { tmps := t, defers := [] } →
    Fr N (parEnv ps vs ρ) [] { tmps := (ps.zip vs).foldl (fun t (p, v) => t.setIfInBounds p v) t, defers := [] }
  | [], _, _, _, _, h => h
  | _ :: _, [], _, _, _, h => h
  | p :: ps, v :: vs, t, ρ, hp, h => by
    have h1 := h.put (dst := some p) (v := v) (fun d e => by cases e; exact hp p (by simp))
    exact fr_params ps vs _ _ (fun q hq => hp q (by simp [hq])) h1
theorem Yld.intro {l i : Nat} {k : LK} {ps : List Tmp} {asg body : Code} {args : List Value} {R : Ending → World → Prop} (hps : k.params = ps.toArray) (has : k.assign = asg) (hbd : k.body = body) (hfr : Fr N ρ [] { tmps := k.tmps, defers := [] })
    (hi : σ[i]? = some (lp l k .ready none)) (hlen : args.length = ps.length) (hN : ∀ p ∈ ps, p < N)
    (h : WP P (some l) N asg (thenE (begun P l N body (RoundQ P l R)) noE) (parEnv ps args ρ) [] (St w0 M σ)) : ∀ w, St w0 M σ w → YieldAt (FW none) 0 P l args.toArray w R := by
  subst has hbd
  intro w hw
  have hl : w.heap[l]? = some (.loop (k.at .ready none)) := hw.all _ (List.mem_of_getElem? hi)
  refine ⟨_, _, _, _, run_yield hl (by simp [LK.at, hps, hlen]), roundIn_of_wpIn trivial ?_⟩
  have h1 := fr_params ps args k.tmps ρ hN hfr
  have e : ((k.at .ready none).params.zip args.toArray).foldl (fun tmps (x : Tmp × Value) => tmps.setIfInBounds x.1 x.2) (k.at .ready none).tmps = (ps.zip args).foldl (fun t (p, v) => t.setIfInBounds p v) k.tmps := by
    simp only [LK.at, hps]
    rw [List.zip_toArray, List.foldl_toArray]
  rw [show (Array.foldl (fun tmps (x : Tmp × Value) => match x with | (t, a) => tmps.setIfInBounds t a) (k.at .ready none).tmps ((k.at .ready none).params.zip args.toArray)) = _ from e]
  refine Go.wpIn_mono (h w hw _ h1) ?_
  intro e a w' hq
  cases e <;> first
    | exact hq.elim
    | skip
  · obtain ⟨ρ1, ds1, hf1, w2, hb, hbody⟩ := hq
    refine ⟨w2, hb, Go.wpIn_mono (hbody w2 rfl a hf1) ?_⟩
    intro e a3 w3 hq3
    cases e <;> first
      | exact hq3.elim
      | exact (let ⟨_, _, _, h⟩ := hq3; h.ok)
  all_goals exact (let ⟨_, _, _, h⟩ := hq; h.elim)

/-! ### The statement -/
theorem St.newObj {w : World} (h : St w0 M σ w) (o : Obj) : St w0 M (σ ++ [.ob w.heap.size o]) (w.alloc o) := by
  refine h.add ⟨rfl, rfl, rfl, by simp, fun b hb _ => Below.heap_alloc _ _ _ hb, ?_, by simp, ?_⟩
  · intro j hj
    obtain rfl : j = .ob w.heap.size o := by simpa using hj
    exact World.alloc_heap_new w o
  · intro j hj b hb
    obtain rfl : j = .ob w.heap.size o := by simpa using hj
    obtain rfl : b = w.heap.size := hb
    exact .inl (Nat.le_refl _)

theorem set_drop (τ : List HI) (x y : HI) (rest : List HI) : (τ ++ rest).Sublist ((τ ++ x :: rest).set τ.length y) := by
  have e : (τ ++ x :: rest).set τ.length y = τ ++ y :: rest := by simp
  rw [e]
  exact (List.Sublist.refl τ).append (List.sublist_cons_self y rest)
theorem WP.rangeFuncJ {g : Operand} {ps : List Tmp} {asg body : Code} {gf : Nat} {first cap : List Value} (hg : evo ρ g = .func (.func gf) first.toArray cap.toArray) (eg : ∀ args w, (callFunc gf args).run P w = .ok (.enter gf args) w)
    {X : Type} {Fin : X → Prop} {τ : X → List HI} {Y : Type} {FinJ : Code → Y → Prop} {τJ : Y → List HI}
    (hc : ∀ (k : LK) (l D : Nat), k.params = ps.toArray → k.assign = asg → k.body = body → Fr N ρ [] { tmps := k.tmps, defers := [] } → ∀ w, St w0 M (σ ++ [lp l k .ready none, dfr D]) w →
      Calls P gf (first ++ [Value.func (.yield l) #[] #[]] ++ cap).toArray w fun e w' => (∃ v, e = .returned v) ∧ ((∃ x, Fin x ∧ St w0 M (τ x ++ [lp l k .ready none, dfr D]) w') ∨ (∃ c y, FinJ c y ∧ St w0 M (τJ y ++ [lp l k .done (some c), dfr D]) w')))
    (hk : ∀ D x, Fin x → ∀ w, St w0 M (τ x ++ [dfr D]) w → Q .normal ρ (mark D :: ds) w)
    (hj : ∀ D c y, FinJ c y → WP P none N c Q ρ (mark D :: ds) (St w0 M (τJ y ++ [dfr D]))) :
    WP P none N (.rangeFunc g ps.toArray asg body) Q ρ ds (St w0 M σ) := by
  intro w hw a ha
  refine wpIn_rangeFunc ?_
  intro fn _
  let k : LK := { fn := fn, tmps := a.tmps, params := ps.toArray, assign := asg, body := body, defers := w.heap.size }
  let W1 : World := (w.alloc (.deferred (some []))).alloc (.loop (k.at .ready none))
  have hs1 : St w0 M (σ ++ [lp (w.heap.size + 1) k .ready none, dfr w.heap.size]) W1 := by
    have h1 := (hw.newObj (.deferred (some []))).newObj (.loop (k.at .ready none))
    have h2 := h1.perm (σ' := σ ++ [lp (w.heap.size + 1) k .ready none, dfr w.heap.size]) (by
      rw [World.size_alloc, List.append_assoc]
      exact List.Perm.append_left σ (List.Perm.swap _ _ _))
    exact h2
  refine ⟨w.heap.size + 1, [mark w.heap.size], W1, { target := .fn (.func gf) cap.toArray, args := first.toArray ++ #[Value.func (.yield (w.heap.size + 1)) #[] #[]] }, W1, gf,
    (first ++ [Value.func (.yield (w.heap.size + 1)) #[] #[]] ++ cap).toArray, W1, ?_, ?_, fun _ _ => trivial, ?_, fw_depth none, ?_⟩
  · exact run_enterLoop_outer _ _ _ _ _
  · have hga := (ha.evalx g).trans hg
    simp [resolve, hga, Deferred.ofValue]
    rfl
  · simp [invoke, eg]
  · have hfr : Fr N ρ [] { tmps := k.tmps, defers := [] } := ⟨ha.size, ha.get, rfl⟩
    have h0 := callsIn_fw (r := none) (n := 0 - 1) (hc k (w.heap.size + 1) w.heap.size rfl rfl rfl hfr W1 hs1)
    refine h0.mono ?_
    rintro e w2 ⟨⟨v, rfl⟩, h⟩
    have hlen : ∀ t : List HI, (t ++ [lp (w.heap.size + 1) k .ready none, dfr w.heap.size])[t.length]? = some (lp (w.heap.size + 1) k .ready none) := fun t => by simp
    have hfd : Fr N ρ (mark w.heap.size :: ds) { a with defers := [mark w.heap.size] ++ a.defers } := ⟨ha.size, ha.get, by simp [ha.defs]⟩
    rcases h with ⟨x, hx, h⟩ | ⟨c, y, hy, h⟩
    · have hl : w2.heap[w.heap.size + 1]? = some (.loop (k.at .ready none)) := h.all (lp (w.heap.size + 1) k .ready none) (by simp)
      refine ⟨none, _, run_endLoop hl (by simp [LK.at]), ρ, mark w.heap.size :: ds, hfd, hk _ x hx _ ?_⟩
      have h2 := h.putOb (i := (τ x).length) (hlen _) (.loop { k.at .ready none with state := .exhausted })
      exact h2.sub (set_drop _ _ _ _)
    · have hl : w2.heap[w.heap.size + 1]? = some (.loop (k.at .done (some c))) := h.all (lp (w.heap.size + 1) k .done (some c)) (by simp)
      refine ⟨some c, _, run_endLoop hl (by simp [LK.at]), hj w.heap.size c y hy _ ?_ _ hfd⟩
      have h2 := h.putOb (i := (τJ y).length) (l := w.heap.size + 1) (o := .loop (k.at .done (some c))) (by simp) (.loop { k.at .done (some c) with state := .exhausted })
      exact h2.sub (set_drop _ _ _ _)
/-- The body never leaves the loop. -/
theorem WP.rangeFunc {g : Operand} {ps : List Tmp} {asg body : Code} {gf : Nat} {first cap : List Value} (hg : evo ρ g = .func (.func gf) first.toArray cap.toArray) (eg : ∀ args w, (callFunc gf args).run P w = .ok (.enter gf args) w)
    {X : Type} {Fin : X → Prop} {τ : X → List HI}
    (hc : ∀ (k : LK) (l D : Nat), k.params = ps.toArray → k.assign = asg → k.body = body → Fr N ρ [] { tmps := k.tmps, defers := [] } → ∀ w, St w0 M (σ ++ [lp l k .ready none, dfr D]) w →
      Calls P gf (first ++ [Value.func (.yield l) #[] #[]] ++ cap).toArray w fun e w' => (∃ v, e = .returned v) ∧ ∃ x, Fin x ∧ St w0 M (τ x ++ [lp l k .ready none, dfr D]) w')
    (hk : ∀ D x, Fin x → ∀ w, St w0 M (τ x ++ [dfr D]) w → Q .normal ρ (mark D :: ds) w) : WP P none N (.rangeFunc g ps.toArray asg body) Q ρ ds (St w0 M σ) :=
  WP.rangeFuncJ hg eg (Fin := Fin) (τ := τ) (Y := Unit) (FinJ := fun _ _ => False) (τJ := fun _ => []) (fun k l D h1 h2 h3 h4 w hw => (hc k l D h1 h2 h3 h4 w hw).mono fun _ _ h => ⟨h.1, .inl h.2⟩) hk (fun _ _ _ h => h.elim)

/-! ### Leaving with marks -/
theorem shut_st {τ : List HI} : ∀ (Ds : List Nat) (w : World), St w0 M (τ ++ Ds.map dfr) w → St w0 M τ (shutAll w Ds)
  | [], w, h => by simpa [shutAll] using h
  | D :: Ds, w, h => by
    have h1 := h.putOb (i := τ.length) (l := D) (o := .deferred (some [])) (by simp) (.deferred none)
    exact shut_st Ds _ (h1.sub (set_drop _ _ _ _))
theorem marks_nodup {τ : List HI} : ∀ (Ds : List Nat) (w : World), St w0 M (τ ++ Ds.map dfr) w → Ds.Nodup := by
  intro Ds w h
  have h1 := (List.pairwise_append.1 h.disj).2.1
  rw [List.pairwise_map] at h1
  exact h1.imp fun {a b} hab e => hab a rfl e
theorem RetQ.marks {fn : Func} {R : Value → World → Prop} (Ds : List Nat) {τ : List HI} {w : World} (h : St w0 M (τ ++ Ds.map dfr) w) (hr : ∀ w, St w0 M τ w → RetQ P fn R .ret ρ [] w) : RetQ P fn R .ret ρ (Ds.map mark) w := by
  have h1 := hr _ (shut_st Ds w h)
  have hn := marks_nodup Ds w h
  have hD : ∀ D ∈ Ds, w.heap[D]? = some (.deferred (some [])) := fun D hD => h.all (dfr D) (List.mem_append_right _ (List.mem_map.2 ⟨D, hD, rfl⟩))
  obtain ⟨_, Ds', he, _, _, hx⟩ := h1
  obtain rfl : Ds' = [] := by
    cases Ds' with
    | nil => rfl
    | cons _ _ => cases he
  exact ⟨.inl rfl, Ds, rfl, hn, hD, hx⟩
theorem WP.retM {fn : Func} {R : Value → World → Prop} (Ds : List Nat) {τ : List HI} (hsub : ∀ w, St w0 M σ w → St w0 M (τ ++ Ds.map dfr) w) (hq : ∀ w, RetQ P fn R .ret ρ (Ds.map mark) w → Q .ret ρ (Ds.map mark) w)
    (hr : ∀ w, St w0 M τ w → RetQ P fn R .ret ρ [] w) : WP P r N .ret Q ρ (Ds.map mark) (St w0 M σ) :=
  WP.ret fun w hw => hq w (RetQ.marks Ds (hsub w hw) hr)

/-! ### A scope with one label to which the run jumps back -/
def jumpE (l : Nat) (J : Env → List Deferred → World → Prop) (Q : XP) : XP
  | .goto l', ρ, ds, w => l' = l ∧ J ρ ds w
  | e, ρ, ds, w => Q e ρ ds w
theorem WP.goto {l : Nat} (h : ∀ w, S w → Q (.goto l) ρ ds w) : WP P r N (.goto l) Q ρ ds S := fun w hw _ ha => wpIn_goto ⟨ρ, ds, ha, h w hw⟩
theorem has_app : ∀ {l m : List (Nat × Value)} {ρ : Env}, Has l ρ → Has m ρ → Has (l ++ m) ρ
  | [], _, _, _, h => h
  | _ :: _, _, _, h, h' => ⟨h.1, has_app h.2 h'⟩
open Classical in
theorem WP.scopeL {X : Type} {c rest : Code} (l : Nat) (hf : findLabel c l = some (.seq .skip rest)) (keep : List Nat) (E : X → List (Nat × Value)) (Sx : X → World → Prop) (μ : X → Nat)
    (first : (∀ x ρ' S', Has (E x ++ keep.map fun t => (t, ρ t)) ρ' → (∀ w, S' w → Sx x w) → WP P none N (.seq (.label l) rest) (jumpE l (fun ρ' ds' w' => ds' = ds ∧ ∃ x, Has (E x ++ keep.map fun t => (t, ρ t)) ρ' ∧ Sx x w') Q) ρ' ds S') →
      WP P none N c (jumpE l (fun ρ' ds' w' => ds' = ds ∧ ∃ x, Has (E x ++ keep.map fun t => (t, ρ t)) ρ' ∧ Sx x w') Q) ρ ds S)
    (pass : ∀ x ρ0, WP P none N rest (jumpE l (fun ρ' ds' w' => ds' = ds ∧ ∃ x', μ x' < μ x ∧ Has (E x' ++ keep.map fun t => (t, ρ t)) ρ' ∧ Sx x' w') Q) (setAll (E x ++ keep.map fun t => (t, ρ t)) ρ0) ds (Sx x)) :
    WP P none N (.scope c) Q ρ ds S := by
  intro w hw a ha
  let V : Act → World → Nat → Prop := fun a' w' k => ∃ x ρ', μ x = k ∧ Fr N ρ' ds a' ∧ Has (E x ++ keep.map fun t => (t, ρ t)) ρ' ∧ Sx x w'
  have h1 := first (fun x ρ' S' hE hS => WP.seq (WP.label (onto_of (by
    have h := pass x ρ'
    rw [setAll_of_has hE] at h
    refine (h.pre hS).mono ?_
    intro e ρ2 ds2 w2 hq
    cases e <;> first
      | exact hq
      | exact ⟨hq.1, hq.2.1, let ⟨x', _, h1, h2⟩ := hq.2.2; ⟨x', h1, h2⟩⟩)))) w hw a ha
  rw [FW_none] at h1 ⊢
  rw [wpIn_wide] at h1 ⊢
  refine wp_scope_jumps l (fun a' w' => ∃ k, V a' w' k) (fun a' w' => if h : ∃ k, V a' w' k then (least_of h).choose else 0) hf (wp_mono h1 ?_) ?_
  · intro e a' w' hq
    cases e <;> first
      | exact hq.elim
      | exact hq
      | skip
    obtain ⟨ρ2, ds2, hf2, rfl, rfl, x2, hE2, hx2⟩ := hq
    exact ⟨rfl, _, x2, ρ2, rfl, hf2, hE2, hx2⟩
  · intro a' w' hI
    obtain ⟨⟨x, ρ', hk, hf', hE, hx⟩, _⟩ := (least_of hI).choose_spec
    have h2 : WP P none N (.seq .skip rest) (jumpE l (fun ρ' ds' w' => ds' = ds ∧ ∃ x', μ x' < μ x ∧ Has (E x' ++ keep.map fun t => (t, ρ t)) ρ' ∧ Sx x' w') Q) ρ' ds (Sx x) := WP.seq (WP.skip (onto_of (by
      have h := pass x ρ'
      rwa [setAll_of_has hE] at h)))
    have h3 := h2 w' hx a' hf'
    rw [FW_none, wpIn_wide] at h3
    refine wp_mono h3 ?_
    intro e a2 w2 hq
    cases e <;> first
      | exact hq.elim
      | exact hq
      | skip
    obtain ⟨ρ2, ds2, hf2, rfl, rfl, x2, hlt, hE2, hx2⟩ := hq
    have hI2 : ∃ k, V a2 w2 k := ⟨_, x2, ρ2, rfl, hf2, hE2, hx2⟩
    refine ⟨rfl, hI2, ?_⟩
    rw [dif_pos hI, dif_pos hI2]
    have := (least_of hI2).choose_spec.2 (μ x2) ⟨x2, ρ2, rfl, hf2, hE2, hx2⟩
    omega
end
end Go.Proofs.Ytmjdmlgdffoimab
