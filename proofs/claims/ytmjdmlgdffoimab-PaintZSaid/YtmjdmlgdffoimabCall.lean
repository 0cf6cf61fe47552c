/- Calls by contract; entering a function; leaving it. -/
import Derived.Test.YtmjdmlgdffoimabOps
namespace Go.Proofs.Ytmjdmlgdffoimab
open Go.RowKit

/-- The contract of a function: called where the items pre hold, apart from each other, and Fact does, it hands back v x and leaves the items post x; nothing else is touched. -/
def Ct (P : Program) (f : FuncId) (args : Array Value) (pre : List HI) (Fact : World → Prop) {X : Type} (v : X → Value) (facts : X → Prop) (post : X → List HI) : Prop :=
  ∀ w, (∀ i ∈ pre, i.holds w) → pre.Pairwise (fun x y => ∀ b, x.foot b → ¬ y.foot b) → Fact w →
    Calls P f args w fun e w' => ∃ x, e = .returned (v x) ∧ facts x ∧ St w (foots pre) (post x) w'

/-! ### Leaving -/
def mark (D : Nat) : Deferred := { target := .collected D, args := #[] }
def shutAll (w : World) (Ds : List Nat) : World := Ds.foldl (fun w D => w.putObj D (.deferred none)) w
structure RetQ (P : Program) (fn : Func) (R : Value → World → Prop) (e : Exit) (ρ : Env) (ds : List Deferred) (w : World) : Prop where
  way : e = .ret ∨ e = .normal
  out : ∃ Ds : List Nat, ds = Ds.map mark ∧ Ds.Nodup ∧ (∀ D ∈ Ds, w.heap[D]? = some (.deferred (some []))) ∧
    ∀ tmps : Array Value, (∀ t, tmps.getD t undef = ρ t) → ∃ v, (results fn tmps).run P (shutAll w Ds) = .ok v (shutAll w Ds) ∧ R v (shutAll w Ds)
theorem leaves_marks {P : Program} {fn : Func} {R : Value → World → Prop} {tmps : Array Value} : ∀ (Ds : List Nat) (w : World), Ds.Nodup → (∀ D ∈ Ds, w.heap[D]? = some (.deferred (some []))) →
    (∃ v, (results fn tmps).run P (shutAll w Ds) = .ok v (shutAll w Ds) ∧ R v (shutAll w Ds)) →
    LeavesInM Fence.wide 0 P fn tmps (fun e w' => ∃ v, e = .returned v ∧ R v w') (Ds.map mark) .returning w
  | [], w, _, _, h => by
    obtain ⟨v, h1, h2⟩ := h
    exact ⟨v, h1, v, rfl, h2⟩
  | D :: Ds, w, hn, hD, h => by
    rw [List.nodup_cons] at hn
    refine ⟨by simp, .inl ⟨D, _, rfl, run_takeDeferred (hD D (by simp)), leaves_marks Ds _ hn.2 (fun D' hD' => ?_) h⟩⟩
    rw [World.putObj_heap_other (fun e : D' = D => hn.1 (by rw [← e]; exact hD'))]
    exact hD D' (by simp [hD'])

theorem enter {P : Program} {f : FuncId} {fn : Func} {c : Code} {N : Nat} {args : Array Value} {w : World} {R : Value → World → Prop} (hf : P.funcs[f]? = some fn) (hb : fn.body = some c) (hn : fn.ntmps = N) (ha : args.size ≤ N)
    (h : WP P none N c (RetQ P fn R) (argEnv args.toList) [] (fun w' => w' = w)) : Calls P f args w fun e w' => ∃ v, e = .returned v ∧ R v w' := by
  refine (callsIn_wide (n := 0)).1 (callsIn_of_wp_marks hf hb trivial ?_)
  have hfr : Fr N (argEnv args.toList) [] { tmps := args ++ Array.replicate (fn.ntmps - args.size) undef, defers := [] } := by
    subst hn
    refine ⟨by simp; omega, fun t => ?_, rfl⟩
    unfold argEnv
    simp only [Array.getD_eq_getD_getElem?, List.getD_eq_getElem?_getD, Array.getElem?_toList]
    by_cases hlt : t < args.size
    · simp [Array.getElem?_append, hlt]
    · simp only [Array.getElem?_append, hlt, if_false]
      rw [Array.getElem?_eq_none (xs := args) (by omega), Array.getElem?_replicate]
      split <;> rfl
  refine Go.wpIn_mono (h w rfl _ hfr) ?_
  intro e a w' hq
  cases e <;> first
    | exact hq.elim
    | skip
  all_goals
    obtain ⟨ρ, ds, hf', he, Ds, rfl, hnd, hD, hr⟩ := hq
    first
      | (rcases he with he | he <;> cases he; done)
      | (show LeavesInM _ _ _ _ _ _ _ _ _
         rw [hf'.defs]
         exact leaves_marks Ds w' hnd hD (hr _ hf'.get))
theorem Ct.intro {P : Program} {f : FuncId} {fn : Func} {c : Code} {N : Nat} {args : Array Value} {pre : List HI} {Fact : World → Prop} {X : Type} {v : X → Value} {facts : X → Prop} {post : X → List HI} (hf : P.funcs[f]? = some fn) (hb : fn.body = some c) (hn : fn.ntmps = N) (ha : args.size ≤ N)
    (h : ∀ w, Fact w → WP P none N c (RetQ P fn (fun u w' => ∃ x, u = v x ∧ facts x ∧ St w (foots pre) (post x) w')) (argEnv args.toList) [] (St w (foots pre) pre)) : Ct P f args pre Fact v facts post := by
  intro w h1 h2 h3
  refine (enter hf hb hn ha ((h w h3).pre fun w' e => ?_)).mono ?_
  · subst e; exact St.start h1 h2
  · rintro e w' ⟨u, rfl, x, rfl, hx, hs⟩
    exact ⟨x, rfl, hx, hs⟩
/-- A function that leaves the world as it is. -/
theorem enter_pure {P : Program} {f : FuncId} {fn : Func} {c : Code} {N : Nat} {args : Array Value} {w : World} {v : Value} (hf : P.funcs[f]? = some fn) (hb : fn.body = some c) (hn : fn.ntmps = N) (ha : args.size ≤ N)
    (h : WP P none N c (RetQ P fn (fun u w' => u = v ∧ w = w')) (argEnv args.toList) [] (fun w' => w' = w)) : Calls P f args w fun e w' => e = .returned v ∧ w = w' :=
  (enter hf hb hn ha h).mono fun e w' ⟨u, he, hu, hw⟩ => ⟨by rw [he, hu], hw⟩

section
variable {P : Program} {r : Option Nat} {N : Nat} {Q : XP} {ρ : Env} {S : World → Prop} {fn : Func} {R : Value → World → Prop}
theorem RetQ.of1 {t : Tmp} {w : World} {e : Exit} (hr : fn.results = #[.tmp t]) (he : e = .ret ∨ e = .normal) (h : R (ρ t) w) : RetQ P fn R e ρ [] w :=
  ⟨he, [], rfl, List.nodup_nil, by simp, fun tmps ht => ⟨_, results_tmp hr _ _ _, by rw [ht]; exact h⟩⟩
theorem RetQ.of2 {t u : Tmp} {w : World} {e : Exit} (hr : fn.results = #[.tmp t, .tmp u]) (he : e = .ret ∨ e = .normal) (h : R (.tuple #[ρ t, ρ u]) w) : RetQ P fn R e ρ [] w :=
  ⟨he, [], rfl, List.nodup_nil, by simp, fun tmps ht => ⟨_, results_tmp2 hr _ _ _, by rw [ht, ht]; exact h⟩⟩
theorem RetQ.of3 {t u s : Tmp} {w : World} {e : Exit} (hr : fn.results = #[.tmp t, .tmp u, .tmp s]) (he : e = .ret ∨ e = .normal) (h : R (.tuple #[ρ t, ρ u, ρ s]) w) : RetQ P fn R e ρ [] w :=
  ⟨he, [], rfl, List.nodup_nil, by simp, fun tmps ht => ⟨_, results_tmp3 hr _ _ _, by rw [ht, ht, ht]; exact h⟩⟩
theorem RetQ.of0 {w : World} {e : Exit} (hr : fn.results = #[]) (he : e = .ret ∨ e = .normal) (h : R (.tuple #[]) w) : RetQ P fn R e ρ [] w :=
  ⟨he, [], rfl, List.nodup_nil, by simp, fun tmps _ => ⟨_, results_none hr _ _ _, h⟩⟩
/-- One result, in cells. -/
theorem RetQ.ofC {t : Tmp} {ty : TypeId} {w : World} {e : Exit} {b o k : Nat} {us : List Value} (hr : fn.results = #[.cell t ty]) (he : e = .ret ∨ e = .normal) (hx : ρ t = .pointer (some ⟨b, o, none⟩)) (ha : ∀ w, (isAgg ty).run P w = .ok true w) (hz : ∀ w, (sizeOf ty).run P w = .ok k w)
    (hc : CellsAt w b o us) (hk : us.length = k) (h : R (.agg us.toArray) w) : RetQ P fn R e ρ [] w :=
  ⟨he, [], rfl, List.nodup_nil, by simp, fun tmps ht => ⟨.agg us.toArray, by
    subst hk
    show (results fn tmps).run P w = _
    simp [results, hr, ht, hx, loadVar, ha, hz, run_loadCells P hc, asAddr]
    rfl, h⟩⟩
theorem WP.ret1 {t : Tmp} (hr : fn.results = #[.tmp t]) (hq : ∀ w, RetQ P fn R .ret ρ [] w → Q .ret ρ [] w) (h : ∀ w, S w → R (ρ t) w) : WP P r N .ret Q ρ [] S :=
  WP.ret fun w hw => hq w (RetQ.of1 hr (.inl rfl) (h w hw))
theorem WP.ret2 {t u : Tmp} (hr : fn.results = #[.tmp t, .tmp u]) (hq : ∀ w, RetQ P fn R .ret ρ [] w → Q .ret ρ [] w) (h : ∀ w, S w → R (.tuple #[ρ t, ρ u]) w) : WP P r N .ret Q ρ [] S :=
  WP.ret fun w hw => hq w (RetQ.of2 hr (.inl rfl) (h w hw))
theorem WP.ret3 {t u s : Tmp} (hr : fn.results = #[.tmp t, .tmp u, .tmp s]) (hq : ∀ w, RetQ P fn R .ret ρ [] w → Q .ret ρ [] w) (h : ∀ w, S w → R (.tuple #[ρ t, ρ u, ρ s]) w) : WP P r N .ret Q ρ [] S :=
  WP.ret fun w hw => hq w (RetQ.of3 hr (.inl rfl) (h w hw))
theorem WP.ret0 (hr : fn.results = #[]) (hq : ∀ w, RetQ P fn R .ret ρ [] w → Q .ret ρ [] w) (h : ∀ w, S w → R (.tuple #[]) w) : WP P r N .ret Q ρ [] S :=
  WP.ret fun w hw => hq w (RetQ.of0 hr (.inl rfl) (h w hw))
theorem WP.retC {t : Tmp} {ty : TypeId} {b o k : Nat} {us : List Value} (hr : fn.results = #[.cell t ty]) (hx : ρ t = .pointer (some ⟨b, o, none⟩)) (ha : ∀ w, (isAgg ty).run P w = .ok true w) (hz : ∀ w, (sizeOf ty).run P w = .ok k w)
    (hc : ∀ w, S w → CellsAt w b o us) (hk : us.length = k) (hq : ∀ w, RetQ P fn R .ret ρ [] w → Q .ret ρ [] w) (h : ∀ w, S w → R (.agg us.toArray) w) : WP P r N .ret Q ρ [] S :=
  WP.ret fun w hw => hq w (RetQ.ofC hr (.inl rfl) hx ha hz (hc w hw) hk (h w hw))
end

/-! ### Calling -/
section
variable {P : Program} {r : Option Nat} {S : World → Prop} {ρ : Env} {dst : Option Tmp} {ty : TypeId} {pos : String} {af : Array Edge} {g : Option (Nat × Bool)} {f : FuncId} {xs : List Operand} {ats : Array TypeId} {args : List Value}
theorem run_call (hf : ∀ args w, (callFunc f args).run P w = .ok (.enter f args) w) (ha : xs.map (evo ρ) = args) (w : World) : (execOp (evo ρ) ⟨dst, .call ⟨.value (.func f), xs.toArray, ats⟩, ty, pos, af, g⟩).run P w = .ok (.enter f args.toArray) w := by
  subst ha
  simp [execOp, resolve, evo, Deferred.ofValue, invoke, hf]
theorem run_callV {x : Operand} {first cap : List Value} (hf : ∀ args w, (callFunc f args).run P w = .ok (.enter f args) w) (hx : evo ρ x = .func (.func f) first.toArray cap.toArray) (ha : first ++ xs.map (evo ρ) ++ cap = args) (w : World) :
    (execOp (evo ρ) ⟨dst, .call ⟨.value x, xs.toArray, ats⟩, ty, pos, af, g⟩).run P w = .ok (.enter f args.toArray) w := by
  subst ha
  simp [execOp, resolve, hx, Deferred.ofValue, invoke, hf]
theorem v_call {v : Value} (hf : ∀ args w, (callFunc f args).run P w = .ok (.enter f args) w) (hc : ∀ w, S w → Calls P f args.toArray w fun e w' => e = .returned v ∧ w = w') (ha : xs.map (evo ρ) = args := by rfl) : OpV P S ⟨dst, .call ⟨.value (.func f), xs.toArray, ats⟩, ty, pos, af, g⟩ ρ v :=
  fun w hw => .inr ⟨f, args.toArray, run_call hf ha w, hc w hw⟩
theorem v_callV {v : Value} {x : Operand} {first cap : List Value} (hf : ∀ args w, (callFunc f args).run P w = .ok (.enter f args) w) (hc : ∀ w, S w → Calls P f args.toArray w fun e w' => e = .returned v ∧ w = w') (hx : evo ρ x = .func (.func f) first.toArray cap.toArray := by rfl) (ha : first ++ xs.map (evo ρ) ++ cap = args := by rfl) :
    OpV P S ⟨dst, .call ⟨.value x, xs.toArray, ats⟩, ty, pos, af, g⟩ ρ v :=
  fun w hw => .inr ⟨f, args.toArray, run_callV hf hx ha w, hc w hw⟩
section
variable {w0 : World} {M : Nat → Prop} {σ σ' : List HI} {pre : List HI} {Fact : World → Prop} {X : Type} {v : X → Value} {facts : X → Prop} {post : X → List HI}
/-- The items idx are handed to the call; what it leaves stands behind the others. -/
theorem Ct.apply (hc : Ct P f args.toArray pre Fact v facts post) (idx rest : List Nat) (hn : (idx ++ rest).Nodup) (hp : sel σ idx = pre) (hF : ∀ w, St w0 M σ w → Fact w) {τ : X → List HI} (hτ : ∀ x, sel σ rest ++ post x = τ x) (w : World) (hw : St w0 M σ w) :
    Calls P f args.toArray w fun e w' => ∃ x, e = .returned (v x) ∧ facts x ∧ St w0 M (τ x) w' := by
  have h1 := hw.sel (idx ++ rest) hn
  have e : sel σ (idx ++ rest) = pre ++ sel σ rest := by rw [← hp]; simp [sel]
  rw [e] at h1
  refine (hc w (fun i hi => h1.all i (List.mem_append_left _ hi)) (List.pairwise_append.1 h1.disj).1 (hF w hw)).mono ?_
  rintro e w' ⟨x, rfl, hx, hs⟩
  refine ⟨x, rfl, hx, ?_⟩
  rw [← hτ]
  exact (h1.trans hs).perm List.perm_append_comm
theorem x_call (hf : ∀ args w, (callFunc f args).run P w = .ok (.enter f args) w) (hc : Ct P f args.toArray pre Fact v facts post) (idx rest : List Nat) (hp : sel σ idx = pre) (hF : ∀ w, St w0 M σ w → Fact w) {τ : X → List HI} (hτ : ∀ x, sel σ rest ++ post x = τ x)
    (ha : xs.map (evo ρ) = args := by rfl) (hn : (idx ++ rest).Nodup := by decide) :
    OpX P r (St w0 M σ) ⟨dst, .call ⟨.value (.func f), xs.toArray, ats⟩, ty, pos, af, g⟩ ρ v (fun x w' => facts x ∧ St w0 M (τ x) w') :=
  OpX.of_call rfl (fun w _ => run_call hf ha w) (fun w hw => hc.apply idx rest hn hp hF hτ w hw)
theorem x_callV {x : Operand} {first cap : List Value} (hf : ∀ args w, (callFunc f args).run P w = .ok (.enter f args) w) (hc : Ct P f args.toArray pre Fact v facts post) (idx rest : List Nat) (hp : sel σ idx = pre) (hF : ∀ w, St w0 M σ w → Fact w)
    {τ : X → List HI} (hτ : ∀ x, sel σ rest ++ post x = τ x) (hx : evo ρ x = .func (.func f) first.toArray cap.toArray := by rfl) (ha : first ++ xs.map (evo ρ) ++ cap = args := by rfl) (hn : (idx ++ rest).Nodup := by decide) :
    OpX P r (St w0 M σ) ⟨dst, .call ⟨.value x, xs.toArray, ats⟩, ty, pos, af, g⟩ ρ v (fun x w' => facts x ∧ St w0 M (τ x) w') :=
  OpX.of_call rfl (fun w _ => run_callV hf hx ha w) (fun w hw => hc.apply idx rest hn hp hF hτ w hw)
end
end
end Go.Proofs.Ytmjdmlgdffoimab
