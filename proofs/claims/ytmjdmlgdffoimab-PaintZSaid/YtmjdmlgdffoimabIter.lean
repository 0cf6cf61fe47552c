/- Bundles of items; what lay there before, as an item; iterators by contract. -/
import Derived.Test.YtmjdmlgdffoimabRange
import Derived.Test.YtmjdmlgdffoimabOps2
namespace Go.Proofs.Ytmjdmlgdffoimab
open Go.RowKit

abbrev apartI (x y : HI) : Prop := ∀ b, x.foot b → ¬ y.foot b
/-! ### Bundles -/
def bundle (τ : List HI) : HI := .gen (foots τ) (fun w => (∀ i ∈ τ, i.holds w) ∧ τ.Pairwise apartI)
theorem bundle_local (τ : List HI) : Local (foots τ) (fun w => (∀ i ∈ τ, i.holds w) ∧ τ.Pairwise apartI) :=
  ⟨fun w w' hk h => ⟨fun i hi => HI.keep (h.1 i hi) fun b hb => hk b ⟨i, hi, hb⟩, h.2⟩, fun w h b ⟨i, hi, hb⟩ => HI.lt (h.1 i hi) hb⟩
theorem foots_bundle (τ F : List HI) : foots (bundle τ :: F) = foots (τ ++ F) := by
  funext k
  apply propext
  rw [foots_cons, foots_append]
  exact Iff.rfl
section
variable {w0 w w1 w2 : World} {M : Nat → Prop} {σ τ F : List HI}
theorem St.pack (h : St w0 M (τ ++ F) w) : St w0 M (bundle τ :: F) w := by
  obtain ⟨hd1, hd2, hd3⟩ := List.pairwise_append.1 h.disj
  refine ⟨h.os, h.tape, h.output, h.size, h.old, fun i hi => ?_, List.pairwise_cons.2 ⟨fun j hj b hb => ?_, hd2⟩, fun i hi b hb => ?_⟩
  · rcases List.mem_cons.1 hi with rfl | hi
    · exact ⟨bundle_local τ, fun j hj => h.all j (List.mem_append_left _ hj), hd1⟩
    · exact h.all i (List.mem_append_right _ hi)
  · obtain ⟨i, hi, hib⟩ := hb
    exact hd3 i hi j hj b hib
  · rcases List.mem_cons.1 hi with rfl | hi
    · obtain ⟨j, hj, hjb⟩ := hb
      exact h.fresh j (List.mem_append_left _ hj) b hjb
    · exact h.fresh i (List.mem_append_right _ hi) b hb
theorem St.unpack (h : St w0 M (bundle τ :: F) w) : St w0 M (τ ++ F) w := by
  have hb := (h.all (bundle τ) (by simp)).2
  obtain ⟨hd1, hd2⟩ := List.pairwise_cons.1 h.disj
  refine ⟨h.os, h.tape, h.output, h.size, h.old, fun i hi => ?_, List.pairwise_append.2 ⟨hb.2, hd2, fun i hi j hj b hib => hd1 j hj b ⟨i, hi, hib⟩⟩, fun i hi b hib => ?_⟩
  · rcases List.mem_append.1 hi with hi | hi
    · exact hb.1 i hi
    · exact h.all i (List.mem_cons_of_mem _ hi)
  · rcases List.mem_append.1 hi with hi | hi
    · exact h.fresh (bundle τ) (by simp) b ⟨i, hi, hib⟩
    · exact h.fresh i (List.mem_cons_of_mem _ hi) b hib

/-! ### What lay there before -/
def oldI (w0 : World) (M : Nat → Prop) : HI := .gen (fun b => b < w0.heap.size ∧ ¬ M b) (fun w => ∀ b, b < w0.heap.size → ¬ M b → w.heap[b]? = w0.heap[b]?)
theorem oldI_local (w0 : World) (M : Nat → Prop) : Local (fun b => b < w0.heap.size ∧ ¬ M b) (fun w => ∀ b, b < w0.heap.size → ¬ M b → w.heap[b]? = w0.heap[b]?) := by
  refine ⟨fun w w' hk h b hb hM => (hk b ⟨hb, hM⟩).trans (h b hb hM), fun w h b hb => ?_⟩
  have h1 := h b hb.1 hb.2
  rw [Array.getElem?_eq_getElem hb.1] at h1
  exact lt_of_some h1
theorem St.withOld (h : St w0 M σ w) : (∀ i ∈ σ ++ [oldI w0 M], i.holds w) ∧ (σ ++ [oldI w0 M]).Pairwise apartI := by
  refine ⟨fun i hi => ?_, List.pairwise_append.2 ⟨h.disj, List.pairwise_singleton _ _, fun i hi j hj b hb hb' => ?_⟩⟩
  · rcases List.mem_append.1 hi with hi | hi
    · exact h.all i hi
    · obtain rfl : i = _ := by simpa using hi
      exact ⟨oldI_local w0 M, h.old⟩
  · obtain rfl : j = _ := by simpa using hj
    rcases h.fresh i hi b hb with h1 | h1
    · exact absurd hb'.1 (by omega)
    · exact hb'.2 h1
theorem St.rejoin (h : St w0 M σ w1) (k : St w1 (foots (σ ++ [oldI w0 M])) (τ ++ [oldI w0 M]) w2) : St w0 M τ w2 := by
  obtain ⟨hd1, _, hd3⟩ := List.pairwise_append.1 k.disj
  refine ⟨k.os.trans h.os, k.tape.trans h.tape, k.output.trans h.output, Nat.le_trans h.size k.size, (k.all (oldI w0 M) (by simp)).2, fun i hi => k.all i (List.mem_append_left _ hi), hd1, fun i hi b hb => ?_⟩
  rcases k.fresh i (List.mem_append_left _ hi) b hb with h1 | h1
  · exact .inl (Nat.le_trans h.size h1)
  · obtain ⟨j, hj, hjb⟩ := h1
    rcases List.mem_append.1 hj with hj | hj
    · exact h.fresh j hj b hjb
    · obtain rfl : j = _ := by simpa using hj
      exact absurd hjb (hd3 i hi _ (by simp) b hb)
theorem St.old2 {M1 : Nat → Prop} {i b o : Nat} {us : List Value} (h : St w1 M1 σ w) (hi : σ[i]? = some (oldI w0 M)) (hc : CellsAt w0 b o us) (hM : ¬ M b) : CellsAt w b o us := by
  have h1 := (h.all _ (List.mem_of_getElem? hi)).2
  intro j u hj
  have h2 := hc j u hj
  exact (World.cell?_of_block (h1 b (cell_lt h2) hM)).trans h2

theorem yield_mono {F : Fence} {m : Nat} {P : Program} {l : Nat} {args : Array Value} {W : World} {R R' : Ending → World → Prop} (h : YieldAt F m P l args W R) (hr : ∀ e w, R e w → R' e w) : YieldAt F m P l args W R' := by
  obtain ⟨fn, tmps, asg, body, h1, h2⟩ := h
  exact ⟨fn, tmps, asg, body, h1, h2.mono hr⟩
/-! ### A call of yield, by contract -/
def YCt (P : Program) (l : Nat) (args : Array Value) (pre : List HI) {X : Type} (v : X → Value) (facts : X → Prop) (post : X → List HI) : Prop :=
  ∀ w, (∀ i ∈ pre, i.holds w) → pre.Pairwise apartI → YieldAt (FW none) 0 P l args w fun e w' => ∃ x, e = .returned (v x) ∧ facts x ∧ St w (foots pre) (post x) w'
theorem YCt.apply {P : Program} {l : Nat} {args : Array Value} {pre : List HI} {X : Type} {v : X → Value} {facts : X → Prop} {post : X → List HI} (hc : YCt P l args pre v facts post) (idx rest : List Nat) (hn : (idx ++ rest).Nodup) (hp : sel σ idx = pre) {τ : X → List HI} (hτ : ∀ x, sel σ rest ++ post x = τ x) (w : World) (hw : St w0 M σ w) :
    YieldAt (FW none) 0 P l args w fun e w' => ∃ x, e = .returned (v x) ∧ facts x ∧ St w0 M (τ x) w' := by
  have h1 := hw.sel (idx ++ rest) hn
  have e : sel σ (idx ++ rest) = pre ++ sel σ rest := by rw [← hp]; simp [sel]
  rw [e] at h1
  refine yield_mono (hc w (fun i hi => h1.all i (List.mem_append_left _ hi)) (List.pairwise_append.1 h1.disj).1) ?_
  rintro e w' ⟨x, rfl, hf, hs⟩
  refine ⟨x, rfl, hf, ?_⟩
  rw [← hτ]
  exact (h1.trans hs).perm List.perm_append_comm
theorem x_yieldC {P : Program} {r : Option Nat} {ρ : Env} {dst : Option Tmp} {ty : TypeId} {pos : String} {af : Array Edge} {g : Option (Nat × Bool)} {ys : List Operand} {ats : Array TypeId} {args : List Value} {l : Nat} {x : Operand} {pre : List HI} {X : Type} {v : X → Value} {facts : X → Prop} {post : X → List HI}
    (hc : YCt P l args.toArray pre v facts post) (idx rest : List Nat) (hp : sel σ idx = pre) {τ : X → List HI} (hτ : ∀ x, sel σ rest ++ post x = τ x) (hx : evo ρ x = .func (.yield l) #[] #[] := by rfl) (ha : ys.map (evo ρ) = args := by rfl) (hn : (idx ++ rest).Nodup := by decide) :
    OpX P r (St w0 M σ) ⟨dst, .call ⟨.value x, ys.toArray, ats⟩, ty, pos, af, g⟩ ρ v (fun x w' => facts x ∧ St w0 M (τ x) w') :=
  x_yield (fun w hw => hc.apply idx rest hn hp hτ w hw) hx ha
/-- Items as one. -/
theorem Ct.repack {P : Program} {f : FuncId} {args : Array Value} {ro F : List HI} {Fact : World → Prop} {X : Type} {v : X → Value} {facts : X → Prop} {G : X → List HI} (h : Ct P f args (ro ++ F) Fact v facts (fun x => ro ++ G x)) : Ct P f args (bundle ro :: F) Fact v facts (fun x => bundle ro :: G x) := by
  intro w h1 h2 h3
  have st := (St.start h1 h2).unpack
  refine (h w st.all st.disj h3).mono ?_
  rintro e w' ⟨x, rfl, hf, hs⟩
  refine ⟨x, rfl, hf, ?_⟩
  rw [foots_bundle]
  exact hs.pack
theorem YCt.repack {P : Program} {l : Nat} {args : Array Value} {ro F : List HI} {X : Type} {v : X → Value} {facts : X → Prop} {G : X → List HI} (h : YCt P l args (bundle ro :: F) v facts (fun x => bundle ro :: G x)) : YCt P l args (ro ++ F) v facts (fun x => ro ++ G x) := by
  intro w h1 h2
  have st := (St.start h1 h2).pack
  refine yield_mono (h w st.all st.disj) ?_
  rintro e w' ⟨x, rfl, hf, hs⟩
  refine ⟨x, rfl, hf, ?_⟩
  rw [← foots_bundle]
  exact hs.unpack

/-! ### Iterators -/
def stepI {Z Y : Type} (H : Nat → Z → HI) (J : Nat → Y → HI) (k : Nat) : Z ⊕ Y → HI
  | .inl z => H (k + 1) z
  | .inr y => J k y
def stopI {Z Y : Type} (H : Nat → Z → HI) (J : Nat → Y → HI) (n : Nat) : Z ⊕ (Nat × Y) → HI
  | .inl z => H n z
  | .inr p => J p.1 p.2
/-- gf, handed yield, tells xs one by one, as long as it is asked; the items ro are read alone. -/
def IterOK (P : Program) (gf : Nat) (first cap : List Value) (ro : List HI) {α : Type} (args : α → List Value) (xs : List α) : Prop :=
  ∀ (l : Nat) (Z Y : Type) (H : Nat → Z → HI) (J : Nat → Y → HI) (Inv : Nat → Z → Prop),
    (∀ k x z, xs[k]? = some x → Inv k z → YCt P l (args x).toArray (ro ++ [H k z]) (X := Z ⊕ Y) (fun o => .bool o.isLeft) (fun o => ∀ z', o = .inl z' → Inv (k + 1) z') (fun o => ro ++ [stepI H J k o])) →
    ∀ z0, Inv 0 z0 → Ct P gf (first ++ [Value.func (.yield l) #[] #[]] ++ cap).toArray (ro ++ [H 0 z0]) (fun _ => True) (X := Z ⊕ (Nat × Y)) (fun _ => .tuple #[])
      (fun o => (∀ z, o = .inl z → Inv xs.length z) ∧ ∀ p, o = .inr p → p.1 < xs.length) (fun o => ro ++ [stopI H J xs.length o])
theorem IterOK.pack {P : Program} {gf : Nat} {first cap : List Value} {ro : List HI} {α : Type} {args : α → List Value} {xs : List α} (h : IterOK P gf first cap ro args xs) : IterOK P gf first cap [bundle ro] args xs :=
  fun l Z Y H J Inv hy z0 h0 => Ct.repack (F := [H 0 z0]) (G := fun o => [stopI H J xs.length o]) (h l Z Y H J Inv (fun k x z hx hz => YCt.repack (F := [H k z]) (G := fun o => [stepI H J k o]) (hy k x z hx hz)) z0 h0)
end

section
variable {P : Program} {r : Option Nat} {N : Nat} {Q : XP} {ρ : Env} {ds : List Deferred} {S : World → Prop} {w0 : World} {M : Nat → Prop} {σ : List HI}
/-- The items of a round. -/
abbrev roundI (ro own : List HI) (l D : Nat) (k : LK) (st : LoopState) (pe : Option Code) (w0 : World) (M : Nat → Prop) : List HI := lp l k st pe :: dfr D :: oldI w0 M :: (ro ++ own)
theorem round_perm (ro own : List HI) (l D : Nat) (k : LK) (st : LoopState) (pe : Option Code) (w0 : World) (M : Nat → Prop) : (roundI ro own l D k st pe w0 M).Perm (ro ++ ([lp l k st pe, dfr D] ++ own ++ [oldI w0 M])) := by
  have h1 : (lp l k st pe :: dfr D :: oldI w0 M :: (ro ++ own)).Perm ([lp l k st pe, dfr D] ++ (ro ++ own ++ [oldI w0 M])) := by
    refine List.Perm.cons _ (List.Perm.cons _ ?_)
    exact List.perm_append_comm (l₁ := [oldI w0 M])
  refine h1.trans ?_
  rw [List.append_assoc ro own]
  have h2 : ([lp l k st pe, dfr D] ++ (ro ++ (own ++ [oldI w0 M]))).Perm (ro ++ ([lp l k st pe, dfr D] ++ (own ++ [oldI w0 M]))) := by
    rw [← List.append_assoc, ← List.append_assoc ro]
    exact List.Perm.append_right _ List.perm_append_comm
  simpa [List.append_assoc] using h2
/-- How a round ends. -/
def RoundR (w1 : World) (M1 : Nat → Prop) (ro : List HI) {Z : Type} (own : Nat → Z → List HI) (Inv : Nat → Z → Prop) {Y : Type} (FinJ : Code → Nat → Y → Prop) (ownJ : Y → List HI) (l D : Nat) (lk : LK) (w0 : World) (M : Nat → Prop) (k : Nat) : Ending → World → Prop := fun e w' =>
  (∃ z, e = .returned (.bool true) ∧ Inv (k + 1) z ∧ St w1 M1 (roundI ro (own (k + 1) z) l D lk .ready none w0 M) w') ∨ (∃ c y, e = .returned (.bool false) ∧ FinJ c k y ∧ St w1 M1 (roundI ro (ownJ y) l D lk .done (some c) w0 M) w')
theorem WP.rangeIter {g : Operand} {ps : List Tmp} {asg body : Code} {gf : Nat} {first cap : List Value} (hg : evo ρ g = .func (.func gf) first.toArray cap.toArray) (eg : ∀ args w, (callFunc gf args).run P w = .ok (.enter gf args) w)
    {α : Type} {args : α → List Value} {xs : List α} {ro : List HI} (hit : IterOK P gf first cap ro args xs) {Z : Type} (own : Nat → Z → List HI) (Inv : Nat → Z → Prop) (z0 : Z) (hz0 : Inv 0 z0) (hσp : σ.Perm (ro ++ own 0 z0)) (hlen : ∀ x, (args x).length = ps.length) (hN : ∀ p ∈ ps, p < N)
    {Y : Type} (FinJ : Code → Nat → Y → Prop) (ownJ : Y → List HI)
    (hround : ∀ (lk : LK) (l D k : Nat) (x : α) (z : Z), xs[k]? = some x → Inv k z → ∀ w1 M1,
      WP P (some l) N asg (thenE (begun P l N body (RoundQ P l (RoundR w1 M1 ro own Inv FinJ ownJ l D lk w0 M k))) noE) (parEnv ps (args x) ρ) [] (St w1 M1 (roundI ro (own k z) l D lk .ready none w0 M)))
    (hend : ∀ D z, Inv xs.length z → ∀ w, St w0 M (ro ++ own xs.length z ++ [dfr D]) w → Q .normal ρ (mark D :: ds) w)
    (hjump : ∀ D c k y, FinJ c k y → k < xs.length → WP P none N c Q ρ (mark D :: ds) (St w0 M (ro ++ ownJ y ++ [dfr D]))) :
    WP P none N (.rangeFunc g ps.toArray asg body) Q ρ ds (St w0 M σ) := by
  refine WP.rangeFuncJ hg eg (X := Z) (Fin := Inv xs.length) (τ := fun z => ro ++ own xs.length z) (Y := { p : Nat × Y // p.1 < xs.length }) (FinJ := fun c p => FinJ c p.1.1 p.1.2) (τJ := fun p => ro ++ ownJ p.1.2) ?_ (fun D z hz w hw => hend D z hz w hw) (fun D c p hf => hjump D c p.1.1 p.1.2 hf p.2)
  intro lk l D hps has hbd hfr w hw
  let H : Nat → Z → HI := fun k z => bundle ([lp l lk .ready none, dfr D] ++ own k z ++ [oldI w0 M])
  let J : Nat → { p : Nat × Code × Y // FinJ p.2.1 p.1 p.2.2 ∧ p.1 < xs.length } → HI := fun _ q => bundle ([lp l lk .done (some q.1.2.1), dfr D] ++ ownJ q.1.2.2 ++ [oldI w0 M])
  have hw2 : St w0 M (ro ++ ([lp l lk .ready none, dfr D] ++ own 0 z0)) w := by
    refine hw.perm ?_
    refine (List.Perm.append_right _ hσp).trans ?_
    rw [List.append_assoc]
    exact List.Perm.append_left _ List.perm_append_comm
  obtain ⟨h1, h2⟩ := hw2.withOld
  have hfoot : foots (ro ++ [H 0 z0]) = foots ((ro ++ ([lp l lk .ready none, dfr D] ++ own 0 z0)) ++ [oldI w0 M]) := by
    funext b
    apply propext
    rw [foots_append, List.append_assoc, foots_append]
    exact or_congr Iff.rfl (by rw [show foots [H 0 z0] b ↔ foots ([lp l lk .ready none, dfr D] ++ own 0 z0 ++ [oldI w0 M]) b from by rw [foots_bundle, List.append_nil]])
  have hst : St w (foots (ro ++ [H 0 z0])) (ro ++ [H 0 z0]) w := by
    rw [hfoot]
    have h3 := St.start h1 h2
    have h4 : St w (foots ((ro ++ ([lp l lk .ready none, dfr D] ++ own 0 z0)) ++ [oldI w0 M])) (([lp l lk .ready none, dfr D] ++ own 0 z0 ++ [oldI w0 M]) ++ ro) w := by
      refine h3.perm ?_
      rw [List.append_assoc]
      exact List.perm_append_comm
    exact h4.pack.perm (List.perm_append_comm (l₁ := [H 0 z0]))
  -- the round, by contract
  have hy : ∀ k x z, xs[k]? = some x → Inv k z → YCt P l (args x).toArray (ro ++ [H k z]) (X := Z ⊕ { p : Nat × Code × Y // FinJ p.2.1 p.1 p.2.2 ∧ p.1 < xs.length }) (fun o => .bool o.isLeft) (fun o => ∀ z', o = .inl z' → Inv (k + 1) z') (fun o => ro ++ [stepI H J k o]) := by
    intro k x z hx hz v hv1 hv2
    have h3 := St.start hv1 hv2
    have h4 : St v (foots (ro ++ [H k z])) (roundI ro (own k z) l D lk .ready none w0 M) v := by
      have h5 := (h3.perm (List.perm_append_comm (l₁ := ro) (l₂ := [H k z]))).unpack
      exact h5.perm ((List.perm_append_comm).trans (round_perm ro (own k z) l D lk .ready none w0 M).symm)
    have h5 := Yld.intro (i := 0) (R := RoundR v (foots (ro ++ [H k z])) ro own Inv FinJ ownJ l D lk w0 M k) (args := args x) hps has hbd hfr (by rfl) (hlen x) hN (hround lk l D k x z hx hz v (foots (ro ++ [H k z]))) v h4
    refine yield_mono h5 ?_
    have back : ∀ (o : List HI) (st : LoopState) (pe : Option Code) (v' : World), St v (foots (ro ++ [H k z])) (roundI ro o l D lk st pe w0 M) v' → St v (foots (ro ++ [H k z])) (ro ++ [bundle ([lp l lk st pe, dfr D] ++ o ++ [oldI w0 M])]) v' := fun o st pe v' h => by
      have h6 := h.perm ((round_perm ro o l D lk st pe w0 M).trans List.perm_append_comm)
      exact h6.pack.perm (List.perm_append_comm (l₁ := [bundle ([lp l lk st pe, dfr D] ++ o ++ [oldI w0 M])]))
    rintro e v' (⟨z', rfl, hz', h6⟩ | ⟨c, y, rfl, hf, h6⟩)
    · exact ⟨.inl z', rfl, (fun _ e => by cases e; exact hz'), back _ _ _ _ h6⟩
    · exact ⟨.inr ⟨(k, c, y), hf, (List.getElem?_eq_some_iff.1 hx).1⟩, rfl, (fun _ e => by cases e), back _ _ _ _ h6⟩
  have key := hit l Z _ H J Inv hy z0 hz0 w hst.all hst.disj trivial
  have fin : ∀ (o : List HI) (st : LoopState) (pe : Option Code) (w' : World), St w (foots (ro ++ [H 0 z0])) (ro ++ [bundle ([lp l lk st pe, dfr D] ++ o ++ [oldI w0 M])]) w' → St w0 M (ro ++ o ++ [lp l lk st pe, dfr D]) w' := fun o st pe w' h => by
    rw [hfoot] at h
    have h6 := (h.perm (List.perm_append_comm (l₁ := ro))).unpack
    have h7 : St w (foots ((ro ++ ([lp l lk .ready none, dfr D] ++ own 0 z0)) ++ [oldI w0 M])) ((ro ++ o ++ [lp l lk st pe, dfr D]) ++ [oldI w0 M]) w' := by
      refine h6.perm ?_
      have e1 : ([lp l lk st pe, dfr D] ++ o ++ [oldI w0 M] ++ ro).Perm (ro ++ ([lp l lk st pe, dfr D] ++ o ++ [oldI w0 M])) := List.perm_append_comm
      refine e1.trans ?_
      rw [List.append_assoc ro, List.append_assoc ro]
      refine List.Perm.append_left _ ?_
      rw [List.append_assoc, List.append_assoc]
      refine (List.Perm.append_left _ (List.perm_append_comm (l₁ := o))).trans ?_
      rw [← List.append_assoc]
      refine (List.perm_append_comm (l₁ := [lp l lk st pe, dfr D] ++ [oldI w0 M])).trans ?_
      exact List.Perm.refl _
    exact hw2.rejoin h7
  refine key.mono ?_
  rintro e w' ⟨o, rfl, ho, h⟩
  refine ⟨⟨_, rfl⟩, ?_⟩
  cases o with
  | inl z => exact .inl ⟨z, ho.1 z rfl, fin _ _ _ _ h⟩
  | inr p => exact .inr ⟨_, ⟨(p.2.1.1, p.2.1.2.2), p.2.2.2⟩, p.2.2.1, fin _ _ _ _ h⟩
/-- The end of a piece, as it stands. -/
theorem fin_id {p : World → Prop} (h : ∀ w, S w → p w) : ∀ w, S w → p w := h

/-! ### Marks -/
def marksI (Ds : List Nat) : HI := bundle (Ds.map dfr)
theorem St.mark {τ : List HI} {w : World} {D : Nat} {Ds : List Nat} (h : St w0 M (marksI Ds :: dfr D :: τ) w) : St w0 M (marksI (D :: Ds) :: τ) w := by
  have h1 := h.unpack
  have h2 : St w0 M ((dfr D :: Ds.map dfr) ++ τ) w := h1.perm (by
    exact (List.perm_middle (l₁ := Ds.map dfr)).trans (List.Perm.refl _))
  exact h2.pack
theorem St.noMarks {w : World} (h : St w0 M σ w) : St w0 M (marksI [] :: σ) w := St.pack (τ := []) h
theorem RetQ.marksE {fn : Func} {R : Value → World → Prop} (Ds : List Nat) {τ : List HI} {w : World} {e : Exit} (he : e = .ret ∨ e = .normal) (h : St w0 M (τ ++ Ds.map dfr) w) (hr : ∀ w, St w0 M τ w → RetQ P fn R .ret ρ [] w) : RetQ P fn R e ρ (Ds.map mark) w := by
  have h1 := RetQ.marks Ds h hr
  exact ⟨he, h1.out⟩
theorem St.unmark {τ : List HI} {w : World} {Ds : List Nat} (h : St w0 M (marksI Ds :: τ) w) : St w0 M (τ ++ Ds.map dfr) w := h.unpack.perm List.perm_append_comm
open Classical in
/-- A loop whose rounds add deferred marks. -/
theorem WP.loopD {X : Type} {c : Code} (keep : List Nat) (E : X → List (Nat × Value)) (Sx : X → World → Prop) (dd : X → List Deferred) (μ : X → Nat) (x0 : X) (h0 : Has (E x0) ρ) (hd0 : dd x0 = ds) (hS0 : ∀ w, S w → Sx x0 w)
    (hr : ∀ x ρ0, WP P r N c (thenE (fun ρ' ds' w' => ∃ x', μ x' < μ x ∧ ds' = dd x' ∧ Has (E x' ++ keep.map fun t => (t, ρ t)) ρ' ∧ Sx x' w') Q) (setAll (E x ++ keep.map fun t => (t, ρ t)) ρ0) (dd x) (Sx x)) : WP P r N (.loop c) Q ρ ds S := by
  have hk : ∀ l : List Nat, Has (l.map fun t => (t, ρ t)) ρ := fun l => by
    induction l with
    | nil => trivial
    | cons t l ih => exact ⟨rfl, ih⟩
  intro w hw a ha
  let V : Act → World → Nat → Prop := fun a' w' k => ∃ x ρ', μ x = k ∧ Fr N ρ' (dd x) a' ∧ Has (E x ++ keep.map fun t => (t, ρ t)) ρ' ∧ Sx x w'
  refine wpIn_loop (fun a' w' => ∃ k, V a' w' k) (fun a' w' => if h : ∃ k, V a' w' k then (least_of h).choose else 0) ⟨_, x0, ρ, rfl, by rw [hd0]; exact ha, has_app h0 (hk keep), hS0 w hw⟩ ?_
  intro a' w' hI
  obtain ⟨⟨x, ρ', hk, hf, hE, hx⟩, _⟩ := (least_of hI).choose_spec
  have h1 := hr x ρ' w' hx a' (by rw [setAll_of_has hE]; exact hf)
  refine Go.wpIn_mono h1 ?_
  intro e a2 w2 hq
  cases e <;> first
    | exact hq.elim
    | exact hq
    | skip
  obtain ⟨ρ2, ds2, hf2, x2, hlt, rfl, hE2, hx2⟩ := hq
  have hI2 : ∃ k, V a2 w2 k := ⟨_, x2, ρ2, rfl, hf2, hE2, hx2⟩
  refine ⟨hI2, ?_⟩
  rw [dif_pos hI, dif_pos hI2]
  have := (least_of hI2).choose_spec.2 (μ x2) ⟨x2, ρ2, rfl, hf2, hE2, hx2⟩
  omega
end
end Go.Proofs.Ytmjdmlgdffoimab
