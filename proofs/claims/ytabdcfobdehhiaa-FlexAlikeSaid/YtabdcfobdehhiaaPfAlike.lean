/- The statement FlexAlike is true of every input: the Go function valancelaw08.FlexAlike answers true, and each argument reads behind the call as it did. No condition. -/
import Derived.Test.YtabdcfobdehhiaaFlexLawG
import Derived.Test.YtabdcfobdehhiaaFlexOpen
namespace Go.Proofs.Ytabdcfobdehhiaa
open Go.ChangeShapes Go.WideShapes Go.ChangeAt Go.RowKit Go.Deep

theorem open_fields {H : Type} {enc : TypeId × Value → H} {P : Program} {W : World} {base b0 : Nat} {sp : Nat → Bool} {held : Bool} {t : TypeId} {fs : Array Field} {v : Value} {d : DataW H} {p : List MemPlace} {r : Reach} (ht : P.underlying t = some (.struct fs))
    (hone : oneCellFields P fs = true) (hC : P.cellsOf t = fs.size) (hv : Value.okWide P W r b0 t v) (h : DataW.Trod enc P W base sp held t v d p) :
    ∃ cs : List Value, v = .agg cs.toArray ∧ cs.length = fs.size ∧ ∀ (j : Nat) (f : Field), fs[j]? = some f → ∃ (u : Value) (y : DataW H × List MemPlace) (n : Nat), cs[j]? = some u ∧ DataW.trod enc P W base sp held n f.type [u] = some y := by
  obtain ⟨ar, rfl, hsz⟩ := okWide_struct ht hv
  obtain ⟨cs⟩ := ar
  have hcl : cs.length = fs.size := hsz.trans hC
  obtain ⟨fuel, hf⟩ := h
  obtain ⟨ys, n', hn', hy, hlen, hyl, hg⟩ := DataW.trod_struct ht hf
  refine ⟨cs, rfl, hcl, fun j f hj => ?_⟩
  obtain ⟨ho, hk⟩ := hone_of hone j f hj
  have hjl : j < fs.size := (Array.getElem?_eq_some_iff.1 hj).1
  have hv : cs[j]? = some (cs[j]'(by omega)) := List.getElem?_eq_getElem (by omega)
  have h1 := hg j f hj
  rw [ho, hk] at h1
  have hone' : (cs.drop j).take 1 = [cs[j]'(by omega)] := by
    rw [List.drop_eq_getElem_cons (by omega)]
    rfl
  have hcs : ((Value.agg cs.toArray).cells.toList.drop j).take 1 = [cs[j]'(by omega)] := hone'
  rw [hcs] at h1
  have hys : ys[j]? = some (ys[j]'(by omega)) := List.getElem?_eq_getElem (by omega)
  exact ⟨_, _, n', hv, h1.trans hys⟩
set_option maxRecDepth 100000 in
theorem open_fitem {H : Type} {enc : TypeId × Value → H} {W : World} {base b0 : Nat} {sp : Nat → Bool} {held : Bool} {v : Value} {d : DataW H} {p : List MemPlace} {r : Reach} (hv : Value.okWide Try.prog W r b0 28 v) (h : DataW.Trod enc Try.prog W base sp held 28 v d p) :
    ∃ z0 z1 z2 z3 z4 : Int, v = .agg (FItem.enc ⟨z0, z1, z2, z3, z4⟩).toArray := by
  obtain ⟨cs, rfl, hl, hf⟩ := open_fields Try.underlying28 (by kernel_rfl) (by kernel_rfl) hv h
  obtain ⟨u0, y0, n0, c0, t0⟩ := hf 0 _ rfl
  obtain ⟨u1, y1, n1, c1, t1⟩ := hf 1 _ rfl
  obtain ⟨u2, y2, n2, c2, t2⟩ := hf 2 _ rfl
  obtain ⟨u3, y3, n3, c3, t3⟩ := hf 3 _ rfl
  obtain ⟨u4, y4, n4, c4, t4⟩ := hf 4 _ rfl
  obtain ⟨z0, e0, _⟩ := DataW.trod_int Try.underlying3 t0
  obtain ⟨z1, e1, _⟩ := DataW.trod_int Try.underlying3 t1
  obtain ⟨z2, e2, _⟩ := DataW.trod_int Try.underlying3 t2
  obtain ⟨z3, e3, _⟩ := DataW.trod_int Try.underlying3 t3
  obtain ⟨z4, e4, _⟩ := DataW.trod_int Try.underlying3 t4
  cases e0; cases e1; cases e2; cases e3; cases e4
  refine ⟨z0, z1, z2, z3, z4, ?_⟩
  have hl5 : cs.length = 5 := hl
  have : cs = FItem.enc ⟨z0, z1, z2, z3, z4⟩ := by
    apply List.ext_getElem?
    intro j
    match j with
    | 0 => exact c0
    | 1 => exact c1
    | 2 => exact c2
    | 3 => exact c3
    | 4 => exact c4
    | j + 5 => rw [List.getElem?_eq_none (by omega)]; rfl
  rw [this]

set_option maxRecDepth 100000 in
theorem flexAlike_lifted (os : Os) (started : os.Started) (H : Type) (enc : TypeId × Value → H) :
    ReturnsInHanded {} Try.checked os 7 .any (Rows.flexAlikeSpec.pre6 enc Try.prog Try.f7 Rows.flexAlikeRow.domain false) (Rows.flexAlikeSpec.post enc Try.prog Try.f7 false true false false) := by
  refine returnsInHanded_of_change (C := Try.checked) own started (by kernel_rfl) Try.func7
    (ChangeSpec.witness6 (enc := enc) (C := Try.checked) false ⟨#[], #[.agg #[.int .i64 0, .int .i64 0, .int .i64 0, .int .i64 0, .int .i64 0], .int .i64 0, .int .i64 0], []⟩ 8 (by kernel_rfl) (by kernel_rfl) (by kernel_rfl) (by kernel_rfl)) ?_
  intro W base args ds gs before hval0 hW _ _
  have hval : ∀ (j : Nat) t v, Try.f7.params[j]? = some t → args[j]? = some v → Value.okWide Try.prog W .any base t v := hval0
  have hW' := hW
  obtain ⟨p, q, hA0, hV, rfl, hfz, hnd⟩ := hW
  have hA : DataW.TrodAll enc Try.prog W 0 (fun _ => true) true Try.f7.params.toList args.toList ds p := hA0
  rw [Try.params7] at hA hval
  obtain ⟨v0, v1, v2, d0, d1, d2, p0, p1, p2, rfl, rfl, rfl, h0, h1, h2⟩ := trodAll_three hA
  obtain ⟨a0, a1, a2, a3, a4, rfl⟩ := open_fitem (hval 0 28 v0 rfl rfl) h0
  obtain ⟨n, rfl, -, -, w1⟩ := open_int Try.underlying3 (hval 1 3 v1 rfl rfl) h1
  obtain ⟨room, rfl, -, -, w2⟩ := open_int Try.underlying3 (hval 2 3 v2 rfl rfl) h2
  refine (Ct.law (lawAlike_ct ⟨a0, a1, a2, a3, a4⟩ n room) trivial).mono fun e W' ⟨he, hb⟩ => ?_
  subst he
  exact ⟨_, rfl, law_post laidOut hW' rfl (by kernel_rfl) rfl Try.underlying4 (fun _ => rfl) hb⟩

theorem flexAlike_said : Rows.FlexAlikeSaid :=
  OpenClaim.holds_of_wide 7 Try.f7 rfl rfl rfl rfl rfl rfl rfl ⟨rfl, rfl, rfl, rfl, rfl⟩ rfl rfl rfl rfl rfl (by kernel_rfl) Try.func7 (by kernel_rfl)
    (of_decide_eq_true (by kernel_rfl)) (by unfold Func.isWrapper; rw [if_neg (by decide +kernel)]; exact ⟨rfl, rfl⟩)
    (fun os started H enc _ => flexAlike_lifted os started H enc)
end Go.Proofs.Ytabdcfobdehhiaa
