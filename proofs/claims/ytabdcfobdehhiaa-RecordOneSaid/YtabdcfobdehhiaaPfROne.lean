/- The statement RecordOne is true of every input: the Go function valancelaw13.RecordOne answers true, and each argument reads behind the call as it did. No condition. -/
import Derived.Test.YtabdcfobdehhiaaRecLaws
import Derived.Test.YtabdcfobdehhiaaOpen
namespace Go.Proofs.Ytabdcfobdehhiaa
open Go.ChangeShapes Go.WideShapes Go.ChangeAt Go.RowKit Go.Deep

theorem leaves2 {cs : List Value} (h : leavesB [true, true] cs = true) : ∃ a b : Int, cs = [.int .i64 a, .int .i64 b] := by
  match cs, h with
  | v :: vs, h =>
    simp only [leavesB, Bool.and_eq_true] at h
    obtain ⟨b, hb⟩ := leavesI (cs := vs) (by simpa [leavesB] using h.2)
    obtain ⟨a, ha⟩ := leavesI (cs := [v]) (by simpa [leavesB] using h.1)
    cases ha
    exact ⟨a, b, by rw [hb]⟩
  | [], h => simp [leavesB] at h
set_option maxRecDepth 100000 in
theorem recordOne_lifted (os : Os) (started : os.Started) (H : Type) (enc : TypeId × Value → H) :
    ReturnsInHanded {} Try.checked os 13 .any (Rows.recordOneSpec.pre6 enc Try.prog Try.f13 Rows.recordOneRow.domain false) (Rows.recordOneSpec.post enc Try.prog Try.f13 false true false false) := by
  refine returnsInHanded_of_change (C := Try.checked) own started (by kernel_rfl) Try.func13
    (ChangeSpec.witness6 (enc := enc) (C := Try.checked) false ⟨#[], #[.agg ([.int .i64 0, .int .i64 0, .int .i64 0, .int .i64 0, .int .i64 0, .int .i64 0, .int .i64 0, .int .i64 0, .int .i64 0, .int .i64 0, .int .i64 0, .int .i64 0, .int .i64 0, .int .i64 0, .int .i64 0, .int .i64 0, .int .i64 0, .int .i64 0, .int .i64 0, .int .i64 0, .int .i64 0, .int .i64 0, .int .i64 0, .int .i64 0, .int .i64 0, .int .i64 0, .int .i64 0, .int .i64 0, .int .i64 0, .int .i64 0, .int .i64 0, .int .i64 0, .int .i64 0, .int .i64 0, .int .i64 0, .int .i64 0, .int .i64 0, .int .i64 0, .int .i64 0, .int .i64 0, .int .i64 0, .int .i64 0, .int .i64 0, .int .i64 0, .int .i64 0, .bool false, .int .i64 0, .bool false, .int .i64 0, .int .i64 0, .int .i64 0, .bool false, .bool false, .int .i64 0, .int .i64 0]).toArray, .int .i64 0, .int .i64 0, .agg #[.int .i64 0, .int .i64 0]], []⟩ 8 (by kernel_rfl) (by kernel_rfl) (by kernel_rfl) (by kernel_rfl)) ?_
  intro W base args ds gs before hval0 hW _ _
  have hval : ∀ (j : Nat) t v, Try.f13.params[j]? = some t → args[j]? = some v → Value.okWide Try.prog W .any base t v := hval0
  have hW' := hW
  obtain ⟨p, q, hA0, hV, rfl, hfz, hnd⟩ := hW
  have hA : DataW.TrodAll enc Try.prog W 0 (fun _ => true) true Try.f13.params.toList args.toList ds p := hA0
  rw [Try.params13] at hA hval
  obtain ⟨v0, v1, v2, v3, d0, d1, d2, d3, p0, p1, p2, p3, rfl, rfl, rfl, h0, h1, h2, h3⟩ := trodAll_four hA
  obtain ⟨cs, rfl, hl_cs, -⟩ := open_flat leaf57 (by kernel_rfl) Try.isAgg57 (hval 0 57 v0 rfl rfl) h0
  have hs := SOk.of_leaves hl_cs
  obtain ⟨gap, rfl, -, -, -⟩ := open_int Try.underlying3 (hval 1 3 v1 rfl rfl) h1
  obtain ⟨z, rfl, -, -, -⟩ := open_int Try.underlying3 (hval 2 3 v2 rfl rfl) h2
  obtain ⟨lc, rfl, hlen, -⟩ := open_flat (show leafK Try.prog 10 48 = some [true, true] by kernel_rfl) (by kernel_rfl) Try.isAgg48 (hval 3 48 v3 rfl rfl) h3
  obtain ⟨k0, n0, rfl⟩ := leaves2 hlen
  refine (Ct.lawF (lawOne_ct cs hs gap z k0 n0) trivial).mono fun e W' ⟨he, hb⟩ => ?_
  subst he
  exact ⟨_, rfl, law_post laidOut hW' rfl (by kernel_rfl) rfl Try.underlying4 (fun _ => rfl) hb⟩

theorem recordOne_said : Rows.RecordOneSaid :=
  OpenClaim.holds_of_wide 13 Try.f13 rfl rfl rfl rfl rfl rfl rfl ⟨rfl, rfl, rfl, rfl, rfl⟩ rfl rfl rfl rfl rfl (by kernel_rfl) Try.func13 (by kernel_rfl)
    (of_decide_eq_true (by kernel_rfl)) (by unfold Func.isWrapper; rw [if_neg (by decide +kernel)]; exact ⟨rfl, rfl⟩)
    (fun os started H enc _ => recordOne_lifted os started H enc)
end Go.Proofs.Ytabdcfobdehhiaa
