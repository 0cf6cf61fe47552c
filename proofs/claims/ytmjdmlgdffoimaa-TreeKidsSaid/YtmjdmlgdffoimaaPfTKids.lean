/- The statement TreeKids is true of every input: the Go function valancelaw14.TreeKids answers true, and each argument reads behind the call as it did. No condition. -/
import Derived.Test.YtmjdmlgdffoimaaTreeActs
import Derived.Test.YtmjdmlgdffoimaaTreeKids
import Derived.Test.YtmjdmlgdffoimaaOpen
namespace Go.Proofs.Ytmjdmlgdffoimaa
open Go.ChangeShapes Go.WideShapes Go.ChangeAt Go.RowKit Go.Deep

set_option maxRecDepth 100000 in
theorem treeKids_lifted (os : Os) (started : os.Started) (H : Type) (enc : TypeId × Value → H) :
    ReturnsInHanded {} Try.checked os 7 .any (Rows.treeKidsSpec.pre6 enc Try.prog Try.f7 Rows.treeKidsRow.domain false) (Rows.treeKidsSpec.post enc Try.prog Try.f7 false true false false) := by
  refine returnsInHanded_of_change (C := Try.checked) own started (by kernel_rfl) Try.func7
    (ChangeSpec.witness6 (enc := enc) (C := Try.checked) false ⟨#[], #[.slice none 0 0, .int .i64 0, .int .i64 0], []⟩ 8 (by kernel_rfl) (by kernel_rfl) (by kernel_rfl) (by kernel_rfl)) ?_
  intro W base args ds gs before hval0 hW _ _
  have hval : ∀ (j : Nat) t v, Try.f7.params[j]? = some t → args[j]? = some v → Value.okWide Try.prog W .any base t v := hval0
  have hW' := hW
  obtain ⟨p, q, hA0, hV, rfl, hfz, hnd⟩ := hW
  have hA : DataW.TrodAll enc Try.prog W 0 (fun _ => true) true Try.f7.params.toList args.toList ds p := hA0
  rw [Try.params7] at hA hval
  obtain ⟨v0, v1, v2, d0, d1, d2, p0, p1, p2, rfl, rfl, rfl, h0, h1, h2⟩ := trodAll_three hA
  obtain ⟨A, l, c, rfl, hrd⟩ := open_acts (hval 0 22 v0 rfl rfl) h0
  obtain ⟨up, rfl, -, -, -⟩ := open_int Try.underlying3 (hval 1 3 v1 rfl rfl) h1
  obtain ⟨at_, rfl, -, -, -⟩ := open_int Try.underlying3 (hval 2 3 v2 rfl rfl) h2
  refine (Ct.lawF (lawKids_ct A c l up at_) hrd).mono fun e W' ⟨he, hb⟩ => ?_
  subst he
  exact ⟨_, rfl, law_post laidOut hW' rfl (by kernel_rfl) rfl Try.underlying4 (fun _ => rfl) hb⟩

theorem treeKids_said : Rows.TreeKidsSaid :=
  OpenClaim.holds_of_wide 7 Try.f7 rfl rfl rfl rfl rfl rfl rfl ⟨rfl, rfl, rfl, rfl, rfl⟩ rfl rfl rfl rfl rfl (by kernel_rfl) Try.func7 (by kernel_rfl)
    (of_decide_eq_true (by kernel_rfl)) (by unfold Func.isWrapper; rw [if_neg (by decide +kernel)]; exact ⟨rfl, rfl⟩)
    (fun os started H enc _ => treeKids_lifted os started H enc)
end Go.Proofs.Ytmjdmlgdffoimaa
