/- The statement PlaceSticks is true of every input: the Go function valancelaw17.PlaceSticks answers true, and each argument reads behind the call as it did. No condition. -/
import Derived.Test.YtbedndijejpcaaaGreatZPSticksL
set_option linter.unusedVariables false
set_option linter.unusedSimpArgs false
set_option linter.unusedSectionVars false
set_option maxRecDepth 100000
set_option maxHeartbeats 8000000
namespace Go.Proofs.YtbedndijejpcaaaGreat
open Go.ChangeShapes Go.WideShapes Go.ChangeAt Go.RowKit Go.Deep
theorem placeSticks_lifted (os:Os) (started:os.Started) (H:Type) (enc:TypeId×Value→H):
    ReturnsInHanded {} Tryz.checked os 8 .any (Rows.placeSticksSpec.pre6 enc Tryz.prog Tryz.f8 Rows.placeSticksRow.domain false) (Rows.placeSticksSpec.post enc Tryz.prog Tryz.f8 false true false false):=by
  refine returnsInHanded_of_change (C:=Tryz.checked) own started (by kernel_rfl) Tryz.func8
    (ChangeSpec.witness6 (enc:=enc) (C:=Tryz.checked) false ⟨#[],#[.slice none 0 0,.slice none 0 0,.int .i64 0,.int .i64 0],[]⟩ 8 (by kernel_rfl) (by kernel_rfl) (by kernel_rfl) (by kernel_rfl)) ?_
  intro W base args ds gs before hval0 hW _ _;have hval:∀(j:Nat) t v,Tryz.f8.params[j]?=some t→args[j]?=some v→Value.okWide Tryz.prog W .any base t v:=hval0;have hW':=hW;obtain⟨p,q,hA0,hV,rfl,hfz,hnd⟩:=hW;have hA:DataW.TrodAll enc Tryz.prog W 0 (fun _=>true) true Tryz.f8.params.toList args.toList ds p:=hA0;rw[Tryz.params8] at hA hval;obtain⟨v0,v1,v2,v3,d0,d1,d2,d3,p0,p1,p2,p3,rfl,rfl,rfl,h0,h1,h2,h3⟩:=trodAll_four hA;obtain⟨A,l,c,rfl,hrd⟩:=open_acts (hval 0 22 v0 rfl rfl) h0;obtain⟨B,ol,c2,rfl,hrb⟩:=open_offs (hval 1 76 v1 rfl rfl) h1;obtain⟨wd,rfl,-,-,-⟩:=open_int Tryz.underlying3 (hval 2 3 v2 rfl rfl) h2;obtain⟨ht,rfl,-,-,-⟩:=open_int Tryz.underlying3 (hval 3 3 v3 rfl rfl) h3;refine(Ct.lawF (lawSticks_ct A B c c2 l ol wd ht) ⟨hrd,hrb⟩).mono fun e W' ⟨he,hb⟩=>?_;subst he;exact⟨_,rfl,law_post laidOut hW' rfl (by kernel_rfl) rfl Tryz.underlying4 (fun _=>rfl) hb⟩
theorem placeSticks_ja:mapsRowed Tryz.pinned.checked.prog=true:=by kernel_rfl
theorem placeSticks_jb:(Rows.placeSticksRow.inPlace==Tryz.pinned.checked.prog.inPlace 8)=true:=by kernel_rfl
theorem placeSticks_jc:(Rows.placeSticksRow.unfollowed==Tryz.pinned.checked.prog.unfollowed 8)=true:=by kernel_rfl
theorem placeSticks_jd:(Rows.placeSticksRow.recurses==Tryz.pinned.checked.prog.recurses 8)=true:=by kernel_rfl
theorem placeSticks_je:(Rows.placeSticksRow.named==Tryz.pinned.checked.prog.varsNamed 8)=true:=by kernel_rfl
theorem placeSticks_jl:laidOutB Tryz.pinned.checked.prog=true:=laidOut
theorem placeSticks_said:Rows.PlaceSticksSaid:=
  OpenClaim.holds_of_wide 8 Tryz.f8 rfl rfl rfl rfl rfl rfl rfl ⟨rfl,rfl,rfl,rfl,rfl⟩ rfl rfl rfl rfl rfl (by kernel_rfl) Tryz.func8 (by unfold joinedFacts;rw[placeSticks_jl,placeSticks_ja,placeSticks_jb,placeSticks_jc,placeSticks_jd,placeSticks_je];kernel_rfl)
    (of_decide_eq_true (by kernel_rfl)) (by unfold Func.isWrapper;rw[if_neg (by decide+kernel)];exact⟨rfl,rfl⟩)
    (fun os started H enc _=>placeSticks_lifted os started H enc)
end Go.Proofs.YtbedndijejpcaaaGreat
