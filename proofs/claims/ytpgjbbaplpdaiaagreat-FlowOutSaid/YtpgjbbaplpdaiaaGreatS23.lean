/- FWorks -/
import Derived.Test.YtpgjbbaplpdaiaaGreatS22
set_option linter.unusedVariables false
set_option linter.unusedSimpArgs false
set_option linter.unusedSectionVars false
set_option maxRecDepth 100000
set_option maxHeartbeats 8000000
namespace Go.Proofs.YtpgjbbaplpdaiaaGreat
open Go.RowKit
def sW:List Value:=[.int .i64 0,.int .i64 0,.int .i64 0,.int .i64 0,.int .i64 0,.int .i64 0,.int .i64 0,.int .i64 0,.int .i64 0,.int .i64 0,.int .i64 0,.int .i64 0,.int .i64 0,.int .i64 0,.int .i64 0,.int .i64 0,.int .i64 0,.int .i64 0,.int .i64 0,.int .i64 0,.int .i64 0,.int .i64 0,.int .i64 0,.int .i64 0,.int .i64 0,.int .i64 0,.int .i64 0,.int .i64 0,.int .i64 0,.int .i64 0,.int .i64 0,.int .i64 1,.int .i64 2,.int .i64 3,.int .i64 4,.int .i64 0,.int .i64 0,.int .i64 0,.int .i64 0,.int .i64 0,.int .i64 0,.int .i64 0,.int .i64 0,.int .i64 0,.int .i64 0,.bool false,.int .i64 0,.bool false,.int .i64 0,.int .i64 0,.int .i64 0,.bool false,.bool false,.int .i64 30,.int .i64 20]
theorem sW_ok:SOk sW:=SOk.of_leaves rfl
abbrev W0:Forest (List Value):=newF zeroS
abbrev W1:Forest (List Value):=(addR zeroS W0 0 0).1
abbrev W2:Forest (List Value):=(setR validB W1 1 sW).1
theorem we1:(addR zeroS W0 0 0).2=(1,0):=by kernel_rfl
theorem we2:(setR validB W1 1 sW).2=0:=by kernel_rfl
theorem we3:(kidsP W2 0 false).length=1:=by kernel_rfl
theorem we4:shownF W2 1=true:=by kernel_rfl
theorem we5:stF W2 1=sW:=by kernel_rfl
theorem we6:lenF W2=2:=by kernel_rfl
theorem we7:allP W2 100 50=[⟨0,0,0,100,24,[⟨1,0,0,100,24,[]⟩]⟩,⟨1,0,0,100,24,[]⟩]:=by kernel_rfl
theorem ww0:∃d,WF W0 d:=⟨_,WF.new zeroS⟩
theorem ww1:∃d,WF W1 d:=by obtain⟨d,h⟩:=ww0;exact h.addR zeroS 0 0
theorem ww2:∃d,WF W2 d:=by obtain⟨d,h⟩:=ww1;exact h.setR validB 1 sW
theorem wgs:AllGS W2:=(AllGS.new.addR 0 0).setR 1 sW_ok
section
variable (tp mb:Nat) (es:List PE) (hk:LOk es)
include hk
theorem wkA (h:FoR es=W0):Ct Tryz.prog 13 #[.pointer (some ⟨tp,0,none⟩),.int .i64 0,.int .i64 0] [treeI tp mb es] (fun _=>True) (X:=List PE) (fun _=>.tuple #[.int .i64 1,.int .i64 0]) (fun es'=>FoR es'=W1∧LOk es') (fun es'=>[treeI tp mb es']):=by
  obtain⟨d,hd⟩:=ww0;have h1:=add_ct tp mb es hk (h▸hd) 0 0;rw[h,we1] at h1;exact h1
theorem wkB (h:FoR es=W1):Ct Tryz.prog 14 #[.pointer (some ⟨tp,0,none⟩),.int .i64 1,.agg sW.toArray] [treeI tp mb es] (fun _=>True) (X:=List PE) (fun _=>.int .i64 0) (fun es'=>FoR es'=W2∧LOk es') (fun es'=>[treeI tp mb es']):=by
  have h1:=set_ct tp mb es hk 1 sW sW_ok;rw[h,we2] at h1;exact h1
theorem wkC (h:FoR es=W2):Ct Tryz.prog 15 #[.pointer (some ⟨tp,0,none⟩),.int .i64 100,.int .i64 50] [treeI tp mb es] (fun _=>True) (X:=Nat×List Frm) (fun p=>.map (some p.1)) (fun p=>MapOf (putAll p.2) [⟨0,0,0,100,24,[⟨1,0,0,100,24,[]⟩]⟩,⟨1,0,0,100,24,[]⟩]) (fun p=>[treeI tp mb es,mapI p.1 (putAll p.2)]):=by
  obtain⟨d,hd⟩:=ww2;have h1:=flowLay_ct tp mb es hk (h▸hd) (by rw[h];exact wgs.st) (by rw[h];exact fun x=>Nat.le_trans (kids_few (n:=2) hd (by rw[we6];decide) x) (by decide)) 100 50 (by decide) (by decide);refine h1.to (fun p=>p) (fun _=>rfl) (fun p hp=>?_) (fun _=>rfl);have h2:=mapOf hp (by rw[h];exact all_nodup hd wgs.st 100 50);rw[h,we7] at h2;exact h2
theorem wkD (h:FoR es=W2):Ct Tryz.prog 21 #[.pointer (some ⟨tp,0,none⟩),.int .i64 0] [treeI tp mb es] (fun _=>True) (X:=Option Addr×Nat) (fun p=>.slice p.1 1 p.2) (fun _=>True) (fun p=>[treeI tp mb es,kidsI p.1 1 p.2 (kidsP W2 0 false)]):=by
  obtain⟨d,hd⟩:=ww2;have h1:=fflows_ct tp mb es hk (h▸hd) 0;rw[h,we3] at h1;exact h1
theorem wkE (h:FoR es=W2):Ct Tryz.prog 29 #[.pointer (some ⟨tp,0,none⟩),.int .i64 1] [treeI tp mb es] (fun _=>True) (X:=Unit) (fun _=>.bool true) (fun _=>True) (fun _=>[treeI tp mb es]):=by
  obtain⟨d,hd⟩:=ww2;have h1:=fshown_ct tp mb es hk (h▸hd) 1;rw[h,we4] at h1;exact h1
theorem wkF (h:FoR es=W2):Ct Tryz.prog 31 #[.pointer (some ⟨tp,0,none⟩),.int .i64 1] [treeI tp mb es] (fun _=>True) (X:=Unit) (fun _=>.agg sW.toArray) (fun _=>True) (fun _=>[treeI tp mb es]):=by
  have h1:=style_ct tp mb es hk 1;rw[h,show styF zeroS W2 1=sW from we5] at h1;exact h1
end
theorem wkG:Ct Tryz.prog 16 #[.agg sW.toArray] [] (fun _=>True) (X:=Unit) (fun _=>q4 1 2 3 4) (fun _=>True) (fun _=>[]):=fedges_ct sW sW_ok (fun i hi=>by match i,hi with | 0,_=>decide | 1,_=>decide | 2,_=>decide | 3,_=>decide)
theorem fworks_ct:Ct Tryz.prog 10 #[] [] (fun _=>True) (X:=Unit) (fun _=>.bool true) (fun _=>True) (fun _=>[]):=by
  refine Ci fun w0 _=>?_;refine gg ?_;refine eF (xC new_ct) fun⟨tp,mb,nb⟩ _=>?_;refine av ?_;refine nl (oo ?_);refine sq ?_;refine sqR ?_;refine av ?_;refine vl (v_eqNil Tryz.underlying39 rfl rfl) ?_;refine gg ?_;refine WP.condF rfl ?_;refine gg ?_;refine eF (xC (wkA tp mb _ (newE_ok nb).2 (newE_ok nb).1)) fun es1 hf1=>?_;refine nl (oo ?_);refine sqR ?_;refine av ?_;refine vl (v_array (us:=[.int .i64 _,.int .i64 _]) Tryz.underlying34 Tryz.zeroValue34 Tryz.sizeOf3 rfl rfl rfl) ?_;refine vl (v_array (us:=[.int .i64 _,.int .i64 _,.int .i64 _,.int .i64 _]) Tryz.underlying29 Tryz.zeroValue29 Tryz.sizeOf3 rfl rfl rfl) ?_;refine vl (v_struct (us:=sW) (pl:=[(0,1),(1,1),(2,1),(3,2),(5,2),(7,2),(9,2),(11,2),(13,2),(15,8),(23,8),(31,4),(35,4),(39,1),(40,1),(41,2),(43,1),(44,1),(45,1),(46,1),(47,1),(48,1),(49,1),(50,1),(51,1),(52,1),(53,2)]) Tryz.underlying36 Tryz.zeroValue36 rfl (by kernel_rfl) rfl rfl (by kernel_rfl)) ?_;refine eF (xC (wkB tp mb es1 hf1.2 hf1.1)) fun es2 hf2=>?_;refine gg ?_;refine eF (xC (wkC tp mb es2 hf2.2 hf2.1)) fun⟨mp,ps⟩ ⟨hml,hmf,_⟩=>?_;have hl0:=hmf _ (List.mem_cons_self);have hl1:=hmf _ (List.mem_cons_of_mem _ List.mem_cons_self);dsimp only at hl0 hl1 hml;refine sg (v:=.map _) rfl ?_;refine nl (oo ?_);refine sqR ?_;refine mv (v:=.map _) rfl ?_;refine vl (v_of (v_lookup (m:=putAll ps) (k:=0) (z:=.agg #[.int .i64 0,.int .i64 0,.int .i64 0,.int .i64 0]) Tryz.underlying47 Tryz.underlying3 Tryz.zeroValue46 rfl rfl (fun w hw=>hw.mapAt (i:=1) rfl)) (v':=.agg #[.int .i64 0,.int .i64 0,.int .i64 100,.int .i64 24]) (by rw[hl0];rfl)) ?_;refine vl (v_struct (us:=[.int .i64 _,.int .i64 _,.int .i64 _,.int .i64 _]) (pl:=[(0,1),(1,1),(2,1),(3,1)]) Tryz.underlying46 Tryz.zeroValue46 rfl (by kernel_rfl) rfl rfl (by kernel_rfl)) ?_;refine vl (v_is (b:=true) (v_eqA leaf46 (by kernel_rfl) (fun _=>rfl) rfl rfl rfl rfl) (eqv_self _)) ?_;refine av ?_;refine vg (v_move (v:=.map _) rfl) ?_;refine vg (v_of (v_lookup (m:=putAll ps) (k:=1) (z:=.agg #[.int .i64 0,.int .i64 0,.int .i64 0,.int .i64 0]) Tryz.underlying47 Tryz.underlying3 Tryz.zeroValue46 rfl rfl (fun w hw=>hw.mapAt (i:=1) rfl)) (v':=.agg #[.int .i64 0,.int .i64 0,.int .i64 100,.int .i64 24]) (by rw[hl1];rfl)) ?_;refine vg (v_struct (us:=[.int .i64 _,.int .i64 _,.int .i64 _,.int .i64 _]) (pl:=[(0,1),(1,1),(2,1),(3,1)]) Tryz.underlying46 Tryz.zeroValue46 rfl (by kernel_rfl) rfl rfl (by kernel_rfl)) ?_;refine vg (v_is (b:=true) (v_eqA leaf46 (by kernel_rfl) (fun _=>rfl) rfl rfl rfl rfl) (eqv_self _)) ?_
  iterate 2 refine av ?_
  refine vg (v_move (v:=.map _) rfl) ?_;refine vg (v_lenMap Tryz.underlying47 rfl (fun w hw=>hw.mapAt (i:=1) rfl)) ?_;refine vg (v_is (b:=true) (v_eql rfl rfl) (decide_eq_true (by rw[hml];rfl))) ?_;refine gg ?_;refine WPL.efG (xC (wkD tp mb es2 hf2.2 hf2.1)) (fun⟨kA,kc⟩=>?_);refine WPL.fact (fun _=>?_);refine ag ?_;refine vg (v_is (b:=true) (v_eql rfl rfl) (decide_eq_true rfl)) ?_;refine gg ?_;refine WPL.efG (xC (wkE tp mb es2 hf2.2 hf2.1)) (fun _=>?_);refine WPL.fact (fun _=>?_);refine gg ?_;refine WPL.efG (xC (wkF tp mb es2 hf2.2 hf2.1)) (fun _=>?_);refine WPL.fact (fun _=>?_);refine WPL.efG (xC wkG) (fun _=>?_);refine WPL.fact (fun _=>?_);refine vg (v_array (us:=[.int .i64 _,.int .i64 _,.int .i64 _,.int .i64 _]) Tryz.underlying29 Tryz.zeroValue29 Tryz.sizeOf3 rfl rfl rfl) ?_;refine vg (v_is (b:=true) (v_eqA leaf29 (by kernel_rfl) (fun _=>rfl) rfl rfl rfl rfl) (eqv_self _)) ?_;refine gg ?_;exact rt1 fun w hw=>⟨(),rfl,trivial,hw.pk⟩
end Go.Proofs.YtpgjbbaplpdaiaaGreat
