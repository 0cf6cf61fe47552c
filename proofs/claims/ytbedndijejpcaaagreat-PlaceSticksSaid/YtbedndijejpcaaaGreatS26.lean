/- PlWorks FSizeP PlLaw -/
import Derived.Test.YtbedndijejpcaaaGreatS25
set_option linter.unusedVariables false
set_option linter.unusedSimpArgs false
set_option linter.unusedSectionVars false
set_option maxRecDepth 100000
set_option maxHeartbeats 8000000
namespace Go.Proofs.YtbedndijejpcaaaGreat
open Go.RowKit
def sA7:List Value:=[.int .i64 0,.int .i64 0,.int .i64 2,.int .i64 0,.int .i64 0,.int .i64 1,.int .i64 50,.int .i64 0,.int .i64 0,.int .i64 0,.int .i64 0,.int .i64 0,.int .i64 0,.int .i64 0,.int .i64 0,.int .i64 0,.int .i64 0,.int .i64 0,.int .i64 0,.int .i64 0,.int .i64 0,.int .i64 0,.int .i64 0,.int .i64 0,.int .i64 0,.int .i64 0,.int .i64 0,.int .i64 0,.int .i64 0,.int .i64 0,.int .i64 0,.int .i64 0,.int .i64 0,.int .i64 0,.int .i64 0,.int .i64 0,.int .i64 0,.int .i64 0,.int .i64 0,.int .i64 0,.int .i64 0,.int .i64 0,.int .i64 0,.int .i64 0,.int .i64 0,.bool false,.int .i64 0,.bool false,.int .i64 0,.int .i64 0,.int .i64 0,.bool false,.bool false,.int .i64 0,.int .i64 0]
def sB7:List Value:=[.int .i64 0,.int .i64 0,.int .i64 0,.int .i64 0,.int .i64 0,.int .i64 1,.int .i64 80,.int .i64 0,.int .i64 0,.int .i64 0,.int .i64 0,.int .i64 0,.int .i64 0,.int .i64 0,.int .i64 0,.int .i64 0,.int .i64 0,.int .i64 0,.int .i64 0,.int .i64 0,.int .i64 0,.int .i64 0,.int .i64 0,.int .i64 0,.int .i64 0,.int .i64 0,.int .i64 0,.int .i64 0,.int .i64 0,.int .i64 0,.int .i64 0,.int .i64 0,.int .i64 0,.int .i64 0,.int .i64 0,.int .i64 0,.int .i64 0,.int .i64 0,.int .i64 0,.int .i64 0,.int .i64 0,.int .i64 0,.int .i64 0,.int .i64 0,.int .i64 0,.bool false,.int .i64 0,.bool false,.int .i64 0,.int .i64 0,.int .i64 0,.bool false,.bool false,.int .i64 0,.int .i64 0]
def sC7:List Value:=[.int .i64 0,.int .i64 0,.int .i64 0,.int .i64 0,.int .i64 0,.int .i64 0,.int .i64 0,.int .i64 0,.int .i64 0,.int .i64 0,.int .i64 0,.int .i64 0,.int .i64 0,.int .i64 0,.int .i64 0,.int .i64 0,.int .i64 0,.int .i64 0,.int .i64 0,.int .i64 0,.int .i64 0,.int .i64 0,.int .i64 0,.int .i64 0,.int .i64 0,.int .i64 0,.int .i64 0,.int .i64 0,.int .i64 0,.int .i64 0,.int .i64 0,.int .i64 0,.int .i64 0,.int .i64 0,.int .i64 0,.int .i64 1,.int .i64 1,.int .i64 1,.int .i64 1,.int .i64 0,.int .i64 0,.int .i64 0,.int .i64 0,.int .i64 0,.int .i64 0,.bool false,.int .i64 0,.bool false,.int .i64 0,.int .i64 0,.int .i64 0,.bool false,.bool false,.int .i64 0,.int .i64 0]
theorem sA7_ok:SOk sA7:=SOk.of_leaves rfl
theorem sB7_ok:SOk sB7:=SOk.of_leaves rfl
theorem sC7_ok:SOk sC7:=SOk.of_leaves rfl
abbrev V0:Forest (List Value):=newF zeroS
abbrev V1:Forest (List Value):=(setR validB V0 0 sA7).1
abbrev V2:Forest (List Value):=(addR zeroS V1 0 0).1
abbrev V3:Forest (List Value):=(setR validB V2 1 sB7).1
def L7:List Frm:=[⟨0,0,0,100,50,[⟨1,0,0,100,80,[]⟩]⟩,⟨1,0,0,100,80,[]⟩]
abbrev G7:Int→Option Rc:=gOf L7
def O7 (k:Int):Pt:=if k=0 then (0,90) else (0,0)
abbrev B7:Rc:=ofR 0 0 100 100
theorem ve1:(setR validB V0 0 sA7).2=0:=by kernel_rfl
theorem ve2:(addR zeroS V1 0 0).2=(1,0):=by kernel_rfl
theorem ve3:(setR validB V2 1 sB7).2=0:=by kernel_rfl
theorem ve4:lenF V3=2:=by kernel_rfl
theorem ve5:allP V3 100 100=L7:=by kernel_rfl
theorem ve6:mostP V3 G7 0=(0,30):=by kernel_rfl
theorem ve7:reachP V3 G7 1=⟨0,0,100,80⟩:=by kernel_rfl
theorem ve8:spotP V3 G7 O7 B7 1=⟨⟨0,-30,100,80⟩,⟨0,0,100,50⟩⟩:=by kernel_rfl
theorem ve9:scrollP V3 1=0:=by kernel_rfl
theorem ve10:portR (ofR 0 0 9 9) sC7=⟨1,1,7,7⟩:=by kernel_rfl
theorem ve11:order V3=[0,1]:=by kernel_rfl
theorem vw0:∃d,WF V0 d:=⟨_,WF.new zeroS⟩
theorem vw1:∃d,WF V1 d:=by obtain⟨d,h⟩:=vw0;exact h.setR validB 0 sA7
theorem vw2:∃d,WF V2 d:=by obtain⟨d,h⟩:=vw1;exact h.addR zeroS 0 0
theorem vw3:∃d,WF V3 d:=by obtain⟨d,h⟩:=vw2;exact h.setR validB 1 sB7
theorem vgs:AllGS V3:=((AllGS.new.setR 0 sA7_ok).addR 0 0).setR 1 sB7_ok
theorem o7_OM:OM [(0,ptV 0 90)] O7:=fun k=>by
  unfold O7
  by_cases h:k=0
  · subst h;exact⟨rfl,⟨by decide,by decide⟩,by decide,by decide⟩
  · have h' : ¬ 0 = k := fun e => h e.symm
    rw[if_neg h];simp only[lookM,if_neg h'];exact⟨rfl,zero_PB⟩
theorem g7_RM {m:List (Int×Value)} (h:MapOf m L7):RM V3 m G7:=gOf_map h fun f hf=>by
  simp only[L7,List.mem_cons,List.not_mem_nil,or_false] at hf
  rcases hf with rfl | rfl<;>kernel_rfl
section
variable (tp mb:Nat) (es:List PE) (hk:LOk es)
include hk
theorem vkA (h:FoR es=V0):Ct Tryz.prog 20 #[.pointer (some ⟨tp,0,none⟩),.int .i64 0,.agg sA7.toArray] [treeI tp mb es] (fun _=>True) (X:=List PE) (fun _=>.int .i64 0) (fun es'=>FoR es'=V1∧LOk es') (fun es'=>[treeI tp mb es']):=by
  have h1:=set_ct tp mb es hk 0 sA7 sA7_ok;rw[h,ve1] at h1;exact h1
theorem vkB (h:FoR es=V1):Ct Tryz.prog 50 #[.pointer (some ⟨tp,0,none⟩),.int .i64 0,.int .i64 0] [treeI tp mb es] (fun _=>True) (X:=List PE) (fun _=>.tuple #[.int .i64 1,.int .i64 0]) (fun es'=>FoR es'=V2∧LOk es') (fun es'=>[treeI tp mb es']):=by
  obtain⟨d,hd⟩:=vw1;have h1:=add_ct tp mb es hk (h▸hd) 0 0;rw[h,ve2] at h1;exact h1
theorem vkC (h:FoR es=V2):Ct Tryz.prog 20 #[.pointer (some ⟨tp,0,none⟩),.int .i64 1,.agg sB7.toArray] [treeI tp mb es] (fun _=>True) (X:=List PE) (fun _=>.int .i64 0) (fun es'=>FoR es'=V3∧LOk es') (fun es'=>[treeI tp mb es']):=by
  have h1:=set_ct tp mb es hk 1 sB7 sB7_ok;rw[h,ve3] at h1;exact h1
theorem vkD (h:FoR es=V3):Ct Tryz.prog 21 #[.pointer (some ⟨tp,0,none⟩),.int .i64 100,.int .i64 100] [treeI tp mb es] (fun _=>True) (X:=Nat×List Frm) (fun p=>.map (some p.1)) (fun p=>MapOf (putAll p.2) L7) (fun p=>[treeI tp mb es,mapI p.1 (putAll p.2)]):=by
  obtain⟨d,hd⟩:=vw3;have h1:=flowLay_ct tp mb es hk (h▸hd) (by rw[h];exact vgs.st) (by rw[h];exact fun x=>Nat.le_trans (kids_few (n:=2) hd (by rw[ve4];decide) x) (by decide)) 100 100 (by decide) (by decide);refine h1.to (fun p=>p) (fun _=>rfl) (fun p hp=>?_) (fun _=>rfl);have h2:=mapOf hp (by rw[h];exact all_nodup hd vgs.st 100 100);rw[h,ve5] at h2;exact h2
variable (mp:Nat) (m:List (Int×Value)) (hm:MapOf m L7)
include hm
theorem vkM (h:FoR es=V3):Ct Tryz.prog 26 #[.pointer (some ⟨tp,0,none⟩),.map (some mp),.int .i64 0] [treeI tp mb es,mapI mp m] (fun _=>True) (X:=Unit) (fun _=>ptV 0 30) (fun _=>True) (fun _=>[treeI tp mb es,mapI mp m]):=by
  obtain⟨d,hd⟩:=vw3;have h1:=most_ct tp mb mp es m G7 hk (h▸hd) (by rw[h];exact g7_RM hm) 0;rw[h,ve6] at h1;exact h1
theorem vkR (h:FoR es=V3):Ct Tryz.prog 42 #[.pointer (some ⟨tp,0,none⟩),.map (some mp),.int .i64 1] [treeI tp mb es,mapI mp m] (fun _=>True) (X:=Unit) (fun _=>q4 0 0 100 80) (fun _=>True) (fun _=>[treeI tp mb es,mapI mp m]):=by
  obtain⟨d,hd⟩:=vw3;have h1:=reach_ct tp mb mp es m G7 hk (h▸hd) (by rw[h];exact g7_RM hm) 1;unfold ReachOK at h1;rw[h,ve7] at h1;exact h1
theorem vkS (om:Nat) (h:FoR es=V3):Ct Tryz.prog 27 #[.pointer (some ⟨tp,0,none⟩),.map (some mp),.map (some om),.int .i64 100,.int .i64 100] [treeI tp mb es,mapI mp m,mapI om [(0,ptV 0 90)]] (fun _=>True) (X:=Nat) (fun b=>.map (some b)) (fun _=>True) (fun b=>[treeI tp mb es,mapI mp m,mapI om [(0,ptV 0 90)],mapI b (spL V3 G7 O7 B7 [0,1])]):=by
  obtain⟨d,hd⟩:=vw3;have h1:=spots_ct tp mb mp om es m [(0,ptV 0 90)] G7 O7 hk (h▸hd) (by rw[h];exact vgs.st) (by rw[h];exact g7_RM hm) o7_OM 100 100;rw[h,ve11] at h1;exact h1
omit hm in
theorem vkC2 (h:FoR es=V3):Ct Tryz.prog 63 #[.pointer (some ⟨tp,0,none⟩),.int .i64 1] [treeI tp mb es] (fun _=>True) (X:=Unit) (fun _=>.int .i64 0) (fun _=>True) (fun _=>[treeI tp mb es]):=by
  obtain⟨d,hd⟩:=vw3;have h1:=scroller_ct tp mb es hk (h▸hd) 1 (by rw[h];kernel_rfl);rw[h,ve9] at h1;exact h1
end
theorem vlook:(lookM (spL V3 G7 O7 B7 [0,1]) 1).getD spotZ.v=.agg #[.int .i64 0,.int .i64 (-30),.int .i64 100,.int .i64 80,.int .i64 0,.int .i64 0,.int .i64 100,.int .i64 50]:=by
  rw[spL_get (by decide),ve8]
theorem vkP:Ct Tryz.prog 34 #[(ofR 0 0 9 9).v,.agg sC7.toArray] [] (fun _=>True) (X:=Unit) (fun _=>q4 1 1 7 7) (fun _=>True) (fun _=>[]):=by
  have h1:=port_ct (ofR 0 0 9 9) sC7 sC7_ok;rw[ve10] at h1;exact h1
theorem pworks_ct:Ct Tryz.prog 23 #[] [] (fun _=>True) (X:=Unit) (fun _=>.bool true) (fun _=>True) (fun _=>[]):=by
  refine Ci fun w0 _=>?_;refine gg ?_;refine eF (xC new_ct) fun⟨tp,mb,nb⟩ _=>?_;refine av ?_;refine nl (oo ?_);refine sq ?_;refine sqR ?_;refine av ?_;refine vl (v_eqNil Tryz.underlying24 rfl rfl) ?_;refine gg ?_;refine WP.condF rfl ?_;refine WP.skip (onto_of ?_);refine sqR ?_;refine av ?_;refine vl (v_struct (us:=[.int .i64 _,.int .i64 _]) (pl:=[(0,1),(1,1)]) Tryz.underlying33 Tryz.zeroValue33 rfl (by kernel_rfl) rfl rfl (by kernel_rfl)) ?_;refine vl (v_struct (us:=sA7) (pl:=[(0,1),(1,1),(2,1),(3,2),(5,2),(7,2),(9,2),(11,2),(13,2),(15,8),(23,8),(31,4),(35,4),(39,1),(40,1),(41,2),(43,1),(44,1),(45,1),(46,1),(47,1),(48,1),(49,1),(50,1),(51,1),(52,1),(53,2)]) Tryz.underlying42 Tryz.zeroValue42 rfl (by kernel_rfl) rfl rfl (by kernel_rfl)) ?_;refine eF (xC (vkA tp mb _ (newE_ok nb).2 (newE_ok nb).1)) fun es1 hf1=>?_;refine gg ?_;refine eF (xC (vkB tp mb es1 hf1.2 hf1.1)) fun es2 hf2=>?_;refine nl (oo ?_);refine sqR ?_;refine av ?_;refine vl (v_struct (us:=[.int .i64 _,.int .i64 _]) (pl:=[(0,1),(1,1)]) Tryz.underlying33 Tryz.zeroValue33 rfl (by kernel_rfl) rfl rfl (by kernel_rfl)) ?_;refine vl (v_struct (us:=sB7) (pl:=[(0,1),(1,1),(2,1),(3,2),(5,2),(7,2),(9,2),(11,2),(13,2),(15,8),(23,8),(31,4),(35,4),(39,1),(40,1),(41,2),(43,1),(44,1),(45,1),(46,1),(47,1),(48,1),(49,1),(50,1),(51,1),(52,1),(53,2)]) Tryz.underlying42 Tryz.zeroValue42 rfl (by kernel_rfl) rfl rfl (by kernel_rfl)) ?_;refine eF (xC (vkC tp mb es2 hf2.2 hf2.1)) fun es3 hf3=>?_;refine gg ?_;refine eF (xC (vkD tp mb es3 hf3.2 hf3.1)) fun⟨mp,ps⟩ hml=>?_;dsimp only at hml;refine sg (v:=.map _) rfl ?_;refine nl (oo ?_);refine sqR ?_;refine av ?_;refine mv (v:=.map _) rfl ?_;refine WPL.ef (x_makeMap (σ':=fun _=>[_,_,_]) (fun _=>rfl)) (fun mp21=>?_);refine eF (xC (show Ct Tryz.prog 25 #[.int .i64 0,.int .i64 90] [] (fun _=>True) (X:=Unit) (fun _=>ptV 0 90) (fun _=>True) (fun _=>[]) from ptof_ct 0 90)) fun _ _=>?_;refine WPL.ef0 (x_mapIns (m:=[]) (k:=0) (u:=ptV 0 90) (σ':=[_,_,_]) Tryz.underlying61 Tryz.underlying3 rfl rfl rfl (i:=2) rfl rfl) (fun _=>?_);refine mv (v:=.map _) rfl ?_;refine WPL.ef (x_call Tryz.call27 (vkS tp mb es3 hf3.2 mp (putAll ps) hml mp21 hf3.1) [0,1,2] [] rfl (fun w hw=>trivial) (τ:=fun _=>[_,_,_,_]) (fun _=>rfl)) (fun sb=>?_);refine WPL.fact (fun _=>?_);refine sg (v:=.map _) rfl ?_;refine gg ?_;refine wP none [0,1,2,3] [pT 0,pT 1,pF 2,pF 3,pT 4,pT 5,pT 6,pT 7,pF 8,pF 9,pT 10,pT 11,pT 12,pT 13,pT 14,pT 15,pF 16,pT 17,pT 18,pT 19,pT 20,pT 21,pT 22,pF 23,pT 24,pT 25,pT 26,pT 27,pF 28,pT 29,pT 30,pT 31,pT 33,pT 34,pF 32,pF 35,pF 36,pT 37,pT 38,pT 39] ?_;refine ad ?_;refine tE rfl (v_move (v:=.map _) rfl) ?_;refine dG (xC (vkM tp mb es3 hf3.2 mp (putAll ps) hml hf3.1)) fun _ _=>?_;refine dG (xC (show Ct Tryz.prog 25 #[.int .i64 0,.int .i64 30] [] (fun _=>True) (X:=Unit) (fun _=>ptV 0 30) (fun _=>True) (fun _=>[]) from ptof_ct 0 30)) fun _ _=>?_;refine tE rfl (v_is (b:=true) (v_ceq rfl rfl (by decide) (by decide) (by decide) (by decide)) (by decide)) ?_
  iterate 2 refine ad ?_
  refine tE rfl (v_move (v:=.map _) rfl) ?_;refine dG (xC (vkR tp mb es3 hf3.2 mp (putAll ps) hml hf3.1)) fun _ _=>?_;refine dG (xC (show Ct Tryz.prog 35 #[.int .i64 (0),.int .i64 (0),.int .i64 (100),.int .i64 (80)] [] (fun _=>True) (X:=Unit) (fun _=>q4 (0) (0) (100) (80)) (fun _=>True) (fun _=>[]) from recof_ct (0) (0) (100) (80))) fun _ _=>?_;refine tE rfl (v_is (b:=true) (v_eqA leaf52 (by kernel_rfl) (fun _=>rfl) rfl rfl rfl rfl) (eqv_self _)) ?_
  iterate 2 refine ad ?_
  refine tE rfl (v_move (v:=.map _) rfl) ?_;refine tE rfl (v_of (v_lookup (m:=spL V3 G7 O7 B7 [0,1]) (k:=1) (z:=spotZ.v) Tryz.underlying59 Tryz.underlying3 Tryz.zeroValue63 rfl rfl (fun w hw=>hw.mapAt (i:=3) rfl)) (v':=.agg #[.int .i64 0,.int .i64 (-30),.int .i64 100,.int .i64 80,.int .i64 0,.int .i64 0,.int .i64 100,.int .i64 50]) vlook) ?_;refine tE rfl (v_partA (us:=#[_,_,_,_]) Tryz.underlying63 rfl Tryz.isAgg52 Tryz.sizeOf52 rfl rfl) ?_;refine dG (xC (show Ct Tryz.prog 35 #[.int .i64 (0),.int .i64 (-30),.int .i64 (100),.int .i64 (80)] [] (fun _=>True) (X:=Unit) (fun _=>q4 (0) (-30) (100) (80)) (fun _=>True) (fun _=>[]) from recof_ct (0) (-30) (100) (80))) fun _ _=>?_;refine tE rfl (v_is (b:=true) (v_eqA leaf52 (by kernel_rfl) (fun _=>rfl) rfl rfl rfl rfl) (eqv_self _)) ?_
  iterate 2 refine ad ?_
  refine tE rfl (v_move (v:=.map _) rfl) ?_;refine tE rfl (v_of (v_lookup (m:=spL V3 G7 O7 B7 [0,1]) (k:=1) (z:=spotZ.v) Tryz.underlying59 Tryz.underlying3 Tryz.zeroValue63 rfl rfl (fun w hw=>hw.mapAt (i:=3) rfl)) (v':=.agg #[.int .i64 0,.int .i64 (-30),.int .i64 100,.int .i64 80,.int .i64 0,.int .i64 0,.int .i64 100,.int .i64 50]) vlook) ?_;refine tE rfl (v_partA (us:=#[_,_,_,_]) Tryz.underlying63 rfl Tryz.isAgg52 Tryz.sizeOf52 rfl rfl) ?_;refine dG (xC (show Ct Tryz.prog 35 #[.int .i64 (0),.int .i64 (0),.int .i64 (100),.int .i64 (50)] [] (fun _=>True) (X:=Unit) (fun _=>q4 (0) (0) (100) (50)) (fun _=>True) (fun _=>[]) from recof_ct (0) (0) (100) (50))) fun _ _=>?_;refine tE rfl (v_is (b:=true) (v_eqA leaf52 (by kernel_rfl) (fun _=>rfl) rfl rfl rfl rfl) (eqv_self _)) ?_;refine gg ?_;refine dG (xC (vkC2 tp mb es3 hf3.2 hf3.1)) fun _ _=>?_;refine tE rfl (v_is (b:=true) (v_eql rfl rfl) (decide_eq_true rfl)) ?_
  iterate 2 refine ad ?_
  refine tE rfl (v_array (us:=[.int .i64 _,.int .i64 _,.int .i64 _,.int .i64 _]) Tryz.underlying35 Tryz.zeroValue35 Tryz.sizeOf3 rfl rfl rfl) ?_;refine tE rfl (v_struct (us:=sC7) (pl:=[(0,1),(1,1),(2,1),(3,2),(5,2),(7,2),(9,2),(11,2),(13,2),(15,8),(23,8),(31,4),(35,4),(39,1),(40,1),(41,2),(43,1),(44,1),(45,1),(46,1),(47,1),(48,1),(49,1),(50,1),(51,1),(52,1),(53,2)]) Tryz.underlying42 Tryz.zeroValue42 rfl (by kernel_rfl) rfl rfl (by kernel_rfl)) ?_;refine dG (xC (recof_ct 0 0 9 9)) fun _ _=>?_;refine dG (xC vkP) fun _ _=>?_;refine dG (xC (show Ct Tryz.prog 35 #[.int .i64 (1),.int .i64 (1),.int .i64 (7),.int .i64 (7)] [] (fun _=>True) (X:=Unit) (fun _=>q4 (1) (1) (7) (7)) (fun _=>True) (fun _=>[]) from recof_ct (1) (1) (7) (7))) fun _ _=>?_;refine tE rfl (v_is (b:=true) (v_eqA leaf52 (by kernel_rfl) (fun _=>rfl) rfl rfl rfl rfl) (eqv_self _)) ?_;refine gg ?_;exact rt1 fun w hw=>⟨(),rfl,trivial,hw.pk⟩
section
variable {F:Forest (List Value)} {d:Int→Nat}
theorem flat_good (hF:WF F d) (hg:∀x,GS (stF F x)) {ww wh:Int}:∀(n:Nat) (f:Frm),Good F ww wh f→∀g∈flatN n f,Good F ww wh g
  | 0,f,_,g,hm=>by simp[flatN] at hm
  | n + 1, f, h, g, hm => by
    rw[flatN] at hm
    rcases List.mem_cons.1 hm with rfl | hm
    · exact h
    · obtain ⟨k, hk, hm⟩ := List.mem_flatMap.1 hm
      exact flat_good hF hg n k (h.kids hF hg k hk).1 g hm
theorem all_good (hF:WF F d) (hg:∀x,GS (stF F x)) (w h:Int):∀f∈allP F w h,Good F (max w 0) (max h 0) f:=fun f hf=>by
  unfold allP at hf
  split at hf
  · exact flat_good hF hg 64 _ (good_root hF hg _ _ _ _) f hf
  · simp at hf
end
theorem leaf63:leafK Tryz.prog 10 63=some [true,true,true,true,true,true,true,true]:=by kernel_rfl
theorem OM_nil:OM [] (fun _=>(0,0)):=fun _=>⟨rfl,zero_PB⟩
abbrev oneP (id:Int) (p:Pt):Int→Pt:=fun k=>if k=id then p else (0,0)
theorem OM_one (id:Int) (p:Pt) (hp:PB p):OM [(id,ptV p.1 p.2)] (oneP id p):=fun k=>by
  unfold oneP
  by_cases h:k=id
  · rw [if_pos h, h]
    simp only[lookM,if_true];exact⟨rfl,hp⟩
  · have h' : ¬ id = k := fun e => h e.symm
    rw[if_neg h];simp only[lookM,if_neg h'];exact⟨rfl,zero_PB⟩
theorem clamp_idem {n m:Int} (h:0≤m∧m≤1099511627776):clamp (clamp n 0 m) 0 m=clamp n 0 m:=by unfold clamp cut;omega
section
variable {F:Forest (List Value)} {d:Int→Nat}
def gm (F:Forest (List Value)) (w h:Int):Int→Option Rc:=gOf (allP F w h)
theorem gm_RM (hF:WF F d) (hg:∀x,GS (stF F x)) {m:List (Int×Value)} {w h:Int} (hm:MapOf m (allP F w h)):RM F m (gm F w h):=gOf_map hm fun f hf=>(all_good hF hg w h f hf).1
theorem gm_is (hF:WF F d) (hg:∀x,GS (stF F x)) (w h:Int) {y:Int} (hy:y∈order F):((gm F w h) y).isSome=shownF F y:=by
  have hp:=all_ids hF hg w h;unfold gm gOf;rw[Option.isSome_map];cases hs:shownF F y with
  | true =>
    have hi:=hp.mem_iff.2 (List.mem_filter.2 ⟨hy,hs⟩);obtain⟨f,hf,e⟩:=List.mem_map.1 hi;exact List.find?_isSome.2 ⟨f,hf,by simpa using e⟩
  | false =>
    cases e:(allP F w h).find? fun f=>f.id==y with
    | none=>rfl
    | some f =>
      have h5:=List.find?_some e;have h6:f.id=y:=by simpa using h5
      have hi:=hp.mem_iff.1 (List.mem_map.2 ⟨f,List.mem_of_find?_eq_some e,h6⟩);rw[(List.mem_filter.1 hi).2] at hs;cases hs
variable {g:Int→Option Rc} {o o':Int→Pt} {win:Rc}
theorem spot_congr (h:∀x,backP F g o x=backP F g o' x):∀n,spotN F g o win n=spotN F g o' win n
  | 0=>rfl
  | n + 1 => by
    funext x
    unfold spotN;rw[spot_congr h n];unfold spotStep;cases g x with
    | none=>rfl
    | some m=>simp only[spotR,h]
theorem back_within (id:Int) (p:Pt) (x:Int):backP F g (oneP id p) x=backP F g (oneP id (withinP2 p (0,0) (mostP F g id))) x:=by
  have hm:=most_Bn (F:=F) (g:=g) id;unfold backP oneP
  by_cases h:x=id
  · rw [if_pos h, if_pos h, h]
    unfold withinP2;dsimp only;rw[clamp_idem hm.1,clamp_idem hm.2]
  · rw[if_neg h,if_neg h]
theorem spots_within (id:Int) (p:Pt) (x:Int):spotP F g (oneP id (withinP2 p (0,0) (mostP F g id))) win x=spotP F g (oneP id p) win x:=by
  unfold spotP;rw[spot_congr fun y=>(back_within id p y).symm]
theorem spL_is {l:List Int} {y:Int} (h:y∈l):(lookM (spL F g o win l) y).isSome=(g y).isSome:=by rw[look_spL,if_pos h];cases g y<;>rfl
theorem back_zero (x:Int):backP F g (fun _=>(0,0)) x=(0,0):=by
  have hm:=most_Bn (F:=F) (g:=g) x;have e:∀m:Int,0≤m∧m≤1099511627776→cut (0 - clamp 0 0 m)=0:=fun m h=>by unfold clamp cut;omega
  unfold backP withinP2;dsimp only;rw[e _ hm.1,e _ hm.2]
theorem was_zero (m u:Rc):wasP m u (0,0)=moveR m (beginR u):=by
  unfold wasP moveR;dsimp only;rw[Int.add_zero,Int.add_zero,cut_cut,cut_cut,cut_cut,cut_cut]
theorem spot_fix (hF:WF F d) {y:Int} (hs:(g y).isSome=true) (hh:hasF F y=true) (h:y=0∨val (stF F y) 1=3):spotP F g o win y=⟨(g y).getD zR,win⟩:=by
  rw[spot_eq hF hh (getD_of hs)];exact if_pos h
theorem spot_in (hF:WF F d) {y:Int} (hs:(g y).isSome=true) (hh:hasF F y=true) (h0:y≠0) (h3:val (stF F y) 1≠3):
    spotP F g o win y = ⟨if val (stF F y) 1 = 4 then moveR (wasP ((g y).getD zR) (spotP F g o win (upF F y)).r (backP F g o (upF F y))) (stuckP F win (spotP F g o win) y (wasP ((g y).getD zR) (spotP F g o win (upF F y)).r (backP F g o (upF F y))) (backP F g o (upF F y))) else wasP ((g y).getD zR) (spotP F g o win (upF F y)).r (backP F g o (upF F y)),
      clipP (spotP F g o win (upF F y)) (stF F (upF F y))⟩ := by
  rw[spot_eq hF hh (getD_of hs)];exact if_neg (by omega)
theorem spot_still (hF:WF F d) {y:Int} (hs:(g y).isSome=true) (hh:hasF F y=true) (h0:y≠0) (h3:val (stF F y) 1≠3) (h4:val (stF F y) 1≠4):
    (spotP F g (fun _=>(0,0)) win y).r=moveR ((g y).getD zR) (beginR (spotP F g (fun _=>(0,0)) win (upF F y)).r):=by
  rw[spot_in hF hs hh h0 h3];dsimp only;rw[if_neg h4,back_zero,was_zero]
theorem none_all (hF:WF F d) (hg:∀x,GS (stF F x)) {w h:Int} (hn:(gm F w h 0).isSome=false):(allP F w h).length=0:=by
  have h1:=hF.order_head;rw[gm_is hF hg w h (List.mem_of_getElem? h1)] at hn;unfold allP;rw[hn];rfl
end
end Go.Proofs.YtbedndijejpcaaaGreat
