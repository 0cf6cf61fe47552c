/- FlowB FlowC FlowD FlowMem FlowKey FlowE -/
import Derived.DeepKeys3
import Derived.Test.YtbedndijejpcaaaGreatS15
set_option linter.unusedVariables false
set_option linter.unusedSimpArgs false
set_option linter.unusedSectionVars false
set_option maxRecDepth 100000
set_option maxHeartbeats 8000000
namespace Go.Proofs.YtbedndijejpcaaaGreat
open Go.RowKit
theorem WF.kidsL {S:Type} {F:Forest S} {d:Int→Nat} (hF:WF F d) (x:Int):(kidsF F x).length≤4096:=by
  cases e:F x with
  | none=>simp[kidsF,e]
  | some b=>rw[kids_some e];exact hF.kids_le e
theorem kidsI_snoc (A:Option Addr) (n c:Nat) (l:List Int) (x:Int):kidsI A (n+1) c (l++[x])=.row 3 1 A (n+1) c (l.map (Value.int .i64)++[.int .i64 x]):=by simp[kidsI]
section
variable {F:Forest (List Value)} {d:Int→Nat}
def UpI (F:Forest (List Value)) (d:Int→Nat) (n:Nat) (y:Int):Prop:=y= -1∨(hasF F y=true∧d y+1≤n)
theorem UpI.start (hF:WF F d) {x:Int} (h:hasF F x=true):UpI F d 64 x:=.inr ⟨h,by obtain⟨b,hb⟩:=some_has h;have:=hF.deep x b hb;omega⟩
theorem UpI.next (hF:WF F d) {n:Nat} {y:Int} (h:UpI F d n y) (hy:0≤y):∃m,n=m+1∧hasF F y=true∧UpI F d m (upF F y):=by
  rcases h with h | ⟨h1,h2⟩
  · omega
  · refine ⟨n - 1, by omega, h1, ?_⟩
    by_cases h0:y=0
    · left
      obtain⟨b,hb,hu⟩:=hF.root;rw[h0,up_some hb,hu]
    · right
      obtain⟨h3,_,_,h4⟩:=hF.up_has h1 h0;exact⟨h3,by omega⟩
theorem UpI.neg (hF:WF F d) {n:Nat} {y:Int} (h:UpI F d n y) (hy:¬0≤y):shownN F n y=true:=by
  rcases h with rfl | ⟨h1,_⟩
  · cases n with
    | zero=>rfl
    | succ n=>rw[shownN,has_none (hF.neg (by omega))];rfl
  · obtain ⟨b, hb⟩ := some_has h1
    have:=hF.range y b hb;omega
theorem filt_yes {l:List Int} {k:Nat} {x:Int} {p:Int→Bool} (h:l[k]?=some x) (hp:p x=true):(l.take (k+1)).filter p=(l.take k).filter p++[x]:=by rw[takeS h,List.filter_append];simp[hp]
theorem filt_no {l:List Int} {k:Nat} {x:Int} {p:Int→Bool} (h:l[k]?=some x) (hp:p x=false):(l.take (k+1)).filter p=(l.take k).filter p:=by rw[takeS h,List.filter_append];simp[hp]
theorem filt_le (l:List Int) (k:Nat) (p:Int→Bool):((l.take k).filter p).length≤k:=Nat.le_trans (List.length_filter_le _ _) (by rw[List.length_take];omega)
end
abbrev flowQ (F:Forest (List Value)) (a:Bool):Int→Bool:=fun k=>shownF F k&&(outB (stF F k)==a)
theorem fshown_ct (tp mb:Nat) (es:List PE) (hk:LOk es) {d:Int→Nat} (hF:WF (FoR es) d) (x:Int):
    Ct Tryz.prog 48 #[.pointer (some ⟨tp,0,none⟩),.int .i64 x] [treeI tp mb es] (fun _=>True) (X:=Unit) (fun _=>.bool (shownF (FoR es) x)) (fun _=>True) (fun _=>[treeI tp mb es]):=by
  refine Ci fun w0 _=>?_;refine gg ?_;refine eF (xC (has_ct tp mb es x)) fun _ _=>?_;refine gg ?_;refine WP.cond rfl (fun h8=>?_) (fun h8=>?_)
  ·have hr:shownF (FoR es) x=false:=by unfold shownF;simp at h8;rw[h8];rfl
   refine gg ?_;exact rt1 fun w hw=>⟨(),congrArg Value.bool hr.symm,trivial,hw.pk⟩
  ·have hx:hasF (FoR es) x=true:=by simpa using h8
   refine gg ?_;refine WP.loopK (X:=Nat×Int) [0] (fun p=>[(1,.int .i64 p.2)]) (fun p w=>(shownF (FoR es) x=shownN (FoR es) p.1 p.2∧UpI (FoR es) d p.1 p.2)∧St w0 (foots [treeI tp mb es]) [treeI tp mb es] w) (fun p=>p.1) (64,x) ⟨rfl,trivial⟩ (fun w hw=>⟨⟨by unfold shownF;rw[hx];rfl,UpI.start hF hx⟩,hw⟩) (fun p ρ0=>?_);refine WP.fact (fun⟨hs,hu⟩=>?_);refine gg ?_;refine WP.condP rfl (fun h10=>?_) (fun h10=>?_)
   ·obtain⟨m,hm,hhas,hu2⟩:=hu.next hF (by omega);have hsn:shownN (FoR es) p.1 p.2=(decide (val (stF (FoR es) p.2) 0≠3)&&shownN (FoR es) m (upF (FoR es) p.2)):=by rw[hm,shownN,if_pos hhas]
    refine gg ?_;refine eF (xC (style_ct tp mb es hk p.2)) fun _ _=>?_;refine vl (v_part (u:=.int .i64 (val (stF (FoR es) (p.2)) 0)) Tryz.underlying42 rfl Tryz.isAgg28 rfl (toArr (SOk.int (hk.styOk (p.2)) 0 (by decide) rfl))) ?_;refine gg ?_;refine WP.condP rfl (fun h18=>?_) (fun h18=>?_)
    ·have hr:shownF (FoR es) x=false:=by rw[hs,hsn,decide_eq_false (fun h=>h h18),Bool.false_and]
     refine gg ?_;exact rt1 fun w hw=>⟨(),congrArg Value.bool hr.symm,trivial,hw.pk⟩
    ·have h18n:val (stF (FoR es) p.2) 0≠3:=h18;refine gg ?_;refine eF (xC (up_ct tp mb es hk p.2)) fun _ _=>?_;refine av ?_;exact nl fun w hw=>⟨rfl,(m,upF (FoR es) p.2),(by simp only;omega),⟨rfl,jP,trivial⟩,⟨by rw[hs,hsn,decide_eq_true h18n,Bool.true_and],hu2⟩,hw⟩
   ·have hr:shownF (FoR es) x=true:=by rw[hs];exact hu.neg hF (by omega)
    refine WP.exit (onto_of ?_);refine gg ?_;exact rt1 fun w hw=>⟨(),congrArg Value.bool hr.symm,trivial,hw.pk⟩
theorem fkids_ct (tp mb:Nat) (es:List PE) (hk:LOk es) {d:Int→Nat} (hF:WF (FoR es) d) (x:Int) (a:Bool):
    Ct Tryz.prog 87 #[.pointer (some ⟨tp,0,none⟩),.int .i64 x,.bool a] [treeI tp mb es] (fun _=>True) (X:=Option Addr×Nat) (fun p=>.slice p.1 (kidsP (FoR es) x a).length p.2) (fun _=>True) (fun p=>[treeI tp mb es,kidsI p.1 (kidsP (FoR es) x a).length p.2 (kidsP (FoR es) x a)]):=by
  refine Ci fun w0 _=>?_;refine sqR ?_;refine av ?_;refine nl (oo ?_);refine sqR ?_;refine av ?_;refine nl (oo ?_)
  iterate 2 refine sq ?_
  have hkn:=hF.kidsL x;refine gg ?_;refine eF (xC (kids_ct tp mb es hk x (by have:=hF.kidsL x;omega))) fun⟨kA,kc⟩ _=>?_;refine gg ?_;refine WP.loopK (X:=Nat×Option Addr×Nat) [0,2,12,13] (fun p=>[(7,.slice p.2.1 (((kidsF (FoR es) x).take p.1).filter (flowQ (FoR es) a)).length p.2.2),(14,.int .i64 (p.1:Int))]) (fun p w=>p.1≤(kidsF (FoR es) x).length∧St w0 (foots [treeI tp mb es]) [treeI tp mb es,kidsI kA (kidsF (FoR es) x).length kc (kidsF (FoR es) x),kidsI p.2.1 (((kidsF (FoR es) x).take p.1).filter (flowQ (FoR es) a)).length p.2.2 (((kidsF (FoR es) x).take p.1).filter (flowQ (FoR es) a))] w) (fun p=>(kidsF (FoR es) x).length - p.1) (0,none,0) ⟨rfl,rfl,trivial⟩ (fun w hw=>⟨Nat.zero_le _,hw.nilRow 3 1⟩) (fun p ρ0=>?_);obtain⟨k,oA,oc⟩:=p;dsimp only;refine WP.fact (fun hkl=>?_);refine gg ?_;refine WP.condP rfl (fun h15=>?_) (fun h15=>?_)
  ·obtain⟨kid,hkid⟩:∃kid,(kidsF (FoR es) x)[k]?=some kid:=⟨_,List.getElem?_eq_getElem (by omega)⟩;have hfl:=filt_le (kidsF (FoR es) x) k (flowQ (FoR es) a);refine WP.holds (fun w hw=>hw.row_pos (i:=1) rfl (by omega)) (fun⟨kb,hA⟩=>?_);subst hA;refine gg ?_;refine vl (vR 1 (by rw[List.getElem?_map,hkid];rfl)) ?_;refine gg ?_;refine eF (xC (fshown_ct tp mb es hk hF kid)) fun _ _=>?_;refine av ?_;refine WPL.splitB 21 rfl (fun h21=>?_) (fun h21=>?_)
   ·refine gg ?_;refine WPL.efG (xC (style_ct tp mb es hk kid)) (fun _=>?_);refine WPL.fact (fun _=>?_);refine WPL.efG (xC (fout_ct _ (hk.styOk kid))) (fun _=>?_);refine WPL.fact (fun _=>?_);refine ag ?_;refine vg (v_eqB Tryz.underlying4 rfl rfl) ?_;refine gg ?_;refine WP.cond rfl (fun h28=>?_) (fun h28=>?_)
    ·have hq:flowQ (FoR es) a kid=true:=by simp only[flowQ];simp_all
     have hfy:=filt_yes hkid hq;refine gg ?_;refine WPL.ef (xN (L1 rfl)) fun g31=>?_;refine WPL.ef (xP 1 3) fun⟨A32,c32⟩=>?_;refine av ?_;refine nl (oo ?_);refine WP.region ?_
     iterate 2 refine av ?_
     exact nl fun w hw=>⟨rfl,(k+1,A32,c32),(by simp only;omega),⟨(via (.slice A32 ((((kidsF (FoR es) x).take k).filter (flowQ (FoR es) a)).length+1) c32) rfl (by simp only;rw[hfy,List.length_append];rfl)),rfl,jP,jB,jS,jI,trivial⟩,⟨by simp only;omega,by simp only;rw[hfy,List.length_append,List.length_singleton,kidsI_snoc];exact hw.pk⟩⟩
    ·have hq:flowQ (FoR es) a kid=false:=by simp only[flowQ];simp_all
     have hfn:=filt_no hkid hq;refine WP.skip (onto_of ?_);refine WP.region ?_
     iterate 2 refine av ?_
     exact nl fun w hw=>⟨rfl,(k+1,oA,oc),(by simp only;omega),⟨(via (.slice oA ((((kidsF (FoR es) x).take k).filter (flowQ (FoR es) a)).length) oc) rfl (by simp only;rw[hfn])),rfl,jP,jB,jS,jI,trivial⟩,⟨by simp only;omega,by simp only;rw[hfn];exact hw.pk⟩⟩
   ·refine gg ?_;have hq:flowQ (FoR es) a kid=false:=by simp only[flowQ];simp_all
    have hfn:=filt_no hkid hq;refine WP.condF rfl ?_;refine WP.skip (onto_of ?_);refine WP.region ?_
    iterate 2 refine av ?_
    exact nl fun w hw=>⟨rfl,(k+1,oA,oc),(by simp only;omega),⟨(via (.slice oA ((((kidsF (FoR es) x).take k).filter (flowQ (FoR es) a)).length) oc) rfl (by simp only;rw[hfn])),rfl,jP,jB,jS,jI,trivial⟩,⟨by simp only;omega,by simp only;rw[hfn];exact hw.pk⟩⟩
  ·obtain rfl:k=(kidsF (FoR es) x).length:=by omega
   have htk:(((kidsF (FoR es) x).take (kidsF (FoR es) x).length).filter (flowQ (FoR es) a))=kidsP (FoR es) x a:=by rw[List.take_of_length_le (Nat.le_refl _)];rfl
   refine WP.exit (onto_of ?_);refine gg ?_;exact rt1 fun w hw=>⟨(oA,oc),by rw[←htk];rfl,trivial,by rw[←htk];exact hw.pk⟩
theorem fflows_ct (tp mb:Nat) (es:List PE) (hk:LOk es) {d:Int→Nat} (hF:WF (FoR es) d) (x:Int):
    Ct Tryz.prog 51 #[.pointer (some ⟨tp,0,none⟩),.int .i64 x] [treeI tp mb es] (fun _=>True) (X:=Option Addr×Nat) (fun p=>.slice p.1 (kidsP (FoR es) x false).length p.2) (fun _=>True) (fun p=>[treeI tp mb es,kidsI p.1 (kidsP (FoR es) x false).length p.2 (kidsP (FoR es) x false)]):=by
  refine Ci fun w0 _=>?_;refine gg ?_;refine eF (xC (fkids_ct tp mb es hk hF x false)) fun⟨kA,kc⟩ _=>?_;refine gg ?_;exact rt1 fun w hw=>⟨(kA,kc),rfl,trivial,hw.pk⟩
abbrev flI (fb tp lb:Nat) (ww wh:Int):HI:=.cl fb 112 [.pointer (some ⟨tp,0,none⟩),.int .i64 ww,.int .i64 wh,.map (some lb)]
theorem GS.eS_all {s:List Value} (h:GS s):∀i,i<4→0≤val s (31+i)+val s (35+i)∧val s (31+i)+val s (35+i)≤2097152:=fun i hi=>h.eS_bd i hi
theorem GS.eS_far {s:List Value} (h:GS s):∀i,i<4→-4611686018427387904≤val s (31+i)+val s (35+i)∧val s (31+i)+val s (35+i)≤4611686018427387904:=fun i hi=>by have:=h.eS_bd i hi;unfold eS at this;omega
section
variable {F:Forest (List Value)} {d:Int→Nat}
theorem open_up {x:Int} {b:Bool} (h:¬0≤upF F x):openP F x b=false:=by unfold openP;rw[decide_eq_false h];simp
theorem next_has (hF:WF F d) {x k:Int} {b:Bool} (h:nextP F x b=some k):k∈kidsP F x false:=by
  unfold nextP at h
  split at h
  · split at h
    · exact List.mem_of_getLast? h
    · exact List.mem_of_head? h
  · cases h
theorem kid_rank' (hF:WF F d) {x k:Int} (h:k∈kidsF F x):hasF F k=true∧d k=d x+1∧0≤k∧hasF F x=true:=by
  cases e:F x with
  | none=>simp[kidsF,e] at h
  | some b =>
    rw[kids_some e] at h;obtain⟨_,c,hc,_⟩:=hF.kid x b e k h;exact⟨has_some hc,hF.kid_rank e h,(hF.range k c hc).1,has_some e⟩
theorem nextP_no {x:Int} {b:Bool} (h:openP F x b=false):nextP F x b=none:=by unfold nextP;rw[h];rfl
theorem nextP_nil {x:Int} {b:Bool} (h:kidsP F x false=[]):nextP F x b=none:=by unfold nextP;rw[h];split<;>simp
theorem nextP_top {x k:Int} (h:openP F x false=true) (hk:(kidsP F x false)[0]?=some k):nextP F x false=some k:=by
  unfold nextP;rw[h];rw[←List.head?_eq_getElem?] at hk
  simpa using hk
theorem nextP_bot {x k:Int} (h:openP F x true=true) (hk:(kidsP F x false)[(kidsP F x false).length - 1]?=some k):nextP F x true=some k:=by
  unfold nextP;rw[h];rw[←List.getLast?_eq_getElem?] at hk
  simpa using hk
theorem ends_go {n:Nat} {x k:Int} {b:Bool} (h:nextP F x b=some k):endsP F (n+1) x b=mS (stF F x) 0 (if b then 2 else 0)::endsP F n k b:=by rw[endsP,h]
theorem ends_stop {n:Nat} {x:Int} {b:Bool} (h:nextP F x b=none):endsP F (n+1) x b=[mS (stF F x) 0 (if b then 2 else 0)]:=by rw[endsP,h]
def DnI (F:Forest (List Value)) (d:Int→Nat) (n:Nat) (y:Int):Prop:=y= -1∨(hasF F y=true∧64≤n+d y∧0≤y)
def restP (F:Forest (List Value)) (n:Nat) (y:Int) (b:Bool):List Int:=if y= -1 then [] else endsP F n y b
end
section
variable (fb lb:Nat) (ww wh:Int)
theorem fopen0_ct (tp mb:Nat) (es:List PE) (hk:LOk es) {d:Int→Nat} (hF:WF (FoR es) d) (hg:∀x,GS (stF (FoR es) x)) (x:Int):
    Ct Tryz.prog 204 #[.pointer (some ⟨fb,0,none⟩),.int .i64 x,.int .i64 0] [treeI tp mb es,flI fb tp lb ww wh] (fun _=>True) (X:=Unit) (fun _=>.bool (openP (FoR es) x false)) (fun _=>True) (fun _=>[treeI tp mb es,flI fb tp lb ww wh]):=by
  refine Ci fun w0 _=>?_;refine gg ?_;refine eF (xC (style_ct tp mb es hk x)) fun _ _=>?_;refine WPL.ef xAl fun b7=>?_;refine WPL.ef0 (xZ (hk.styOk (x)) rfl) fun _=>?_;refine gg ?_;refine eF (xC (up_ct tp mb es hk x)) fun _ _=>?_;refine av ?_;refine nl (oo ?_);refine sq ?_;refine sqR ?_
  iterate 3 refine av ?_
  refine WPL.split 24 rfl (fun h24=>?_) (fun h24=>?_)
  ·refine gg ?_;refine WP.condT rfl ?_;refine gg ?_;exact rt1 fun w hw=>⟨(),congrArg Value.bool (by first | (rw[open_up (by omega)];done) | (unfold openP;simp_all;done) | (unfold openP;simp_all [eS];done)),trivial,hw.pk⟩
  ·refine gg ?_;refine WPL.efG (xC (style_ct tp mb es hk (upF (FoR es) x))) (fun _=>?_);refine WPL.fact (fun _=>?_);refine vg (v_part (u:=.int .i64 (val (stF (FoR es) (upF (FoR es) x)) 0)) Tryz.underlying42 rfl Tryz.isAgg28 rfl (toArr (SOk.int (hk.styOk (upF (FoR es) x)) 0 (by decide) rfl))) ?_;refine ag ?_
   iterate 2 refine av ?_
   refine WPL.split 34 rfl (fun h34=>?_) (fun h34=>?_)
   ·refine gg ?_;refine WP.condT rfl ?_;refine gg ?_;exact rt1 fun w hw=>⟨(),congrArg Value.bool (by first | (rw[open_up (by omega)];done) | (unfold openP;simp_all;done) | (unfold openP;simp_all [eS];done)),trivial,hw.pk⟩
   ·refine vg (vW (SOk.len (hk.styOk (x)))) ?_;refine WPL.efG (xC (fout_ct _ (hk.styOk x))) (fun _=>?_);refine WPL.fact (fun _=>?_);refine gg ?_;refine WP.cond rfl (fun h37=>?_) (fun h37=>?_)
    ·refine gg ?_;exact rt1 fun w hw=>⟨(),congrArg Value.bool (by first | (rw[open_up (by omega)];done) | (unfold openP;simp_all;done) | (unfold openP;simp_all [eS];done)),trivial,hw.pk⟩
    ·refine WP.skip (onto_of ?_);refine sqR ?_
     iterate 3 refine av ?_
     iterate 10 refine sk ?_
     iterate 2 refine av ?_
     refine nl (oo ?_);refine sqR ?_
     iterate 2 refine av ?_
     refine ag ?_;refine vg (vS (hk.styOk (x)) 0) ?_;refine ag ?_
     iterate 2 refine av ?_
     refine WPL.split 58 rfl (fun h58=>?_) (fun h58=>?_)
     ·refine ag ?_;refine vg (vS (hk.styOk (x)) 2) ?_;refine ag ?_
      iterate 2 refine av ?_
      refine WPL.split 63 rfl (fun h63=>?_) (fun h63=>?_)
      ·refine vg (vW (SOk.len (hk.styOk (x)))) ?_;refine WPL.efG (xC (fedges_ct _ (hk.styOk x) (hg x).eS_far)) (fun _=>?_);refine WPL.fact (fun _=>?_);refine ag ?_;refine vg (v_idx1 (j:=0) (u:=.int .i64 _) Tryz.underlying35 Tryz.isAgg3 Tryz.sizeOf3 rfl rfl rfl (by decide) rfl) ?_;refine gg ?_;exact rt1 fun w hw=>⟨(),congrArg Value.bool (by first | (rw[open_up (by omega)];done) | (unfold openP;simp_all;done) | (unfold openP;simp_all [eS];done)),trivial,hw.pk⟩
      ·refine gg ?_;exact rt1 fun w hw=>⟨(),congrArg Value.bool (by first | (rw[open_up (by omega)];done) | (unfold openP;simp_all;done) | (unfold openP;simp_all [eS];done)),trivial,hw.pk⟩
     ·refine gg ?_;exact rt1 fun w hw=>⟨(),congrArg Value.bool (by first | (rw[open_up (by omega)];done) | (unfold openP;simp_all;done) | (unfold openP;simp_all [eS];done)),trivial,hw.pk⟩
theorem fend0_ct (tp mb:Nat) (es:List PE) (hk:LOk es) {d:Int→Nat} (hF:WF (FoR es) d) (hg:∀x,GS (stF (FoR es) x)) (x0:Int) (hx:hasF (FoR es) x0=true) (hx0:0≤x0):
    Ct Tryz.prog 202 #[.pointer (some ⟨fb,0,none⟩),.int .i64 x0,.int .i64 0] [treeI tp mb es,flI fb tp lb ww wh] (fun _=>True) (X:=Unit) (fun _=>.int .i64 (endP (FoR es) x0 false)) (fun _=>True) (fun _=>[treeI tp mb es,flI fb tp lb ww wh]):=by
  refine Ci fun w0 _=>?_;refine gg ?_;refine WP.loopK (X:=Nat×Int×List Int×Option Addr×Nat) [0,2] (fun p=>[(1,.int .i64 p.2.1),(7,.slice p.2.2.2.1 p.2.2.1.length p.2.2.2.2)]) (fun p w=>(DnI (FoR es) d p.1 p.2.1∧endsP (FoR es) 64 x0 false=p.2.2.1++restP (FoR es) p.1 p.2.1 false∧p.2.2.1.length+p.1≤64)∧St w0 (foots [treeI tp mb es,flI fb tp lb ww wh]) [treeI tp mb es,flI fb tp lb ww wh,kidsI p.2.2.2.1 p.2.2.1.length p.2.2.2.2 p.2.2.1] w) (fun p=>p.1) (64,x0,[],none,0) ⟨rfl,rfl,trivial⟩ (fun w hw=>⟨⟨.inr ⟨hx,by simp only;omega,hx0⟩,by simp only[restP];rw[if_neg (by omega)];rfl,by simp⟩,hw.nilRow 3 1⟩) (fun p ρ0=>?_);obtain⟨n,x,acc,oA,oc⟩:=p;dsimp only;refine WP.fact (fun⟨hdn,hacc,hlen⟩=>?_);refine gg ?_;refine WP.condP rfl (fun h10=>?_) (fun h10=>?_)
  ·obtain⟨hh,hn64,hx1⟩:hasF (FoR es) x=true∧64≤n+d x∧0≤x:=hdn.elim (fun h=>absurd h (by omega)) id;obtain⟨bq,hbq⟩:=some_has hh;have hdp:=hF.deep x bq hbq;obtain⟨m,rfl⟩:∃m,n=m+1:=⟨n - 1,by omega⟩;refine gg ?_;refine eF (xC (style_ct tp mb es hk x)) fun _ _=>?_;refine vl (v_partA (us:=#[.int .i64 (val (stF (FoR es) (x)) 15),.int .i64 (val (stF (FoR es) (x)) 16),.int .i64 (val (stF (FoR es) (x)) 17),.int .i64 (val (stF (FoR es) (x)) 18),.int .i64 (val (stF (FoR es) (x)) 19),.int .i64 (val (stF (FoR es) (x)) 20),.int .i64 (val (stF (FoR es) (x)) 21),.int .i64 (val (stF (FoR es) (x)) 22)]) Tryz.underlying42 rfl Tryz.isAgg34 Tryz.sizeOf34 rfl (extArr (by have h:=SOk.seg (hk.styOk (x)) 8 15 (by decide) rfl;exact h))) ?_;refine av ?_;refine vl (v_idxA (j:=0) (us:=#[.int .i64 _,.int .i64 _]) Tryz.underlying34 Tryz.isAgg33 Tryz.sizeOf33 rfl rfl rfl (by decide) rfl) ?_;refine eF (xC (lenof_ct _ _ (-1) 0)) fun _ _=>?_;refine WPL.ef (xN (L1 rfl)) fun g22=>?_;refine WPL.ef (xP 1 3) fun⟨A23,c23⟩=>?_;refine gg ?_;refine eF (xC (fflows_ct tp mb es hk hF x)) fun⟨kA,kc⟩ _=>?_;refine gg ?_;refine eF (xC (fopen0_ct fb lb ww wh tp mb es hk hF hg x)) fun _ _=>?_
   iterate 2 refine av ?_
   refine WPL.splitB 42 rfl (fun h42=>?_) (fun h42=>?_)
   ·refine gg ?_;have hnx:nextP (FoR es) x false=none:=nextP_no (by simpa using h42);have hrest:restP (FoR es) (m+1) x false=[mS (stF (FoR es) x) 0 0]:=by unfold restP;rw[if_neg (by omega)];exact ends_stop hnx
    refine WP.condT rfl ?_;refine WP.region ?_;refine av ?_;exact nl fun w hw=>⟨rfl,(m,-1,acc++[mS (stF (FoR es) x) 0 0],A23,c23),(by simp only;omega),⟨rfl,(via (.slice A23 (acc.length+1) c23) rfl (by simp only;rw[List.length_append];rfl)),jP,jI,trivial⟩,⟨⟨.inl rfl,by simp only;rw[hacc,hrest];simp[restP],by simp only[List.length_append,List.length_singleton];omega⟩,by simp only;rw[List.length_append,List.length_singleton,kidsI_snoc];exact(hw.sel [3,4,0] (by decide))⟩⟩
   ·refine gg ?_;refine WP.condP rfl (fun h36=>?_) (fun h36=>?_)
    ·have hnx:nextP (FoR es) x false=none:=nextP_nil (List.eq_nil_of_length_eq_zero (by omega));have hrest:restP (FoR es) (m+1) x false=[mS (stF (FoR es) x) 0 0]:=by unfold restP;rw[if_neg (by omega)];exact ends_stop hnx
     refine WP.region ?_;refine av ?_;exact nl fun w hw=>⟨rfl,(m,-1,acc++[mS (stF (FoR es) x) 0 0],A23,c23),(by simp only;omega),⟨rfl,(via (.slice A23 (acc.length+1) c23) rfl (by simp only;rw[List.length_append];rfl)),jP,jI,trivial⟩,⟨⟨.inl rfl,by simp only;rw[hacc,hrest];simp[restP],by simp only[List.length_append,List.length_singleton];omega⟩,by simp only;rw[List.length_append,List.length_singleton,kidsI_snoc];exact(hw.sel [3,4,0] (by decide))⟩⟩
    ·have hkl:=Nat.le_trans (kidsP_le (FoR es) x false) (hF.kidsL x);have hln:(kidsP (FoR es) x false).length≠0:=by omega
     obtain⟨kid,hkid⟩:∃k,(kidsP (FoR es) x false)[0]?=some k:=⟨_,List.getElem?_eq_getElem (by omega)⟩;refine WP.holds (fun w hw=>hw.row_pos (i:=2) rfl (by omega)) (fun⟨kb,hA⟩=>?_);subst hA;have hnx:nextP (FoR es) x false=some kid:=nextP_top (by simpa using h42) hkid;have hrest:restP (FoR es) (m+1) x false=mS (stF (FoR es) x) 0 0::endsP (FoR es) m kid false:=by unfold restP;rw[if_neg (by omega)];exact ends_go hnx
     obtain⟨hk1,hk2,hk3,_⟩:=kid_rank' hF (kidsP_sub (next_has hF hnx));refine gg ?_;refine WP.condT rfl ?_;refine gg ?_;refine vl (vR 2 (by rw[List.getElem?_map,hkid];rfl)) ?_;refine av ?_;exact nl fun w hw=>⟨rfl,(m,kid,acc++[mS (stF (FoR es) x) 0 0],A23,c23),(by simp only;omega),⟨rfl,(via (.slice A23 (acc.length+1) c23) rfl (by simp only;rw[List.length_append];rfl)),jP,jI,trivial⟩,⟨⟨.inr ⟨hk1,by simp only;omega,hk3⟩,by simp only;rw[hacc,hrest];simp only[restP];rw[if_neg (by omega)];simp,by simp only[List.length_append,List.length_singleton];omega⟩,by simp only;rw[List.length_append,List.length_singleton,kidsI_snoc];exact(hw.sel [3,4,0] (by decide))⟩⟩
  ·have hfin:endsP (FoR es) 64 x0 false=acc:=hdn.elim (fun h=>by rw[hacc,h];simp[restP]) (fun h=>by omega);refine WP.exit (onto_of ?_);refine gg ?_;refine eF (xC (collapse_ct oA oc acc (by omega)) (hF:=fun w hw=>hw.rd_row1 (i:=2) (f:=Value.int .i64) rfl)) fun _ _=>?_;refine gg ?_;exact rt1 fun w hw=>⟨(),congrArg (Value.int .i64) (by unfold endP;rw[hfin]),trivial,hw.pk⟩
theorem fopen2_ct (tp mb:Nat) (es:List PE) (hk:LOk es) {d:Int→Nat} (hF:WF (FoR es) d) (hg:∀x,GS (stF (FoR es) x)) (x:Int):
    Ct Tryz.prog 204 #[.pointer (some ⟨fb,0,none⟩),.int .i64 x,.int .i64 2] [treeI tp mb es,flI fb tp lb ww wh] (fun _=>True) (X:=Unit) (fun _=>.bool (openP (FoR es) x true)) (fun _=>True) (fun _=>[treeI tp mb es,flI fb tp lb ww wh]):=by
  refine Ci fun w0 _=>?_;refine gg ?_;refine eF (xC (style_ct tp mb es hk x)) fun _ _=>?_;refine WPL.ef xAl fun b7=>?_;refine WPL.ef0 (xZ (hk.styOk (x)) rfl) fun _=>?_;refine gg ?_;refine eF (xC (up_ct tp mb es hk x)) fun _ _=>?_;refine av ?_;refine nl (oo ?_);refine sq ?_;refine sqR ?_
  iterate 3 refine av ?_
  refine WPL.split 24 rfl (fun h24=>?_) (fun h24=>?_)
  ·refine gg ?_;refine WP.condT rfl ?_;refine gg ?_;exact rt1 fun w hw=>⟨(),congrArg Value.bool (by first | (rw[open_up (by omega)];done) | (unfold openP;simp_all;done) | (unfold openP;simp_all [eS];done)),trivial,hw.pk⟩
  ·refine gg ?_;refine WPL.efG (xC (style_ct tp mb es hk (upF (FoR es) x))) (fun _=>?_);refine WPL.fact (fun _=>?_);refine vg (v_part (u:=.int .i64 (val (stF (FoR es) (upF (FoR es) x)) 0)) Tryz.underlying42 rfl Tryz.isAgg28 rfl (toArr (SOk.int (hk.styOk (upF (FoR es) x)) 0 (by decide) rfl))) ?_;refine ag ?_
   iterate 2 refine av ?_
   refine WPL.split 34 rfl (fun h34=>?_) (fun h34=>?_)
   ·refine gg ?_;refine WP.condT rfl ?_;refine gg ?_;exact rt1 fun w hw=>⟨(),congrArg Value.bool (by first | (rw[open_up (by omega)];done) | (unfold openP;simp_all;done) | (unfold openP;simp_all [eS];done)),trivial,hw.pk⟩
   ·refine vg (vW (SOk.len (hk.styOk (x)))) ?_;refine WPL.efG (xC (fout_ct _ (hk.styOk x))) (fun _=>?_);refine WPL.fact (fun _=>?_);refine gg ?_;refine WP.cond rfl (fun h37=>?_) (fun h37=>?_)
    ·refine gg ?_;exact rt1 fun w hw=>⟨(),congrArg Value.bool (by first | (rw[open_up (by omega)];done) | (unfold openP;simp_all;done) | (unfold openP;simp_all [eS];done)),trivial,hw.pk⟩
    ·refine WP.skip (onto_of ?_);refine sqR ?_
     iterate 3 refine av ?_
     iterate 2 refine ag ?_
     refine vg (vS (hk.styOk (x)) 5) ?_
     iterate 2 refine ag ?_
     refine WPL.split 45 rfl (fun h45=>?_) (fun h45=>?_)
     ·iterate 2 refine ag ?_
      refine vg (vS (hk.styOk (x)) 9) ?_
      iterate 2 refine ag ?_
      iterate 2 refine av ?_
      refine nl (oo ?_);refine sqR ?_
      iterate 2 refine av ?_
      refine WPL.split 53 rfl (fun h53=>?_) (fun h53=>?_)
      ·refine ag ?_;refine vg (vS (hk.styOk (x)) 0) ?_;refine ag ?_
       iterate 2 refine av ?_
       refine WPL.split 58 rfl (fun h58=>?_) (fun h58=>?_)
       ·refine ag ?_;refine vg (vS (hk.styOk (x)) 2) ?_;refine ag ?_
        iterate 2 refine av ?_
        refine WPL.split 63 rfl (fun h63=>?_) (fun h63=>?_)
        ·refine vg (vW (SOk.len (hk.styOk (x)))) ?_;refine WPL.efG (xC (fedges_ct _ (hk.styOk x) (hg x).eS_far)) (fun _=>?_);refine WPL.fact (fun _=>?_);refine ag ?_;refine vg (v_idx1 (j:=2) (u:=.int .i64 _) Tryz.underlying35 Tryz.isAgg3 Tryz.sizeOf3 rfl rfl rfl (by decide) rfl) ?_;refine gg ?_;exact rt1 fun w hw=>⟨(),congrArg Value.bool (by first | (rw[open_up (by omega)];done) | (unfold openP;simp_all;done) | (unfold openP;simp_all [eS];done)),trivial,hw.pk⟩
        ·refine gg ?_;exact rt1 fun w hw=>⟨(),congrArg Value.bool (by first | (rw[open_up (by omega)];done) | (unfold openP;simp_all;done) | (unfold openP;simp_all [eS];done)),trivial,hw.pk⟩
       ·refine gg ?_;exact rt1 fun w hw=>⟨(),congrArg Value.bool (by first | (rw[open_up (by omega)];done) | (unfold openP;simp_all;done) | (unfold openP;simp_all [eS];done)),trivial,hw.pk⟩
      ·refine gg ?_;exact rt1 fun w hw=>⟨(),congrArg Value.bool (by first | (rw[open_up (by omega)];done) | (unfold openP;simp_all;done) | (unfold openP;simp_all [eS];done)),trivial,hw.pk⟩
     ·refine gg ?_;exact rt1 fun w hw=>⟨(),congrArg Value.bool (by first | (rw[open_up (by omega)];done) | (unfold openP;simp_all;done) | (unfold openP;simp_all [eS];done)),trivial,hw.pk⟩
theorem fend2_ct (tp mb:Nat) (es:List PE) (hk:LOk es) {d:Int→Nat} (hF:WF (FoR es) d) (hg:∀x,GS (stF (FoR es) x)) (x0:Int) (hx:hasF (FoR es) x0=true) (hx0:0≤x0):
    Ct Tryz.prog 202 #[.pointer (some ⟨fb,0,none⟩),.int .i64 x0,.int .i64 2] [treeI tp mb es,flI fb tp lb ww wh] (fun _=>True) (X:=Unit) (fun _=>.int .i64 (endP (FoR es) x0 true)) (fun _=>True) (fun _=>[treeI tp mb es,flI fb tp lb ww wh]):=by
  refine Ci fun w0 _=>?_;refine gg ?_;refine WP.loopK (X:=Nat×Int×List Int×Option Addr×Nat) [0,2] (fun p=>[(1,.int .i64 p.2.1),(7,.slice p.2.2.2.1 p.2.2.1.length p.2.2.2.2)]) (fun p w=>(DnI (FoR es) d p.1 p.2.1∧endsP (FoR es) 64 x0 true=p.2.2.1++restP (FoR es) p.1 p.2.1 true∧p.2.2.1.length+p.1≤64)∧St w0 (foots [treeI tp mb es,flI fb tp lb ww wh]) [treeI tp mb es,flI fb tp lb ww wh,kidsI p.2.2.2.1 p.2.2.1.length p.2.2.2.2 p.2.2.1] w) (fun p=>p.1) (64,x0,[],none,0) ⟨rfl,rfl,trivial⟩ (fun w hw=>⟨⟨.inr ⟨hx,by simp only;omega,hx0⟩,by simp only[restP];rw[if_neg (by omega)];rfl,by simp⟩,hw.nilRow 3 1⟩) (fun p ρ0=>?_);obtain⟨n,x,acc,oA,oc⟩:=p;dsimp only;refine WP.fact (fun⟨hdn,hacc,hlen⟩=>?_);refine gg ?_;refine WP.condP rfl (fun h10=>?_) (fun h10=>?_)
  ·obtain⟨hh,hn64,hx1⟩:hasF (FoR es) x=true∧64≤n+d x∧0≤x:=hdn.elim (fun h=>absurd h (by omega)) id;obtain⟨bq,hbq⟩:=some_has hh;have hdp:=hF.deep x bq hbq;obtain⟨m,rfl⟩:∃m,n=m+1:=⟨n - 1,by omega⟩;refine gg ?_;refine eF (xC (style_ct tp mb es hk x)) fun _ _=>?_;refine vl (v_partA (us:=#[.int .i64 (val (stF (FoR es) (x)) 15),.int .i64 (val (stF (FoR es) (x)) 16),.int .i64 (val (stF (FoR es) (x)) 17),.int .i64 (val (stF (FoR es) (x)) 18),.int .i64 (val (stF (FoR es) (x)) 19),.int .i64 (val (stF (FoR es) (x)) 20),.int .i64 (val (stF (FoR es) (x)) 21),.int .i64 (val (stF (FoR es) (x)) 22)]) Tryz.underlying42 rfl Tryz.isAgg34 Tryz.sizeOf34 rfl (extArr (by have h:=SOk.seg (hk.styOk (x)) 8 15 (by decide) rfl;exact h))) ?_;refine av ?_;refine vl (v_idxA (j:=2) (us:=#[.int .i64 _,.int .i64 _]) Tryz.underlying34 Tryz.isAgg33 Tryz.sizeOf33 rfl rfl rfl (by decide) rfl) ?_;refine eF (xC (lenof_ct _ _ (-1) 0)) fun _ _=>?_;refine WPL.ef (xN (L1 rfl)) fun g22=>?_;refine WPL.ef (xP 1 3) fun⟨A23,c23⟩=>?_;refine gg ?_;refine eF (xC (fflows_ct tp mb es hk hF x)) fun⟨kA,kc⟩ _=>?_;refine gg ?_;refine eF (xC (fopen2_ct fb lb ww wh tp mb es hk hF hg x)) fun _ _=>?_
   iterate 2 refine av ?_
   refine WPL.splitB 42 rfl (fun h42=>?_) (fun h42=>?_)
   ·refine gg ?_;have hnx:nextP (FoR es) x true=none:=nextP_no (by simpa using h42);have hrest:restP (FoR es) (m+1) x true=[mS (stF (FoR es) x) 0 2]:=by unfold restP;rw[if_neg (by omega)];exact ends_stop hnx
    refine WP.condT rfl ?_;refine WP.region ?_;refine av ?_;exact nl fun w hw=>⟨rfl,(m,-1,acc++[mS (stF (FoR es) x) 0 2],A23,c23),(by simp only;omega),⟨rfl,(via (.slice A23 (acc.length+1) c23) rfl (by simp only;rw[List.length_append];rfl)),jP,jI,trivial⟩,⟨⟨.inl rfl,by simp only;rw[hacc,hrest];simp[restP],by simp only[List.length_append,List.length_singleton];omega⟩,by simp only;rw[List.length_append,List.length_singleton,kidsI_snoc];exact(hw.sel [3,4,0] (by decide))⟩⟩
   ·refine gg ?_;refine WP.condP rfl (fun h36=>?_) (fun h36=>?_)
    ·have hnx:nextP (FoR es) x true=none:=nextP_nil (List.eq_nil_of_length_eq_zero (by omega));have hrest:restP (FoR es) (m+1) x true=[mS (stF (FoR es) x) 0 2]:=by unfold restP;rw[if_neg (by omega)];exact ends_stop hnx
     refine WP.region ?_;refine av ?_;exact nl fun w hw=>⟨rfl,(m,-1,acc++[mS (stF (FoR es) x) 0 2],A23,c23),(by simp only;omega),⟨rfl,(via (.slice A23 (acc.length+1) c23) rfl (by simp only;rw[List.length_append];rfl)),jP,jI,trivial⟩,⟨⟨.inl rfl,by simp only;rw[hacc,hrest];simp[restP],by simp only[List.length_append,List.length_singleton];omega⟩,by simp only;rw[List.length_append,List.length_singleton,kidsI_snoc];exact(hw.sel [3,4,0] (by decide))⟩⟩
    ·have hkl:=Nat.le_trans (kidsP_le (FoR es) x false) (hF.kidsL x);have hln:(kidsP (FoR es) x false).length≠0:=by omega
     obtain⟨kid,hkid⟩:∃k,(kidsP (FoR es) x false)[(kidsP (FoR es) x false).length - 1]?=some k:=⟨_,List.getElem?_eq_getElem (by omega)⟩;refine WP.holds (fun w hw=>hw.row_pos (i:=2) rfl (by omega)) (fun⟨kb,hA⟩=>?_);subst hA;have hnx:nextP (FoR es) x true=some kid:=nextP_bot (by simpa using h42) hkid;have hrest:restP (FoR es) (m+1) x true=mS (stF (FoR es) x) 0 2::endsP (FoR es) m kid true:=by unfold restP;rw[if_neg (by omega)];exact ends_go hnx
     obtain⟨hk1,hk2,hk3,_⟩:=kid_rank' hF (kidsP_sub (next_has hF hnx));refine gg ?_;refine WP.condF rfl ?_;refine WP.region ?_
     iterate 4 refine av ?_
     refine vl (vX (((kidsP (FoR es) x false).length - 1))) ?_;refine vl (vR 2 (by rw[List.getElem?_map,hkid];rfl)) ?_;refine av ?_;exact nl fun w hw=>⟨rfl,(m,kid,acc++[mS (stF (FoR es) x) 0 2],A23,c23),(by simp only;omega),⟨rfl,(via (.slice A23 (acc.length+1) c23) rfl (by simp only;rw[List.length_append];rfl)),jP,jI,trivial⟩,⟨⟨.inr ⟨hk1,by simp only;omega,hk3⟩,by simp only;rw[hacc,hrest];simp only[restP];rw[if_neg (by omega)];simp,by simp only[List.length_append,List.length_singleton];omega⟩,by simp only;rw[List.length_append,List.length_singleton,kidsI_snoc];exact(hw.sel [3,4,0] (by decide))⟩⟩
  ·have hfin:endsP (FoR es) 64 x0 true=acc:=hdn.elim (fun h=>by rw[hacc,h];simp[restP]) (fun h=>by omega);refine WP.exit (onto_of ?_);refine gg ?_;refine eF (xC (collapse_ct oA oc acc (by omega)) (hF:=fun w hw=>hw.rd_row1 (i:=2) (f:=Value.int .i64) rfl)) fun _ _=>?_;refine gg ?_;exact rt1 fun w hw=>⟨(),congrArg (Value.int .i64) (by unfold endP;rw[hfin]),trivial,hw.pk⟩
end
end Go.Proofs.YtbedndijejpcaaaGreat
namespace Go.Proofs.YtbedndijejpcaaaGreat
open Go.RowKit
abbrev encF (f:Frm) (A:Option Addr) (c:Nat):List Value:=[.int .i64 f.id,.int .i64 f.x,.int .i64 f.y,.int .i64 f.w,.int .i64 f.h,.slice A f.kids.length c]
structure FP where
  fr:Frm
  A:Option Addr
  c:Nat
abbrev FP.enc (e:FP):List Value:=encF e.fr e.A e.c
abbrev Pool:=Nat→Option (List Value)
def Pool.Sub (H H':Pool):Prop:=∀g cs,H g=some cs→H' g=some cs
theorem Pool.Sub.refl (H:Pool):H.Sub H:=fun _ _ h=>h
theorem Pool.Sub.trans {H H' H'':Pool} (h:H.Sub H') (k:H'.Sub H''):H.Sub H'':=fun g cs e=>k g cs (h g cs e)
inductive RepK (H:Pool):Option Addr→List Frm→Prop
  | nil:RepK H none []
  | row {g:Nat} {es:List FP}:H g=some (es.flatMap FP.enc)→(∀e∈es,RepK H e.A e.fr.kids)→RepK H (some ⟨g,0,none⟩) (es.map FP.fr)
theorem RepK.mono {H H':Pool} (hs:H.Sub H') {A:Option Addr} {ks:List Frm} (h:RepK H A ks):RepK H' A ks:=by
  induction h with
  | nil=>exact .nil
  | row hg _ ih=>exact .row (hs _ _ hg) ih
def RepE (H:Pool) (e:FP):Prop:=RepK H e.A e.fr.kids
theorem RepE.mono {H H':Pool} (hs:H.Sub H') {e:FP} (h:RepE H e):RepE H' e:=RepK.mono hs h
def poolI (H:Pool):HI:=.gen (fun g=>(H g).isSome=true) (fun w=>∀g cs,H g=some cs→g<w.heap.size∧CellsAt w g 0 cs)
theorem pool_local (H:Pool):Local (fun g=>(H g).isSome=true) (fun w=>∀g cs,H g=some cs→g<w.heap.size∧CellsAt w g 0 cs):=by
  refine⟨fun w w' hk h g cs hg=>?_,fun w h b hb=>?_⟩
  · obtain ⟨h1, h2⟩ := h g cs hg
    have h3:=hk g (by show (H g).isSome=true;rw[hg];rfl);refine⟨?_,fun j u hj=>?_⟩
    · rw [Array.getElem?_eq_getElem h1] at h3
      exact lt_of_some h3
    · exact(World.cell?_of_block h3).trans (h2 j u hj)
  · obtain ⟨cs, hcs⟩ := Option.isSome_iff_exists.1 hb
    exact(h b cs hcs).1
section
variable {w0 w:World} {M:Nat→Prop} {σ τ F:List HI}
theorem St.retell (h:St w0 M (σ++F) w) (ht:∀i∈τ,i.holds w) (hp:τ.Pairwise apartI) (hf:∀b,foots τ b→foots σ b):St w0 M (τ++F) w:=by
  obtain⟨hd1,hd2,hd3⟩:=List.pairwise_append.1 h.disj;refine⟨h.os,h.tape,h.output,h.size,h.old,fun i hi=>?_,List.pairwise_append.2 ⟨hp,hd2,fun i hi j hj b hb hb'=>?_⟩,fun i hi b hb=>?_⟩
  · rcases List.mem_append.1 hi with hi | hi
    · exact ht i hi
    · exact h.all i (List.mem_append_right _ hi)
  · obtain ⟨k, hk, hkb⟩ := hf b ⟨i, hi, hb⟩
    exact hd3 k hk j hj b hkb hb'
  · rcases List.mem_append.1 hi with hi | hi
    · obtain ⟨k, hk, hkb⟩ := hf b ⟨i, hi, hb⟩
      exact h.fresh k (List.mem_append_left _ hk) b hkb
    · exact h.fresh i (List.mem_append_right _ hi) b hb
theorem St.freeze {H:Pool} {t:TypeId} {sz n cap:Nat} {A:Option Addr} {xs:List Value} (h:St w0 M (poolI H::.row t sz A n cap xs::F) w):
    ∃H',H.Sub H'∧((A=none∧xs=[])∨∃g,A=some ⟨g,0,none⟩∧H' g=some xs)∧St w0 M (poolI H'::F) w:=by
  have h0:=h;have hrow:(HI.row t sz A n cap xs).holds w:=h.all _ (by simp);have hpool:(poolI H).holds w:=h.all _ (by simp);obtain⟨h1,h2⟩:=hrow;have h1':=h1
  rcases h2 with ⟨hv,hn⟩ | ⟨g,cap',cur,hv,hb,hh,rest⟩
  · have hA : A = none := by injection hv
    subst hA;refine⟨H,Pool.Sub.refl H,.inl ⟨rfl,?_⟩,?_⟩
    · rw [hn] at h1
      exact List.eq_nil_of_length_eq_zero (by simpa using h1)
    · exact h.sub (List.Sublist.cons_cons _ (List.sublist_cons_self _ _))
  · have hA : A = some ⟨g, 0, none⟩ := by injection hv
    subst hA;have hno:H g=none:=by
      cases e:H g with
      | none=>rfl
      | some cs =>
        have hd:=List.pairwise_cons.1 h.disj;exact absurd ⟨⟨g,0,none⟩,rfl,rfl⟩ (hd.1 (.row t sz (some ⟨g,0,none⟩) n cap xs) (by simp) g (by show (H g).isSome=true;rw[e];rfl))
    have hsub:H.Sub (fun k=>if k=g then some xs else H k):=fun k cs hk=>by
      simp only
      split
      · rename_i e;subst e;rw[hno] at hk;cases hk
      · exact hk
    refine⟨_,hsub,.inr ⟨g,rfl,by simp⟩,?_⟩;refine St.retell (σ:=[poolI H,.row t sz (some ⟨g,0,none⟩) n cap xs]) (τ:=[poolI _]) (F:=F) h ?_ (List.pairwise_singleton _ _) ?_
    · intro i hi
      obtain rfl:i=_:=by simpa using hi
      refine⟨pool_local _,fun k cs hk=>?_⟩;simp only at hk
      split at hk
      · rename_i e
        subst e;cases hk;refine⟨lt_of_some hh,?_⟩;exact h0.row_at (i:=1) rfl 0 fun j u hj=>by rw[Nat.zero_add];exact hj
      · exact hpool.2 k cs hk
    · rintro b ⟨i, hi, hb'⟩
      obtain rfl:i=_:=by simpa using hi
      have hb2:((if b=g then some xs else H b)).isSome=true:=hb'
      split at hb2
      · rename_i e
        exact⟨.row t sz (some ⟨g,0,none⟩) n cap xs,by simp,⟨g,0,none⟩,rfl,e⟩
      · exact⟨poolI H,by simp,hb2⟩
theorem St.poolAt {i:Nat} {H:Pool} (h:St w0 M σ w) (hi:σ[i]?=some (poolI H)) {g:Nat} {cs:List Value} (hg:H g=some cs):CellsAt w g 0 cs:=((h.all _ (List.mem_of_getElem? hi)).2 g cs hg).2
theorem encF_len (f:Frm) (A:Option Addr) (c:Nat):(encF f A c).length=6:=rfl
theorem encF_one (f:Frm) (A:Option Addr) (c:Nat):∀u∈encF f A c,u.oneCell'=true:=by
  intro u hu;simp only[encF,List.mem_cons,List.not_mem_nil,or_false] at hu
  rcases hu with rfl | rfl | rfl | rfl | rfl | rfl<;>rfl
theorem flatF_len (es:List FP):(es.flatMap FP.enc).length=es.length*6:=by
  induction es with
  | nil=>rfl
  | cons e es ih=>rw[List.flatMap_cons,List.length_append,ih,List.length_cons];simp[encF];omega
theorem flatF_one (es:List FP):∀u∈es.flatMap FP.enc,u.oneCell'=true:=by
  intro u hu;obtain⟨e,_,he⟩:=List.mem_flatMap.1 hu;exact encF_one _ _ _ u he
end
abbrev KI:=Int×Int×Int×Int×Int
def encKL (k:KI):List Value:=[.int .i64 k.1,.int .i64 k.2.1,.int .i64 k.2.2.1,.int .i64 k.2.2.2.1,.int .i64 k.2.2.2.2]
abbrev encK (k:KI):Value:=.agg #[.int .i64 k.1,.int .i64 k.2.1,.int .i64 k.2.2.1,.int .i64 k.2.2.2.1,.int .i64 k.2.2.2.2]
theorem encKL_inj {k k':KI}:encKL k=encKL k'↔k=k':=by
  obtain⟨a,b,c,d,e⟩:=k;obtain⟨a',b',c',d',e'⟩:=k';simp[encKL]
def lookK:List (KI×Value)→KI→Option Value
  | [],_=>none
  | p::m,k=>if k=p.1 then some p.2 else lookK m k
def putK:List (KI×Value)→KI→Value→List (KI×Value)
  | [],k,v=>[(k,v)]
  | p::m,k,v=>if k=p.1 then (k,v)::m else p::putK m k v
theorem look_put (k:KI) (v:Value) (k':KI):∀m:List (KI×Value),lookK (putK m k v) k'=if k'=k then some v else lookK m k'
  | []=>by simp[putK,lookK]
  | p :: m => by
    unfold putK
    split
    · rename_i e
      simp only[lookK]
      split
      · rfl
      · rename_i h
        rw[if_neg (by rw[←e];exact h)]
    · rename_i e
      simp only[lookK];rw[look_put k v k' m]
      split
      · rename_i h
        subst h;rw[if_neg (fun e2=>e e2.symm)]
      · rfl
def entsK:List (KI×Value)→List Nat→List MapEntry
  | p::m,b::bs=>⟨encK p.1,p.2,b⟩::entsK m bs
  | _,_=>[]
def mapKP (b:Nat) (m:List (KI×Value)) (w:World):Prop:=∃(bs:List Nat) (clock:Nat),bs.length=m.length∧w.heap[b]?=some (.map (entsK m bs).toArray clock)
def mapKI (b:Nat) (m:List (KI×Value)):HI:=.gen (fun k=>k=b) (mapKP b m)
theorem mapKP_local (b:Nat) (m:List (KI×Value)):Local (fun k=>k=b) (mapKP b m):=
  ⟨fun w w' hk ⟨bs,c,h1,h4⟩=>⟨bs,c,h1,(hk b rfl).trans h4⟩,fun w ⟨bs,c,h1,h4⟩ k hk=>by subst hk;exact lt_of_some h4⟩
structure KeyOK (P:Program) (kt:TypeId):Prop where
  und:∃fs,P.underlying kt=some (.struct fs)
  chk:∀(e:Bool) (k:KI) (w:World),(Instr.checkKey e 10000 kt (encK k)).run P w=.ok () w
  eq:∀(k k':KI) (w:World),(Op.equal kt (encK k) (encK k')).run P w=.ok (decide (k=k')) w
theorem entsK_len:∀{m:List (KI×Value)} {bs:List Nat},bs.length=m.length→(entsK m bs).length=m.length
  | [],[],_=>rfl
  | _::m,_::bs,h=>by simp only[entsK,List.length_cons];rw[entsK_len (by simpa using h)]
theorem entsK_set (k:KI) (v:Value):∀(m:List (KI×Value)) (bs:List Nat) (j:Nat),bs.length=m.length→(∃u,m[j]?=some (k,u))→(entsK m bs).modify j (fun e=>{e with key:=encK k,val:=v})=entsK (m.set j (k,v)) bs
  | [],[],j,_,⟨u,hu⟩=>by simp at hu
  | p::m,b::bs,0,_,⟨u,hu⟩=>by simp[entsK]
  | p :: m, b :: bs, j + 1, h, ⟨u, hu⟩ => by
    simp only[entsK,List.modify_succ_cons,List.set_cons_succ];rw[entsK_set k v m bs j (by simpa using h) ⟨u,by simpa using hu⟩]
theorem entsK_snoc (p:KI×Value) (s:Nat):∀(m:List (KI×Value)) (bs:List Nat),bs.length=m.length→entsK (m++[p]) (bs++[s])=entsK m bs++[⟨encK p.1,p.2,s⟩]
  | [],[],_=>rfl
  | q :: m, b :: bs, h => by
    simp only[List.cons_append,entsK];rw[entsK_snoc p s m bs (by simpa using h)]
section
variable {P:Program} {kt:TypeId} (K:KeyOK P kt)
include K
theorem findAsk_K (w:World) (k:KI):∀(m:List (KI×Value)) (bs:List Nat) (i:Nat),bs.length=m.length→
    ∃r,(Instr.findAsking kt (encK k) (entsK m bs) i).run P w=.ok r w∧r.map (·.2)=lookK m k∧(∀p,r=some p→∃j,p.1=i+j∧(∀v,putK m k v=m.set j (k,v))∧j<m.length∧(∃u,m[j]?=some (k,u))∧((entsK m bs)[j]?).map (·.key)=some (encK k))∧(r=none→∀v,putK m k v=m++[(k,v)])
  | [],[],i,_=>⟨none,by simp[entsK,Instr.findAsking],rfl,fun p h=>(by cases h),fun _ _=>rfl⟩
  | p :: m, b :: bs, i, h => by
    have he:=K.eq k p.1 w
    by_cases e:k=p.1
    · rw [decide_eq_true e] at he
      refine⟨some (i,p.2),by simp[entsK,Instr.findAsking,he,Result.andThen],by simp[lookK,e],fun q hq=>?_,fun h=>(by cases h)⟩;cases hq;exact⟨0,rfl,fun v=>by simp[putK,e],by simp,⟨p.2,by simp[e]⟩,by simp[entsK,e]⟩
    · rw [decide_eq_false e] at he
      obtain⟨r,h1,h2,h3,h4⟩:=findAsk_K w k m bs (i+1) (by simpa using h);refine⟨r,by simp[entsK,Instr.findAsking,he,Result.andThen,h1],by rw[h2];simp[lookK,e],fun q hq=>?_,fun hn v=>?_⟩
      · obtain ⟨j, hj, hp, hl, ⟨u, hu⟩, hk⟩ := h3 q hq
        exact⟨j+1,by omega,fun v=>by simp[putK,e,hp v],by simp;omega,⟨u,by simpa using hu⟩,by simpa [entsK] using hk⟩
      · simp[putK,e,h4 hn v]
theorem run_findK (w:World) (k:KI) (m:List (KI×Value)) (bs:List Nat) (h:bs.length=m.length):
    ∃r,(Instr.findKey kt (encK k) (entsK m bs)).run P w=.ok r w∧r.map (·.2)=lookK m k∧(∀p,r=some p→∃j,p.1=j∧(∀v,putK m k v=m.set j (k,v))∧j<m.length∧(∃u,m[j]?=some (k,u))∧((entsK m bs)[j]?).map (·.key)=some (encK k))∧(r=none→∀v,putK m k v=m++[(k,v)]):=by
  obtain⟨fs,hu⟩:=K.und;obtain⟨r,h1,h2,h3,h4⟩:=findAsk_K K w k m bs 0 h;refine⟨r,?_,h2,fun p hp=>?_,h4⟩
  · cases m with
    | nil =>
      cases bs with
      | cons _ _=>simp at h
      | nil =>
        have hr:r=none:=by
          cases r with
          | none=>rfl
          | some q=>simp[lookK] at h2
        rw[hr];simp[entsK,Instr.findKey,run_underlying hu,Instr.findNow]
    | cons p m =>
      cases bs with
      | nil=>simp at h
      | cons b bs =>
        have:Instr.findNow (.struct fs) (encK k) (entsK (p::m) (b::bs)) 0=none:=rfl;simp only[Instr.findKey,Sem.run_bind,run_underlying hu,Result.andThen_ok,this];exact h1
  · obtain ⟨j, hj, rest⟩ := h3 p hp
    exact⟨j,by omega,rest⟩
variable {r:Option Nat} {S:World→Prop} {ρ:Env} {dst:Option Tmp} {ty:TypeId} {pos:String} {af:Array Edge} {g:Option (Nat×Bool)} {t et:TypeId} {x y v:Operand}
theorem v_lookK {b:Nat} {m:List (KI×Value)} {z:Value} {k:KI} (ht:P.underlying t=some (.map kt et)) (hz:∀w,(zeroValue et).run P w=.ok z w) (hx:evo ρ x=.map (some b)) (hy:evo ρ y=encK k) (hm:∀w,S w→mapKP b m w):
    OpV P S ⟨dst,.lookup t x y true,ty,pos,af,g⟩ ρ (.tuple #[(lookK m k).getD z,.bool (lookK m k).isSome]):=v_run fun w hw=>by
  obtain⟨bs,c,h1,h4⟩:=hm w hw;obtain⟨rr,hf,e2,_,_⟩:=run_findK K w k m bs h1;have hg:(getObj b).run P w=.ok (.map (entsK m bs).toArray c) w:=by simp[getObj,Sem.run,h4]
  have hl:(Instr.lookup t (.map (some b)) (encK k) true).run P w=.ok (.tuple #[(lookK m k).getD z,.bool (lookK m k).isSome]) w:=by
    have hf':(Instr.findKey kt (encK k) (entsK m bs).toArray.toList).run P w=.ok rr w:=by simpa using hf
    simp only[Instr.lookup,Sem.run_bind,run_underlying ht,Result.andThen_ok,hg,Sem.run_pure,K.chk,hf'];rw[←e2];cases rr with
    | none=>simp[hz]
    | some p=>simp
  simp only[execOp,Sem.run_bind,hx,hy,Sem.run_pure,Result.andThen];rw[hl]
section
variable {w0:World} {M:Nat→Prop} {σ σ':List HI}
omit K in
theorem St.mapKAt {w:World} {i b:Nat} {m:List (KI×Value)} (h:St w0 M σ w) (hi:σ[i]?=some (mapKI b m)):mapKP b m w:=(h.all _ (List.mem_of_getElem? hi)).2
omit K in
theorem St.putMapK {w:World} {i b:Nat} {m m':List (KI×Value)} {o':Obj} (h:St w0 M σ w) (hi:σ[i]?=some (mapKI b m)) (hp:∀w',w'.heap[b]?=some o'→mapKP b m' w'):St w0 M (σ.set i (mapKI b m')) (w.putObj b o'):=by
  obtain⟨bs,c,h1,h4⟩:=h.mapKAt hi;have hlt:=lt_of_some h4;refine h.upd hi (St.turn (fun k _ hn=>World.putObj_heap_other hn) ⟨mapKP_local b m',hp _ (World.putObj_heap_same hlt)⟩ (fun _ hb=>.inr hb) rfl rfl rfl (by simp))
theorem x_putK {i b:Nat} {m:List (KI×Value)} {k:KI} {u:Value} (ht:P.underlying t=some (.map kt et)) (hx:evo ρ x=.map (some b)) (hy:evo ρ y=encK k) (hv:evo ρ v=u) (hi:σ[i]?=some (mapKI b m)) (hσ:σ.set i (mapKI b (putK m k u))=σ'):
    OpX P r (St w0 M σ) ⟨dst,.mapUpdate t x y v,ty,pos,af,g⟩ ρ (X:=Unit) (fun _=>undef) (fun _=>St w0 M σ'):=OpX.of_skip rfl fun w hw=>by
  have hm:=hw.mapKAt hi;obtain⟨bs,c,h1,h4⟩:=hm;obtain⟨rr,hf,_,e3,e4⟩:=run_findK K w k m bs h1;have hf':(Instr.findKey kt (encK k) (entsK m bs).toArray.toList).run P w=.ok rr w:=by simpa using hf
  have hg:(getObj b).run P w=.ok (.map (entsK m bs).toArray c) w:=by simp[getObj,Sem.run,h4]
  cases rr with
  | none =>
    have hp:=e4 rfl;refine⟨w.putObj b (.map ((entsK m bs).toArray.push ⟨encK k,u,c⟩) (c+1)),?_,?_⟩
    · simp only[execOp,Sem.run_bind,hx,hy,hv,Sem.run_pure,Result.andThen,Instr.mapUpdate,run_underlying ht,hg,K.chk,hf',run_setObj h4]
    · rw [← hσ]
      refine hw.putMapK hi fun w' hw'=>⟨bs++[c],c+1,by rw[hp];simp[h1],?_⟩;rw[hp,entsK_snoc _ _ _ _ h1,hw'];simp
  | some p =>
    obtain⟨j,hj,hp,hl,⟨u0,hu⟩,hkey⟩:=e3 p rfl;refine⟨w.putObj b (.map ((entsK m bs).toArray.modify p.1 fun e=>{e with key:=encK k,val:=u}) c),?_,?_⟩
    · have hst:(Instr.keyThatStays ((((entsK m bs).toArray[p.1]?).map (·.key)).getD (encK k)) (encK k)).run P w=.ok (encK k) w:=by
        rw[hj,List.getElem?_toArray,hkey];simp[Instr.keyThatStays,Instr.sameBits]
      simp only[execOp,Sem.run_bind,hx,hy,hv,Sem.run_pure,Result.andThen,Instr.mapUpdate,run_underlying ht,hg,K.chk,hf',hst,run_setObj h4]
    · rw [← hσ]
      refine hw.putMapK hi fun w' hw'=>⟨bs,c,by rw[hp];simp[h1],?_⟩;rw[hp,hw',hj,←entsK_set k u m bs j h1 ⟨u0,hu⟩];simp[List.modify_toArray]
omit K in
theorem x_makeMapK {σ':Nat→List HI} (hσ:∀b,σ++[mapKI b []]=σ' b):OpX P r (St w0 M σ) ⟨dst,.makeMap t none,ty,pos,af,g⟩ ρ (X:=Nat) (fun b=>.map (some b)) (fun b=>St w0 M (σ' b)):=OpX.of_run rfl fun w hw=>by
  refine⟨w.heap.size,w.alloc (.map #[] 0),by simp[execOp,Instr.makeMap,newObj,Sem.run],?_⟩;rw[←hσ];refine hw.add ⟨rfl,rfl,rfl,by simp,fun b hb _=>Below.heap_alloc w _ b hb,?_,List.pairwise_singleton _ _,?_⟩
  · intro i hi
    obtain rfl:i=_:=by simpa using hi
    exact⟨mapKP_local _ _,[],0,rfl,World.alloc_heap_new w _⟩
  · intro i hi b hb
    obtain rfl:i=_:=by simpa using hi
    obtain rfl:b=w.heap.size:=hb;exact .inl (Nat.le_refl _)
end
end
def MOK (V:LayF) (H:Pool) (m:List (KI×Value)):Prop:=∀k v,lookK m k=some v→∃A c,v=.agg (encF (V k.1 k.2.1 k.2.2.1 k.2.2.2.1 k.2.2.2.2) A c).toArray∧RepK H A (V k.1 k.2.1 k.2.2.1 k.2.2.2.1 k.2.2.2.2).kids
theorem MOK.nil (V:LayF) (H:Pool):MOK V H []:=fun k v h=>by simp[lookK] at h
theorem MOK.mono {V:LayF} {H H':Pool} {m:List (KI×Value)} (h:MOK V H m) (hs:H.Sub H'):MOK V H' m:=fun k v hk=>by
  obtain⟨A,c,e,hr⟩:=h k v hk;exact⟨A,c,e,hr.mono hs⟩
theorem MOK.put {V:LayF} {H:Pool} {m:List (KI×Value)} (h:MOK V H m) (k:KI) {A:Option Addr} {c:Nat} (hr:RepK H A (V k.1 k.2.1 k.2.2.1 k.2.2.2.1 k.2.2.2.2).kids):MOK V H (putK m k (.agg (encF (V k.1 k.2.1 k.2.2.1 k.2.2.2.1 k.2.2.2.2) A c).toArray)):=fun k' v hv=>by
  rw[look_put] at hv
  split at hv
  · rename_i e
    cases hv;subst e;exact⟨A,c,rfl,hr⟩
  · exact h k' v hv
theorem chk_array (w:World) (em:Bool) (n:Nat) (a b:Int):(Instr.checkKey em (n+2) 109 (.agg #[.int .i64 a,.int .i64 b])).run Tryz.prog w=.ok () w:=by
  rw[Instr.checkKey];simp only[Sem.run_bind,run_underlying Tryz.underlying109,Result.andThen_ok];simp[Std.Legacy.Range.forIn_eq_forIn_range',Std.Legacy.Range.size,Tryz.sizeOf3,part,Tryz.isAgg3,Instr.checkKey,run_underlying Tryz.underlying3,Result.andThen,List.range'_succ]
theorem key_chk (e:Bool) (k:KI) (w:World):(Instr.checkKey e 10000 173 (encK k)).run Tryz.prog w=.ok () w:=by
  have hb:=fun a b=>chk_array w e 9997 a b;have hi:∀a,(Instr.checkKey e 9999 3 (.int .i64 a)).run Tryz.prog w=.ok () w:=fun a=>by rw[Instr.checkKey];simp[run_underlying Tryz.underlying3]
  rw[show (10000:Nat)=9999+1 from rfl,Instr.checkKey];simp only[Sem.run_bind,run_underlying Tryz.underlying173,Result.andThen_ok];simp[part,Tryz.isAgg3,Tryz.isAgg109,Tryz.sizeOf109,Result.andThen,hi,hb,encK]
theorem key_eq (k k':KI) (w:World):(Op.equal 173 (encK k) (encK k')).run Tryz.prog w=.ok (decide (k=k')) w:=by
  have h:=eqF (P:=Tryz.prog) 10 9990 173 [true,true,true,true,true] (by kernel_rfl) w (encKL k) (encKL k') rfl rfl;have hv:∀cs,valF Tryz.prog 173 cs=.agg cs.toArray:=fun cs=>by simp[valF,Tryz.underlying173]
  rw[hv,hv] at h;have e:eqv (encKL k) (encKL k')=decide (k=k'):=by
    by_cases hk:k=k'
    · rw[hk,eqv_self,decide_eq_true rfl]
    · rw[eqv_ne (fun h=>hk (encKL_inj.1 h)),decide_eq_false hk]
  rw[e] at h;exact h
theorem keyOK:KeyOK Tryz.prog 173:=⟨⟨_,Tryz.underlying173⟩,key_chk,key_eq⟩
theorem info115:(Tryz.prog.info? 115).map (fun i=>(i.zero,i.size,i.bytes))=some (some (.agg #[.int .i64 0,.int .i64 0,.int .i64 0,.int .i64 0,.int .i64 0,.slice none 0 0]),6,64):=by kernel_rfl
abbrev rowF (A:Option Addr) (c:Nat) (es:List FP):HI:=.row 115 6 A es.length c (es.flatMap FP.enc)
theorem rowF_snoc (A:Option Addr) (c:Nat) (es:List FP) (e:FP):rowF A c (es++[e])=.row 115 6 A (es.length+1) c (es.flatMap FP.enc++e.enc):=by simp[rowF]
theorem setF_at {es:List FP} {i o oo:Nat} {e e':FP} {v:Value} (h:es[i]?=some e) (ho:oo=i*6+o) (hlt:o<6) (he:e.enc.set o v=e'.enc):(es.flatMap FP.enc).set oo v=(es.set i e').flatMap FP.enc:=by
  subst ho;exact flat_set FP.enc 6 (fun _=>rfl) es i o e e' v h (by show o<6;exact hlt) he
theorem getF_at {es:List FP} {i o oo:Nat} {e:FP} {v:Value} (h:es[i]?=some e) (ho:oo=i*6+o) (hv:e.enc[o]?=some v):(es.flatMap FP.enc)[oo]?=some v:=by
  subst ho;exact flat_at FP.enc 6 (fun _=>rfl) es i o e v h hv
theorem tab_set {α:Type} {n k:Nat} {f:Nat→α} {v:α}:(tab n f).set k v=tab n (fun i=>if i=k then v else f i):=by
  apply List.ext_getElem?;intro i
  by_cases hi:i<n
  · rw [tab_get hi, List.getElem?_set]
    by_cases e:k=i
    · subst e
      rw[if_pos rfl,if_pos rfl,if_pos (by rw[tab_len];exact hi)]
    · rw[if_neg e,tab_get hi,if_neg (fun h=>e h.symm)]
  · rw[tab_none (by omega),List.getElem?_eq_none (by rw[List.length_set,tab_len];omega)]
theorem map_len {es:List FP} {n:Nat} {f:Nat→Frm} (h:es.map FP.fr=tab n f):es.length=n:=by
  have:=congrArg List.length h
  rwa [List.length_map,tab_len] at this
theorem map_get {es:List FP} {n k:Nat} {f:Nat→Frm} (h:es.map FP.fr=tab n f) (hk:k<n):∃e,es[k]?=some e∧e.fr=f k:=by
  have h1:=congrArg (·[k]?) h;simp only[List.getElem?_map,tab_get hk] at h1;exact Option.map_eq_some_iff.1 h1
theorem map_snoc {es:List FP} {n:Nat} {f:Nat→Frm} {e:FP} (h:es.map FP.fr=tab n f) (he:e.fr=f n):(es++[e]).map FP.fr=tab (n+1) f:=by rw[List.map_append,h,tab_succ,List.map_singleton,he]
theorem map_set' {es:List FP} {n k:Nat} {f g:Nat→Frm} {e:FP} (h:es.map FP.fr=tab n (fun i=>if i<k then g i else f i)) (he:e.fr=g k):(es.set k e).map FP.fr=tab n (fun i=>if i<k+1 then g i else f i):=by
  rw[List.map_set,h,tab_set,he];refine tab_congr fun i _=>?_
  by_cases h1:i=k
  · subst h1;rw[if_pos rfl,if_pos (by omega)]
  · rw [if_neg h1]
    by_cases h2:i<k
    · rw[if_pos h2,if_pos (by omega)]
    · rw[if_neg h2,if_neg (by omega)]
theorem all_snoc {p:FP→Prop} {es:List FP} {e:FP} (h:∀x∈es,p x) (he:p e):∀x∈es++[e],p x:=fun x hx=>by
  rcases List.mem_append.1 hx with hx | hx
  · exact h x hx
  · obtain rfl : x = e := by simpa using hx
    exact he
theorem all_set {p:FP→Prop} {es:List FP} {k:Nat} {e:FP} (h:∀x∈es,p x) (he:p e):∀x∈es.set k e,p x:=fun x hx=>by
  rcases List.mem_or_eq_of_mem_set hx with hx | rfl
  · exact h x hx
  · exact he
theorem kidsT_snoc (A:Option Addr) (k c:Nat) (f:Nat→Int):kidsI A (k+1) c (tab (k+1) f)=.row 3 1 A (k+1) c ((tab k f).map (Value.int .i64)++[.int .i64 (f k)]):=by simp[kidsI,tab_succ]
theorem gI_get {l:List Int} {k:Nat} (h:k<l.length):l[k]?=some (gI l k):=by
  unfold gI;rw[List.getD_eq_getElem?_getD,List.getElem?_eq_getElem h];rfl
section
variable (n:Nat)
theorem stack_n (A B D:Option Addr) (ca cb cd:Nat) (sizes tops bottoms:List Int) (hn:n≤10000) (h1:sizes.length=n) (h2:tops.length=n) (h3:bottoms.length=n):Ct Tryz.prog 203 #[.slice A n ca,.slice B n cb,.slice D n cd] [] (fun w=>RdI w A sizes∧RdI w B tops∧RdI w D bottoms) (X:=Option Addr×Nat)
    (fun p=>.tuple #[.slice p.1 n p.2,.int .i64 (stkAt sizes tops bottoms n)]) (fun _=>True) (fun p=>[.row 3 1 p.1 n p.2 ((stkStarts sizes tops bottoms).map (Value.int .i64))]):=by
  subst h1;have h:=stack_ct A B D ca cb cd sizes tops bottoms hn h2 h3;rw[h2,h3] at h;exact h
theorem long_n (A:Option Addr) (c:Nat) (l:List Int) (gap:Int) (hn:n≤10000) (hl:l.length=n):Ct Tryz.prog 215 #[.slice A n c,.int .i64 gap] [] (fun w=>RdI w A l) (X:=Unit) (fun _=>.int .i64 (longP l gap)) (fun _=>True) (fun _=>[]):=by
  subst hl;exact long_ct A c l gap hn
theorem starts_n (kind:Int) (A:Option Addr) (c:Nat) (l:List Int) (room gap:Int) (hn:n≤10000) (hl:l.length=n):Ct Tryz.prog 216 #[.int .i64 kind,.slice A n c,.int .i64 room,.int .i64 gap] [] (fun w=>RdI w A l) (X:=Option Addr×Nat) (fun p=>.slice p.1 n p.2) (fun _=>True) (fun p=>[.row 3 1 p.1 n p.2 ((startsP kind l room gap).map (Value.int .i64))]):=by
  subst hl;exact starts_ct kind A c l room gap hn
theorem sizes_n (A:Option Addr) (c:Nat) (l:List FItem) (room:Int) (hn:n≤64) (hl:l.length=n):Ct Tryz.prog 233 #[.slice A n c,.int .i64 room] [] (fun w=>RdE w A 5 FItem.enc l) (X:=Option Addr×Nat) (fun p=>.slice p.1 n p.2) (fun _=>True) (fun p=>[.row 3 1 p.1 n p.2 ((sizes l room).map (Value.int .i64))]):=by
  subst hl;exact sizes_ct A c l room hn
theorem break_n (A:Option Addr) (c:Nat) (l:List Int) (room gap:Int) (wrap:Bool) (hn:n≤10000) (hl:l.length=n):Ct Tryz.prog 209 #[.slice A n c,.int .i64 room,.int .i64 gap,.bool wrap] [.row 3 1 A n c (l.map (Value.int .i64))] (fun _=>True) (X:=Option Addr×Nat) (fun p=>.slice p.1 (breaksP l room gap wrap).length p.2) (fun _=>True)
    (fun p=>[.row 3 1 A n c (l.map (Value.int .i64)),pairsI p.1 (breaksP l room gap wrap).length p.2 (breaksP l room gap wrap)]):=by
  subst hl;exact break_ct A c l room gap wrap hn
end
def okA (B rw rh sw sh:Int):Prop:=(0≤rw∧rw≤B)∧(-1≤rh∧rh≤B)∧(-1≤sw∧sw≤B)∧(-1≤sh∧sh≤B)
abbrev XL:=List (KI×Value)×Pool×Option Addr×Nat
abbrev XF:=List (KI×Value)×Pool×Option Addr×Nat×List FP
section
variable (tp mb fb lb:Nat) (es:List PE) (ww wh:Int) (V L:LayF)
def LayOK (k B:Int):Prop:=∀(m:List (KI×Value)) (H:Pool) (rw rh sw sh:Int),MOK V H m→okA B rw rh sw sh→
  Ct Tryz.prog 59 #[.pointer (some ⟨fb,0,none⟩),.int .i64 k,q2 rw rh,q2 sw sh] [treeI tp mb es,flI fb tp lb ww wh,mapKI lb m,poolI H] (fun _=>True) (X:=XL) (fun p=>.agg (encF (L k rw rh sw sh) p.2.2.1 p.2.2.2).toArray)
    (fun p=>H.Sub p.2.1∧MOK V p.2.1 p.1∧RepK p.2.1 p.2.2.1 (L k rw rh sw sh).kids) (fun p=>[treeI tp mb es,flI fb tp lb ww wh,mapKI lb p.1,poolI p.2.1])
def InOK (f:Nat) (id:Int) (ks:List Int) (iw ih:Int) (R:List Frm×Int):Prop:=∀(m:List (KI×Value)) (H:Pool) (A:Option Addr) (c:Nat),MOK V H m→
  Ct Tryz.prog f #[.pointer (some ⟨fb,0,none⟩),.int .i64 id,.slice A ks.length c,q2 iw ih] [treeI tp mb es,flI fb tp lb ww wh,mapKI lb m,poolI H,kidsI A ks.length c ks] (fun _=>True) (X:=XF) (fun p=>.tuple #[.slice p.2.2.1 p.2.2.2.2.length p.2.2.2.1,.int .i64 R.2])
    (fun p=>H.Sub p.2.1∧MOK V p.2.1 p.1∧p.2.2.2.2.map FP.fr=R.1∧∀e∈p.2.2.2.2,RepE p.2.1 e) (fun p=>[treeI tp mb es,flI fb tp lb ww wh,mapKI lb p.1,poolI p.2.1,kidsI A ks.length c ks,rowF p.2.2.1 p.2.2.2.1 p.2.2.2.2])
end
end Go.Proofs.YtbedndijejpcaaaGreat
