/- FlowBlk FlowNew FlowLay FlowIds -/
import Derived.Test.YtbedndijejpcaaaGreatS20
set_option linter.unusedVariables false
set_option linter.unusedSimpArgs false
set_option linter.unusedSectionVars false
set_option maxRecDepth 100000
set_option maxHeartbeats 8000000
namespace Go.Proofs.YtbedndijejpcaaaGreat
open Go.RowKit
theorem bFrom_bd (F:Forest (List Value)) (ks:List Int) (id:Int) (h:0<ks.length):-1099511627776≤bFrom F ks id∧bFrom F ks id≤1099511627776:=by
  unfold bFrom
  split
  · omega
  · rw[bTops,gI_tab h];exact collP_bd _
theorem fblock_ct (tp mb fb lb:Nat) (es:List PE) (hk:LOk es) {d:Int→Nat} (hF:WF (FoR es) d) (hg:∀x,GS (stF (FoR es) x)) (ww wh:Int) (V L:LayF) (id:Int) (ks:List Int) (iw ih B:Int) (hn:1≤ks.length∧ks.length≤64)
    (hks:∀k∈ks,hasF (FoR es) k=true∧LB L k∧LayOK tp mb fb lb es ww wh V L k B) (hiw:0≤iw∧iw≤B) (hih:-1≤ih∧ih≤B) (hB:1099511627776≤B∧B≤1152921504606846976):
    InOK tp mb fb lb es ww wh V 176 id ks iw ih (blockP (FoR es) L ks iw ih id):=by
  intro m0 H0 kA kc hm0;refine Ci fun w0 _=>?_;refine gg ?_;refine WPL.ef xB fun b7=>?_;refine gg ?_;refine WP.loopK (X:=Nat×List (KI×Value)×Pool×List FP×Option Addr×Nat×Option Addr×Nat×Option Addr×Nat×Option Addr×Nat) [0,1,7,22,23] (fun p=>[(10,.slice p.2.2.2.2.1 p.2.2.2.1.length p.2.2.2.2.2.1),(11,.slice p.2.2.2.2.2.2.1 p.1 p.2.2.2.2.2.2.2.1),(12,.slice p.2.2.2.2.2.2.2.2.1 p.1 p.2.2.2.2.2.2.2.2.2.1),(13,.slice p.2.2.2.2.2.2.2.2.2.2.1 p.1 p.2.2.2.2.2.2.2.2.2.2.2),(24,.int .i64 (p.1:Int))]) (fun p w=>(p.1≤ks.length∧H0.Sub p.2.2.1∧MOK V p.2.2.1 p.2.1∧p.2.2.2.1.map FP.fr=tab p.1 (fun i=>{bF L ks iw ih i with x:=bX (FoR es) L ks iw ih i})∧∀e∈p.2.2.2.1,RepE p.2.2.1 e)∧St w0 (foots [treeI tp mb es,flI fb tp lb ww wh,mapKI lb m0,poolI H0,kidsI kA ks.length kc ks]) [treeI tp mb es,flI fb tp lb ww wh,mapKI lb p.2.1,poolI p.2.2.1,kidsI kA ks.length kc ks,.cl b7 109 [.int .i64 iw,.int .i64 ih],rowF p.2.2.2.2.1 p.2.2.2.2.2.1 p.2.2.2.1,kidsI p.2.2.2.2.2.2.1 p.1 p.2.2.2.2.2.2.2.1 (tab p.1 (fun i=>(bF L ks iw ih i).h)),kidsI p.2.2.2.2.2.2.2.2.1 p.1 p.2.2.2.2.2.2.2.2.2.1 (tab p.1 (fun i=>endP (FoR es) (gI ks i) false)),kidsI p.2.2.2.2.2.2.2.2.2.2.1 p.1 p.2.2.2.2.2.2.2.2.2.2.2 (tab p.1 (fun i=>endP (FoR es) (gI ks i) true))] w) (fun p=>ks.length - p.1) (0,m0,H0,[],none,0,none,0,none,0,none,0) ⟨rfl,rfl,rfl,rfl,rfl,trivial⟩ (fun w hw=>⟨⟨Nat.zero_le _,Pool.Sub.refl _,hm0,rfl,fun e h=>by simp at h⟩,(((hw.nilRow 115 6).nilRow 3 1).nilRow 3 1).nilRow 3 1⟩) (fun p ρ0=>?_);obtain⟨k,m,H,fs,eA,ec,a1,c1,a2,c2,a3,c3⟩:=p;dsimp only;refine WP.fact (fun⟨hkn,hsub,hmok,hmap,hall⟩=>?_);have hfl:=map_len hmap;refine gg ?_;refine WP.condP rfl (fun h25=>?_) (fun h25=>?_)
  ·have hkn2:k<ks.length:=by omega
   have hkid:=gI_get hkn2;obtain⟨hkh,hkb,hkl⟩:=hks (gI ks k) (gI_mem hkn2);obtain⟨hb1,hb2,hb3,hb4,hb5,hb6⟩:=hkb iw ih (-1) (-1);have hk0:0≤gI ks k:=by obtain⟨q,hq⟩:=some_has hkh;exact(hF.range _ q hq).1
   refine WP.holds (fun w hw=>hw.row_pos (i:=4) rfl (by omega)) (fun⟨pb_kr,hA_kr⟩=>?_);subst hA_kr;refine gg ?_;refine vl (vR 4 (by rw[List.getElem?_map,hkid];rfl)) ?_;refine av ?_;refine nl (oo ?_);refine sqR ?_
   iterate 3 refine av ?_
   refine vl (v_array (us:=[.int .i64 _,.int .i64 _]) Tryz.underlying109 Tryz.zeroValue109 Tryz.sizeOf3 rfl rfl rfl) ?_;refine eF (xC ((hks (gI ks k) (gI_mem hkn2)).2.2 m H iw ih (-1) (-1) hmok ⟨⟨by omega,by omega⟩,⟨by omega,by omega⟩,⟨by omega,by omega⟩,by omega,by omega⟩)) fun⟨m1,H1,fA1,fc1⟩ ⟨hsub1,hmok1,hrep1⟩=>?_;dsimp only at hsub1 hmok1 hrep1;refine WPL.ef xAl fun b16=>?_;refine WPL.ef0 (xW rfl) fun _=>?_;refine gg ?_;refine eF (xC (style_ct tp mb es hk (gI ks k))) fun _ _=>?_;refine WPL.ef xAl fun b17=>?_;refine WPL.ef0 (xZ (hk.styOk (gI ks k)) rfl) fun _=>?_;refine gg ?_;refine vl (vS2 (hk.styOk (gI ks k)) 21 22) ?_;refine gg ?_;refine vl (vS2 (hk.styOk (gI ks k)) 17 18) ?_;refine gg ?_;refine eF (xC (auto_ct iw (L (gI ks k) iw ih (-1) (-1)).w (val (kS (FoR es) ks k) 21) (val (kS (FoR es) ks k) 22) (val (kS (FoR es) ks k) 17) (val (kS (FoR es) ks k) 18) iw)) fun _ _=>?_;refine mv rfl ?_;refine gg ?_;refine WPL.ef0 (xS rfl (isI rfl)) fun _=>?_;refine gg ?_;refine WPL.ef (xN (LF rfl)) fun g60=>?_;refine WPL.ef (xP 2 12) fun⟨A61,c61⟩=>?_;refine gg ?_;refine WPL.ef (xN (L1 rfl)) fun g66=>?_;refine WPL.ef (xP 3 13) fun⟨A67,c67⟩=>?_;refine gg ?_;refine eF (xC (fend0_ct fb lb ww wh tp mb es hk hF hg (gI ks k) hkh hk0)) fun _ _=>?_;refine WPL.ef (xN (L1 rfl)) fun g72=>?_;refine WPL.ef (xP 4 14) fun⟨A73,c73⟩=>?_;refine gg ?_;refine eF (xC (fend2_ct fb lb ww wh tp mb es hk hF hg (gI ks k) hkh hk0)) fun _ _=>?_;refine WPL.ef (xN (L1 rfl)) fun g78=>?_;refine WPL.ef (xP 5 15) fun⟨A79,c79⟩=>?_;refine av ?_;refine nl (oo ?_);refine WP.region ?_
   iterate 2 refine av ?_
   exact nl fun w hw=>⟨rfl,(k+1,m1,H1,fs++[⟨{(L (gI ks k) iw ih (-1) (-1)) with x:=bX (FoR es) L ks iw ih k},fA1,fc1⟩],A61,c61,A67,c67,A73,c73,A79,c79),(by simp only;omega),⟨(via (.slice A61 (fs.length+1) c61) rfl (by simp only;rw[List.length_append];rfl)),rfl,rfl,rfl,rfl,jP,jI,rfl,jS,jI,trivial⟩,⟨⟨by simp only;omega,hsub.trans hsub1,hmok1,map_snoc hmap rfl,by exact all_snoc (p:=RepE H1) (fun x hx=>(hall x hx).mono hsub1) hrep1⟩,by simp only;rw[rowF_snoc,kidsT_snoc,kidsT_snoc,kidsT_snoc];exact(hw.sel [13,14,6,7,0,1,2,3,4,5] (by decide))⟩⟩
  ·obtain rfl:k=ks.length:=by omega
   have hfb:=bFrom_bd (FoR es) ks id (by omega);refine WP.exit (onto_of ?_);refine gg ?_;refine eF (xC (stack_n ks.length a1 a2 a3 c1 c2 c3 (bSizes L ks iw ih) (bTops (FoR es) ks false) (bTops (FoR es) ks true) (by omega) tab_len tab_len tab_len) (hF:=fun w hw=>⟨hw.rd_row1 (i:=7) (f:=Value.int .i64) rfl,hw.rd_row1 (i:=8) (f:=Value.int .i64) rfl,hw.rd_row1 (i:=9) (f:=Value.int .i64) rfl⟩)) fun⟨sA,sc⟩ _=>?_;refine mv rfl ?_
   iterate 4 refine av ?_
   refine nl (oo ?_);refine sqR ?_;refine av ?_;refine nl (oo ?_);refine WP.midS [0,1,10,13,18,19] [(20,.int .i64 (bFrom (FoR es) ks id))] ?_ (fun ρ0=>?_)
   ·refine gg ?_;refine eF (xC (fopen0_ct fb lb ww wh tp mb es hk hF hg id)) fun _ _=>?_;refine gg ?_;refine WP.cond rfl (fun h91=>?_) (fun h91=>?_)
    ·have hfr:bFrom (FoR es) ks id=gI (bTops (FoR es) ks false) 0:=by unfold bFrom;rw[if_neg (by simpa using h91)]
     have h0:(tab ks.length (fun i=>endP (FoR es) (gI ks i) false))[0]?=some (gI (bTops (FoR es) ks false) 0):=gI_get (by rw[tab_len];omega);refine WP.holds (fun w hw=>hw.row_pos (i:=6) rfl (by omega)) (fun⟨pb_r2,hA_r2⟩=>?_);subst hA_r2;refine gg ?_;refine vl (vR 6 (by rw[List.getElem?_map,h0];rfl)) ?_;refine av ?_;exact nl fun w hw=>⟨rfl,⟨(congrArg (Value.int .i64) hfr.symm),jP,jI,jS,jS,jS,jI,trivial⟩,hw.pk⟩
    ·have hfr:bFrom (FoR es) ks id=0:=by unfold bFrom;rw[if_pos (by simpa using h91)]
     exact WP.skip fun w hw=>⟨rfl,⟨(congrArg (Value.int .i64) hfr.symm),jP,jI,jS,jS,jS,jI,trivial⟩,hw.pk⟩
   ·refine gg ?_;refine WP.loopK (X:=Nat×List FP) [0,1,10,13,18,19,20,96] (fun p=>[(97,.int .i64 (p.1:Int))]) (fun p w=>(p.1≤ks.length∧p.2.map FP.fr=tab ks.length (fun i=>if i<p.1 then (fun i=>{bF L ks iw ih i with x:=bX (FoR es) L ks iw ih i,y:=bFrom (FoR es) ks id+stkStart (bSizes L ks iw ih) (bTops (FoR es) ks false) (bTops (FoR es) ks true) i}) i else (fun i=>{bF L ks iw ih i with x:=bX (FoR es) L ks iw ih i}) i)∧∀e∈p.2,RepE H e)∧St w0 (foots [treeI tp mb es,flI fb tp lb ww wh,mapKI lb m0,poolI H0,kidsI kA ks.length kc ks]) [treeI tp mb es,flI fb tp lb ww wh,mapKI lb m,poolI H,kidsI kA ks.length kc ks,rowF eA ec p.2,kidsI a2 ks.length c2 (bTops (FoR es) ks false),kidsI a3 ks.length c3 (bTops (FoR es) ks true),kidsI sA ks.length sc (stkStarts (bSizes L ks iw ih) (bTops (FoR es) ks false) (bTops (FoR es) ks true))] w) (fun p=>ks.length - p.1) (0,fs) ⟨rfl,trivial⟩ (fun w hw=>⟨⟨Nat.zero_le _,by simpa using hmap,hall⟩,(hw.sel [0,1,2,3,4,6,8,9,10] (by decide))⟩) (fun p ρ0=>?_);obtain⟨j,gs⟩:=p;dsimp only;refine WP.fact (fun⟨hjn,hmap2,hall2⟩=>?_);have hgl:=map_len hmap2;refine gg ?_;refine WP.condP rfl (fun h98=>?_) (fun h98=>?_)
    ·have hjl:j<ks.length:=by omega
     obtain⟨e,hej,hef⟩:=map_get hmap2 hjl;rw[if_neg (by omega)] at hef;have hsb:=stkStart_bd (bSizes L ks iw ih) (bTops (FoR es) ks false) (bTops (FoR es) ks true) j;have hsg:=stk_get (sizes:=bSizes L ks iw ih) (tops:=bTops (FoR es) ks false) (bottoms:=bTops (FoR es) ks true) (k:=j) (by unfold bSizes;rw[tab_len];exact hjl);refine WP.holds (fun w hw=>hw.row_pos (i:=5) rfl (by omega)) (fun⟨pb_out,hA_out⟩=>?_);subst hA_out;refine WP.holds (fun w hw=>hw.row_pos (i:=8) rfl (by omega)) (fun⟨pb_st,hA_st⟩=>?_);subst hA_st;refine gg ?_;refine WP.drawS (some 11) [(0,true),(1,true),(2,true),(3,true),(4,true),(5,true),(6,true),(7,true),(8,false),(9,false),(10,true),(11,false)] mixed (by kernel_rfl) (by decide) (fun _ h=>h.drawn) ?_;refine gg ?_;refine tD (vR 8 (by rw[List.getElem?_map,hsg];rfl)) ?_;refine ad ?_;refine WPD.val rfl (v_index (j:=j) Tryz.underlying113 Tryz.sizeOf115 rfl rfl rfl (by omega)) (fun _ h=>h) ?_;refine WPD.val rfl (v_field (off:=1) Tryz.underlying115 rfl Tryz.sizeOf109 rfl) (fun _ h=>h) ?_;refine gg ?_;refine WPD.ef0 rfl (x_storeRow' (u:=.int .i64 _) (xs':=(gs.set j ⟨{e.fr with y:=bFrom (FoR es) ks id+stkStart (bSizes L ks iw ih) (bTops (FoR es) ks false) (bTops (FoR es) ks true) j},e.A,e.c⟩).flatMap FP.enc) (σ':=[_,_,_,_,_,_,_,_,_]) Tryz.sizeOf3 rfl rfl (i:=5) rfl (by rw[flatF_len];omega) (setF_at hej (o:=2) (by omega) (by decide) rfl) rfl) (fun h=>absurd rfl h) (fun _=>?_);refine WPD.nil (onto_of ?_);refine WP.region ?_
     iterate 2 refine av ?_
     exact nl fun w hw=>⟨rfl,(j+1,gs.set j ⟨{e.fr with y:=bFrom (FoR es) ks id+stkStart (bSizes L ks iw ih) (bTops (FoR es) ks false) (bTops (FoR es) ks true) j},e.A,e.c⟩),(by simp only;omega),⟨rfl,jP,jI,jS,jS,jS,jI,jI,jI,trivial⟩,⟨⟨by simp only;omega,map_set' hmap2 (by simp only;rw[hef]),all_set hall2 (by have:=hall2 e (List.mem_of_getElem? hej);exact this)⟩,by simp only[rowF,List.length_set];exact hw.pk⟩⟩
    ·obtain rfl:j=ks.length:=by omega
     have hfin:gs.map FP.fr=(blockP (FoR es) L ks iw ih id).1:=by rw[hmap2];unfold blockP;exact tab_congr fun i hi=>by rw[if_pos hi]
     have hsab:=stkAt_bd (bSizes L ks iw ih) (bTops (FoR es) ks false) (bTops (FoR es) ks true) ks.length;refine WP.exit (onto_of ?_);refine WP.midS [10,20] [(19,.int .i64 (stkAt (bSizes L ks iw ih) (bTops (FoR es) ks false) (bTops (FoR es) ks true) ks.length+(if openP (FoR es) id true then 0 else gI (bTops (FoR es) ks true) (ks.length - 1))))] ?_ (fun ρ0=>?_)
     ·refine gg ?_;refine eF (xC (fopen2_ct fb lb ww wh tp mb es hk hF hg id)) fun _ _=>?_;refine gg ?_;refine WP.cond rfl (fun h115=>?_) (fun h115=>?_)
      ·have hbo:openP (FoR es) id true=false:=by simpa using h115
       have h9:(bTops (FoR es) ks true)[ks.length - 1]?=some (gI (bTops (FoR es) ks true) (ks.length - 1)):=gI_get (by rw[bTops,tab_len];omega);have hbb:-1099511627776≤gI (bTops (FoR es) ks true) (ks.length - 1)∧gI (bTops (FoR es) ks true) (ks.length - 1)≤1099511627776:=by rw[bTops,gI_tab (by omega)];exact collP_bd _
       refine WP.holds (fun w hw=>hw.row_pos (i:=5) rfl (by omega)) (fun⟨pb_r3,hA_r3⟩=>?_);subst hA_r3;refine WP.region ?_
       iterate 5 refine av ?_
       refine vl (vX ((ks.length - 1))) ?_;refine vl (vR 5 (by rw[List.getElem?_map,h9];rfl)) ?_
       iterate 2 refine av ?_
       exact nl fun w hw=>⟨rfl,⟨(congrArg (Value.int .i64) (by rw[hbo];simp)),jS,jI,trivial⟩,hw.pk⟩
      ·have hbo:openP (FoR es) id true=true:=by simpa using h115
       exact WP.skip fun w hw=>⟨rfl,⟨(congrArg (Value.int .i64) (by rw[hbo];simp)),jS,jI,trivial⟩,hw.pk⟩
     ·have hsb9:-1099511627776≤(if openP (FoR es) id true then 0 else gI (bTops (FoR es) ks true) (ks.length - 1))∧(if openP (FoR es) id true then 0 else gI (bTops (FoR es) ks true) (ks.length - 1))≤1099511627776:=by
        split
        · omega
        · rw[bTops,gI_tab (by omega)];exact collP_bd _
      refine gg ?_;exact rt2 fun w hw=>⟨(m,H,eA,ec,gs),congrArg (fun q=>Value.tuple #[.slice eA q ec,.int .i64 (blockP (FoR es) L ks iw ih id).2]) (hfl.trans hgl.symm),⟨hsub,hmok,hfin,hall2⟩,hw.pk⟩
theorem v_of {P:Program} {S:World→Prop} {o:Oper} {ρ:Env} {v v':Value} (h:OpV P S o ρ v) (e:v=v'):OpV P S o ρ v':=e▸h
theorem WP.freezeF {P:Program} {r:Option Nat} {N:Nat} {Q:XP} {ρ:Env} {ds:List Deferred} {c:Code} {w0:World} {M:Nat→Prop} {H:Pool} {F:List HI} {A:Option Addr} {ca:Nat} {es:List FP} (hall:∀e∈es,RepE H e)
    (h:∀H',H.Sub H'→RepK H' A (es.map FP.fr)→WP P r N c Q ρ ds (St w0 M (poolI H'::F))):WP P r N c Q ρ ds (St w0 M (poolI H::rowF A ca es::F)):=fun w hw=>by
  obtain⟨H',hs,hA,hw'⟩:=hw.freeze;refine h H' hs ?_ w hw'
  rcases hA with ⟨rfl,hx⟩ | ⟨g,rfl,hg⟩
  · have hl := congrArg List.length hx
    rw[flatF_len] at hl;have:es=[]:=List.eq_nil_of_length_eq_zero (by simp at hl;omega);subst this;exact .nil
  · exact .row hg fun e he=>(hall e he).mono hs
def wayF (d:Int):Nat:=if d=1 then 177 else if d=2 then 178 else 176
def wayM:List (Int×Value):=[(0,.func (.func 176) #[] #[]),(1,.func (.func 177) #[] #[]),(2,.func (.func 178) #[] #[])]
theorem way_look {d:Int} (h:d=0∨d=1∨d=2) (z:Value):(lookM wayM d).getD z=.func (.func (wayF d)) #[] #[]:=by rcases h with rfl | rfl | rfl<;>rfl
theorem way_call {d:Int} (h:d=0∨d=1∨d=2) (args:Array Value) (w:World):(callFunc (wayF d) args).run Tryz.prog w=.ok (.enter (wayF d) args) w:=by
  rcases h with rfl | rfl | rfl
  · exact Tryz.call176 args w
  · exact Tryz.call177 args w
  · exact Tryz.call178 args w
theorem ways_ct:Ct Tryz.prog 147 #[] [] (fun _=>True) (X:=Nat) (fun b=>.map (some b)) (fun _=>True) (fun b=>[mapI b wayM]):=by
  refine Ci fun w0 _=>?_;refine sqR ?_;refine sg rfl ?_;refine gg ?_;refine WPL.ef (x_makeMap (σ':=fun _=>[_]) (fun _=>rfl)) (fun mp1=>?_);refine WPL.ef0 (x_mapIns (k:=0) (u:=.func (.func 176) #[] #[]) (σ':=[_]) Tryz.underlying210 Tryz.underlying28 rfl rfl rfl (i:=0) rfl rfl) (fun _=>?_);refine WPL.ef0 (x_mapIns (k:=1) (u:=.func (.func 177) #[] #[]) (σ':=[_]) Tryz.underlying210 Tryz.underlying28 rfl rfl rfl (i:=0) rfl rfl) (fun _=>?_);refine WPL.ef0 (x_mapIns (k:=2) (u:=.func (.func 178) #[] #[]) (σ':=[_]) Tryz.underlying210 Tryz.underlying28 rfl rfl rfl (i:=0) rfl rfl) (fun _=>?_);refine mv (v:=.map _) rfl ?_;refine sg (v:=.map _) rfl ?_;refine gg ?_;exact WP.ret1 Tryz.results147 (fun _ h=>h) (fun w hw=>⟨mp1,rfl,trivial,(hw.sel [0] (by decide))⟩)
theorem fat_at {es:List FP} {j:Nat} {e:FP} (h:es[j]?=some e):∀(q:Nat) (u:Value),([.int .i64 e.fr.x,.int .i64 e.fr.y]:List Value)[q]?=some u→(es.flatMap FP.enc)[0+j*6+1+q]?=some u
  | 0,u,hq=>getF_at h (o:=1) (by omega) (by simpa using hq)
  | 1,u,hq=>getF_at h (o:=2) (by omega) (by simpa using hq)
  | q+2,u,hq=>by simp at hq
theorem ihEnd_a {s:List Value} {rh ih n:Int} (h:ih= -1):ihEnd s rh ih n=limH s (max n 0) rh:=if_pos h
theorem ihEnd_b {s:List Value} {rh ih n:Int} (h:¬ih= -1):ihEnd s rh ih n=ih:=if_neg h
def dF:Frm:=⟨0,0,0,0,0,[]⟩
section
variable (tp mb fb lb:Nat) (es:List PE) (hk:LOk es) {d:Int→Nat} (hF:WF (FoR es) d) (hg:∀x,GS (stF (FoR es) x)) (hK:∀x,(kidsF (FoR es) x).length≤64) (ww wh:Int) (V L:LayF) (id:Int) (B:Int) (hB:281474976710656≤B∧B≤2251799813685248)
    (hks:∀k∈kidsF (FoR es) id,LB L k∧LayOK tp mb fb lb es ww wh V L k B) (hww:0≤ww∧ww≤1048576) (hwh:0≤wh∧wh≤1048576)
include hk hF hg hK hB hks in
theorem fin_ct {iw ih:Int} (hiw:0≤iw∧iw≤B) (hih:-1≤ih∧ih≤B) (hne:kidsP (FoR es) id false≠[]):InOK tp mb fb lb es ww wh V (wayF (val (stF (FoR es) id) 0)) id (kidsP (FoR es) id false) iw ih (inP (FoR es) L id iw ih):=by
  have hl:=Nat.le_trans (kidsP_le (FoR es) id false) (hK id);have hp:0<(kidsP (FoR es) id false).length:=List.length_pos_iff.2 hne;have hn:1≤(kidsP (FoR es) id false).length∧(kidsP (FoR es) id false).length≤64:=⟨hp,hl⟩;have hks':∀k∈kidsP (FoR es) id false,hasF (FoR es) k=true∧LB L k∧LayOK tp mb fb lb es ww wh V L k B:=fun k h=>⟨(kid_rank' hF (kidsP_sub h)).1,hks k (kidsP_sub h)⟩;have hd:=disp_cases (hg id) (shown_disp hF (x:=id) (a:=false) (gI_mem (l:=kidsP (FoR es) id false) (i:=0) hp));unfold inP wayF;rw[if_neg hne]
  rcases hd with h | h | h
  · rw [h]
    exact fblock_ct tp mb fb lb es hk hF hg ww wh V L id _ iw ih B hn hks' hiw hih (by omega)
  · rw [h]
    exact frow_ct tp mb fb lb es hk hF hg ww wh V L id _ iw ih B hn hks' hiw hih hB
  · rw [h]
    exact fcolumn_ct tp mb fb lb es hk hF hg ww wh V L id _ iw ih B hn hks' hiw hih hB
include hk hF hg hK hB hks hww hwh in
theorem fanew_ct (rw rh sw sh:Int) (hok:okA (B - 8796093022208) rw rh sw sh):ApOK tp mb fb lb es ww wh V 110 [.int .i64 id,q2 rw rh,q2 sw sh] (layStep (FoR es) ww wh L id rw rh sw sh):=by
  intro m0 H0 hm0;obtain⟨hrw,hrh,hsw,hsh⟩:=hok;have hiw:=(hg id).iwP_bd rw sw;have hih:=(hg id).ihP_bd rh sh;have hea:=(hg id).eA_bd;have hed:=(hg id).eD_bd;have heaw:eA (stF (FoR es) id)=eS (stF (FoR es) id) 3+eS (stF (FoR es) id) 1:=rfl;have hedw:eD (stF (FoR es) id)=eS (stF (FoR es) id) 0+eS (stF (FoR es) id) 2:=rfl;have he0:=(hg id).eS_bd 0 (by decide);have he3:=(hg id).eS_bd 3 (by decide);have hin:=inP_bd hF hg hK (L:=L) (iw:=iwP (stF (FoR es) id) rw sw) (fun k hk=>(hks k hk).1) (show ihP (stF (FoR es) id) rh sh≤B by omega) hB.2 hih.1;have hil:=inP_len hK (L:=L) (id:=id) (iw:=iwP (stF (FoR es) id) rw sw) (ih:=ihP (stF (FoR es) id) rh sh);have hak:=Nat.le_trans (kidsP_le (FoR es) id true) (hK id);have hie:=ihEnd_bd (stF (FoR es) id) rh (ihP (stF (FoR es) id) rh sh) (inP (FoR es) L id (iwP (stF (FoR es) id) rw sw) (ihP (stF (FoR es) id) rh sh)).2 hih.1;refine Ci fun w0 _=>?_;refine gg ?_;refine WPL.ef xB fun b6=>?_;refine WPL.ef xB fun b7=>?_;refine WPL.ef xAl fun b8=>?_;refine gg ?_;refine eF (xC (style_ct tp mb es hk id)) fun _ _=>?_;refine WPL.ef xAl fun b9=>?_;refine WPL.ef0 (xZ (hg id).ok rfl) fun _=>?_;refine gg ?_;refine vl (vW (SOk.len (hg id).ok)) ?_;refine eF (xC (fedges_ct _ (hg id).ok (hg id).eS_far)) fun _ _=>?_;refine WPL.ef xAl fun b10=>?_;refine WPL.ef0 (xW rfl) fun _=>?_;refine gg ?_;refine wG [0,1,2,3,4,5,6,7,8] ?_;refine tF 0 (vW (SOk.len (hg id).ok)) ?_;refine aG 1 ?_;refine aG 2 ?_;refine aG 3 ?_;refine aG 4 ?_;refine tF 6 (vW (SOk.len (hg id).ok)) ?_;refine aG 7 ?_;refine aG 8 ?_;refine aG 9 ?_;refine aG 10 ?_;refine fK 5 13 ?_ ?_
  case' _=>
   refine fF (xC (fwide_ct (stF (FoR es) id) (hg id).ok rw sw (hg id).eS_all (by omega) (by omega))) fun _ _=>?_;refine fK 11 13 ?_ ?_
   case' _=>
    refine fF (xC (fhigh_ct (stF (FoR es) id) (hg id).ok rh sh (hg id).eS_all (by omega) (by omega))) fun _ _=>?_;refine tG 12 rfl (v_array (us:=[.int .i64 _,.int .i64 _]) Tryz.underlying109 Tryz.zeroValue109 Tryz.sizeOf3 rfl rfl rfl) ?_;refine fO 13 ?_;refine fE xAl fun b11=>?_
   rotate_left
   case' _=>
    refine fE xAl fun b11=>?_;refine fO 11 ?_;refine fF (xC (fhigh_ct (stF (FoR es) id) (hg id).ok rh sh (hg id).eS_all (by omega) (by omega))) fun _ _=>?_;refine tG 12 rfl (v_array (us:=[.int .i64 _,.int .i64 _]) Tryz.underlying109 Tryz.zeroValue109 Tryz.sizeOf3 rfl rfl rfl) ?_
  rotate_left 2
  case' _=>
   refine fE xAl fun b11=>?_;refine fO 5 ?_;refine fF (xC (fwide_ct (stF (FoR es) id) (hg id).ok rw sw (hg id).eS_all (by omega) (by omega))) fun _ _=>?_;refine fO 11 ?_;refine fF (xC (fhigh_ct (stF (FoR es) id) (hg id).ok rh sh (hg id).eS_all (by omega) (by omega))) fun _ _=>?_;refine tG 12 rfl (v_array (us:=[.int .i64 _,.int .i64 _]) Tryz.underlying109 Tryz.zeroValue109 Tryz.sizeOf3 rfl rfl rfl) ?_
  all_goals
   refine fO 14 ?_;refine fE0 (xW rfl) fun _=>?_;refine fN (oo ?_);refine sqR ?_;refine av ?_;refine vl (v_struct (us:=[.int .i64 _,.int .i64 _,.int .i64 _,.int .i64 _,.int .i64 _,.slice _ _ _]) (pl:=[(0,1),(1,2),(3,2),(5,1)]) Tryz.underlying115 Tryz.zeroValue115 rfl (by kernel_rfl) rfl rfl (by kernel_rfl)) ?_;refine WPL.ef xAl fun b12=>?_;refine WPL.ef0 (xW rfl) fun _=>?_;refine gg ?_;refine vl (vS (hg id).ok 54) ?_;refine av ?_;refine nl (oo ?_);refine WP.midK [0,1,6,8,9,10,11,12] (X:=List (KI×Value)×Pool×List FP×Option Addr×Nat) (fun p=>[(13,.int .i64 (inP (FoR es) L id (iwP (stF (FoR es) id) rw sw) (ihP (stF (FoR es) id) rh sh)).2)]) (fun p=>fun w=>(H0.Sub p.2.1∧MOK V p.2.1 p.1∧p.2.2.1.map FP.fr=(inP (FoR es) L id (iwP (stF (FoR es) id) rw sw) (ihP (stF (FoR es) id) rh sh)).1∧∀e∈p.2.2.1,RepE p.2.1 e)∧St w0 (foots [treeI tp mb es,flI fb tp lb ww wh,mapKI lb m0,poolI H0]) [treeI tp mb es,flI fb tp lb ww wh,mapKI lb p.1,poolI p.2.1,.cl b6 109 [.int .i64 rw,.int .i64 rh],.cl b8 115 [.int .i64 0,.int .i64 0,.int .i64 0,.int .i64 0,.int .i64 0,.slice none 0 0],.cl b9 42 (stF (FoR es) id),.cl b10 35 [.int .i64 (eS (stF (FoR es) id) 0),.int .i64 (eS (stF (FoR es) id) 1),.int .i64 (eS (stF (FoR es) id) 2),.int .i64 (eS (stF (FoR es) id) 3)],.cl b11 109 [.int .i64 (iwP (stF (FoR es) id) rw sw),.int .i64 (ihP (stF (FoR es) id) rh sh)],.cl b12 115 [.int .i64 id,.int .i64 0,.int .i64 0,.int .i64 0,.int .i64 0,.slice p.2.2.2.1 p.2.2.1.length p.2.2.2.2],rowF p.2.2.2.1 p.2.2.2.2 p.2.2.1] w) ?_ (fun p ρ0=>?_)
   ·refine gg ?_;refine eF (xC (fflows_ct tp mb es hk hF id)) fun⟨kA,kc⟩ _=>?_;refine gg ?_;refine WP.condP rfl (fun h53=>?_) (fun h53=>?_)
    ·have hne:(kidsP (FoR es) id false)≠[]:=by intro h;rw[h] at h53;simp at h53
     have hd:=disp_cases (hg id) (shown_disp hF (x:=id) (a:=false) (gI_mem (l:=(kidsP (FoR es) id false)) (i:=0) (List.length_pos_iff.2 hne)));refine wP none [3,4,5,6,7,8] [pT 1,pT 2,pT 4,pT 5,pT 6,pT 7,pF 0,pF 3,pF 8,pT 9,pT 10,pT 11,pT 12,pF 13,pT 14] ?_;refine gg ?_;refine tD (vS (hg id).ok 0) ?_;refine gg ?_;refine dG (xC ways_ct) fun wb _=>?_;refine WPD.val rfl (v_of (v_lookup (m:=wayM) (k:=val (stF (FoR es) id) 0) Tryz.underlying210 Tryz.underlying28 Tryz.zeroValue209 rfl rfl (fun w hw=>(hw.mapAt (i:=12) rfl))) (way_look hd _)) (fun _ h=>h.sel [3,4,5,6,7,8] (by decide)) ?_;refine dG (xV (fin_ct tp mb fb lb es hk hF hg hK ww wh V L id B hB hks (iw:=(iwP (stF (FoR es) id) rw sw)) (ih:=(ihP (stF (FoR es) id) rh sh)) (by omega) (by omega) hne m0 H0 kA kc hm0) (way_call hd)) fun⟨m1,H1,gA,gc,gs⟩ ⟨hsub1,hmok1,hgs,hga⟩=>?_;dsimp only at hsub1 hmok1 hgs hga;refine WPD.take rfl (v_move rfl) ?_ (fun _ h=>h.sel [0,1,2,3,4,5] (by decide));refine WPD.take rfl (v_extract (v:=.slice _ _ _) rfl rfl) ?_ (fun _ h=>h.sel [0,1,2,3,4,5] (by decide));refine WPD.take rfl (v_extract (v:=.int .i64 _) rfl rfl) ?_ (fun _ h=>h.sel [0,1,2,3,4,5] (by decide));refine WPD.take rfl (v_fieldL (o':=5) Tryz.underlying115 rfl Tryz.sizeOf113 rfl rfl) ?_ (fun _ h=>h.sel [0,1,2,3,4,5] (by decide));refine WPD.ef0 rfl (x_store (u:=.slice _ _ _) (σ':=[_,_,_,_,_,_,.cl _ _ [_,_,_,_,_,_],_,_,_,_,_,_,_]) Tryz.sizeOf113 rfl rfl (i:=6) rfl (Nat.lt_of_lt_of_le (Nat.lt_succ_self _) (Nat.le_of_ble_eq_true rfl)) rfl) (fun _ _ _ h=>h.sel [0,1,2,3,4,5] (by decide)) (fun _=>?_);refine ad ?_;exact WPD.nil fun w hw=>⟨rfl,(m1,H1,gs,gA,gc),⟨rfl,jP,jI,rfl,rfl,rfl,rfl,rfl,rfl,trivial⟩,⟨hsub1,hmok1,hgs,hga⟩,hw.pk⟩
    ·have hnil:(inP (FoR es) L id (iwP (stF (FoR es) id) rw sw) (ihP (stF (FoR es) id) rh sh))=([],val (stF (FoR es) id) 54):=if_pos (List.eq_nil_of_length_eq_zero (by omega));exact WP.skip fun w hw=>⟨rfl,(m0,H0,[],none,0),⟨(congrArg (Value.int .i64) (by rw[hnil])),jP,jI,rfl,rfl,rfl,rfl,rfl,rfl,trivial⟩,⟨Pool.Sub.refl _,hm0,by rw[hnil];rfl,fun e h=>by simp at h⟩,St.nilRow ((hw.sel [10,0,1,2,3,5,6,7,8,9] (by decide))) 115 6⟩
   ·obtain⟨m,H,gs,gA,gc⟩:=p;dsimp only;refine WP.fact (fun⟨hsub,hmok,hmap,hall⟩=>?_);refine gg ?_;refine WP.loopK (X:=Nat×List FP) [0,1,6,8,9,10,11,12,13,69] (fun p=>[(70,.int .i64 (p.1:Int))]) (fun p w=>(p.1≤gs.length∧p.2.map FP.fr=tab (inP (FoR es) L id (iwP (stF (FoR es) id) rw sw) (ihP (stF (FoR es) id) rh sh)).1.length (fun i=>if i<p.1 then moveF (FoR es) (stF (FoR es) id) (iwP (stF (FoR es) id) rw sw) (ihP (stF (FoR es) id) rh sh) ((inP (FoR es) L id (iwP (stF (FoR es) id) rw sw) (ihP (stF (FoR es) id) rh sh)).1.getD i dF) else (inP (FoR es) L id (iwP (stF (FoR es) id) rw sw) (ihP (stF (FoR es) id) rh sh)).1.getD i dF)∧∀e∈p.2,RepE H e)∧St w0 (foots [treeI tp mb es,flI fb tp lb ww wh,mapKI lb m0,poolI H0]) [treeI tp mb es,flI fb tp lb ww wh,mapKI lb m,poolI H,.cl b6 109 [.int .i64 rw,.int .i64 rh],.cl b8 115 [.int .i64 0,.int .i64 0,.int .i64 0,.int .i64 0,.int .i64 0,.slice none 0 0],.cl b9 42 (stF (FoR es) id),.cl b10 35 [.int .i64 (eS (stF (FoR es) id) 0),.int .i64 (eS (stF (FoR es) id) 1),.int .i64 (eS (stF (FoR es) id) 2),.int .i64 (eS (stF (FoR es) id) 3)],.cl b11 109 [.int .i64 (iwP (stF (FoR es) id) rw sw),.int .i64 (ihP (stF (FoR es) id) rh sh)],.cl b12 115 [.int .i64 id,.int .i64 0,.int .i64 0,.int .i64 0,.int .i64 0,.slice gA gs.length gc],rowF gA gc p.2] w) (fun p=>gs.length - p.1) (0,gs) ⟨rfl,trivial⟩ (fun w hw=>⟨⟨Nat.zero_le _,by rw[hmap];simp only[Nat.not_lt_zero,if_false];exact(tab_self _ dF).symm,hall⟩,(hw.sel [0,1,2,3,4,5,6,7,8,9,10] (by decide))⟩) (fun p ρ0=>?_);obtain⟨j,hs⟩:=p;dsimp only;refine WP.fact (fun⟨hjn,hmap1,hall1⟩=>?_);have hhl:=map_len hmap1;have hgl:gs.length=(inP (FoR es) L id (iwP (stF (FoR es) id) rw sw) (ihP (stF (FoR es) id) rh sh)).1.length:=by rw[←hmap,List.length_map]
    refine gg ?_;refine WP.condP rfl (fun h71=>?_) (fun h71=>?_)
    ·have hjl:j<(inP (FoR es) L id (iwP (stF (FoR es) id) rw sw) (ihP (stF (FoR es) id) rh sh)).1.length:=by omega
     obtain⟨e,hej,hef⟩:=map_get hmap1 hjl;rw[if_neg (by omega)] at hef;have hfb:=hin.1 e.fr (by rw[hef,List.getD_eq_getElem?_getD,List.getElem?_eq_getElem hjl];exact List.getElem_mem hjl);unfold FB at hfb;have hmx:=movX_bd (stF (FoR es) e.fr.id) (iwP (stF (FoR es) id) rw sw);have hmy:=movY_bd (stF (FoR es) e.fr.id) (ihP (stF (FoR es) id) rh sh);refine WP.holds (fun w hw=>hw.row_pos (i:=10) rfl (by omega)) (fun⟨pb_kd,hA_kd⟩=>?_);subst hA_kd;refine gg ?_;refine wP (some 22) [1,2,3,4,5,6,7,8,9,10] [pT 0,pT 1,pT 2,pT 3,pT 4,pT 5,pT 8,pT 9,pT 10,pT 11,pT 12,pT 13,pT 14,pT 15,pT 17,pF 6,pF 7,pF 16,pF 18,pF 19,pF 20,pT 21,pF 22] ?_
     iterate 4 refine ad ?_
     refine tE rfl (v_loadA (cs:=[.int .i64 e.fr.x,.int .i64 e.fr.y]) Tryz.isAgg109 Tryz.sizeOf109 rfl (fun w hw=>hw.row_at (i:=9) rfl _ (fat_at hej))) ?_
     iterate 8 refine ad ?_
     refine tE rfl (v_load1 (u:=.int .i64 e.fr.id) Tryz.isAgg3 rfl (fun w hw=>hw.row_at1 (i:=9) (k:=0+j*6) rfl (getF_at hej (o:=0) (by omega) rfl) (by omega))) ?_;refine gg ?_;refine dG (xC (fbegins_ct (eS (stF (FoR es) id) 0) (eS (stF (FoR es) id) 1) (eS (stF (FoR es) id) 2) (eS (stF (FoR es) id) 3))) fun _ _=>?_;refine dG (xC (fplus_ct e.fr.x e.fr.y (eS (stF (FoR es) id) 3) (eS (stF (FoR es) id) 0) (by omega) (by omega))) fun _ _=>?_;refine dG (xC (style_ct tp mb es hk e.fr.id)) fun _ _=>?_;refine dG (xC (fmoved_ct (stF (FoR es) e.fr.id) (hk.styOk e.fr.id) (iwP (stF (FoR es) id) rw sw) (ihP (stF (FoR es) id) rh sh))) fun _ _=>?_;refine dG (xC (fplus_ct (e.fr.x+eS (stF (FoR es) id) 3) (e.fr.y+eS (stF (FoR es) id) 0) (movX (stF (FoR es) e.fr.id) (iwP (stF (FoR es) id) rw sw)) (movY (stF (FoR es) e.fr.id) (ihP (stF (FoR es) id) rh sh)) (by omega) (by omega))) fun _ _=>?_;refine WPD.val rfl (v_nil rfl) (fun _ h=>h.sel [0,1,2,3,4,5,6,7,8,9] (by decide)) ?_;refine gg ?_;refine WPD.ef0 rfl (x_storeRowA' (o:=0+j*6+1) (us:=[_,_]) (xs':=(hs.set j ⟨moveF (FoR es) (stF (FoR es) id) (iwP (stF (FoR es) id) rw sw) (ihP (stF (FoR es) id) rh sh) e.fr,e.A,e.c⟩).flatMap FP.enc) (σ':=[_,_,_,_,_,_,_,_,_,_,_]) Tryz.sizeOf109 rfl rfl (i:=9) rfl (by rw[flatF_len];simp only[List.length_cons,List.length_nil];omega) (setLF_at hej (o:=1) (by omega) (Nat.le_of_ble_eq_true rfl) rfl) rfl (by simp[Value.oneCell'])) (fun h=>absurd rfl h) (fun _=>?_);refine WPD.nil (onto_of ?_);refine WP.region ?_
     iterate 2 refine av ?_
     exact nl fun w hw=>⟨rfl,(j+1,hs.set j ⟨moveF (FoR es) (stF (FoR es) id) (iwP (stF (FoR es) id) rw sw) (ihP (stF (FoR es) id) rh sh) e.fr,e.A,e.c⟩),(by simp only;omega),⟨rfl,jP,jI,rfl,rfl,rfl,rfl,rfl,rfl,jI,jI,trivial⟩,⟨⟨by simp only;omega,map_set' (g:=fun i=>moveF (FoR es) (stF (FoR es) id) (iwP (stF (FoR es) id) rw sw) (ihP (stF (FoR es) id) rh sh) ((inP (FoR es) L id (iwP (stF (FoR es) id) rw sw) (ihP (stF (FoR es) id) rh sh)).1.getD i dF)) (f:=fun i=>(inP (FoR es) L id (iwP (stF (FoR es) id) rw sw) (ihP (stF (FoR es) id) rh sh)).1.getD i dF) hmap1 (by simp only;rw[hef]),all_set hall1 (by have:=hall1 e (List.mem_of_getElem? hej);exact this)⟩,by simp only[rowF,List.length_set];exact hw.pk⟩⟩
    ·obtain rfl:j=gs.length:=by omega
     have hmap2:hs.map FP.fr=(inP (FoR es) L id (iwP (stF (FoR es) id) rw sw) (ihP (stF (FoR es) id) rh sh)).1.map (moveF (FoR es) (stF (FoR es) id) (iwP (stF (FoR es) id) rw sw) (ihP (stF (FoR es) id) rh sh)):=by
       rw[hmap1,tab_congr (g:=fun i=>moveF (FoR es) (stF (FoR es) id) (iwP (stF (FoR es) id) rw sw) (ihP (stF (FoR es) id) rh sh) ((inP (FoR es) L id (iwP (stF (FoR es) id) rw sw) (ihP (stF (FoR es) id) rh sh)).1.getD i dF)) fun i hi=>by rw[if_pos (by omega)],←tab_map (f:=fun i=>(inP (FoR es) L id (iwP (stF (FoR es) id) rw sw) (ihP (stF (FoR es) id) rh sh)).1.getD i dF),tab_self]
     refine WP.exit (onto_of ?_);refine WP.midK [0,1,8,9,10,11,12] (X:=Unit) (fun _=>[]) (fun _=>fun w=>St w0 (foots [treeI tp mb es,flI fb tp lb ww wh,mapKI lb m0,poolI H0]) [treeI tp mb es,flI fb tp lb ww wh,mapKI lb m,poolI H,.cl b6 109 [.int .i64 rw,.int .i64 rh],.cl b8 115 [.int .i64 0,.int .i64 0,.int .i64 0,.int .i64 0,.int .i64 0,.slice none 0 0],.cl b9 42 (stF (FoR es) id),.cl b10 35 [.int .i64 (eS (stF (FoR es) id) 0),.int .i64 (eS (stF (FoR es) id) 1),.int .i64 (eS (stF (FoR es) id) 2),.int .i64 (eS (stF (FoR es) id) 3)],.cl b11 109 [.int .i64 (iwP (stF (FoR es) id) rw sw),.int .i64 (ihEnd (stF (FoR es) id) rh (ihP (stF (FoR es) id) rh sh) (inP (FoR es) L id (iwP (stF (FoR es) id) rw sw) (ihP (stF (FoR es) id) rh sh)).2)],.cl b12 115 [.int .i64 id,.int .i64 0,.int .i64 0,.int .i64 0,.int .i64 0,.slice gA gs.length gc],rowF gA gc hs] w) ?_ (fun _ ρ0=>?_)
     ·refine gg ?_;refine WP.condP rfl (fun h102=>?_) (fun h102=>?_)
      ·refine gg ?_;refine vl (vW (SOk.len (hg id).ok)) ?_;refine gg ?_;refine eF (xC (flimit_ct (stF (FoR es) id) (hg id).ok _ rh)) fun _ _=>?_;refine gg ?_;refine WPL.ef0 (xS rfl (isI rfl)) fun _=>?_;exact nl fun w hw=>⟨rfl,(),⟨jP,jI,rfl,rfl,rfl,rfl,rfl,trivial⟩,by first | (rw[ihEnd_a h102];exact hw.pk) | (rw[ihEnd_b h102];exact hw.pk)⟩
      ·exact WP.skip fun w hw=>⟨rfl,(),⟨jP,jI,rfl,rfl,rfl,rfl,rfl,trivial⟩,by first | (rw[ihEnd_a h102];exact hw.pk) | (rw[ihEnd_b h102];exact hw.pk)⟩
     ·refine gg ?_;refine wP (some 5) [0,1,2,3,4,5,6,7,8,9,10] [pT 0,pT 1,pF 2,pF 3,pT 4,pF 5] ?_;refine gg ?_;refine dG (xC (fsums_ct (eS (stF (FoR es) id) 0) (eS (stF (FoR es) id) 1) (eS (stF (FoR es) id) 2) (eS (stF (FoR es) id) 3) (by omega) (by omega))) fun _ _=>?_;refine dG (xC (fplus_ct (iwP (stF (FoR es) id) rw sw) (ihEnd (stF (FoR es) id) rh (ihP (stF (FoR es) id) rh sh) (inP (FoR es) L id (iwP (stF (FoR es) id) rw sw) (ihP (stF (FoR es) id) rh sh)).2) (eA (stF (FoR es) id)) (eD (stF (FoR es) id)) (by omega) (by omega))) fun _ _=>?_;refine gg ?_;refine WPD.ef0 rfl (x_storeA (us:=[.int .i64 _,.int .i64 _]) (σ':=[_,_,_,_,_,_,_,_,_,.cl _ _ [_,_,_,_,_,_],_]) Tryz.sizeOf109 rfl rfl (i:=9) rfl (Nat.le_of_ble_eq_true rfl) rfl (by simp[Value.oneCell'])) (fun h=>absurd rfl h) (fun _=>?_);refine WPD.nil (onto_of ?_)
      iterate 2 refine sq ?_
      have hlen:gs.length=hs.length:=by rw[hhl,hgl]
      refine gg ?_;refine eF (xC (fkids_ct tp mb es hk hF id true)) fun⟨kA2,kc2⟩ _=>?_;refine gg ?_;refine WP.loopK (X:=Nat×List (KI×Value)×Pool×List FP×Option Addr×Nat) [0,8,9,11,12,120,121] (fun p=>[(122,.int .i64 (p.1:Int))]) (fun p w=>(p.1≤(kidsP (FoR es) id true).length∧H0.Sub p.2.2.1∧MOK V p.2.2.1 p.2.1∧p.2.2.2.1.map FP.fr=(inP (FoR es) L id (iwP (stF (FoR es) id) rw sw) (ihP (stF (FoR es) id) rh sh)).1.map (moveF (FoR es) (stF (FoR es) id) (iwP (stF (FoR es) id) rw sw) (ihP (stF (FoR es) id) rh sh))++((kidsP (FoR es) id true).take p.1).map (apartP (FoR es) ww wh L (stF (FoR es) id) (iwP (stF (FoR es) id) rw sw) (ihEnd (stF (FoR es) id) rh (ihP (stF (FoR es) id) rh sh) (inP (FoR es) L id (iwP (stF (FoR es) id) rw sw) (ihP (stF (FoR es) id) rh sh)).2))∧∀e∈p.2.2.2.1,RepE p.2.2.1 e)∧St w0 (foots [treeI tp mb es,flI fb tp lb ww wh,mapKI lb m0,poolI H0]) [treeI tp mb es,flI fb tp lb ww wh,mapKI lb p.2.1,poolI p.2.2.1,.cl b6 109 [.int .i64 rw,.int .i64 rh],.cl b8 115 [.int .i64 0,.int .i64 0,.int .i64 0,.int .i64 0,.int .i64 0,.slice none 0 0],.cl b9 42 (stF (FoR es) id),.cl b10 35 [.int .i64 (eS (stF (FoR es) id) 0),.int .i64 (eS (stF (FoR es) id) 1),.int .i64 (eS (stF (FoR es) id) 2),.int .i64 (eS (stF (FoR es) id) 3)],.cl b11 109 [.int .i64 (iwP (stF (FoR es) id) rw sw),.int .i64 (ihEnd (stF (FoR es) id) rh (ihP (stF (FoR es) id) rh sh) (inP (FoR es) L id (iwP (stF (FoR es) id) rw sw) (ihP (stF (FoR es) id) rh sh)).2)],.cl b12 115 [.int .i64 id,.int .i64 0,.int .i64 0,.int .i64 ((iwP (stF (FoR es) id) rw sw)+eA (stF (FoR es) id)),.int .i64 ((ihEnd (stF (FoR es) id) rh (ihP (stF (FoR es) id) rh sh) (inP (FoR es) L id (iwP (stF (FoR es) id) rw sw) (ihP (stF (FoR es) id) rh sh)).2)+eD (stF (FoR es) id)),.slice p.2.2.2.2.1 p.2.2.2.1.length p.2.2.2.2.2],rowF p.2.2.2.2.1 p.2.2.2.2.2 p.2.2.2.1,kidsI kA2 (kidsP (FoR es) id true).length kc2 (kidsP (FoR es) id true)] w) (fun p=>(kidsP (FoR es) id true).length - p.1) (0,m,H,hs,gA,gc) ⟨rfl,trivial⟩ (fun w hw=>⟨⟨Nat.zero_le _,hsub,hmok,by simp only[List.take_zero,List.map_nil,List.append_nil];exact hmap2,hall1⟩,by simp only;rw[←hlen];exact(hw.sel [10,0,1,2,3,4,5,6,7,8,9,11] (by decide))⟩) (fun p ρ0=>?_);obtain⟨j,m2,H2,xs,xA,xc⟩:=p;dsimp only;refine WP.fact (fun⟨hjn,hsub2,hmok2,hmap3,hall2⟩=>?_);have hxl:xs.length=(inP (FoR es) L id (iwP (stF (FoR es) id) rw sw) (ihP (stF (FoR es) id) rh sh)).1.length+j:=by
        have h1:=congrArg List.length hmap3;rw[List.length_map,List.length_append,List.length_map,List.length_map,List.length_take] at h1;omega
      refine gg ?_;refine WP.condP rfl (fun h123=>?_) (fun h123=>?_)
      ·have hj2:j<(kidsP (FoR es) id true).length:=by omega
       obtain⟨kid,hkid⟩:∃kid,(kidsP (FoR es) id true)[j]?=some kid:=⟨_,List.getElem?_eq_getElem hj2⟩;obtain⟨hkb,hkl⟩:=hks kid (kidsP_sub (List.mem_of_getElem? hkid));refine WP.holds (fun w hw=>hw.row_pos (i:=11) rfl (by omega)) (fun⟨pb_ak,hA_ak⟩=>?_);subst hA_ak;refine gg ?_;refine vl (vR 11 (by rw[List.getElem?_map,hkid];rfl)) ?_;refine gg ?_;refine wP (some 10) [4,5,6,7,8,9,11] [pT 0,pT 1,pT 2,pT 3,pT 4,pT 5,pF 6,pF 7,pF 8,pT 9,pF 10] ?_;refine gg ?_;refine tD (vW (SOk.len (hg id).ok)) ?_;refine gg ?_;refine dG (xC (fapart_ct tp mb fb lb es hk hF hg ww wh V L kid B hkb hkl hB (stF (FoR es) id) (hg id) (iwP (stF (FoR es) id) rw sw) (ihEnd (stF (FoR es) id) rh (ihP (stF (FoR es) id) rh sh) (inP (FoR es) L id (iwP (stF (FoR es) id) rw sw) (ihP (stF (FoR es) id) rh sh)).2) (by omega) (by omega) hww hwh m2 H2 hmok2)) fun⟨m1_,H1_,fA1,fc1⟩ ⟨hsub_,hmok_,hrep_⟩=>?_;dsimp only at hsub_ hmok_ hrep_;refine dE (xN (LF rfl)) fun g133=>?_;refine dE (xP 6 12) fun⟨A134,c134⟩=>?_;refine gg ?_;refine dE0 (xS rfl (isS rfl)) fun _=>?_;refine WPD.nil (onto_of ?_);refine WP.region ?_
       iterate 2 refine av ?_
       exact nl fun w hw=>⟨rfl,(j+1,m1_,H1_,xs++[⟨(apartP (FoR es) ww wh L (stF (FoR es) id) (iwP (stF (FoR es) id) rw sw) (ihEnd (stF (FoR es) id) rh (ihP (stF (FoR es) id) rh sh) (inP (FoR es) L id (iwP (stF (FoR es) id) rw sw) (ihP (stF (FoR es) id) rh sh)).2)) kid,fA1,fc1⟩],A134,c134),(by simp only;omega),⟨rfl,jP,rfl,rfl,rfl,rfl,jS,jI,trivial⟩,⟨⟨by simp only;omega,hsub2.trans hsub_,hmok_,by simp only;rw[List.map_append,hmap3,takeS hkid,List.map_append,List.append_assoc];rfl,by exact all_snoc (p:=RepE H1_) (fun x hx=>(hall2 x hx).mono hsub_) hrep_⟩,by simp only;rw[rowF_snoc,snoc_len];exact hw.pk⟩⟩
      ·obtain rfl:j=(kidsP (FoR es) id true).length:=by omega
       rw[List.take_of_length_le (Nat.le_refl _)] at hmap3;refine sl [3,10,0,1,2,4,5,6,7,8,9,11] ?_;refine WP.freezeF hall2 (fun H3 hs3 hrep3=>?_);have hfin:(layStep (FoR es) ww wh L id rw rh sw sh).kids=xs.map FP.fr:=hmap3.symm;have hfl:(layStep (FoR es) ww wh L id rw rh sw sh).kids.length=xs.length:=by rw[hfin,List.length_map]
       refine WP.exit (onto_of ?_);refine gg ?_;refine WPL.ef0 (xW rfl) fun _=>?_;refine gg ?_;exact rtC rfl fun w hw=>⟨(m2,H3,xA,xc),congrArg (fun q=>Value.agg #[.int .i64 id,.int .i64 0,.int .i64 0,.int .i64 ((iwP (stF (FoR es) id) rw sw)+eA (stF (FoR es) id)),.int .i64 ((ihEnd (stF (FoR es) id) rh (ihP (stF (FoR es) id) rh sh) (inP (FoR es) L id (iwP (stF (FoR es) id) rw sw) (ihP (stF (FoR es) id) rh sh)).2)+eD (stF (FoR es) id)),.slice xA q xc]) hfl.symm,⟨hsub2.trans hs3,hmok2.mono hs3,by simp only;rw[hfin];exact hrep3⟩,hw.pk⟩
end
section
variable (tp mb fb lb:Nat) (es:List PE) (ww wh:Int) (V:LayF) (id:Int) (B:Int)
theorem flay_ct (hnew:∀rw rh sw sh,okA B rw rh sw sh→ApOK tp mb fb lb es ww wh V 110 [.int .i64 id,q2 rw rh,q2 sw sh] (V id rw rh sw sh)):LayOK tp mb fb lb es ww wh V V id B:=by
  intro m0 H0 rw rh sw sh hm0 hok;refine Ci fun w0 _=>?_;cases e:lookK m0 (id,rw,rh,sw,sh) with
  | none =>
    refine gg ?_;refine WPL.ef xB fun b6=>?_;refine WPL.ef xB fun b7=>?_;refine WPL.ef xAl fun b8=>?_;refine nl (oo ?_);refine sqR ?_
    iterate 3 refine av ?_
    refine vl (v_struct (us:=[.int .i64 _,.int .i64 _,.int .i64 _,.int .i64 _,.int .i64 _]) (pl:=[(0,1),(1,2),(3,2)]) Tryz.underlying173 Tryz.zeroValue173 rfl (by kernel_rfl) rfl rfl (by kernel_rfl)) ?_;refine WPL.ef xAl fun b9=>?_;refine WPL.ef0 (xW rfl) fun _=>?_;refine gg ?_;refine wP none [0,1,2,3,4,5,6,7] [pT 0,pT 1,pT 2,pT 3,pT 4,pT 5,pT 6,pT 7,pT 8,pF 9,pF 10,pT 11] ?_
    iterate 3 refine ad ?_
    refine tE rfl (v_load1 (u:=.map _) Tryz.isAgg110 rfl (fun w hw=>hw.cl_at (i:=1) rfl _ rfl)) ?_;refine ad ?_;refine tE rfl (v_of (v_lookK keyOK (m:=m0) (k:=(id,rw,rh,sw,sh)) (z:=.agg #[.int .i64 0,.int .i64 0,.int .i64 0,.int .i64 0,.int .i64 0,.slice none 0 0]) Tryz.underlying110 Tryz.zeroValue115 rfl rfl (fun w hw=>hw.mapKAt (i:=2) rfl)) (v':=.tuple #[.agg #[.int .i64 0,.int .i64 0,.int .i64 0,.int .i64 0,.int .i64 0,.slice none 0 0],.bool false]) (by rw[e];rfl)) ?_;refine WPD.take rfl (v_move rfl) ?_ (fun _ h=>h.sel [0,1,2,3,4,5,6,7] (by decide));refine tE rfl (v_extract (v:=.agg #[.int .i64 0,.int .i64 0,.int .i64 0,.int .i64 0,.int .i64 0,.slice none 0 0]) rfl rfl) ?_;refine tE rfl (v_extract (v:=.bool false) rfl rfl) ?_;refine dE xAl fun b10=>?_;refine dE0 (xW rfl) fun _=>?_;refine tE rfl (v_assign (v:=.bool false) rfl) ?_;refine gg ?_;refine WP.condT rfl ?_;refine gg ?_;refine eF (xC (hnew rw rh sw sh hok m0 H0 hm0)) fun⟨m1,H1,fA1,fc1⟩ ⟨hsub1,hmok1,hrep1⟩=>?_;dsimp only at hsub1 hmok1 hrep1;refine WPL.ef0 (xW rfl) fun _=>?_;refine gg ?_;refine WP.drawS (some 6) [(0,true),(1,true),(2,true),(3,true),(4,true),(5,true),(6,false)] mixed (by kernel_rfl) (by decide) (fun _ h=>h.drawn) ?_
    iterate 3 refine ad ?_
    refine tE rfl (v_load1 (u:=.map _) Tryz.isAgg110 rfl (fun w hw=>hw.cl_at (i:=6) rfl _ rfl)) ?_;refine gg ?_;refine WPD.ef0 rfl (x_putK keyOK (m:=m1) (k:=(id,rw,rh,sw,sh)) (u:=.agg (encF (V id rw rh sw sh) fA1 fc1).toArray) (σ':=[_,_,_,_,_,_,_,_,_]) Tryz.underlying110 rfl rfl rfl (i:=7) rfl rfl) (fun h=>absurd rfl h) (fun _=>?_);refine gg ?_;refine WPL.ef0 (xW rfl) fun _=>?_;refine gg ?_;exact rtC rfl fun w hw=>⟨(putK m1 (id,rw,rh,sw,sh) (.agg (encF (V id rw rh sw sh) fA1 fc1).toArray),H1,fA1,fc1),rfl,⟨hsub1,hmok1.put (id,rw,rh,sw,sh) hrep1,hrep1⟩,hw.pk⟩
  | some v =>
    obtain⟨vA,vc,rfl,hrep⟩:=hm0 _ _ e;refine gg ?_;refine WPL.ef xB fun b6=>?_;refine WPL.ef xB fun b7=>?_;refine WPL.ef xAl fun b8=>?_;refine nl (oo ?_);refine sqR ?_
    iterate 3 refine av ?_
    refine vl (v_struct (us:=[.int .i64 _,.int .i64 _,.int .i64 _,.int .i64 _,.int .i64 _]) (pl:=[(0,1),(1,2),(3,2)]) Tryz.underlying173 Tryz.zeroValue173 rfl (by kernel_rfl) rfl rfl (by kernel_rfl)) ?_;refine WPL.ef xAl fun b9=>?_;refine WPL.ef0 (xW rfl) fun _=>?_;refine gg ?_;refine wP none [0,1,2,3,4,5,6,7] [pT 0,pT 1,pT 2,pT 3,pT 4,pT 5,pT 6,pT 7,pT 8,pF 9,pF 10,pT 11] ?_
    iterate 3 refine ad ?_
    refine tE rfl (v_load1 (u:=.map _) Tryz.isAgg110 rfl (fun w hw=>hw.cl_at (i:=1) rfl _ rfl)) ?_;refine ad ?_;refine tE rfl (v_of (v_lookK keyOK (m:=m0) (k:=(id,rw,rh,sw,sh)) (z:=.agg #[.int .i64 0,.int .i64 0,.int .i64 0,.int .i64 0,.int .i64 0,.slice none 0 0]) Tryz.underlying110 Tryz.zeroValue115 rfl rfl (fun w hw=>hw.mapKAt (i:=2) rfl)) (v':=.tuple #[.agg (encF (V id rw rh sw sh) vA vc).toArray,.bool true]) (by rw[e];rfl)) ?_;refine WPD.take rfl (v_move rfl) ?_ (fun _ h=>h.sel [0,1,2,3,4,5,6,7] (by decide));refine tE rfl (v_extract (v:=.agg (encF (V id rw rh sw sh) vA vc).toArray) rfl rfl) ?_;refine tE rfl (v_extract (v:=.bool true) rfl rfl) ?_;refine dE xAl fun b10=>?_;refine dE0 (xW rfl) fun _=>?_;refine tE rfl (v_assign (v:=.bool true) rfl) ?_;refine gg ?_;refine WP.condF rfl ?_;refine gg ?_;refine WPL.ef0 (xW rfl) fun _=>?_;refine gg ?_;exact rtC rfl fun w hw=>⟨(m0,H0,vA,vc),rfl,⟨Pool.Sub.refl _,hm0,hrep⟩,hw.pk⟩
end
def bnd (n:Nat):Int:=281474976710656+8796093022208*n
theorem lays_ct (tp mb fb lb:Nat) (es:List PE) (hk:LOk es) {d:Int→Nat} (hF:WF (FoR es) d) (hg:∀x,GS (stF (FoR es) x)) (hK:∀x,(kidsF (FoR es) x).length≤64) (ww wh:Int) (hww:0≤ww∧ww≤1048576) (hwh:0≤wh∧wh≤1048576):∀(n:Nat) (k:Int),hasF (FoR es) k=true→63<n+d k→
    LayOK tp mb fb lb es ww wh (LAY (FoR es) ww wh) (LAY (FoR es) ww wh) k (bnd (d k))
  | 0, k, hk1, hn => by
    obtain⟨b,hb⟩:=some_has hk1;have:=hF.deep k b hb;omega
  | n + 1, k, hk1, hn => by
    obtain⟨b,hb⟩:=some_has hk1;have hd:=hF.deep k b hb;refine flay_ct tp mb fb lb es ww wh _ k _ fun rw rh sw sh hok=>?_;rw[LAY_eq hF hk1];refine fanew_ct tp mb fb lb es hk hF hg hK ww wh _ _ k (bnd (d k+1)) (by unfold bnd;omega) (fun j hj=>?_) hww hwh rw rh sw sh (by rw[show bnd (d k+1) - 8796093022208=bnd (d k) by unfold bnd;omega];exact hok);obtain⟨h1,h2,_,_⟩:=kid_rank' hF hj;refine⟨layN_LB ww wh (hg j) 64,?_⟩;have h3:=lays_ct tp mb fb lb es hk hF hg hK ww wh hww hwh n j h1 (by omega);rw[h2] at h3;exact h3
def contig:List (Nat×Nat)→Nat→Nat→Prop
  | [],s,e=>s=e
  | p::l,s,e=>p.1=s∧contig l p.2 e
theorem contig_snoc:∀{l:List (Nat×Nat)} {s f e:Nat},contig l s f→contig (l++[(f,e)]) s e
  | [],s,f,e,h=>⟨h.symm,rfl⟩
  | p::l,s,f,e,h=>⟨h.1,contig_snoc h.2⟩
theorem brk_contig {l:List Int} {room gap:Int} {wrap:Bool}:∀i,contig (brkS l room gap wrap i).1 0 (brkS l room gap wrap i).2.1
  | 0=>rfl
  | i + 1 => by
    have h:=brk_contig (l:=l) (room:=room) (gap:=gap) (wrap:=wrap) i;rw[brkS]
    split
    · exact h
    · split
      · exact h
      · exact contig_snoc h
theorem breaks_contig {l:List Int} {room gap:Int} {wrap:Bool}:contig (breaksP l room gap wrap) 0 l.length:=by
  have h:=brk_contig (l:=l) (room:=room) (gap:=gap) (wrap:=wrap) l.length;have h2:=brk_le (l:=l) (room:=room) (gap:=gap) (wrap:=wrap) l.length;unfold breaksP
  split
  · exact contig_snoc h
  · rw [show (brkS l room gap wrap l.length).2.1 = l.length by omega] at h
    exact h
def ptr (ls:List (Nat×Nat)):Nat→Nat
  | 0=>0
  | n+1=>(ls.getD n (0,0)).2
theorem contig_get:∀{ls:List (Nat×Nat)} {s e:Nat},contig ls s e→∀n,n<ls.length→(ls.getD n (0,0)).1=(if n=0 then s else ptr ls n)
  | p::l,s,e,h,0,_=>by simpa using h.1
  | p :: l, s, e, h, n + 1, hn => by
    have h1:=contig_get h.2 n (by simpa using hn);rw[if_neg (by omega)];cases n with
    | zero=>simpa [ptr] using h1
    | succ n=>simpa [ptr] using h1
theorem contig_end:∀{ls:List (Nat×Nat)} {s e:Nat},contig ls s e→(if ls.length=0 then s else ptr ls ls.length)=e
  | [],s,e,h=>h
  | p :: l, s, e, h => by
    have h1:=contig_end h.2;cases l with
    | nil=>simpa [ptr] using h1
    | cons q l=>simpa [ptr] using h1
def IsL (L:LayF) (f:Frm):Prop:=∃rw rh sw sh,f.w=(L f.id rw rh sw sh).w∧f.h=(L f.id rw rh sw sh).h∧f.kids=(L f.id rw rh sw sh).kids
section
variable {F:Forest (List Value)} {d:Int→Nat} {L:LayF} {ks:List Int} (hL:∀k∈ks,LB L k) {iw ih:Int}
include hL
theorem lay_id {k:Int} (hk:k∈ks) (rw rh sw sh:Int):(L k rw rh sw sh).id=k:=(hL k hk rw rh sw sh).1
theorem isL_of {k:Int} (hk:k∈ks) {rw rh sw sh:Int} {f:Frm} (h1:f.id=(L k rw rh sw sh).id) (h2:f.w=(L k rw rh sw sh).w) (h3:f.h=(L k rw rh sw sh).h) (h4:f.kids=(L k rw rh sw sh).kids):f.id=k∧IsL L f:=by
  have h5:=h1.trans (lay_id hL hk rw rh sw sh);exact⟨h5,rw,rh,sw,sh,by rw[h5];exact h2,by rw[h5];exact h3,by rw[h5];exact h4⟩
theorem block_ids (id:Int):(blockP F L ks iw ih id).1.map Frm.id=ks∧∀f∈(blockP F L ks iw ih id).1,IsL L f:=by
  have key:∀i,i<ks.length→(bF L ks iw ih i).id=gI ks i∧IsL L (bF L ks iw ih i):=fun i hi=>isL_of hL (gI_mem hi) rfl rfl rfl rfl;refine⟨?_,fun f hf=>?_⟩
  · simp only [blockP, tab_map]
    rw[tab_congr fun i hi=>(key i hi).1,tab_gI]
  · obtain ⟨i, hi, rfl⟩ := tab_mem.1 hf
    exact(key i hi).2
theorem column_ids (id:Int):(columnP F L ks iw ih id).1.map Frm.id=ks∧∀f∈(columnP F L ks iw ih id).1,IsL L f:=by
  have key:∀i,i<ks.length→(cF2 F L ks iw ih (stF F id) i).id=gI ks i∧IsL L (cF2 F L ks iw ih (stF F id) i):=fun i hi=>isL_of hL (gI_mem hi) rfl rfl rfl rfl;refine⟨?_,fun f hf=>?_⟩
  · simp only [columnP, cOut, tab_map]
    rw[tab_congr fun i hi=>(key i hi).1,tab_gI]
  · obtain ⟨i, hi, rfl⟩ := tab_mem.1 hf
    exact(key i hi).2
theorem line_ids {c:List Value} {a b:Nat} (hb:b≤ks.length) (one:Bool):(lineP F L ks iw ih c a b one).map Frm.id=(ks.drop a).take (b - a)∧∀f∈lineP F L ks iw ih c a b one,IsL L f:=by
  have key:∀hh i,i<b - a→(lF2 F L ks iw ih c a b hh i).id=gI ks (a+i)∧IsL L (lF2 F L ks iw ih c a b hh i):=fun hh i hi=>by
    unfold lF2
    split
    · exact isL_of hL (gI_mem (by omega)) rfl rfl rfl rfl
    · exact isL_of hL (gI_mem (by omega)) rfl rfl rfl rfl
  refine⟨?_,fun f hf=>?_⟩
  · simp only [lineP, lOut, tab_map]
    rw[tab_congr fun i hi=>(key _ i hi).1];apply List.ext_getElem?;intro i
    by_cases hi:i<b - a
    · rw[tab_get hi,List.getElem?_take,if_pos hi,List.getElem?_drop,gI,List.getD_eq_getElem?_getD,List.getElem?_eq_getElem (by omega)];rfl
    · rw[tab_none (by omega),List.getElem?_take,if_neg hi]
  · obtain ⟨i, hi, rfl⟩ := tab_mem.1 hf
    exact(key _ i hi).2
theorem rowN_ids {c:List Value} {ls:List (Nat×Nat)} (hls:∀p∈ls,p.1<p.2∧p.2≤ks.length) (hc:contig ls 0 ks.length):∀n,n≤ls.length→(rowN F L ks iw ih c ls n).1.map Frm.id=ks.take (ptr ls n)∧∀f∈(rowN F L ks iw ih c ls n).1,IsL L f
  | 0,_=>⟨by simp[rowN,ptr],fun f hf=>by simp[rowN] at hf⟩
  | n + 1, hn => by
    obtain⟨h1,h2⟩:=rowN_ids hls hc n (by omega);have hp:(ls.getD n (0,0)).1<(ls.getD n (0,0)).2∧(ls.getD n (0,0)).2≤ks.length:=by
      rw[List.getD_eq_getElem?_getD,List.getElem?_eq_getElem (by omega)];exact hls _ (List.getElem_mem _)
    have hs:(ls.getD n (0,0)).1=ptr ls n:=by
      have h:=contig_get hc n (by omega);cases n with
      | zero=>exact h
      | succ n=>rwa [if_neg (by omega)] at h
    obtain⟨h3,h4⟩:=line_ids hL (F:=F) (iw:=iw) (ih:=ih) (c:=c) (a:=(ls.getD n (0,0)).1) hp.2 (decide (ls.length=1));refine⟨?_,fun f hf=>?_⟩
    · simp only [rowN, List.map_append, List.map_map]
      rw[h1,show (Frm.id∘shiftY (if n=0 then (rowN F L ks iw ih c ls n).2 else (rowN F L ks iw ih c ls n).2+val c 46))=Frm.id from rfl,h3,hs];rw[hs] at hp;rw[show ptr ls (n+1)=ptr ls n+((ls.getD n (0,0)).2 - ptr ls n) by show (ls.getD n (0,0)).2=_;omega,List.take_add]
    · simp only [rowN] at hf
      rcases List.mem_append.1 hf with hf | hf
      · exact h2 f hf
      · obtain ⟨f0, hf0, rfl⟩ := List.mem_map.1 hf
        obtain⟨a,b,c,d,q⟩:=h4 f0 hf0;exact⟨a,b,c,d,q⟩
theorem row_ids (id:Int):(rowP F L ks iw ih id).1.map Frm.id=ks∧∀f∈(rowP F L ks iw ih id).1,IsL L f:=by
  have hll:(rLong F ks iw).length=ks.length:=tab_len;have hc:contig (rLines F ks iw (stF F id)) 0 ks.length:=by rw[←hll];exact breaks_contig
  have h:=rowN_ids hL (F:=F) (iw:=iw) (ih:=ih) (c:=stF F id) (ls:=rLines F ks iw (stF F id)) (fun p hp=>by have h:=breaks_in hp;rw[hll] at h;exact⟨h.1,h.2.1⟩) hc _ (Nat.le_refl _);have he:=contig_end hc;refine⟨?_,h.2⟩;unfold rowP;rw[h.1]
  split at he
  · rename_i e
    rw[e,ptr];have:ks=[]:=List.eq_nil_of_length_eq_zero he.symm;simp[this]
  · rw[he,List.take_length]
end
section
variable {F:Forest (List Value)} {d:Int→Nat} {L:LayF}
theorem in_ids {id iw ih:Int} (hL:∀k∈kidsF F id,LB L k):(inP F L id iw ih).1.map Frm.id=kidsP F id false∧∀f∈(inP F L id iw ih).1,IsL L f:=by
  have hL':∀k∈kidsP F id false,LB L k:=fun k hk=>hL k (kidsP_sub hk);unfold inP
  split
  · rename_i h
    rw[h];exact⟨rfl,fun f hf=>by simp at hf⟩
  · split
    · exact row_ids hL' id
    · split
      · exact column_ids hL' id
      · exact block_ids hL' id
theorem apart_ids {ww wh iw ih k:Int} {s:List Value} (hL:LB L k):(apartP F ww wh L s iw ih k).id=k∧IsL L (apartP F ww wh L s iw ih k):=by
  have hL':∀j∈[k],LB L j:=fun j hj=>by
    obtain rfl:j=k:=by simpa using hj
    exact hL
  unfold apartP
  split
  · exact isL_of hL' (List.mem_singleton.2 rfl) rfl rfl rfl rfl
  · exact isL_of hL' (List.mem_singleton.2 rfl) rfl rfl rfl rfl
theorem step_ids {ww wh id rw rh sw sh:Int} (hL:∀k∈kidsF F id,LB L k):(layStep F ww wh L id rw rh sw sh).kids.map Frm.id=kidsP F id false++kidsP F id true∧∀f∈(layStep F ww wh L id rw rh sw sh).kids,IsL L f:=by
  obtain⟨h1,h2⟩:=in_ids hL (iw:=iwP (stF F id) rw sw) (ih:=ihP (stF F id) rh sh);refine⟨?_,fun f hf=>?_⟩
  · unfold layStep
    simp only[List.map_append,List.map_map];rw[show (Frm.id∘moveF F (stF F id) (iwP (stF F id) rw sw) (ihP (stF F id) rh sh))=Frm.id from rfl,h1]
    congr 1
    exact(List.map_congr_left fun k hk=>(apart_ids (hL k (kidsP_sub hk))).1).trans (List.map_id _)
  · unfold layStep at hf
    rcases List.mem_append.1 hf with hf | hf
    · obtain ⟨f0, hf0, rfl⟩ := List.mem_map.1 hf
      obtain⟨a,b,c,d,q⟩:=h2 f0 hf0;exact⟨a,b,c,d,q⟩
    · obtain ⟨k, hk, rfl⟩ := List.mem_map.1 hf
      exact(apart_ids (hL k (kidsP_sub hk))).2
theorem shownN_fuel (hF:WF F d):∀(n m:Nat) (x:Int),hasF F x=true→d x<n→d x<m→shownN F n x=shownN F m x
  | 0,_,_,_,h,_=>by omega
  | _,0,_,_,_,h=>by omega
  | n + 1, m + 1, x, hx, h1, h2 => by
    rw[shownN,shownN,if_pos hx,if_pos hx]
    congr 1
    by_cases h0:x=0
    · obtain ⟨b, hb, hu⟩ := hF.root
      rw[h0,up_some hb,hu];have hm:hasF F (-1)=false:=has_none (hF.neg (by decide));cases n<;>cases m<;>simp[shownN,hm]
    · obtain ⟨h3, _, _, h4⟩ := hF.up_has hx h0
      exact shownN_fuel hF n m _ h3 (by omega) (by omega)
theorem shown_kid (hF:WF F d) {x k:Int} (h:k∈kidsF F x):shownF F k=(decide (val (stF F k) 0≠3)&&shownF F x):=by
  obtain⟨h1,h2,_,h4⟩:=kid_rank' hF h;obtain⟨b,hb⟩:=some_has h1;have hd:=hF.deep k b hb;unfold shownF;rw[h1,h4,Bool.true_and,Bool.true_and,shownN,if_pos h1,kid_up hF h,shownN_fuel hF 63 64 x h4 (by omega) (by omega)]
def flatN:Nat→Frm→List Frm
  | 0,_=>[]
  | n+1,f=>f::f.kids.flatMap (flatN n)
theorem flatMap_perm {α β:Type} {f g:α→List β}:∀{l:List α},(∀x∈l,(f x).Perm (g x))→(l.flatMap f).Perm (l.flatMap g)
  | [],_=>.refl _
  | x :: l, h => by
    rw[List.flatMap_cons,List.flatMap_cons];exact(h x (by simp)).append (flatMap_perm fun y hy=>h y (by simp[hy]))
def vis (F:Forest (List Value)) (x:Int):List Int:=(sub F x).filter (shownF F)
theorem vis_no (hF:WF F d):∀(n:Nat) (x:Int),64≤n+d x→shownF F x=false→vis F x=[]
  | n, x, hn, h => by
    cases e:F x with
    | none=>unfold vis;rw[sub_none e];rfl
    | some b =>
      have hd:=hF.deep x b e
      match n,hn with
      | 0,hn=>omega
      | n + 1, hn =>
        unfold vis;rw[hF.sub_eq e,List.filter_cons,if_neg (by rw[h];decide),List.filter_flatMap];apply List.flatMap_eq_nil_iff.2;intro k hk;have hk':k∈kidsF F x:=by rw[kids_some e];exact hk
        obtain⟨_,h2,_,_⟩:=kid_rank' hF hk';exact vis_no hF n k (by omega) (by rw[shown_kid hF hk',h,Bool.and_false])
theorem kids_part (F:Forest (List Value)) (x:Int):(kidsP F x false++kidsP F x true).Perm ((kidsF F x).filter (shownF F)):=by
  have h:∀a,kidsP F x a=((kidsF F x).filter (shownF F)).filter fun k=>outB (stF F k)==a:=fun a=>by
    unfold kidsP;rw[List.filter_filter]
    congr 1
    funext k
    rw[Bool.and_comm]
  rw[h false,h true];have hp:=List.filter_append_perm (fun k=>outB (stF F k)==false) ((kidsF F x).filter (shownF F));refine List.Perm.trans ?_ hp;refine List.Perm.append_left _ (List.Perm.of_eq ?_)
  congr 1
  funext k
  cases outB (stF F k)<;>rfl
theorem vis_yes (hF:WF F d) {x:Int} (hx:hasF F x=true) (h:shownF F x=true):(x::(kidsP F x false++kidsP F x true).flatMap (vis F)).Perm (vis F x):=by
  obtain⟨b,hb⟩:=some_has hx;have e:vis F x=x::(kidsF F x).flatMap (vis F):=by
    unfold vis;rw[hF.sub_eq hb,List.filter_cons,if_pos h,List.filter_flatMap,kids_some hb]
  rw[e];refine List.Perm.cons _ ?_;refine List.Perm.trans ((kids_part F x).flatMap_right _) ?_;refine List.Perm.of_eq ?_;have key:∀l:List Int,(l.filter (shownF F)).flatMap (vis F)=l.flatMap (vis F):=fun l=>by
    induction l with
    | nil=>rfl
    | cons k l ih =>
      rw[List.filter_cons]
      split
      · rw[List.flatMap_cons,List.flatMap_cons,ih]
      · rename_i hk
        rw[List.flatMap_cons,vis_no hF 64 k (by omega) (by simpa using hk),List.nil_append,ih]
  exact key _
end
section
variable {F:Forest (List Value)} {d:Int→Nat}
theorem ids_perm (hF:WF F d) (hg:∀x,GS (stF F x)) (ww wh:Int):∀(n:Nat) (f:Frm),hasF F f.id=true→64≤n+d f.id→shownF F f.id=true→IsL (LAY F ww wh) f→((flatN n f).map Frm.id).Perm (vis F f.id)
  | 0, f, hx, hn, _, _ => by
    obtain⟨b,hb⟩:=some_has hx;have:=hF.deep f.id b hb;omega
  | n + 1, f, hx, hn, hs, ⟨rw', rh, sw, sh, _, _, hk⟩ => by
    rw[LAY_eq hF hx] at hk;obtain⟨h1,h2⟩:=step_ids (F:=F) (L:=LAY F ww wh) (ww:=ww) (wh:=wh) (id:=f.id) (rw:=rw') (rh:=rh) (sw:=sw) (sh:=sh) fun k _=>layN_LB ww wh (hg k) 64;rw[←hk] at h1 h2;refine List.Perm.trans ?_ (vis_yes hF hx hs);rw[flatN,List.map_cons];refine List.Perm.cons _ ?_;rw[List.map_flatMap,←h1,List.flatMap_map];refine flatMap_perm fun g hg'=>?_;have hm:g.id∈kidsP F f.id false++kidsP F f.id true:=by rw[←h1];exact List.mem_map.2 ⟨g,hg',rfl⟩
    have hm2:g.id∈kidsF F f.id∧shownF F g.id=true:=by
      have:=(kids_part F f.id).subset hm;exact⟨(List.mem_filter.1 this).1,(List.mem_filter.1 this).2⟩
    obtain⟨h3,h4,_,_⟩:=kid_rank' hF hm2.1;exact ids_perm hF hg ww wh n g h3 (by omega) hm2.2 (h2 g hg')
def Good (F:Forest (List Value)) (ww wh:Int) (f:Frm):Prop:=hasF F f.id=true∧IsL (LAY F ww wh) f
theorem Good.kids (hF:WF F d) (hg:∀x,GS (stF F x)) {ww wh:Int} {f:Frm} (h:Good F ww wh f):∀g∈f.kids,Good F ww wh g∧d g.id=d f.id+1:=by
  obtain⟨hx,rw',rh,sw,sh,_,_,hk⟩:=h;rw[LAY_eq hF hx] at hk;obtain⟨h1,h2⟩:=step_ids (F:=F) (L:=LAY F ww wh) (ww:=ww) (wh:=wh) (id:=f.id) (rw:=rw') (rh:=rh) (sw:=sw) (sh:=sh) fun k _=>layN_LB ww wh (hg k) 64;rw[←hk] at h1 h2;intro g hg';have hm:g.id∈kidsP F f.id false++kidsP F f.id true:=by rw[←h1];exact List.mem_map.2 ⟨g,hg',rfl⟩
  have hm2:g.id∈kidsF F f.id:=by
    rcases List.mem_append.1 hm with hm | hm<;>exact kidsP_sub hm
  obtain⟨h3,h4,_,_⟩:=kid_rank' hF hm2;exact⟨⟨h3,h2 g hg'⟩,h4⟩
theorem flatMap_same {α β:Type} {f g:α→List β}:∀{l:List α},(∀x∈l,f x=g x)→l.flatMap f=l.flatMap g
  | [],_=>rfl
  | x::l,h=>by rw[List.flatMap_cons,List.flatMap_cons,h x (by simp),flatMap_same fun y hy=>h y (by simp[hy])]
theorem flat_fuel (hF:WF F d) (hg:∀x,GS (stF F x)) {ww wh:Int}:∀(n m:Nat) (f:Frm),Good F ww wh f→64≤n+d f.id→64≤m+d f.id→flatN n f=flatN m f
  | 0, m, f, h, h1, _ => by
    obtain⟨b,hb⟩:=some_has h.1;have:=hF.deep f.id b hb;omega
  | n + 1, 0, f, h, _, h2 => by
    obtain⟨b,hb⟩:=some_has h.1;have:=hF.deep f.id b hb;omega
  | n + 1, m + 1, f, h, h1, h2 => by
    rw[flatN,flatN]
    congr 1
    refine flatMap_same fun g hg'=>?_;obtain⟨h3,h4⟩:=h.kids hF hg g hg';exact flat_fuel hF hg n m g h3 (by omega) (by omega)
theorem flat_eq (hF:WF F d) (hg:∀x,GS (stF F x)) {ww wh:Int} {f:Frm} (h:Good F ww wh f):flatN 64 f=f::f.kids.flatMap (flatN 64):=by
  rw[flatN]
  congr 1
  refine flatMap_same fun g hg'=>?_;obtain⟨h3,h4⟩:=h.kids hF hg g hg';exact flat_fuel hF hg 63 64 g h3 (by omega) (by omega)
theorem flat_all (hF:WF F d) (hg:∀x,GS (stF F x)) {ww wh:Int}:∀(l:List Frm),(∀f∈l,Good F ww wh f)→l.length≤(l.flatMap (flatN 64)).length
  | [],_=>Nat.zero_le _
  | f :: l, h => by
    have h1:=flat_all hF hg l fun g hg'=>h g (by simp[hg']);rw[List.flatMap_cons,List.length_append,flat_eq hF hg (h f (by simp)),List.length_cons,List.length_cons];omega
theorem good_root (hF:WF F d) (hg:∀x,GS (stF F x)) {ww wh:Int} (rw rh sw sh:Int):Good F ww wh (LAY F ww wh 0 rw rh sw sh):=by
  obtain⟨b,hb,_⟩:=hF.root;have h:(LAY F ww wh 0 rw rh sw sh).id=0:=(layN_LB ww wh (hg 0) 64 rw rh sw sh).1;exact⟨by rw[h];exact has_some hb,rw,rh,sw,sh,by rw[h],by rw[h],by rw[h]⟩
def allP (F:Forest (List Value)) (w h:Int):List Frm:=if shownF F 0 then flatN 64 (LAY F (max w 0) (max h 0) 0 (max w 0) (max h 0) (-1) (-1)) else []
theorem all_ids (hF:WF F d) (hg:∀x,GS (stF F x)) (w h:Int):((allP F w h).map Frm.id).Perm ((order F).filter (shownF F)):=by
  have hr:=good_root hF hg (ww:=max w 0) (wh:=max h 0) (max w 0) (max h 0) (-1) (-1);have hid:(LAY F (max w 0) (max h 0) 0 (max w 0) (max h 0) (-1) (-1)).id=0:=(layN_LB _ _ (hg 0) 64 _ _ _ _).1;unfold allP
  split
  · rename_i hs
    have:=ids_perm hF hg (max w 0) (max h 0) 64 _ hr.1 (by omega) (by rw[hid];exact hs) hr.2;rw[hid] at this;exact this
  · rename_i hs
    have:=vis_no hF 64 0 (by omega) (by simpa using hs);exact List.Perm.of_eq this.symm
theorem all_len (hF:WF F d) (hg:∀x,GS (stF F x)) (w h:Int):(allP F w h).length≤4096:=by
  have h1:=(all_ids hF hg w h).length_eq;have h2:=List.length_filter_le (shownF F) (order F);have h3:=hF.len_le 0;rw[List.length_map] at h1;unfold order at h1 h2;omega
def rectV (f:Frm):Value:=.agg #[.int .i64 (cut f.x),.int .i64 (cut f.y),.int .i64 (cut f.w),.int .i64 (cut f.h)]
def putAll (ps:List Frm):List (Int×Value):=ps.foldl (fun m f=>putM m f.id (rectV f)) []
theorem putAll_snoc (ps:List Frm) (f:Frm):putAll (ps++[f])=putM (putAll ps) f.id (rectV f):=by simp[putAll]
end
end Go.Proofs.YtbedndijejpcaaaGreat
