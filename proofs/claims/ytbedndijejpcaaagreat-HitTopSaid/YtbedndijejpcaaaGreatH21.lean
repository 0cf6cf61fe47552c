/- FlowNew FlowLay FlowIds FlowAll -/
import Derived.Test.YtbedndijejpcaaaGreatH20
set_option linter.unusedVariables false
set_option linter.unusedSimpArgs false
set_option linter.unusedSectionVars false
set_option maxRecDepth 100000
set_option maxHeartbeats 8000000
namespace Go.Proofs.YtbedndijejpcaaaGreat
open Go.RowKit
theorem mO {P:Program} {S:World→Prop} {o:Oper} {ρ:Env} {v v':Value} (h:cw P S o ρ v) (e:v=v'):cw P S o ρ v':=e▸h
theorem WP.KB {P:Program} {r:Option Nat} {N:Nat} {Q:XP} {ρ:Env} {ds:List Deferred} {c:Code} {w0:World} {M:Nat→Prop} {H:cq} {F:List HI} {A:Option Addr} {ca:Nat} {es:List FP} (hall:∀e∈es,iK H e)
    (h:∀H',H.Sub H'→k6 H' A (es.map FP.fr)→WP P r N c Q ρ ds (St w0 M (aN H'::F))):WP P r N c Q ρ ds (St w0 M (aN H::ga A ca es::F)):=fun w hw=>by
  obtain⟨H',hs,hA,hw'⟩:=hw.freeze;refine h H' hs ?_ w hw'
  rcases hA with ⟨rfl,hx⟩ | ⟨g,rfl,hg⟩
  · have hl := congrArg List.length hx
    rw[gE] at hl;have:es=[]:=List.eq_nil_of_length_eq_zero (by simp at hl;omega);subst this;exact .nil
  · exact .row hg fun e he=>(hall e he).mono hs
def Ib (d:Int):Nat:=if d=1 then 177 else if d=2 then 178 else 176
def OO:List (Int×Value):=[(0,.func (.func 176) #[] #[]),(1,.func (.func 177) #[] #[]),(2,.func (.func 178) #[] #[])]
theorem GX {d:Int} (h:d=0∨d=1∨d=2) (z:Value):(lookM OO d).getD z=.func (.func (Ib d)) #[] #[]:=by rcases h with rfl | rfl | rfl<;>rfl
theorem FR {d:Int} (h:d=0∨d=1∨d=2) (args:Array Value) (w:World):(callFunc (Ib d) args).run Tryz.prog w=.ok (.enter (Ib d) args) w:=by
  rcases h with rfl | rfl | rfl
  · exact Tryz.call176 args w
  · exact Tryz.call177 args w
  · exact Tryz.call178 args w
theorem JS:Ct Tryz.prog 147 #[] [] (fun _=>True) (X:=Nat) (fun b=>.map (some b)) (fun _=>True) (fun b=>[aP b OO]):=by
  refine Ci fun w0 _=>?_;refine gv ?_;refine sg rfl ?_;refine gg ?_;refine aj.ef (eV (σ':=fun _=>[_]) (fun _=>rfl)) (fun mp1=>?_);refine aj.aX (mr (k:=0) (u:=.func (.func 176) #[] #[]) (σ':=[_]) Tryz.underlying210 Tryz.underlying28 rfl rfl rfl (i:=0) rfl rfl) (fun _=>?_);refine aj.aX (mr (k:=1) (u:=.func (.func 177) #[] #[]) (σ':=[_]) Tryz.underlying210 Tryz.underlying28 rfl rfl rfl (i:=0) rfl rfl) (fun _=>?_);refine aj.aX (mr (k:=2) (u:=.func (.func 178) #[] #[]) (σ':=[_]) Tryz.underlying210 Tryz.underlying28 rfl rfl rfl (i:=0) rfl rfl) (fun _=>?_);refine mv (v:=.map _) rfl ?_;refine sg (v:=.map _) rfl ?_;refine gg ?_;exact WP.cP Tryz.results147 (fun _ h=>h) (fun w hw=>⟨mp1,rfl,trivial,(hw.sel [0] (by decide))⟩)
theorem ND {es:List FP} {j:Nat} {e:FP} (h:es[j]?=some e):∀(q:Nat) (u:Value),([.int .i64 e.fr.x,.int .i64 e.fr.y]:List Value)[q]?=some u→(es.flatMap FP.enc)[0+j*6+1+q]?=some u
  | 0,u,hq=>pr h (o:=1) (by omega) (by simpa using hq)
  | 1,u,hq=>pr h (o:=2) (by omega) (by simpa using hq)
  | q+2,u,hq=>by simp at hq
theorem Dl {s:List Value} {rh ih n:Int} (h:ih= -1):jr s rh ih n=tC s (max n 0) rh:=if_pos h
theorem C1 {s:List Value} {rh ih n:Int} (h:¬ih= -1):jr s rh ih n=ih:=if_neg h
def dF:ew:=⟨0,0,0,0,0,[]⟩
section
variable (tp mb fb lb:Nat) (es:List PE) (hk:eG es) {d:Int→Nat} (hF:WF (ae es) d) (hg:∀x,GS (ah (ae es) x)) (hK:∀x,(aH (ae es) x).length≤64) (ww wh:Int) (V L:er) (id:Int) (B:Int) (hB:281474976710656≤B∧B≤2251799813685248)
    (hks:∀k∈aH (ae es) id,LB L k∧mc tp mb fb lb es ww wh V L k B) (hww:0≤ww∧ww≤1048576) (hwh:0≤wh∧wh≤1048576)
include hk hF hg hK hB hks in
theorem Qc {iw ih:Int} (hiw:0≤iw∧iw≤B) (hih:-1≤ih∧ih≤B) (hne:aZ (ae es) id false≠[]):I6 tp mb fb lb es ww wh V (Ib (val (ah (ae es) id) 0)) id (aZ (ae es) id false) iw ih (kj (ae es) L id iw ih):=by
  have hl:=Nat.le_trans (ku (ae es) id false) (hK id);have hp:0<(aZ (ae es) id false).length:=List.length_pos_iff.2 hne;have hn:1≤(aZ (ae es) id false).length∧(aZ (ae es) id false).length≤64:=⟨hp,hl⟩;have hks':∀k∈aZ (ae es) id false,aK (ae es) k=true∧LB L k∧mc tp mb fb lb es ww wh V L k B:=fun k h=>⟨(dA hF (dz h)).1,hks k (dz h)⟩;have hd:=tf (hg id) (td hF (x:=id) (a:=false) (eo (l:=aZ (ae es) id false) (i:=0) hp));unfold kj Ib;rw[if_neg hne]
  rcases hd with h | h | h
  · rw [h]
    exact Ed tp mb fb lb es hk hF hg ww wh V L id _ iw ih B hn hks' hiw hih (by omega)
  · rw [h]
    exact JJ tp mb fb lb es hk hF hg ww wh V L id _ iw ih B hn hks' hiw hih hB
  · rw [h]
    exact AN tp mb fb lb es hk hF hg ww wh V L id _ iw ih B hn hks' hiw hih hB
include hk hF hg hK hB hks hww hwh in
theorem Gj (rw rh sw sh:Int) (hok:okA (B - 8796093022208) rw rh sw sh):JM tp mb fb lb es ww wh V 110 [.int .i64 id,q2 rw rh,q2 sw sh] (e8 (ae es) ww wh L id rw rh sw sh):=by
  intro m0 H0 hm0;obtain⟨hrw,hrh,hsw,hsh⟩:=hok;have hiw:=(hg id).IE rw sw;have hih:=(hg id).IS rh sh;have hea:=(hg id).j6;have hed:=(hg id).nQ;have heaw:eA (ah (ae es) id)=eS (ah (ae es) id) 3+eS (ah (ae es) id) 1:=rfl;have hedw:eD (ah (ae es) id)=eS (ah (ae es) id) 0+eS (ah (ae es) id) 2:=rfl;have he0:=(hg id).rB 0 (by decide);have he3:=(hg id).rB 3 (by decide);have hin:=SA hF hg hK (L:=L) (iw:=gy (ah (ae es) id) rw sw) (fun k hk=>(hks k hk).1) (show fU (ah (ae es) id) rh sh≤B by omega) hB.2 hih.1;have hil:=Kp hK (L:=L) (id:=id) (iw:=gy (ah (ae es) id) rw sw) (ih:=fU (ah (ae es) id) rh sh);have hak:=Nat.le_trans (ku (ae es) id true) (hK id);have hie:=yn (ah (ae es) id) rh (fU (ah (ae es) id) rh sh) (kj (ae es) L id (gy (ah (ae es) id) rw sw) (fU (ah (ae es) id) rh sh)).2 hih.1;refine Ci fun w0 _=>?_;refine gg ?_;refine aj.ef xB fun b6=>?_;refine aj.ef xB fun b7=>?_;refine aj.ef cg fun b8=>?_;refine gg ?_;refine eF (xC (a6 tp mb es hk id)) fun _ _=>?_;refine aj.ef cg fun b9=>?_;refine aj.aX (xZ (hg id).ok rfl) fun _=>?_;refine gg ?_;refine vl (vW (bZ.len (hg id).ok)) ?_;refine eF (xC (dg _ (hg id).ok (hg id).iW)) fun _ _=>?_;refine aj.ef cg fun b10=>?_;refine aj.aX (xW rfl) fun _=>?_;refine gg ?_;refine wG [0,1,2,3,4,5,6,7,8] ?_;refine tF 0 (vW (bZ.len (hg id).ok)) ?_;refine aG 1 ?_;refine aG 2 ?_;refine aG 3 ?_;refine aG 4 ?_;refine tF 6 (vW (bZ.len (hg id).ok)) ?_;refine aG 7 ?_;refine aG 8 ?_;refine aG 9 ?_;refine aG 10 ?_;refine fK 5 13 ?_ ?_
  case' _=>
   refine fF (xC (Al (ah (ae es) id) (hg id).ok rw sw (hg id).uu (by omega) (by omega))) fun _ _=>?_;refine fK 11 13 ?_ ?_
   case' _=>
    refine fF (xC (tz (ah (ae es) id) (hg id).ok rh sh (hg id).uu (by omega) (by omega))) fun _ _=>?_;refine tG 12 rfl (cB (us:=[.int .i64 _,.int .i64 _]) Tryz.underlying109 Tryz.zeroValue109 Tryz.sizeOf3 rfl rfl rfl) ?_;refine fO 13 ?_;refine fE cg fun b11=>?_
   rotate_left
   case' _=>
    refine fE cg fun b11=>?_;refine fO 11 ?_;refine fF (xC (tz (ah (ae es) id) (hg id).ok rh sh (hg id).uu (by omega) (by omega))) fun _ _=>?_;refine tG 12 rfl (cB (us:=[.int .i64 _,.int .i64 _]) Tryz.underlying109 Tryz.zeroValue109 Tryz.sizeOf3 rfl rfl rfl) ?_
  rotate_left 2
  case' _=>
   refine fE cg fun b11=>?_;refine fO 5 ?_;refine fF (xC (Al (ah (ae es) id) (hg id).ok rw sw (hg id).uu (by omega) (by omega))) fun _ _=>?_;refine fO 11 ?_;refine fF (xC (tz (ah (ae es) id) (hg id).ok rh sh (hg id).uu (by omega) (by omega))) fun _ _=>?_;refine tG 12 rfl (cB (us:=[.int .i64 _,.int .i64 _]) Tryz.underlying109 Tryz.zeroValue109 Tryz.sizeOf3 rfl rfl rfl) ?_
  all_goals
   refine fO 14 ?_;refine nF (xW rfl) fun _=>?_;refine fN (oo ?_);refine bW ?_;refine vl (aV (us:=[.int .i64 _,.int .i64 _,.int .i64 _,.int .i64 _,.int .i64 _,.slice _ _ _]) (pl:=[(0,1),(1,2),(3,2),(5,1)]) Tryz.underlying115 Tryz.zeroValue115 rfl (by kernel_rfl) rfl rfl (by kernel_rfl)) ?_;refine aj.ef cg fun b12=>?_;refine aj.aX (xW rfl) fun _=>?_;refine gg ?_;refine vl (vS (hg id).ok 54) ?_;refine bW ?_;refine WP.iU [0,1,6,8,9,10,11,12] (X:=List (KI×Value)×cq×List FP×Option Addr×Nat) (fun p=>[(13,.int .i64 (kj (ae es) L id (gy (ah (ae es) id) rw sw) (fU (ah (ae es) id) rh sh)).2)]) (fun p=>fun w=>(H0.Sub p.2.1∧l7 V p.2.1 p.1∧p.2.2.1.map FP.fr=(kj (ae es) L id (gy (ah (ae es) id) rw sw) (fU (ah (ae es) id) rh sh)).1∧∀e∈p.2.2.1,iK p.2.1 e)∧St w0 (ay [al tp mb es,dV fb tp lb ww wh,aU lb m0,aN H0]) [al tp mb es,dV fb tp lb ww wh,aU lb p.1,aN p.2.1,.cl b6 109 [.int .i64 rw,.int .i64 rh],.cl b8 115 [.int .i64 0,.int .i64 0,.int .i64 0,.int .i64 0,.int .i64 0,.slice none 0 0],.cl b9 42 (ah (ae es) id),.cl b10 35 [.int .i64 (eS (ah (ae es) id) 0),.int .i64 (eS (ah (ae es) id) 1),.int .i64 (eS (ah (ae es) id) 2),.int .i64 (eS (ah (ae es) id) 3)],.cl b11 109 [.int .i64 (gy (ah (ae es) id) rw sw),.int .i64 (fU (ah (ae es) id) rh sh)],.cl b12 115 [.int .i64 id,.int .i64 0,.int .i64 0,.int .i64 0,.int .i64 0,.slice p.2.2.2.1 p.2.2.1.length p.2.2.2.2],ga p.2.2.2.1 p.2.2.2.2 p.2.2.1] w) ?_ (fun p ρ0=>?_)
   ·refine gg ?_;refine eF (xC (qJ tp mb es hk hF id)) fun⟨kA,kc⟩ _=>?_;refine gg ?_;refine WP.aw rfl (fun h53=>?_) (fun h53=>?_)
    ·have hne:(aZ (ae es) id false)≠[]:=by intro h;rw[h] at h53;simp at h53
     have hd:=tf (hg id) (td hF (x:=id) (a:=false) (eo (l:=(aZ (ae es) id false)) (i:=0) (List.length_pos_iff.2 hne)));refine wP none [3,4,5,6,7,8] [pT 1,pT 2,pT 4,pT 5,pT 6,pT 7,pF 0,pF 3,pF 8,pT 9,pT 10,pT 11,pT 12,pF 13,pT 14] ?_;refine gg ?_;refine tD (vS (hg id).ok 0) ?_;refine gg ?_;refine dG (xC JS) fun wb _=>?_;refine aB.val rfl (mO (fu (m:=OO) (k:=val (ah (ae es) id) 0) Tryz.underlying210 Tryz.underlying28 Tryz.zeroValue209 rfl rfl (fun w hw=>(hw.fC (i:=12) rfl))) (GX hd _)) (fun _ h=>h.sel [3,4,5,6,7,8] (by decide)) ?_;refine dG (xV (Qc tp mb fb lb es hk hF hg hK ww wh V L id B hB hks (iw:=(gy (ah (ae es) id) rw sw)) (ih:=(fU (ah (ae es) id) rh sh)) (by omega) (by omega) hne m0 H0 kA kc hm0) (FR hd)) fun⟨m1,H1,gA,gc,gs⟩ ⟨hsub1,hmok1,hgs,hga⟩=>?_;dsimp only at hsub1 hmok1 hgs hga;refine aB.take rfl (aC rfl) ?_ (fun _ h=>h.sel [0,1,2,3,4,5] (by decide));refine aB.take rfl (bR (v:=.slice _ _ _) rfl rfl) ?_ (fun _ h=>h.sel [0,1,2,3,4,5] (by decide));refine aB.take rfl (bR (v:=.int .i64 _) rfl rfl) ?_ (fun _ h=>h.sel [0,1,2,3,4,5] (by decide));refine aB.take rfl (aS (o':=5) Tryz.underlying115 rfl Tryz.sizeOf113 rfl rfl) ?_ (fun _ h=>h.sel [0,1,2,3,4,5] (by decide));refine aB.aX rfl (cz (u:=.slice _ _ _) (σ':=[_,_,_,_,_,_,.cl _ _ [_,_,_,_,_,_],_,_,_,_,_,_,_]) Tryz.sizeOf113 rfl rfl (i:=6) rfl (Nat.lt_of_lt_of_le (Nat.lt_succ_self _) (Nat.le_of_ble_eq_true rfl)) rfl) (fun _ _ _ h=>h.sel [0,1,2,3,4,5] (by decide)) (fun _=>?_);refine ad ?_;exact aB.nil fun w hw=>⟨rfl,(m1,H1,gs,gA,gc),⟨rfl,jP,jI,rfl,rfl,rfl,rfl,rfl,rfl,trivial⟩,⟨hsub1,hmok1,hgs,hga⟩,hw.pk⟩
    ·have hnil:(kj (ae es) L id (gy (ah (ae es) id) rw sw) (fU (ah (ae es) id) rh sh))=([],val (ah (ae es) id) 54):=if_pos (List.eq_nil_of_length_eq_zero (by omega));exact WP.skip fun w hw=>⟨rfl,(m0,H0,[],none,0),⟨(congrArg (Value.int .i64) (by rw[hnil])),jP,jI,rfl,rfl,rfl,rfl,rfl,rfl,trivial⟩,⟨cq.Sub.refl _,hm0,by rw[hnil];rfl,fun e h=>by simp at h⟩,St.bB ((hw.sel [10,0,1,2,3,5,6,7,8,9] (by decide))) 115 6⟩
   ·obtain⟨m,H,gs,gA,gc⟩:=p;dsimp only;refine WP.fact (fun⟨hsub,hmok,hmap,hall⟩=>?_);refine gg ?_;refine WP.bm (X:=Nat×List FP) [0,1,6,8,9,10,11,12,13,69] (fun p=>[(70,.int .i64 (p.1:Int))]) (fun p w=>(p.1≤gs.length∧p.2.map FP.fr=dU (kj (ae es) L id (gy (ah (ae es) id) rw sw) (fU (ah (ae es) id) rh sh)).1.length (fun i=>if i<p.1 then pW (ae es) (ah (ae es) id) (gy (ah (ae es) id) rw sw) (fU (ah (ae es) id) rh sh) ((kj (ae es) L id (gy (ah (ae es) id) rw sw) (fU (ah (ae es) id) rh sh)).1.getD i dF) else (kj (ae es) L id (gy (ah (ae es) id) rw sw) (fU (ah (ae es) id) rh sh)).1.getD i dF)∧∀e∈p.2,iK H e)∧St w0 (ay [al tp mb es,dV fb tp lb ww wh,aU lb m0,aN H0]) [al tp mb es,dV fb tp lb ww wh,aU lb m,aN H,.cl b6 109 [.int .i64 rw,.int .i64 rh],.cl b8 115 [.int .i64 0,.int .i64 0,.int .i64 0,.int .i64 0,.int .i64 0,.slice none 0 0],.cl b9 42 (ah (ae es) id),.cl b10 35 [.int .i64 (eS (ah (ae es) id) 0),.int .i64 (eS (ah (ae es) id) 1),.int .i64 (eS (ah (ae es) id) 2),.int .i64 (eS (ah (ae es) id) 3)],.cl b11 109 [.int .i64 (gy (ah (ae es) id) rw sw),.int .i64 (fU (ah (ae es) id) rh sh)],.cl b12 115 [.int .i64 id,.int .i64 0,.int .i64 0,.int .i64 0,.int .i64 0,.slice gA gs.length gc],ga gA gc p.2] w) (fun p=>gs.length - p.1) (0,gs) ⟨rfl,trivial⟩ (fun w hw=>⟨⟨Nat.zero_le _,by rw[hmap];simp only[Nat.not_lt_zero,if_false];exact(tY _ dF).symm,hall⟩,(hw.sel [0,1,2,3,4,5,6,7,8,9,10] (by decide))⟩) (fun p ρ0=>?_);obtain⟨j,hs⟩:=p;dsimp only;refine WP.fact (fun⟨hjn,hmap1,hall1⟩=>?_);have hhl:=lh hmap1;have hgl:gs.length=(kj (ae es) L id (gy (ah (ae es) id) rw sw) (fU (ah (ae es) id) rh sh)).1.length:=by rw[←hmap,List.length_map]
    refine gg ?_;refine WP.aw rfl (fun h71=>?_) (fun h71=>?_)
    ·have hjl:j<(kj (ae es) L id (gy (ah (ae es) id) rw sw) (fU (ah (ae es) id) rh sh)).1.length:=by omega
     obtain⟨e,hej,hef⟩:=rZ hmap1 hjl;rw[if_neg (by omega)] at hef;have hfb:=hin.1 e.fr (by rw[hef,List.getD_eq_getElem?_getD,List.getElem?_eq_getElem hjl];exact List.getElem_mem hjl);unfold FB at hfb;have hmx:=Jl (ah (ae es) e.fr.id) (gy (ah (ae es) id) rw sw);have hmy:=J1 (ah (ae es) e.fr.id) (fU (ah (ae es) id) rh sh);refine WP.holds (fun w hw=>hw.aM (i:=10) rfl (by omega)) (fun⟨pb_kd,hA_kd⟩=>?_);subst hA_kd;refine gg ?_;refine wP (some 22) [1,2,3,4,5,6,7,8,9,10] [pT 0,pT 1,pT 2,pT 3,pT 4,pT 5,pT 8,pT 9,pT 10,pT 11,pT 12,pT 13,pT 14,pT 15,pT 17,pF 6,pF 7,pF 16,pF 18,pF 19,pF 20,pT 21,pF 22] ?_;refine bS ?_;refine tE rfl (au (cs:=[.int .i64 e.fr.x,.int .i64 e.fr.y]) Tryz.isAgg109 Tryz.sizeOf109 rfl (fun w hw=>hw.dH (i:=9) rfl _ (ND hej))) ?_;refine uw ?_;refine tE rfl (ai (u:=.int .i64 e.fr.id) Tryz.isAgg3 rfl (fun w hw=>hw.bh (i:=9) (k:=0+j*6) rfl (pr hej (o:=0) (by omega) rfl) (by omega))) ?_;refine gg ?_;refine dG (xC (dn (eS (ah (ae es) id) 0) (eS (ah (ae es) id) 1) (eS (ah (ae es) id) 2) (eS (ah (ae es) id) 3))) fun _ _=>?_;refine dG (xC (ep e.fr.x e.fr.y (eS (ah (ae es) id) 3) (eS (ah (ae es) id) 0) (by omega) (by omega))) fun _ _=>?_;refine dG (xC (a6 tp mb es hk e.fr.id)) fun _ _=>?_;refine dG (xC (EB (ah (ae es) e.fr.id) (hk.aE e.fr.id) (gy (ah (ae es) id) rw sw) (fU (ah (ae es) id) rh sh))) fun _ _=>?_;refine dG (xC (ep (e.fr.x+eS (ah (ae es) id) 3) (e.fr.y+eS (ah (ae es) id) 0) (uC (ah (ae es) e.fr.id) (gy (ah (ae es) id) rw sw)) (uJ (ah (ae es) e.fr.id) (fU (ah (ae es) id) rh sh)) (by omega) (by omega))) fun _ _=>?_;refine aB.val rfl (jO rfl) (fun _ h=>h.sel [0,1,2,3,4,5,6,7,8,9] (by decide)) ?_;refine gg ?_;refine aB.aX rfl (lz (o:=0+j*6+1) (us:=[_,_]) (xs':=(hs.set j ⟨pW (ae es) (ah (ae es) id) (gy (ah (ae es) id) rw sw) (fU (ah (ae es) id) rh sh) e.fr,e.A,e.c⟩).flatMap FP.enc) (σ':=[_,_,_,_,_,_,_,_,_,_,_]) Tryz.sizeOf109 rfl rfl (i:=9) rfl (by rw[gE];simp only[List.length_cons,List.length_nil];omega) (ti hej (o:=1) (by omega) (Nat.le_of_ble_eq_true rfl) rfl) rfl (by simp[Value.oneCell'])) (fun h=>absurd rfl h) (fun _=>?_);refine bS ?_;exact nl fun w hw=>⟨rfl,(j+1,hs.set j ⟨pW (ae es) (ah (ae es) id) (gy (ah (ae es) id) rw sw) (fU (ah (ae es) id) rh sh) e.fr,e.A,e.c⟩),(by simp only;omega),⟨rfl,jP,jI,rfl,rfl,rfl,rfl,rfl,rfl,jI,jI,trivial⟩,⟨⟨by simp only;omega,pd (g:=fun i=>pW (ae es) (ah (ae es) id) (gy (ah (ae es) id) rw sw) (fU (ah (ae es) id) rh sh) ((kj (ae es) L id (gy (ah (ae es) id) rw sw) (fU (ah (ae es) id) rh sh)).1.getD i dF)) (f:=fun i=>(kj (ae es) L id (gy (ah (ae es) id) rw sw) (fU (ah (ae es) id) rh sh)).1.getD i dF) hmap1 (by simp only;rw[hef]),o5 hall1 (by have:=hall1 e (List.mem_of_getElem? hej);exact this)⟩,by simp only[ga,List.length_set];exact hw.pk⟩⟩
    ·obtain rfl:j=gs.length:=by omega
     have hmap2:hs.map FP.fr=(kj (ae es) L id (gy (ah (ae es) id) rw sw) (fU (ah (ae es) id) rh sh)).1.map (pW (ae es) (ah (ae es) id) (gy (ah (ae es) id) rw sw) (fU (ah (ae es) id) rh sh)):=by
       rw[hmap1,cI (g:=fun i=>pW (ae es) (ah (ae es) id) (gy (ah (ae es) id) rw sw) (fU (ah (ae es) id) rh sh) ((kj (ae es) L id (gy (ah (ae es) id) rw sw) (fU (ah (ae es) id) rh sh)).1.getD i dF)) fun i hi=>by rw[if_pos (by omega)],←rS (f:=fun i=>(kj (ae es) L id (gy (ah (ae es) id) rw sw) (fU (ah (ae es) id) rh sh)).1.getD i dF),tY]
     refine WP.exit (an ?_);refine WP.iU [0,1,8,9,10,11,12] (X:=Unit) (fun _=>[]) (fun _=>fun w=>St w0 (ay [al tp mb es,dV fb tp lb ww wh,aU lb m0,aN H0]) [al tp mb es,dV fb tp lb ww wh,aU lb m,aN H,.cl b6 109 [.int .i64 rw,.int .i64 rh],.cl b8 115 [.int .i64 0,.int .i64 0,.int .i64 0,.int .i64 0,.int .i64 0,.slice none 0 0],.cl b9 42 (ah (ae es) id),.cl b10 35 [.int .i64 (eS (ah (ae es) id) 0),.int .i64 (eS (ah (ae es) id) 1),.int .i64 (eS (ah (ae es) id) 2),.int .i64 (eS (ah (ae es) id) 3)],.cl b11 109 [.int .i64 (gy (ah (ae es) id) rw sw),.int .i64 (jr (ah (ae es) id) rh (fU (ah (ae es) id) rh sh) (kj (ae es) L id (gy (ah (ae es) id) rw sw) (fU (ah (ae es) id) rh sh)).2)],.cl b12 115 [.int .i64 id,.int .i64 0,.int .i64 0,.int .i64 0,.int .i64 0,.slice gA gs.length gc],ga gA gc hs] w) ?_ (fun _ ρ0=>?_)
     ·refine gg ?_;refine WP.aw rfl (fun h102=>?_) (fun h102=>?_)
      ·refine gg ?_;refine vl (vW (bZ.len (hg id).ok)) ?_;refine gg ?_;refine eF (xC (qE (ah (ae es) id) (hg id).ok _ rh)) fun _ _=>?_;refine gg ?_;refine aj.aX (xS rfl (jJ rfl)) fun _=>?_;exact nl fun w hw=>⟨rfl,(),⟨jP,jI,rfl,rfl,rfl,rfl,rfl,trivial⟩,by first | (rw[Dl h102];exact hw.pk) | (rw[C1 h102];exact hw.pk)⟩
      ·exact WP.skip fun w hw=>⟨rfl,(),⟨jP,jI,rfl,rfl,rfl,rfl,rfl,trivial⟩,by first | (rw[Dl h102];exact hw.pk) | (rw[C1 h102];exact hw.pk)⟩
     ·refine gg ?_;refine wP (some 5) [0,1,2,3,4,5,6,7,8,9,10] [pT 0,pT 1,pF 2,pF 3,pT 4,pF 5] ?_;refine gg ?_;refine dG (xC (tj (eS (ah (ae es) id) 0) (eS (ah (ae es) id) 1) (eS (ah (ae es) id) 2) (eS (ah (ae es) id) 3) (by omega) (by omega))) fun _ _=>?_;refine dG (xC (ep (gy (ah (ae es) id) rw sw) (jr (ah (ae es) id) rh (fU (ah (ae es) id) rh sh) (kj (ae es) L id (gy (ah (ae es) id) rw sw) (fU (ah (ae es) id) rh sh)).2) (eA (ah (ae es) id)) (eD (ah (ae es) id)) (by omega) (by omega))) fun _ _=>?_;refine gg ?_;refine aB.aX rfl (cy (us:=[.int .i64 _,.int .i64 _]) (σ':=[_,_,_,_,_,_,_,_,_,.cl _ _ [_,_,_,_,_,_],_]) Tryz.sizeOf109 rfl rfl (i:=9) rfl (Nat.le_of_ble_eq_true rfl) rfl (by simp[Value.oneCell'])) (fun h=>absurd rfl h) (fun _=>?_);refine cK ?_;have hlen:gs.length=hs.length:=by rw[hhl,hgl]
      refine gg ?_;refine eF (xC (zS tp mb es hk hF id true)) fun⟨kA2,kc2⟩ _=>?_;refine gg ?_;refine WP.bm (X:=Nat×List (KI×Value)×cq×List FP×Option Addr×Nat) [0,8,9,11,12,120,121] (fun p=>[(122,.int .i64 (p.1:Int))]) (fun p w=>(p.1≤(aZ (ae es) id true).length∧H0.Sub p.2.2.1∧l7 V p.2.2.1 p.2.1∧p.2.2.2.1.map FP.fr=(kj (ae es) L id (gy (ah (ae es) id) rw sw) (fU (ah (ae es) id) rh sh)).1.map (pW (ae es) (ah (ae es) id) (gy (ah (ae es) id) rw sw) (fU (ah (ae es) id) rh sh))++((aZ (ae es) id true).take p.1).map (iR (ae es) ww wh L (ah (ae es) id) (gy (ah (ae es) id) rw sw) (jr (ah (ae es) id) rh (fU (ah (ae es) id) rh sh) (kj (ae es) L id (gy (ah (ae es) id) rw sw) (fU (ah (ae es) id) rh sh)).2))∧∀e∈p.2.2.2.1,iK p.2.2.1 e)∧St w0 (ay [al tp mb es,dV fb tp lb ww wh,aU lb m0,aN H0]) [al tp mb es,dV fb tp lb ww wh,aU lb p.2.1,aN p.2.2.1,.cl b6 109 [.int .i64 rw,.int .i64 rh],.cl b8 115 [.int .i64 0,.int .i64 0,.int .i64 0,.int .i64 0,.int .i64 0,.slice none 0 0],.cl b9 42 (ah (ae es) id),.cl b10 35 [.int .i64 (eS (ah (ae es) id) 0),.int .i64 (eS (ah (ae es) id) 1),.int .i64 (eS (ah (ae es) id) 2),.int .i64 (eS (ah (ae es) id) 3)],.cl b11 109 [.int .i64 (gy (ah (ae es) id) rw sw),.int .i64 (jr (ah (ae es) id) rh (fU (ah (ae es) id) rh sh) (kj (ae es) L id (gy (ah (ae es) id) rw sw) (fU (ah (ae es) id) rh sh)).2)],.cl b12 115 [.int .i64 id,.int .i64 0,.int .i64 0,.int .i64 ((gy (ah (ae es) id) rw sw)+eA (ah (ae es) id)),.int .i64 ((jr (ah (ae es) id) rh (fU (ah (ae es) id) rh sh) (kj (ae es) L id (gy (ah (ae es) id) rw sw) (fU (ah (ae es) id) rh sh)).2)+eD (ah (ae es) id)),.slice p.2.2.2.2.1 p.2.2.2.1.length p.2.2.2.2.2],ga p.2.2.2.2.1 p.2.2.2.2.2 p.2.2.2.1,az kA2 (aZ (ae es) id true).length kc2 (aZ (ae es) id true)] w) (fun p=>(aZ (ae es) id true).length - p.1) (0,m,H,hs,gA,gc) ⟨rfl,trivial⟩ (fun w hw=>⟨⟨Nat.zero_le _,hsub,hmok,by simp only[List.take_zero,List.map_nil,List.append_nil];exact hmap2,hall1⟩,by simp only;rw[←hlen];exact(hw.sel [10,0,1,2,3,4,5,6,7,8,9,11] (by decide))⟩) (fun p ρ0=>?_);obtain⟨j,m2,H2,xs,xA,xc⟩:=p;dsimp only;refine WP.fact (fun⟨hjn,hsub2,hmok2,hmap3,hall2⟩=>?_);have hxl:xs.length=(kj (ae es) L id (gy (ah (ae es) id) rw sw) (fU (ah (ae es) id) rh sh)).1.length+j:=by
        have h1:=congrArg List.length hmap3;rw[List.length_map,List.length_append,List.length_map,List.length_map,List.length_take] at h1;omega
      refine gg ?_;refine WP.aw rfl (fun h123=>?_) (fun h123=>?_)
      ·have hj2:j<(aZ (ae es) id true).length:=by omega
       obtain⟨kid,hkid⟩:∃kid,(aZ (ae es) id true)[j]?=some kid:=⟨_,List.getElem?_eq_getElem hj2⟩;obtain⟨hkb,hkl⟩:=hks kid (dz (List.mem_of_getElem? hkid));refine WP.holds (fun w hw=>hw.aM (i:=11) rfl (by omega)) (fun⟨pb_ak,hA_ak⟩=>?_);subst hA_ak;refine gg ?_;refine vl (vR 11 (by rw[List.getElem?_map,hkid];rfl)) ?_;refine gg ?_;refine wP (some 10) [4,5,6,7,8,9,11] [pT 0,pT 1,pT 2,pT 3,pT 4,pT 5,pF 6,pF 7,pF 8,pT 9,pF 10] ?_;refine gg ?_;refine tD (vW (bZ.len (hg id).ok)) ?_;refine gg ?_;refine dG (xC (Fb tp mb fb lb es hk hF hg ww wh V L kid B hkb hkl hB (ah (ae es) id) (hg id) (gy (ah (ae es) id) rw sw) (jr (ah (ae es) id) rh (fU (ah (ae es) id) rh sh) (kj (ae es) L id (gy (ah (ae es) id) rw sw) (fU (ah (ae es) id) rh sh)).2) (by omega) (by omega) hww hwh m2 H2 hmok2)) fun⟨m1_,H1_,fA1,fc1⟩ ⟨hsub_,hmok_,hrep_⟩=>?_;dsimp only at hsub_ hmok_ hrep_;refine dE (xN (LF rfl)) fun g133=>?_;refine dE (xP 6 12) fun⟨A134,c134⟩=>?_;refine gg ?_;refine uz (xS rfl (Fv rfl)) fun _=>?_;refine bS ?_;exact nl fun w hw=>⟨rfl,(j+1,m1_,H1_,xs++[⟨(iR (ae es) ww wh L (ah (ae es) id) (gy (ah (ae es) id) rw sw) (jr (ah (ae es) id) rh (fU (ah (ae es) id) rh sh) (kj (ae es) L id (gy (ah (ae es) id) rw sw) (fU (ah (ae es) id) rh sh)).2)) kid,fA1,fc1⟩],A134,c134),(by simp only;omega),⟨rfl,jP,rfl,rfl,rfl,rfl,jS,jI,trivial⟩,⟨⟨by simp only;omega,hsub2.trans hsub_,hmok_,by simp only;rw[List.map_append,hmap3,l6 hkid,List.map_append,List.append_assoc];rfl,by exact o4 (p:=iK H1_) (fun x hx=>(hall2 x hx).mono hsub_) hrep_⟩,by simp only;rw[kB,sE];exact hw.pk⟩⟩
      ·obtain rfl:j=(aZ (ae es) id true).length:=by omega
       rw[List.take_of_length_le (Nat.le_refl _)] at hmap3;refine sl [3,10,0,1,2,4,5,6,7,8,9,11] ?_;refine WP.KB hall2 (fun H3 hs3 hrep3=>?_);have hfin:(e8 (ae es) ww wh L id rw rh sw sh).kids=xs.map FP.fr:=hmap3.symm;have hfl:(e8 (ae es) ww wh L id rw rh sw sh).kids.length=xs.length:=by rw[hfin,List.length_map]
       refine WP.exit (an ?_);refine gg ?_;refine aj.aX (xW rfl) fun _=>?_;refine gg ?_;exact jf rfl fun w hw=>⟨(m2,H3,xA,xc),congrArg (fun q=>Value.agg #[.int .i64 id,.int .i64 0,.int .i64 0,.int .i64 ((gy (ah (ae es) id) rw sw)+eA (ah (ae es) id)),.int .i64 ((jr (ah (ae es) id) rh (fU (ah (ae es) id) rh sh) (kj (ae es) L id (gy (ah (ae es) id) rw sw) (fU (ah (ae es) id) rh sh)).2)+eD (ah (ae es) id)),.slice xA q xc]) hfl.symm,⟨hsub2.trans hs3,hmok2.mono hs3,by simp only;rw[hfin];exact hrep3⟩,hw.pk⟩
end
section
variable (tp mb fb lb:Nat) (es:List PE) (ww wh:Int) (V:er) (id:Int) (B:Int)
theorem JA (hnew:∀rw rh sw sh,okA B rw rh sw sh→JM tp mb fb lb es ww wh V 110 [.int .i64 id,q2 rw rh,q2 sw sh] (V id rw rh sw sh)):mc tp mb fb lb es ww wh V V id B:=by
  intro m0 H0 rw rh sw sh hm0 hok;refine Ci fun w0 _=>?_;cases e:lookK m0 (id,rw,rh,sw,sh) with
  | none =>
    refine gg ?_;refine aj.ef xB fun b6=>?_;refine aj.ef xB fun b7=>?_;refine aj.ef cg fun b8=>?_;refine cR ?_;refine vl (aV (us:=[.int .i64 _,.int .i64 _,.int .i64 _,.int .i64 _,.int .i64 _]) (pl:=[(0,1),(1,2),(3,2)]) Tryz.underlying173 Tryz.zeroValue173 rfl (by kernel_rfl) rfl rfl (by kernel_rfl)) ?_;refine aj.ef cg fun b9=>?_;refine aj.aX (xW rfl) fun _=>?_;refine gg ?_;refine wP none [0,1,2,3,4,5,6,7] [pT 0,pT 1,pT 2,pT 3,pT 4,pT 5,pT 6,pT 7,pT 8,pF 9,pF 10,pT 11] ?_;refine cK ?_;refine tE rfl (ai (u:=.map _) Tryz.isAgg110 rfl (fun w hw=>hw.aq (i:=1) rfl _ rfl)) ?_;refine ad ?_;refine tE rfl (mO (Dp G3 (m:=m0) (k:=(id,rw,rh,sw,sh)) (z:=.agg #[.int .i64 0,.int .i64 0,.int .i64 0,.int .i64 0,.int .i64 0,.slice none 0 0]) Tryz.underlying110 Tryz.zeroValue115 rfl rfl (fun w hw=>hw.x4 (i:=2) rfl)) (v':=.tuple #[.agg #[.int .i64 0,.int .i64 0,.int .i64 0,.int .i64 0,.int .i64 0,.slice none 0 0],.bool false]) (by rw[e];rfl)) ?_;refine aB.take rfl (aC rfl) ?_ (fun _ h=>h.sel [0,1,2,3,4,5,6,7] (by decide));refine tE rfl (bR (v:=.agg #[.int .i64 0,.int .i64 0,.int .i64 0,.int .i64 0,.int .i64 0,.slice none 0 0]) rfl rfl) ?_;refine tE rfl (bR (v:=.bool false) rfl rfl) ?_;refine dE cg fun b10=>?_;refine uz (xW rfl) fun _=>?_;refine tE rfl (dB (v:=.bool false) rfl) ?_;refine gg ?_;refine WP.aQ rfl ?_;refine gg ?_;refine eF (xC (hnew rw rh sw sh hok m0 H0 hm0)) fun⟨m1,H1,fA1,fc1⟩ ⟨hsub1,hmok1,hrep1⟩=>?_;dsimp only at hsub1 hmok1 hrep1;refine aj.aX (xW rfl) fun _=>?_;refine gg ?_;refine WP.fj (some 6) [(0,true),(1,true),(2,true),(3,true),(4,true),(5,true),(6,false)] mixed (by kernel_rfl) (by decide) (fun _ h=>h.drawn) ?_;refine cK ?_;refine tE rfl (ai (u:=.map _) Tryz.isAgg110 rfl (fun w hw=>hw.aq (i:=6) rfl _ rfl)) ?_;refine gg ?_;refine aB.aX rfl (MP G3 (m:=m1) (k:=(id,rw,rh,sw,sh)) (u:=.agg (k7 (V id rw rh sw sh) fA1 fc1).toArray) (σ':=[_,_,_,_,_,_,_,_,_]) Tryz.underlying110 rfl rfl rfl (i:=7) rfl rfl) (fun h=>absurd rfl h) (fun _=>?_);refine gg ?_;refine aj.aX (xW rfl) fun _=>?_;refine gg ?_;exact jf rfl fun w hw=>⟨(putK m1 (id,rw,rh,sw,sh) (.agg (k7 (V id rw rh sw sh) fA1 fc1).toArray),H1,fA1,fc1),rfl,⟨hsub1,hmok1.put (id,rw,rh,sw,sh) hrep1,hrep1⟩,hw.pk⟩
  | some v =>
    obtain⟨vA,vc,rfl,hrep⟩:=hm0 _ _ e;refine gg ?_;refine aj.ef xB fun b6=>?_;refine aj.ef xB fun b7=>?_;refine aj.ef cg fun b8=>?_;refine cR ?_;refine vl (aV (us:=[.int .i64 _,.int .i64 _,.int .i64 _,.int .i64 _,.int .i64 _]) (pl:=[(0,1),(1,2),(3,2)]) Tryz.underlying173 Tryz.zeroValue173 rfl (by kernel_rfl) rfl rfl (by kernel_rfl)) ?_;refine aj.ef cg fun b9=>?_;refine aj.aX (xW rfl) fun _=>?_;refine gg ?_;refine wP none [0,1,2,3,4,5,6,7] [pT 0,pT 1,pT 2,pT 3,pT 4,pT 5,pT 6,pT 7,pT 8,pF 9,pF 10,pT 11] ?_;refine cK ?_;refine tE rfl (ai (u:=.map _) Tryz.isAgg110 rfl (fun w hw=>hw.aq (i:=1) rfl _ rfl)) ?_;refine ad ?_;refine tE rfl (mO (Dp G3 (m:=m0) (k:=(id,rw,rh,sw,sh)) (z:=.agg #[.int .i64 0,.int .i64 0,.int .i64 0,.int .i64 0,.int .i64 0,.slice none 0 0]) Tryz.underlying110 Tryz.zeroValue115 rfl rfl (fun w hw=>hw.x4 (i:=2) rfl)) (v':=.tuple #[.agg (k7 (V id rw rh sw sh) vA vc).toArray,.bool true]) (by rw[e];rfl)) ?_;refine aB.take rfl (aC rfl) ?_ (fun _ h=>h.sel [0,1,2,3,4,5,6,7] (by decide));refine tE rfl (bR (v:=.agg (k7 (V id rw rh sw sh) vA vc).toArray) rfl rfl) ?_;refine tE rfl (bR (v:=.bool true) rfl rfl) ?_;refine dE cg fun b10=>?_;refine uz (xW rfl) fun _=>?_;refine tE rfl (dB (v:=.bool true) rfl) ?_;refine gg ?_;refine WP.br rfl ?_;refine gg ?_;refine aj.aX (xW rfl) fun _=>?_;refine gg ?_;exact jf rfl fun w hw=>⟨(m0,H0,vA,vc),rfl,⟨cq.Sub.refl _,hm0,hrep⟩,hw.pk⟩
end
def Lt (n:Nat):Int:=281474976710656+8796093022208*n
theorem CA (tp mb fb lb:Nat) (es:List PE) (hk:eG es) {d:Int→Nat} (hF:WF (ae es) d) (hg:∀x,GS (ah (ae es) x)) (hK:∀x,(aH (ae es) x).length≤64) (ww wh:Int) (hww:0≤ww∧ww≤1048576) (hwh:0≤wh∧wh≤1048576):∀(n:Nat) (k:Int),aK (ae es) k=true→63<n+d k→
    mc tp mb fb lb es ww wh (Fj (ae es) ww wh) (Fj (ae es) ww wh) k (Lt (d k))
  | 0, k, hk1, hn => by
    obtain⟨b,hb⟩:=aL hk1;have:=hF.deep k b hb;omega
  | n + 1, k, hk1, hn => by
    obtain⟨b,hb⟩:=aL hk1;have hd:=hF.deep k b hb;refine JA tp mb fb lb es ww wh _ k _ fun rw rh sw sh hok=>?_;rw[Bz hF hk1];refine Gj tp mb fb lb es hk hF hg hK ww wh _ _ k (Lt (d k+1)) (by unfold Lt;omega) (fun j hj=>?_) hww hwh rw rh sw sh (by rw[show Lt (d k+1) - 8796093022208=Lt (d k) by unfold Lt;omega];exact hok);obtain⟨h1,h2,_,_⟩:=dA hF hj;refine⟨pQ ww wh (hg j) 64,?_⟩;have h3:=CA tp mb fb lb es hk hF hg hK ww wh hww hwh n j h1 (by omega);rw[h2] at h3;exact h3
def lJ:List (Nat×Nat)→Nat→Nat→Prop
  | [],s,e=>s=e
  | p::l,s,e=>p.1=s∧lJ l p.2 e
theorem me:∀{l:List (Nat×Nat)} {s f e:Nat},lJ l s f→lJ (l++[(f,e)]) s e
  | [],s,f,e,h=>⟨h.symm,rfl⟩
  | p::l,s,f,e,h=>⟨h.1,me h.2⟩
theorem sD {l:List Int} {room gap:Int} {wrap:Bool}:∀i,lJ (brkS l room gap wrap i).1 0 (brkS l room gap wrap i).2.1
  | 0=>rfl
  | i + 1 => by
    have h:=sD (l:=l) (room:=room) (gap:=gap) (wrap:=wrap) i;rw[brkS]
    split
    · exact h
    · split
      · exact h
      · exact me h
theorem uM {l:List Int} {room gap:Int} {wrap:Bool}:lJ (bL l room gap wrap) 0 l.length:=by
  have h:=sD (l:=l) (room:=room) (gap:=gap) (wrap:=wrap) l.length;have h2:=oq (l:=l) (room:=room) (gap:=gap) (wrap:=wrap) l.length;unfold bL
  split
  · exact me h
  · rw [show (brkS l room gap wrap l.length).2.1 = l.length by omega] at h
    exact h
def ptr (ls:List (Nat×Nat)):Nat→Nat
  | 0=>0
  | n+1=>(ls.getD n (0,0)).2
theorem tl:∀{ls:List (Nat×Nat)} {s e:Nat},lJ ls s e→∀n,n<ls.length→(ls.getD n (0,0)).1=(if n=0 then s else ptr ls n)
  | p::l,s,e,h,0,_=>by simpa using h.1
  | p :: l, s, e, h, n + 1, hn => by
    have h1:=tl h.2 n (by simpa using hn);rw[if_neg (by omega)];cases n with
    | zero=>simpa [ptr] using h1
    | succ n=>simpa [ptr] using h1
theorem sU:∀{ls:List (Nat×Nat)} {s e:Nat},lJ ls s e→(if ls.length=0 then s else ptr ls ls.length)=e
  | [],s,e,h=>h
  | p :: l, s, e, h => by
    have h1:=sU h.2;cases l with
    | nil=>simpa [ptr] using h1
    | cons q l=>simpa [ptr] using h1
def Cz (L:er) (f:ew):Prop:=∃rw rh sw sh,f.w=(L f.id rw rh sw sh).w∧f.h=(L f.id rw rh sw sh).h∧f.kids=(L f.id rw rh sw sh).kids
section
variable {F:ar (List Value)} {d:Int→Nat} {L:er} {ks:List Int} (hL:∀k∈ks,LB L k) {iw ih:Int}
include hL
theorem Mp {k:Int} (hk:k∈ks) (rw rh sw sh:Int):(L k rw rh sw sh).id=k:=(hL k hk rw rh sw sh).1
theorem qN {k:Int} (hk:k∈ks) {rw rh sw sh:Int} {f:ew} (h1:f.id=(L k rw rh sw sh).id) (h2:f.w=(L k rw rh sw sh).w) (h3:f.h=(L k rw rh sw sh).h) (h4:f.kids=(L k rw rh sw sh).kids):f.id=k∧Cz L f:=by
  have h5:=h1.trans (Mp hL hk rw rh sw sh);exact⟨h5,rw,rh,sw,sh,by rw[h5];exact h2,by rw[h5];exact h3,by rw[h5];exact h4⟩
theorem Ev (id:Int):(fY F L ks iw ih id).1.map ew.id=ks∧∀f∈(fY F L ks iw ih id).1,Cz L f:=by
  have key:∀i,i<ks.length→(bF L ks iw ih i).id=gI ks i∧Cz L (bF L ks iw ih i):=fun i hi=>qN hL (eo hi) rfl rfl rfl rfl;refine⟨?_,fun f hf=>?_⟩
  · simp only [fY, rS]
    rw[cI fun i hi=>(key i hi).1,Gt]
  · obtain ⟨i, hi, rfl⟩ := mX.1 hf
    exact(key i hi).2
theorem Bt (id:Int):(ee F L ks iw ih id).1.map ew.id=ks∧∀f∈(ee F L ks iw ih id).1,Cz L f:=by
  have key:∀i,i<ks.length→(pC F L ks iw ih (ah F id) i).id=gI ks i∧Cz L (pC F L ks iw ih (ah F id) i):=fun i hi=>qN hL (eo hi) rfl rfl rfl rfl;refine⟨?_,fun f hf=>?_⟩
  · simp only [ee, Hp, rS]
    rw[cI fun i hi=>(key i hi).1,Gt]
  · obtain ⟨i, hi, rfl⟩ := mX.1 hf
    exact(key i hi).2
theorem FT {c:List Value} {a b:Nat} (hb:b≤ks.length) (one:Bool):(kG F L ks iw ih c a b one).map ew.id=(ks.drop a).take (b - a)∧∀f∈kG F L ks iw ih c a b one,Cz L f:=by
  have key:∀hh i,i<b - a→(lT F L ks iw ih c a b hh i).id=gI ks (a+i)∧Cz L (lT F L ks iw ih c a b hh i):=fun hh i hi=>by
    unfold lT
    split
    · exact qN hL (eo (by omega)) rfl rfl rfl rfl
    · exact qN hL (eo (by omega)) rfl rfl rfl rfl
  refine⟨?_,fun f hf=>?_⟩
  · simp only [kG, E2, rS]
    rw[cI fun i hi=>(key _ i hi).1];apply List.ext_getElem?;intro i
    by_cases hi:i<b - a
    · rw[dt hi,List.getElem?_take,if_pos hi,List.getElem?_drop,gI,List.getD_eq_getElem?_getD,List.getElem?_eq_getElem (by omega)];rfl
    · rw[oK (by omega),List.getElem?_take,if_neg hi]
  · obtain ⟨i, hi, rfl⟩ := mX.1 hf
    exact(key _ i hi).2
theorem yi {c:List Value} {ls:List (Nat×Nat)} (hls:∀p∈ls,p.1<p.2∧p.2≤ks.length) (hc:lJ ls 0 ks.length):∀n,n≤ls.length→(du F L ks iw ih c ls n).1.map ew.id=ks.take (ptr ls n)∧∀f∈(du F L ks iw ih c ls n).1,Cz L f
  | 0,_=>⟨by simp[du,ptr],fun f hf=>by simp[du] at hf⟩
  | n + 1, hn => by
    obtain⟨h1,h2⟩:=yi hls hc n (by omega);have hp:(ls.getD n (0,0)).1<(ls.getD n (0,0)).2∧(ls.getD n (0,0)).2≤ks.length:=by
      rw[List.getD_eq_getElem?_getD,List.getElem?_eq_getElem (by omega)];exact hls _ (List.getElem_mem _)
    have hs:(ls.getD n (0,0)).1=ptr ls n:=by
      have h:=tl hc n (by omega);cases n with
      | zero=>exact h
      | succ n=>rwa [if_neg (by omega)] at h
    obtain⟨h3,h4⟩:=FT hL (F:=F) (iw:=iw) (ih:=ih) (c:=c) (a:=(ls.getD n (0,0)).1) hp.2 (decide (ls.length=1));refine⟨?_,fun f hf=>?_⟩
    · simp only [du, List.map_append, List.map_map]
      rw[h1,show (ew.id∘ss (if n=0 then (du F L ks iw ih c ls n).2 else (du F L ks iw ih c ls n).2+val c 46))=ew.id from rfl,h3,hs];rw[hs] at hp;rw[show ptr ls (n+1)=ptr ls n+((ls.getD n (0,0)).2 - ptr ls n) by show (ls.getD n (0,0)).2=_;omega,List.take_add]
    · simp only [du] at hf
      rcases List.mem_append.1 hf with hf | hf
      · exact h2 f hf
      · obtain ⟨f0, hf0, rfl⟩ := List.mem_map.1 hf
        obtain⟨a,b,c,d,q⟩:=h4 f0 hf0;exact⟨a,b,c,d,q⟩
theorem JD (id:Int):(xv F L ks iw ih id).1.map ew.id=ks∧∀f∈(xv F L ks iw ih id).1,Cz L f:=by
  have hll:(rz F ks iw).length=ks.length:=bH;have hc:lJ (bo F ks iw (ah F id)) 0 ks.length:=by rw[←hll];exact uM
  have h:=yi hL (F:=F) (iw:=iw) (ih:=ih) (c:=ah F id) (ls:=bo F ks iw (ah F id)) (fun p hp=>by have h:=kq hp;rw[hll] at h;exact⟨h.1,h.2.1⟩) hc _ (Nat.le_refl _);have he:=sU hc;refine⟨?_,h.2⟩;unfold xv;rw[h.1]
  split at he
  · rename_i e
    rw[e,ptr];have:ks=[]:=List.eq_nil_of_length_eq_zero he.symm;simp[this]
  · rw[he,List.take_length]
end
section
variable {F:ar (List Value)} {d:Int→Nat} {L:er}
theorem MR {id iw ih:Int} (hL:∀k∈aH F id,LB L k):(kj F L id iw ih).1.map ew.id=aZ F id false∧∀f∈(kj F L id iw ih).1,Cz L f:=by
  have hL':∀k∈aZ F id false,LB L k:=fun k hk=>hL k (dz hk);unfold kj
  split
  · rename_i h
    rw[h];exact⟨rfl,fun f hf=>by simp at hf⟩
  · split
    · exact JD hL' id
    · split
      · exact Bt hL' id
      · exact Ev hL' id
theorem vz {ww wh iw ih k:Int} {s:List Value} (hL:LB L k):(iR F ww wh L s iw ih k).id=k∧Cz L (iR F ww wh L s iw ih k):=by
  have hL':∀j∈[k],LB L j:=fun j hj=>by
    obtain rfl:j=k:=by simpa using hj
    exact hL
  unfold iR
  split
  · exact qN hL' (List.mem_singleton.2 rfl) rfl rfl rfl rfl
  · exact qN hL' (List.mem_singleton.2 rfl) rfl rfl rfl rfl
theorem Ac {ww wh id rw rh sw sh:Int} (hL:∀k∈aH F id,LB L k):(e8 F ww wh L id rw rh sw sh).kids.map ew.id=aZ F id false++aZ F id true∧∀f∈(e8 F ww wh L id rw rh sw sh).kids,Cz L f:=by
  obtain⟨h1,h2⟩:=MR hL (iw:=gy (ah F id) rw sw) (ih:=fU (ah F id) rh sh);refine⟨?_,fun f hf=>?_⟩
  · unfold e8
    simp only[List.map_append,List.map_map];rw[show (ew.id∘pW F (ah F id) (gy (ah F id) rw sw) (fU (ah F id) rh sh))=ew.id from rfl,h1]
    congr 1
    exact(List.map_congr_left fun k hk=>(vz (hL k (dz hk))).1).trans (List.map_id _)
  · unfold e8 at hf
    rcases List.mem_append.1 hf with hf | hf
    · obtain ⟨f0, hf0, rfl⟩ := List.mem_map.1 hf
      obtain⟨a,b,c,d,q⟩:=h2 f0 hf0;exact⟨a,b,c,d,q⟩
    · obtain ⟨k, hk, rfl⟩ := List.mem_map.1 hf
      exact(vz (hL k (dz hk))).2
theorem rk (hF:WF F d):∀(n m:Nat) (x:Int),aK F x=true→d x<n→d x<m→shownN F n x=shownN F m x
  | 0,_,_,_,h,_=>by omega
  | _,0,_,_,_,h=>by omega
  | n + 1, m + 1, x, hx, h1, h2 => by
    rw[shownN,shownN,if_pos hx,if_pos hx]
    congr 1
    by_cases h0:x=0
    · obtain ⟨b, hb, hu⟩ := hF.root
      rw[h0,ch hb,hu];have hm:aK F (-1)=false:=kZ (hF.neg (by decide));cases n<;>cases m<;>simp[shownN,hm]
    · obtain ⟨h3, _, _, h4⟩ := hF.iV hx h0
      exact rk hF n m _ h3 (by omega) (by omega)
theorem uY (hF:WF F d) {x k:Int} (h:k∈aH F x):cM F k=(decide (val (ah F k) 0≠3)&&cM F x):=by
  obtain⟨h1,h2,_,h4⟩:=dA hF h;obtain⟨b,hb⟩:=aL h1;have hd:=hF.deep k b hb;unfold cM;rw[h1,h4,Bool.true_and,Bool.true_and,shownN,if_pos h1,F4 hF h,rk hF 63 64 x h4 (by omega) (by omega)]
def flatN:Nat→ew→List ew
  | 0,_=>[]
  | n+1,f=>f::f.kids.flatMap (flatN n)
theorem oZ {α β:Type} {f g:α→List β}:∀{l:List α},(∀x∈l,(f x).Perm (g x))→(l.flatMap f).Perm (l.flatMap g)
  | [],_=>.refl _
  | x :: l, h => by
    rw[List.flatMap_cons,List.flatMap_cons];exact(h x (by simp)).append (oZ fun y hy=>h y (by simp[hy]))
def HB (F:ar (List Value)) (x:Int):List Int:=(sub F x).filter (cM F)
theorem Bp (hF:WF F d):∀(n:Nat) (x:Int),64≤n+d x→cM F x=false→HB F x=[]
  | n, x, hn, h => by
    cases e:F x with
    | none=>unfold HB;rw[mo e];rfl
    | some b =>
      have hd:=hF.deep x b e
      match n,hn with
      | 0,hn=>omega
      | n + 1, hn =>
        unfold HB;rw[hF.sub_eq e,List.filter_cons,if_neg (by rw[h];decide),List.filter_flatMap];apply List.flatMap_eq_nil_iff.2;intro k hk;have hk':k∈aH F x:=by rw[cj e];exact hk
        obtain⟨_,h2,_,_⟩:=dA hF hk';exact Bp hF n k (by omega) (by rw[uY hF hk',h,Bool.and_false])
theorem vk (F:ar (List Value)) (x:Int):(aZ F x false++aZ F x true).Perm ((aH F x).filter (cM F)):=by
  have h:∀a,aZ F x a=((aH F x).filter (cM F)).filter fun k=>xj (ah F k)==a:=fun a=>by
    unfold aZ;rw[List.filter_filter]
    congr 1
    funext k
    rw[Bool.and_comm]
  rw[h false,h true];have hp:=List.filter_append_perm (fun k=>xj (ah F k)==false) ((aH F x).filter (cM F));refine List.Perm.trans ?_ hp;refine List.Perm.append_left _ (List.Perm.of_eq ?_)
  congr 1
  funext k
  cases xj (ah F k)<;>rfl
theorem Kt (hF:WF F d) {x:Int} (hx:aK F x=true) (h:cM F x=true):(x::(aZ F x false++aZ F x true).flatMap (HB F)).Perm (HB F x):=by
  obtain⟨b,hb⟩:=aL hx;have e:HB F x=x::(aH F x).flatMap (HB F):=by
    unfold HB;rw[hF.sub_eq hb,List.filter_cons,if_pos h,List.filter_flatMap,cj hb]
  rw[e];refine List.Perm.cons _ ?_;refine List.Perm.trans ((vk F x).flatMap_right _) ?_;refine List.Perm.of_eq ?_;have key:∀l:List Int,(l.filter (cM F)).flatMap (HB F)=l.flatMap (HB F):=fun l=>by
    induction l with
    | nil=>rfl
    | cons k l ih =>
      rw[List.filter_cons]
      split
      · rw[List.flatMap_cons,List.flatMap_cons,ih]
      · rename_i hk
        rw[List.flatMap_cons,Bp hF 64 k (by omega) (by simpa using hk),List.nil_append,ih]
  exact key _
end
section
variable {F:ar (List Value)} {d:Int→Nat}
theorem yh (hF:WF F d) (hg:∀x,GS (ah F x)) (ww wh:Int):∀(n:Nat) (f:ew),aK F f.id=true→64≤n+d f.id→cM F f.id=true→Cz (Fj F ww wh) f→((flatN n f).map ew.id).Perm (HB F f.id)
  | 0, f, hx, hn, _, _ => by
    obtain⟨b,hb⟩:=aL hx;have:=hF.deep f.id b hb;omega
  | n + 1, f, hx, hn, hs, ⟨rw', rh, sw, sh, _, _, hk⟩ => by
    rw[Bz hF hx] at hk;obtain⟨h1,h2⟩:=Ac (F:=F) (L:=Fj F ww wh) (ww:=ww) (wh:=wh) (id:=f.id) (rw:=rw') (rh:=rh) (sw:=sw) (sh:=sh) fun k _=>pQ ww wh (hg k) 64;rw[←hk] at h1 h2;refine List.Perm.trans ?_ (Kt hF hx hs);rw[flatN,List.map_cons];refine List.Perm.cons _ ?_;rw[List.map_flatMap,←h1,List.flatMap_map];refine oZ fun g hg'=>?_;have hm:g.id∈aZ F f.id false++aZ F f.id true:=by rw[←h1];exact List.mem_map.2 ⟨g,hg',rfl⟩
    have hm2:g.id∈aH F f.id∧cM F g.id=true:=by
      have:=(vk F f.id).subset hm;exact⟨(List.mem_filter.1 this).1,(List.mem_filter.1 this).2⟩
    obtain⟨h3,h4,_,_⟩:=dA hF hm2.1;exact yh hF hg ww wh n g h3 (by omega) hm2.2 (h2 g hg')
def Good (F:ar (List Value)) (ww wh:Int) (f:ew):Prop:=aK F f.id=true∧Cz (Fj F ww wh) f
theorem Good.kids (hF:WF F d) (hg:∀x,GS (ah F x)) {ww wh:Int} {f:ew} (h:Good F ww wh f):∀g∈f.kids,Good F ww wh g∧d g.id=d f.id+1:=by
  obtain⟨hx,rw',rh,sw,sh,_,_,hk⟩:=h;rw[Bz hF hx] at hk;obtain⟨h1,h2⟩:=Ac (F:=F) (L:=Fj F ww wh) (ww:=ww) (wh:=wh) (id:=f.id) (rw:=rw') (rh:=rh) (sw:=sw) (sh:=sh) fun k _=>pQ ww wh (hg k) 64;rw[←hk] at h1 h2;intro g hg';have hm:g.id∈aZ F f.id false++aZ F f.id true:=by rw[←h1];exact List.mem_map.2 ⟨g,hg',rfl⟩
  have hm2:g.id∈aH F f.id:=by
    rcases List.mem_append.1 hm with hm | hm<;>exact dz hm
  obtain⟨h3,h4,_,_⟩:=dA hF hm2;exact⟨⟨h3,h2 g hg'⟩,h4⟩
theorem lM {α β:Type} {f g:α→List β}:∀{l:List α},(∀x∈l,f x=g x)→l.flatMap f=l.flatMap g
  | [],_=>rfl
  | x::l,h=>by rw[List.flatMap_cons,List.flatMap_cons,h x (by simp),lM fun y hy=>h y (by simp[hy])]
theorem vN (hF:WF F d) (hg:∀x,GS (ah F x)) {ww wh:Int}:∀(n m:Nat) (f:ew),Good F ww wh f→64≤n+d f.id→64≤m+d f.id→flatN n f=flatN m f
  | 0, m, f, h, h1, _ => by
    obtain⟨b,hb⟩:=aL h.1;have:=hF.deep f.id b hb;omega
  | n + 1, 0, f, h, _, h2 => by
    obtain⟨b,hb⟩:=aL h.1;have:=hF.deep f.id b hb;omega
  | n + 1, m + 1, f, h, h1, h2 => by
    rw[flatN,flatN]
    congr 1
    refine lM fun g hg'=>?_;obtain⟨h3,h4⟩:=h.kids hF hg g hg';exact vN hF hg n m g h3 (by omega) (by omega)
theorem DE (hF:WF F d) (hg:∀x,GS (ah F x)) {ww wh:Int} {f:ew} (h:Good F ww wh f):flatN 64 f=f::f.kids.flatMap (flatN 64):=by
  rw[flatN]
  congr 1
  refine lM fun g hg'=>?_;obtain⟨h3,h4⟩:=h.kids hF hg g hg';exact vN hF hg 63 64 g h3 (by omega) (by omega)
theorem pJ (hF:WF F d) (hg:∀x,GS (ah F x)) {ww wh:Int}:∀(l:List ew),(∀f∈l,Good F ww wh f)→l.length≤(l.flatMap (flatN 64)).length
  | [],_=>Nat.zero_le _
  | f :: l, h => by
    have h1:=pJ hF hg l fun g hg'=>h g (by simp[hg']);rw[List.flatMap_cons,List.length_append,DE hF hg (h f (by simp)),List.length_cons,List.length_cons];omega
theorem qM (hF:WF F d) (hg:∀x,GS (ah F x)) {ww wh:Int} (rw rh sw sh:Int):Good F ww wh (Fj F ww wh 0 rw rh sw sh):=by
  obtain⟨b,hb,_⟩:=hF.root;have h:(Fj F ww wh 0 rw rh sw sh).id=0:=(pQ ww wh (hg 0) 64 rw rh sw sh).1;exact⟨by rw[h];exact cG hb,rw,rh,sw,sh,by rw[h],by rw[h],by rw[h]⟩
def nB (F:ar (List Value)) (w h:Int):List ew:=if cM F 0 then flatN 64 (Fj F (max w 0) (max h 0) 0 (max w 0) (max h 0) (-1) (-1)) else []
theorem xd (hF:WF F d) (hg:∀x,GS (ah F x)) (w h:Int):((nB F w h).map ew.id).Perm ((order F).filter (cM F)):=by
  have hr:=qM hF hg (ww:=max w 0) (wh:=max h 0) (max w 0) (max h 0) (-1) (-1);have hid:(Fj F (max w 0) (max h 0) 0 (max w 0) (max h 0) (-1) (-1)).id=0:=(pQ _ _ (hg 0) 64 _ _ _ _).1;unfold nB
  split
  · rename_i hs
    have:=yh hF hg (max w 0) (max h 0) 64 _ hr.1 (by omega) (by rw[hid];exact hs) hr.2;rw[hid] at this;exact this
  · rename_i hs
    have:=Bp hF 64 0 (by omega) (by simpa using hs);exact List.Perm.of_eq this.symm
theorem IZ (hF:WF F d) (hg:∀x,GS (ah F x)) (w h:Int):(nB F w h).length≤4096:=by
  have h1:=(xd hF hg w h).length_eq;have h2:=List.length_filter_le (cM F) (order F);have h3:=hF.e6 0;rw[List.length_map] at h1;unfold order at h1 h2;omega
def oQ (f:ew):Value:=.agg #[.int .i64 (cut f.x),.int .i64 (cut f.y),.int .i64 (cut f.w),.int .i64 (cut f.h)]
def bO (ps:List ew):List (Int×Value):=ps.foldl (fun m f=>putM m f.id (oQ f)) []
theorem zt (ps:List ew) (f:ew):bO (ps++[f])=putM (bO ps) f.id (oQ f):=by simp[bO]
end
theorem St.Fq {w0 w:World} {M:Nat→Prop} {σ:List HI} (h:St w0 M σ w):St w0 M (σ++[aN fun _=>none]) w:=by
  refine h.add ⟨rfl,rfl,rfl,Nat.le_refl _,fun _ _ _=>rfl,fun i hi=>?_,List.pairwise_singleton _ _,fun i hi b hb=>?_⟩
  · obtain rfl : i = _ := by simpa using hi
    exact⟨sN _,fun g cs hg=>by cases hg⟩
  · obtain rfl : i = _ := by simpa using hi
    have hb':(none:Option (List Value)).isSome=true:=hb;cases hb'
theorem k6.rows {H:cq} {A:Option Addr} {ks:List ew} (h:k6 H A ks):∃es:List FP,es.map FP.fr=ks∧(∀e∈es,iK H e)∧((A=none∧es=[])∨∃g,A=some ⟨g,0,none⟩∧H g=some (es.flatMap FP.enc)):=by
  cases h with
  | nil=>exact⟨[],rfl,fun e he=>by simp at he,.inl ⟨rfl,rfl⟩⟩
  | row hg he=>exact⟨_,rfl,he,.inr ⟨_,rfl,hg⟩⟩
theorem St.Ky {w0 w:World} {M:Nat→Prop} {σ:List HI} {i:Nat} {H:cq} {A:Option Addr} {es:List FP} {n:Nat} (h:St w0 M σ w) (hi:σ[i]?=some (aN H)) (ha:(A=none∧es=[])∨∃g,A=some ⟨g,0,none⟩∧H g=some (es.flatMap FP.enc)) (hn:n=es.length):Src w A n (es.flatMap FP.enc):=by
  subst hn
  rcases ha with ⟨rfl,rfl⟩ | ⟨g,rfl,hg⟩
  · exact .inl ⟨rfl,rfl⟩
  · exact .inr ⟨g,0,rfl,h.IN hi hg⟩
theorem B8 (l:List FP) (e:FP):((l++[e]).flatMap FP.enc).take (l.length*6)=l.flatMap FP.enc:=by
  rw[List.flatMap_append];exact List.take_left' (gE l)
theorem St.Kx {w0 w:World} {M:Nat→Prop} {σ:List HI} {i g c:Nat} {l:List FP} {e:FP} (h:St w0 M σ w) (hi:σ[i]?=some (ga (some ⟨g,0,none⟩) c (l++[e]))):St w0 M (σ.set i (ga (some ⟨g,0,none⟩) c l)) w:=by
  obtain⟨rest,⟨h1,h2,h3,h4⟩,hb⟩:=h.ad6 hi;have hlt:=(List.getElem?_eq_some_iff.1 hi).1;have hlen:(l++[e]).length=l.length+1:=by simp
  have h5:=hb.IP (i:=i) (n:=l.length) (by rw[List.getElem?_set_self hlt]) (by rw[List.length_append,h1];exact h2) h4 (by omega);rw[List.set_set,List.take_append_of_le_length (by rw[h1,hlen];omega),B8] at h5;exact h5
theorem Hb (A:Option Addr) (c:Nat) (es ks:List FP):ga A c (es++ks)=.row 115 6 A (es.length+ks.length) c (es.flatMap FP.enc++ks.flatMap FP.enc):=by simp[ga]
section
variable (tp mb:Nat) (es:List PE) (hk:eG es) {d:Int→Nat} (hF:WF (ae es) d) (hg:∀x,GS (ah (ae es) x)) (hK:∀x,(aH (ae es) x).length≤64)
include hk hF hg hK in
theorem ig (wd ht:Int) (hw1:wd≤1048576) (hh1:ht≤1048576):Ct Tryz.prog 21 #[.pointer (some ⟨tp,0,none⟩),.int .i64 wd,.int .i64 ht] [al tp mb es] (fun _=>True) (X:=Nat×List ew) (fun p=>.map (some p.1))
    (fun p=>p.2.Perm (nB (ae es) wd ht)) (fun p=>[al tp mb es,aP p.1 (bO p.2)]):=by
  have hrt:aK (ae es) 0=true:=by obtain⟨b,hb,_⟩:=hF.root;exact cG hb
  have hlen:=IZ hF hg wd ht;have hgr:=qM hF hg (ww:=max wd 0) (wh:=max ht 0) (max wd 0) (max ht 0) (-1) (-1);refine Ci fun w0 _=>?_;refine gv ?_;refine sg rfl ?_;refine gg ?_;refine aj.ef (eV (σ':=fun _=>[_,_]) (fun _=>rfl)) (fun mp11=>?_);refine sg (v:=.map _) rfl ?_;refine gg ?_;refine eF (xC (v8 tp mb es hk hF 0)) fun _ _=>?_;refine gg ?_;refine WP.cond rfl (fun h14=>?_) (fun h14=>?_)
  ·have hno:nB (ae es) wd ht=[]:=if_neg (by simpa using h14);refine gv ?_;refine mv (v:=.map _) rfl ?_;refine sg (v:=.map _) rfl ?_;refine gg ?_;exact WP.cP Tryz.results21 (fun _ h=>h) (fun w hw=>⟨(mp11,[]),rfl,by rw[hno],(hw.sel [1,0] (by decide))⟩)
  ·have hsh:cM (ae es) 0=true:=by simpa using h14
   refine qa ?_;refine vl (cB (us:=[.int .i64 _,.int .i64 _]) Tryz.underlying109 Tryz.zeroValue109 Tryz.sizeOf3 rfl rfl rfl) ?_;refine aj.ef (AV (σ':=fun _=>[_,_,_]) (fun _=>rfl)) (fun lb=>?_);refine vl (aV (us:=[.pointer _,.int .i64 _,.int .i64 _,.map _]) (pl:=[(0,1),(1,2),(3,1)]) Tryz.underlying112 Tryz.zeroValue112 rfl (by kernel_rfl) rfl rfl (by kernel_rfl)) ?_;refine aj.ef (xB (us:=[.pointer (some ⟨tp,0,none⟩),.int .i64 (max wd 0),.int .i64 (max ht 0),.map (some lb)])) fun fb=>?_;refine uw ?_;refine vl (cB (us:=[.int .i64 _,.int .i64 _]) Tryz.underlying109 Tryz.zeroValue109 Tryz.sizeOf3 rfl rfl rfl) ?_;refine aj.pre ?_ (fun w hw=>hw.Fq);refine eF (xC (CA tp mb fb lb es hk hF hg hK (max wd 0) (max ht 0) ⟨by omega,by omega⟩ ⟨by omega,by omega⟩ 64 0 hrt (by omega) [] (fun _=>none) (max wd 0) (max ht 0) (-1) (-1) (l7.nil _ _) (by rw[hF.rank0];unfold okA Lt;omega))) fun⟨m1,H1,fA1,fc1⟩ ⟨hsub1,hmok1,hrep1⟩=>?_;dsimp only at hsub1 hmok1 hrep1;refine aj.ef (xN (LF rfl)) fun g32=>?_;refine gg ?_;refine WP.bm (X:=List ew×List FP×Option Addr×Nat) [7] (fun p=>[(9,.slice p.2.2.1 p.2.1.length p.2.2.2)]) (fun p w=>((∀e∈p.2.1,iK H1 e∧Good (ae es) (max wd 0) (max ht 0) e.fr)∧(p.1++(p.2.1.map FP.fr).flatMap (flatN 64)).Perm (nB (ae es) wd ht))∧St w0 (ay [al tp mb es]) [al tp mb es,aP mp11 (bO p.1),aN H1,ga p.2.2.1 p.2.2.2 p.2.1] w) (fun p=>4096 - p.1.length) ([],[⟨(Fj (ae es) (max wd 0) (max ht 0) 0 (max wd 0) (max ht 0) (-1) (-1)),fA1,fc1⟩],some ⟨g32,0,none⟩,1) ⟨(via (.slice (some ⟨g32,0,none⟩) 1 1) rfl (by simp only[List.length_singleton])),trivial⟩ (fun w hw=>⟨⟨fun e he=>by obtain rfl:e=_:=(by simpa using he);exact⟨hrep1,hgr⟩,by simp only[List.map_cons,List.map_nil,List.flatMap_cons,List.flatMap_nil,List.append_nil,List.nil_append];unfold nB;rw[if_pos hsh]⟩,(hw.sel [1,0,4,5] (by decide))⟩) (fun p ρ0=>?_);obtain⟨ps,fs,sA,sc⟩:=p;dsimp only;refine WP.fact (fun⟨hall,hperm⟩=>?_);have hpl:=hperm.length_eq;rw[List.length_append] at hpl;have hfl:=pJ hF hg (fs.map FP.fr) (fun f hf=>by obtain⟨e,he,rfl⟩:=List.mem_map.1 hf;exact(hall e he).2);rw[List.length_map] at hfl;refine gg ?_;refine WP.aw rfl (fun h35=>?_) (fun h35=>?_)
   ·have hne:fs≠[]:=by rintro rfl;simp at h35
    obtain⟨ini,e,rfl⟩:∃ini e,fs=ini++[e]:=⟨fs.dropLast,fs.getLast hne,(List.dropLast_concat_getLast hne).symm⟩;obtain⟨he1,he2⟩:=hall e (by simp);obtain⟨ks,hkm,hke,hka⟩:=k6.rows he1;have hkl:ks.length=e.fr.kids.length:=by rw[←hkm,List.length_map]
    have hkf:=pJ hF hg e.fr.kids (fun f hf=>(he2.kids hF hg f hf).1);have hperm2:((ps++[e.fr])++((ini.map FP.fr).flatMap (flatN 64)++e.fr.kids.flatMap (flatN 64))).Perm (nB (ae es) wd ht):=by
      refine List.Perm.trans ?_ hperm;rw[List.map_append,List.flatMap_append,List.map_singleton,List.flatMap_singleton,DE hF hg he2,List.append_assoc];refine List.Perm.append_left ps ?_;exact(List.perm_middle (l₁:=(ini.map FP.fr).flatMap (flatN 64))).symm
    have hpl2:=hperm2.length_eq;rw[List.length_append,List.length_append,List.length_append,List.length_singleton] at hpl2;have hif:=pJ hF hg (ini.map FP.fr) (fun f hf=>by obtain⟨e,he,rfl⟩:=List.mem_map.1 hf;exact(hall e (by simp[he])).2);rw[List.length_map] at hif;have hsl:(ini++[e]).length=ini.length+1:=sE _ _;refine WP.holds (fun w hw=>(hw.ny (i:=3) rfl).1) (fun(hcap:(ini++[e]).length≤sc)=>?_);refine WP.holds (fun w hw=>hw.aM (i:=3) rfl (by omega)) (fun⟨pb_stk,hA_stk⟩=>?_);subst hA_stk;refine qa ?_;refine vl (vX (ini.length)) ?_;refine vl (au (cs:=e.enc) Tryz.isAgg115 Tryz.sizeOf115 rfl (fun w hw=>hw.dH (i:=3) rfl (0+ini.length*6) (fun q u hq=>by rw[Nat.zero_add];exact bT FP.enc 6 (fun _=>rfl) (ini++[e]) ini.length q e u (by simp) hq))) ?_;refine aj.ef cg fun b10=>?_;refine aj.aX (xW rfl) fun _=>?_;refine gg ?_;refine wP none [0,1,2,4] [pT 0,pT 1,pT 2,pT 3,pT 4,pT 5,pT 6,pF 7,pT 8] ?_;refine bS ?_;refine tE rfl (mO (cD (l:=0) (h:=ini.length) (kl:=0) Tryz.underlying113 Tryz.sizeOf115 rfl rfl ⟨rfl,(by omega)⟩ (by omega) (by omega)) (v':=.slice (some ⟨pb_stk,0,none⟩) ini.length sc) (by rw[og,Nat.zero_mul,ite_self];rfl)) ?_;refine bW ?_;refine aB.pre ?_ (fun w hw=>hw.Kx (i:=3) rfl);refine aB.ef rfl (cm (sz:=6) (σ':=fun _=>[_,_,_,_,_]) Tryz.underlying113 Je rfl (by decide) rfl rfl (i:=3) rfl (fun w hw=>hw.Ky (i:=2) rfl hka hkl.symm) (by rw[gE,hkl]) (DS _) (by omega) (by omega) (fun _=>rfl)) (fun _ _ _ h=>h.sel [0,1,2,4] (by decide)) (fun⟨A49,c49⟩=>?_);refine gg ?_;refine WP.fj (some 20) [(0,true),(1,true),(2,true),(3,true),(4,true),(5,true),(6,true),(7,true),(8,true),(9,true),(10,true),(11,true),(12,true),(13,true),(14,true),(15,true),(16,true),(17,true),(18,true),(19,true),(20,false)] mixed (by kernel_rfl) (by decide) (fun _ h=>h.drawn) ?_;refine tE rfl (aC (v:=.map _) rfl) ?_;refine gg ?_;refine tD (vC (bI _ _)) ?_;refine gg ?_;refine tD (vC (bI _ _)) ?_;refine gg ?_;refine tD (vC (bI _ _)) ?_;refine gg ?_;refine tD (vC (bI _ _)) ?_;refine tE rfl (aV (us:=[.int .i64 _,.int .i64 _,.int .i64 _,.int .i64 _]) (pl:=[(0,1),(1,1),(2,1),(3,1)]) Tryz.underlying52 Tryz.zeroValue52 rfl (by kernel_rfl) rfl rfl (by kernel_rfl)) ?_;refine aB.aX rfl (mK (m:=bO ps) (k:=e.fr.id) (u:=oQ e.fr) (σ':=[_,_,_,_,_]) Tryz.underlying47 Tryz.underlying3 rfl rfl rfl (i:=1) rfl rfl) (fun h=>absurd rfl h) (fun _=>?_);exact aB.nil fun w hw=>⟨rfl,(ps++[e.fr],ini++ks,A49,c49),(by simp only;rw[List.length_append,List.length_singleton];omega),⟨(via (.slice A49 (ini.length+e.fr.kids.length) c49) rfl (by simp only;rw[List.length_append,hkl])),(via (.map _) rfl rfl),trivial⟩,⟨⟨fun x hx=>by rcases List.mem_append.1 hx with hx | hx;exact hall x (by simp[hx]);exact⟨hke x hx,(he2.kids hF hg x.fr (by rw[←hkm];exact List.mem_map.2 ⟨x,hx,rfl⟩)).1⟩,by simp only;rw[List.map_append,List.flatMap_append,hkm];exact hperm2⟩,by simp only;rw[zt,Hb,hkl];exact hw.pk⟩⟩
   ·have hnil:fs=[]:=List.eq_nil_of_length_eq_zero (by omega);rw[hnil] at hperm;have hno:ps.Perm (nB (ae es) wd ht):=by simpa using hperm
    refine WP.exit (an ?_);refine gv ?_;refine mv (v:=.map _) rfl ?_;refine sg (v:=.map _) rfl ?_;refine gg ?_;exact aT fun w hw=>⟨(mp11,ps),rfl,hno,hw.pk⟩
end
end Go.Proofs.YtbedndijejpcaaaGreat
