/- HitA HitQ HitW HitL POf -/
import Derived.Test.YtbedndijejpcaaaGreatH27
set_option linter.unusedVariables false
set_option linter.unusedSimpArgs false
set_option linter.unusedSectionVars false
set_option maxRecDepth 100000
set_option maxHeartbeats 8000000
namespace Go.Proofs.YtbedndijejpcaaaGreat
open Go.RowKit
theorem aei:(Tryz.prog.info? 186).map (fun i=>(i.zero,i.size,i.bytes))=some (some (.agg #[.int .i64 0,.bool false,.int .i64 0]),3,24):=by kernel_rfl
abbrev qh (A:Option Addr) (c:Nat) (L:List PN):HI:=.row 186 3 A L.length c (L.flatMap tT)
theorem Ax (A:Option Addr) (c:Nat) (L:List PN) (n:PN):qh A c (L++[n])=.row 186 3 A (L.length+1) c (L.flatMap tT++tT n):=by simp[qh]
theorem Cv (s:Sp) (n:Int):Ct Tryz.prog 130 #[s.v,.int .i64 n] [] (fun _=>True) (X:=Unit) (fun _=>.bool (HQ s n)) (fun _=>True) (fun _=>[]):=by
  refine Ci fun w0 _=>?_;refine gg ?_;refine aj.ef xB fun b2=>?_;refine uw ?_;refine aj.split 9 rfl (fun h9=>?_) (fun h9=>?_)
  ·refine gg ?_;exact aT fun w hw=>⟨(),congrArg Value.bool (by unfold HQ;first | (simp_all;done) | (rw[Bool.eq_iff_iff];simp;omega)),trivial,hw.pk⟩
  ·refine gg ?_;exact aT fun w hw=>⟨(),congrArg Value.bool (by unfold HQ;first | (simp_all;done) | (rw[Bool.eq_iff_iff];simp;omega)),trivial,hw.pk⟩
theorem Ao (r:Rc) (p:Pt) (hp:PB p):Ct Tryz.prog 82 #[r.v,cJ p.1 p.2] [] (fun _=>True) (X:=Unit) (fun _=>.bool (Bl r p)) (fun _=>True) (fun _=>[]):=by
  refine Ci fun w0 _=>?_;refine gg ?_;refine aj.ef xB fun b2=>?_;refine gg ?_;refine eF (xC (jU r)) fun _ _=>?_;refine mv (v:=cJ _ _) rfl ?_;refine eF (xC (FH p.1 p.2 hp.1 hp.2)) fun _ _=>?_;refine eF (xC (Cv (bC r) p.1)) fun _ _=>?_;refine av ?_;refine aj.aY 10 rfl (fun h10=>?_) (fun h10=>?_)
  ·refine gg ?_;refine aj.kn (xC (jN r)) (fun _=>?_);refine aj.fact (fun _=>?_);refine vg (aC (v:=cJ _ _) rfl) ?_;refine aj.kn (xC (Ii p.1 p.2 hp.1 hp.2)) (fun _=>?_);refine aj.fact (fun _=>?_);refine aj.kn (xC (Cv (dh r) p.2)) (fun _=>?_);refine aj.fact (fun _=>?_);refine gg ?_;exact aT fun w hw=>⟨(),congrArg Value.bool (by unfold Bl;simp_all),trivial,hw.pk⟩
  ·refine gg ?_;exact aT fun w hw=>⟨(),congrArg Value.bool (by unfold Bl;simp_all),trivial,hw.pk⟩
theorem JI (s:List Value) (hs:bZ s) (u:Int):Ct Tryz.prog 121 #[.agg s.toArray,.int .i64 u] [] (fun _=>True) (X:=Unit) (fun _=>.agg (tT (FO s u)).toArray) (fun _=>True) (fun _=>[]):=by
  refine Ci fun w0 _=>?_;refine gg ?_;refine aj.ef (xB (us:=s)) fun b2=>?_;refine aj.ef cg fun b4=>?_;refine bS ?_;refine vl (ai (u:=.bool (iJ s 47)) Tryz.isAgg4 rfl (fun w hw=>hw.aq (i:=0) rfl 47 (cell_of (bZ.bit hs 47 (by decide) rfl)))) ?_;refine vl (aV (us:=[.int .i64 _,.bool _,.int .i64 _]) (pl:=[(0,1),(1,1),(2,1)]) Tryz.underlying186 Tryz.zeroValue186 rfl (by kernel_rfl) rfl rfl (by kernel_rfl)) ?_;refine aj.ef cg fun b5=>?_;refine aj.aX (xW rfl) fun _=>?_;refine bS ?_;refine vl (ai (u:=.bool (iJ s 47)) Tryz.isAgg4 rfl (fun w hw=>hw.aq (i:=0) rfl 47 (cell_of (bZ.bit hs 47 (by decide) rfl)))) ?_;refine gg ?_;refine WP.cond rfl (fun h11=>?_) (fun h11=>?_)
  case' _=>
   refine gg ?_;refine vl (vS hs 48) ?_;refine gg ?_;refine aj.aX (xS rfl (jJ rfl)) fun _=>?_;refine cR ?_;refine aj.aY 17 rfl (fun h17=>?_) (fun h17=>?_);rotate_left
   case' _=>
    refine ag ?_;refine vg (vS hs 1) ?_;refine cK ?_;refine aj.split 22 rfl (fun h22=>?_) (fun h22=>?_);rotate_left
    case' _=>
     refine ag ?_;refine vg (vS hs 1) ?_
  rotate_left 3
  case' _=>
   refine cR ?_;refine aj.aY 17 rfl (fun h17=>?_) (fun h17=>?_);rotate_left
   case' _=>
    refine ag ?_;refine vg (vS hs 1) ?_;refine cK ?_;refine aj.split 22 rfl (fun h22=>?_) (fun h22=>?_);rotate_left
    case' _=>
     refine ag ?_;refine vg (vS hs 1) ?_
  all_goals
   refine gg ?_;refine aj.aX (xS rfl (T0 rfl)) fun _=>?_;refine nl (oo ?_);refine eh ?_;refine vl (au (cs:=[.int .i64 _,.bool _,.int .i64 _]) Tryz.isAgg186 Tryz.sizeOf186 rfl (fun w hw=>hw.aq (i:=2) rfl _ rfl)) ?_;refine aj.aX (ct (us:=[.int .i64 _,.bool _,.int .i64 _]) (σ':=[_,.cl _ _ [_,_,_],_]) Tryz.sizeOf186 rfl rfl (i:=1) rfl rfl rfl (by simp[Value.oneCell'])) (fun _=>?_);refine gg ?_;exact jf rfl fun w hw=>⟨(),by unfold FO AO;simp_all,trivial,hw.pk⟩
section
variable (tp mb mp:Nat) (es:List PE) (m:List (Int×Value)) (g:Int→Option Rc)
variable (hk:eG es) {d:Int→Nat} (hF:WF (ae es) d) (hm:RM (ae es) m g) (hu:F6 (ae es) g)
include hk hF hm hu in
theorem vu:Ct Tryz.prog 80 #[.pointer (some ⟨tp,0,none⟩),.map (some mp)] [al tp mb es,aP mp m] (fun _=>True) (X:=(Option Addr×Nat)×Option Addr×Nat) (fun p=>.tuple #[.slice p.1.1 (bY (ae es) g).length p.1.2,.slice p.2.1 (cO (ae es) g).length p.2.2]) (fun _=>True) (fun p=>[al tp mb es,aP mp m,qh p.1.1 p.1.2 (bY (ae es) g),az p.2.1 (cO (ae es) g).length p.2.2 (cO (ae es) g)]):=by
  refine Ci fun w0 _=>?_;refine gg ?_;refine aj.ef (eV (σ':=fun _=>[_,_,_]) (fun _=>rfl)) (fun mp13=>?_);refine aj.aX (mr (m:=[]) (k:=-1) (u:=.int .i64 (-1)) (σ':=[_,_,_]) Tryz.underlying184 Tryz.underlying3 rfl rfl rfl (i:=2) rfl rfl) (fun _=>?_);refine mv (v:=.map _) rfl ?_;refine sg (v:=.map _) rfl ?_;refine JW ?_;have hol:(order (ae es)).length≤4096:=hF.e6 0;refine gg ?_;refine eF (xC (mF tp mb es hk hF)) fun⟨A6,c6⟩ _=>?_;refine gg ?_;refine WP.bm (X:=Nat×(Option Addr×Nat)×(Option Addr×Nat)×List (Int×Value)) [0,1,6,16,17] (fun p=>[(7,.slice p.2.1.1 ((((order (ae es)).take p.1).filter (lf g)).map (jV (ae es) g)).length p.2.1.2),(8,.slice p.2.2.1.1 (((order (ae es)).take p.1).filter (lf g)).length p.2.2.1.2),(18,.int .i64 (p.1:Int))]) (fun p w=>(p.1≤(order (ae es)).length∧PM (((order (ae es)).take p.1).filter (lf g)) p.2.2.2)∧St w0 (ay [al tp mb es,aP mp m]) [al tp mb es,aP mp m,aP mp13 p.2.2.2,az A6 (order (ae es)).length c6 (order (ae es)),qh p.2.1.1 p.2.1.2 ((((order (ae es)).take p.1).filter (lf g)).map (jV (ae es) g)),az p.2.2.1.1 (((order (ae es)).take p.1).filter (lf g)).length p.2.2.1.2 (((order (ae es)).take p.1).filter (lf g))] w) (fun p=>(order (ae es)).length - p.1) (0,(none,0),(none,0),[(-1,.int .i64 (-1))]) ⟨rfl,rfl,rfl,trivial⟩ (fun w hw=>⟨⟨Nat.zero_le _,PM.nil⟩,((hw.sel [2,0,1,3] (by decide)).bB 186 3).bB 3 1⟩) (fun p ρ0=>?_);obtain⟨k,⟨nA,nc⟩,⟨iA,ic⟩,pv⟩:=p;dsimp only;refine WP.fact (fun⟨hkl,hpm⟩=>?_);refine gg ?_;refine WP.aw rfl (fun h19=>?_) (fun h19=>?_)
  ·obtain⟨y,hy⟩:∃y,(order (ae es))[k]?=some y:=⟨_,List.getElem?_eq_getElem (by omega)⟩;have hhas:=hF.bw.1 (List.mem_of_getElem? hy);have hfl:=C3 (order (ae es)) k (lf g);have hnl:((((order (ae es)).take k).filter (lf g)).map (jV (ae es) g)).length=(((order (ae es)).take k).filter (lf g)).length:=List.length_map _;have hyn:0≤y:=by obtain⟨b,hb⟩:=aL hhas;exact(hF.range y b hb).1
   refine WP.holds (fun w hw=>hw.aM (i:=3) rfl (by omega)) (fun⟨kb,hA⟩=>?_);subst hA;refine gg ?_;refine vl (vR 3 (by rw[List.getElem?_map,hy];rfl)) ?_;refine bS ?_;refine mv (v:=.map _) rfl ?_;refine av ?_;refine vl (mO (hX (m:=m) (k:=y) (z:=zR.v) Tryz.underlying47 Tryz.underlying3 Tryz.zeroValue52 rfl rfl (fun w hw=>hw.fC (i:=1) rfl)) (v':=.tuple #[((g y).getD zR).v,.bool (g y).isSome]) (by rw[hm.val y,hm.is y];try rfl)) ?_;refine mv rfl ?_;refine vl (bR (v:=.agg _) rfl rfl) ?_;refine gg ?_;refine aj.ef cg fun b11=>?_;refine aj.aX (xW rfl) fun _=>?_;refine gg ?_;refine WP.cond rfl (fun h29=>?_) (fun h29=>?_)
   ·have hfn:(((order (ae es)).take (k+1)).filter (lf g))=(((order (ae es)).take k).filter (lf g)):=rQ hy (by simpa using h29);refine WP.exit (an ?_);refine cK ?_;exact nl fun w hw=>⟨rfl,(k+1,(nA,nc),(iA,ic),pv),(by simp only;omega),⟨(via (.slice nA ((((order (ae es)).take k).filter (lf g)).map (jV (ae es) g)).length nc) rfl (by simp only;rw[hfn])),(via (.slice iA (((order (ae es)).take k).filter (lf g)).length ic) rfl (by simp only;rw[hfn])),rfl,jP,(via (.map _) rfl rfl),(via (.map _) rfl rfl),jS,jI,trivial⟩,⟨⟨by simp only;omega,by simp only;rw[hfn];exact hpm⟩,by simp only;rw[hfn];exact hw.pk⟩⟩
   ·have h29:(g y).isSome=true:=by simpa using h29
    have hfy:(((order (ae es)).take (k+1)).filter (lf g))=(((order (ae es)).take k).filter (lf g))++[y]:=o6 hy h29;have hnd:((((order (ae es)).take (k+1)).filter (lf g)).map (jV (ae es) g))=((((order (ae es)).take k).filter (lf g)).map (jV (ae es) g))++[jV (ae es) g y]:=by rw[hfy,List.map_append];rfl
    have hpm2:PM ((((order (ae es)).take k).filter (lf g))++[y]) (putM pv y (.int .i64 (((((order (ae es)).take k).filter (lf g)).map (jV (ae es) g)).length:Int))):=by rw[List.length_map];exact hpm.step (fun x hx=>Gu hF hx) hyn (N0 hF hy)
    refine bW ?_;refine mv (v:=.map _) rfl ?_;refine gg ?_;refine aj.aX (mK (m:=pv) (k:=y) (u:=.int .i64 (((((order (ae es)).take k).filter (lf g)).map (jV (ae es) g)).length:Int)) (σ':=[_,_,_,_,_,_,_]) Tryz.underlying184 Tryz.underlying3 rfl rfl rfl (i:=2) rfl rfl) (fun _=>?_);refine gg ?_;refine eF (xC (a6 tp mb es hk y)) fun _ _=>?_;refine mv (v:=.map _) rfl ?_;refine gg ?_;refine eF (xC (mm tp mb es hk y)) fun _ _=>?_;refine vl (mO (fu (m:=putM pv y (.int .i64 (((((order (ae es)).take k).filter (lf g)).map (jV (ae es) g)).length:Int))) (k:=upF (ae es) y) (z:=.int .i64 0) Tryz.underlying184 Tryz.underlying3 Tryz.zeroValue3 rfl rfl (fun w hw=>hw.fC (i:=1) rfl)) (v':=.int .i64 (idxP (cO (ae es) g) (upF (ae es) y))) (Kc hF hu hy h29 hpm2)) ?_;refine eF (xC (JI (ah (ae es) y) (hk.aE y) (idxP (cO (ae es) g) (upF (ae es) y)))) fun _ _=>?_;refine aj.ef (xN rfl (us:=[.int .i64 _,.bool _,.int .i64 _])) fun g44=>?_;refine aj.ef (xP 3 7 (h1:=by intro u hu;simp only[List.mem_cons,List.not_mem_nil,or_false] at hu;rcases hu with rfl | rfl | rfl<;>rfl)) fun⟨A45,c45⟩=>?_;refine gg ?_;refine aj.ef (xN (L1 rfl)) fun g48=>?_;refine aj.ef (xP 4 8) fun⟨A49,c49⟩=>?_;refine cR ?_;exact nl fun w hw=>⟨rfl,(k+1,(A45,c45),(A49,c49),putM pv y (.int .i64 (((((order (ae es)).take k).filter (lf g)).map (jV (ae es) g)).length:Int))),(by simp only;omega),⟨(via (.slice A45 (((((order (ae es)).take k).filter (lf g)).map (jV (ae es) g)).length+1) c45) rfl (by simp only;rw[hnd,List.length_append];rfl)),(via (.slice A49 ((((order (ae es)).take k).filter (lf g)).length+1) c49) rfl (by simp only;rw[hfy,List.length_append];rfl)),rfl,jP,(via (.map _) rfl rfl),(via (.map _) rfl rfl),jS,jI,trivial⟩,⟨⟨by simp only;omega,by simp only;rw[hfy];exact hpm2⟩,by simp only;rw[hnd,hfy,Ax,List.length_append,List.length_singleton,eK];exact(hw.sel [6,0,1,2,3,4] (by decide))⟩⟩
  ·obtain rfl:k=(order (ae es)).length:=by omega
   have htk:(((order (ae es)).take (order (ae es)).length).filter (lf g))=cO (ae es) g:=by rw[List.take_of_length_le (Nat.le_refl _)];rfl
   refine WP.exit (an ?_);refine gg ?_;exact rF fun w hw=>⟨((nA,nc),iA,ic),by rw[←htk];unfold bY;rw[←htk];rfl,trivial,by unfold bY;rw[←htk];exact hw.pk⟩
variable (hol:(order (ae es)).length≤1000)
include hk hF hm hu hol in
theorem qu:Ct Tryz.prog 45 #[.pointer (some ⟨tp,0,none⟩),.map (some mp)] [al tp mb es,aP mp m] (fun _=>True) (X:=Option Addr×Nat) (fun p=>.slice p.1 (cS (ae es) g).length p.2) (fun _=>True) (fun p=>[al tp mb es,aP mp m,az p.1 (cS (ae es) g).length p.2 (cS (ae es) g)]):=by
  refine Ci fun w0 _=>?_;refine cR ?_;refine mv (v:=.map _) rfl ?_;refine eF (xC (vu tp mb mp es m g hk hF hm hu)) fun⟨⟨nA,nc⟩,iA,ic⟩ _=>?_;refine mv rfl ?_
  iterate 4 refine av ?_
  refine nl (oo ?_);refine eh ?_;refine av ?_;refine nl (oo ?_)
  iterate 2 refine sq ?_
  refine WP.holds (fun w hw=>(hw.ny (i:=2) rfl).1) (fun hnc=>?_);have hop:=CH (bY (ae es) g);rw[fo] at hop;have hhl:(cO (ae es) g).length≤1000:=Nat.le_trans (List.length_filter_le _ _) hol;refine gg ?_;refine eF (xC (Eg nA nc (bY (ae es) g) (by rw[fo];exact Nat.le_trans (List.length_filter_le _ _) hol) hnc) (hF:=fun w hw=>hw.ur (i:=2) rfl rfl (fun _=>rfl))) fun⟨oA,oc⟩ _=>?_;refine gg ?_;refine WP.bm (X:=Nat×Option Addr×Nat) [6,17,18] (fun p=>[(7,.slice p.2.1 (((gS (bY (ae es) g)).take p.1).map fun i=>gI (cO (ae es) g) i.toNat).length p.2.2),(19,.int .i64 (p.1:Int))]) (fun p w=>p.1≤(gS (bY (ae es) g)).length∧St w0 (ay [al tp mb es,aP mp m]) [al tp mb es,aP mp m,qh nA nc (bY (ae es) g),az iA (cO (ae es) g).length ic (cO (ae es) g),az oA (gS (bY (ae es) g)).length oc (gS (bY (ae es) g)),az p.2.1 (((gS (bY (ae es) g)).take p.1).map fun i=>gI (cO (ae es) g) i.toNat).length p.2.2 (((gS (bY (ae es) g)).take p.1).map fun i=>gI (cO (ae es) g) i.toNat)] w) (fun p=>(gS (bY (ae es) g)).length - p.1) (0,none,0) ⟨rfl,rfl,trivial⟩ (fun w hw=>⟨Nat.zero_le _,(hw.sel [0,1,2,3,4] (by decide)).bB 3 1⟩) (fun p ρ0=>?_);obtain⟨k,uA,uc⟩:=p;dsimp only;refine WP.fact (fun hkl=>?_);refine gg ?_;refine WP.aw rfl (fun h20=>?_) (fun h20=>?_)
  ·obtain⟨x,hx⟩:∃x,(gS (bY (ae es) g))[k]?=some x:=⟨_,List.getElem?_eq_getElem (by omega)⟩;have hxr:=zm (List.mem_of_getElem? hx);rw[fo] at hxr;obtain⟨j,rfl⟩:∃j:Nat,x=j:=⟨x.toNat,by omega⟩;obtain⟨y,hy⟩:∃y,(cO (ae es) g)[j]?=some y:=⟨_,List.getElem?_eq_getElem (by omega)⟩;have hst:(((gS (bY (ae es) g)).take (k+1)).map fun i=>gI (cO (ae es) g) i.toNat)=(((gS (bY (ae es) g)).take k).map fun i=>gI (cO (ae es) g) i.toNat)++[y]:=by rw[l6 hx,List.map_append];exact congrArg (_++[·]) (gF hy)
   have hho:(((gS (bY (ae es) g)).take k).map fun i=>gI (cO (ae es) g) i.toNat).length≤k:=by rw[List.length_map,List.length_take];omega
   refine WP.holds (fun w hw=>hw.aM (i:=4) rfl (by omega)) (fun⟨kb,hA⟩=>?_);subst hA;refine WP.holds (fun w hw=>hw.aM (i:=3) rfl (by omega)) (fun⟨ib,hB⟩=>?_);subst hB;refine gg ?_;refine vl (vR 4 (by rw[List.getElem?_map,hx];rfl)) ?_;refine gg ?_;refine vl (vR 3 (by rw[List.getElem?_map,hy];rfl)) ?_;refine aj.ef (xN (L1 rfl)) fun g28=>?_;refine aj.ef (xP 5 6) fun⟨A29,c29⟩=>?_;refine cR ?_;exact nl fun w hw=>⟨rfl,(k+1,A29,c29),(by simp only;omega),⟨(via (.slice A29 ((((gS (bY (ae es) g)).take k).map fun i=>gI (cO (ae es) g) i.toNat).length+1) c29) rfl (by simp only;rw[hst,List.length_append];rfl)),rfl,jS,jS,jI,trivial⟩,⟨by simp only;omega,by simp only;rw[hst,List.length_append,List.length_singleton,eK];exact hw.pk⟩⟩
  ·obtain rfl:k=(gS (bY (ae es) g)).length:=by omega
   have htk:(((gS (bY (ae es) g)).take (gS (bY (ae es) g)).length).map fun i=>gI (cO (ae es) g) i.toNat)=cS (ae es) g:=by rw[List.take_of_length_le (Nat.le_refl _)];rfl
   refine WP.exit (an ?_);refine gg ?_;exact aT fun w hw=>⟨(uA,uc),by rw[←htk];rfl,trivial,by rw[←htk];exact hw.pk⟩
variable (sb:Nat) (o:Int→Pt) (win:Rc) (p:Pt) (hp:PB p)
include hk hF hm hp in
omit hu hol in
theorem nV (x:Int):Ct Tryz.prog 47 #[.pointer (some ⟨tp,0,none⟩),.map (some sb),.int .i64 x,cJ p.1 p.2] [al tp mb es,aP sb (lS (ae es) g o win (order (ae es)))] (fun _=>True) (X:=Unit) (fun _=>.bool (dm (ae es) g o win p x)) (fun _=>True) (fun _=>[al tp mb es,aP sb (lS (ae es) g o win (order (ae es)))]):=by
  refine Ci fun w0 _=>?_;refine bS ?_;refine mv (v:=.map _) rfl ?_;refine av ?_;refine vl (mO (hX (m:=lS (ae es) g o win (order (ae es))) (k:=x) (z:=iD.v) Tryz.underlying59 Tryz.underlying3 Tryz.zeroValue63 rfl rfl (fun w hw=>hw.fC (i:=1) rfl)) (v':=.tuple #[(fz (ae es) g o win x).v,.bool (g x).isSome]) (by rw[CE hF hm.2 x,HV hm.2 hF x])) ?_;refine mv rfl ?_;refine vl (bR (v:=.agg _) rfl rfl) ?_;refine gg ?_;refine aj.ef cg fun b9=>?_;refine aj.aX (xW rfl) fun _=>?_;refine cR ?_;refine aj.aY 18 rfl (fun h18=>?_) (fun h18=>?_)
  ·refine gg ?_;refine aj.kn (xC (lE tp mb es x)) (fun _=>?_);refine aj.fact (fun _=>?_);refine bW ?_;refine aj.aY 23 rfl (fun h23=>?_) (fun h23=>?_)
   ·refine gg ?_;refine aj.kn (xC (a6 tp mb es hk x)) (fun _=>?_);refine aj.fact (fun _=>?_);refine vg (hR (u:=.bool (iJ (ah (ae es) (x)) 52)) Tryz.underlying42 rfl Tryz.isAgg4 rfl (oP (bZ.bit (hk.aE (x)) 52 (by decide) rfl))) ?_;refine cK ?_;refine aj.aY 30 rfl (fun h30=>?_) (fun h30=>?_)
    ·refine bW ?_;refine vg (aC (v:=cJ _ _) rfl) ?_;refine aj.kn (xC (Ao (fz (ae es) g o win x).r p hp)) (fun _=>?_);refine aj.fact (fun _=>?_);refine bW ?_;refine aj.aY 36 rfl (fun h36=>?_) (fun h36=>?_)
     ·refine bW ?_;refine vg (aC (v:=cJ _ _) rfl) ?_;refine aj.kn (xC (Ao (fz (ae es) g o win x).c p hp)) (fun _=>?_);refine aj.fact (fun _=>?_);refine gg ?_;exact aT fun w hw=>⟨(),congrArg Value.bool (by unfold dm;simp_all),trivial,hw.pk⟩
     ·refine gg ?_;exact aT fun w hw=>⟨(),congrArg Value.bool (by unfold dm;simp_all),trivial,hw.pk⟩
    ·refine gg ?_;exact aT fun w hw=>⟨(),congrArg Value.bool (by unfold dm;simp_all),trivial,hw.pk⟩
   ·refine gg ?_;exact aT fun w hw=>⟨(),congrArg Value.bool (by unfold dm;simp_all),trivial,hw.pk⟩
  ·refine gg ?_;exact aT fun w hw=>⟨(),congrArg Value.bool (by unfold dm;simp_all),trivial,hw.pk⟩
include hk hF hm hu hol hp in
theorem od:Ct Tryz.prog 44 #[.pointer (some ⟨tp,0,none⟩),.map (some mp),.map (some sb),cJ p.1 p.2] [al tp mb es,aP mp m,aP sb (lS (ae es) g o win (order (ae es)))] (fun _=>True) (X:=Unit) (fun _=>.int .i64 (dC (cS (ae es) g) (dm (ae es) g o win p))) (fun _=>True) (fun _=>[al tp mb es,aP mp m,aP sb (lS (ae es) g o win (order (ae es)))]):=by
  refine Ci fun w0 _=>?_;refine cK ?_;refine WP.IJ (X:=Empty) 0 rfl [] (fun x=>nomatch x) (fun x=>nomatch x) (fun x=>nomatch x) (fun _=>?_) (fun x=>nomatch x);refine bW ?_;refine mv (v:=.map _) rfl ?_;refine eF (xC (qu tp mb mp es m g hk hF hm hu hol)) fun⟨oA,oc⟩ _=>?_;refine av ?_;refine nl (oo ?_);refine sq ?_;have hhl:(cS (ae es) g).length≤1000:=Nat.le_trans C4 (Nat.le_trans (List.length_filter_le _ _) hol);refine WP.region ?_
  iterate 4 refine av ?_
  refine nl (oo ?_);refine sq ?_;refine WP.label (an ?_);refine gg ?_;refine WP.bm (X:=Nat) [0,2,3,9] (fun k=>[(10,.int .i64 ((k:Int) - 1))]) (fun k w=>(k≤(cS (ae es) g).length∧hC (cS (ae es) g) (dm (ae es) g o win p) k=dC (cS (ae es) g) (dm (ae es) g o win p))∧St w0 (ay [al tp mb es,aP mp m,aP sb (lS (ae es) g o win (order (ae es)))]) [al tp mb es,aP mp m,aP sb (lS (ae es) g o win (order (ae es))),az oA (cS (ae es) g).length oc (cS (ae es) g)] w) (fun k=>k) (cS (ae es) g).length ⟨rfl,trivial⟩ (fun w hw=>⟨⟨Nat.le_refl _,rfl⟩,(hw.sel [1,2,0,3] (by decide))⟩) (fun k ρ0=>?_);refine WP.fact (fun⟨hkl,hkn⟩=>?_);refine gg ?_;refine WP.aw rfl (fun h18=>?_) (fun h18=>?_)
  ·obtain⟨j,rfl⟩:∃j,k=j+1:=⟨k - 1,by omega⟩;have e:(((j+1:Nat):Int) - 1)=(j:Int):=by omega
   rw[e];obtain⟨y,hy⟩:∃y,(cS (ae es) g)[j]?=some y:=⟨_,List.getElem?_eq_getElem (by omega)⟩;refine WP.holds (fun w hw=>hw.aM (i:=3) rfl (by omega)) (fun⟨kb,hA⟩=>?_);subst hA;refine cR ?_;refine mv (v:=.map _) rfl ?_;refine gg ?_;refine vl (vR 3 (by rw[List.getElem?_map,hy];rfl)) ?_;refine mv (v:=cJ _ _) rfl ?_;refine eF (xC (nV tp mb es m g hk hF hm sb o win p hp y)) fun _ _=>?_;refine gg ?_;refine WP.cond rfl (fun h28=>?_) (fun h28=>?_)
   ·have hr:dC (cS (ae es) g) (dm (ae es) g o win p)=y:=by rw[←hkn,hC,gF hy,if_pos h28]
    refine WP.exit (an ?_);refine gg ?_;refine WP.aw rfl (fun h=>absurd h (by omega)) (fun h30=>?_);refine gg ?_;refine vl (vR 1 (by rw[List.getElem?_map,hy];rfl)) ?_;refine gg ?_;exact WP.cP Tryz.results44 (fun _ h=>h) (fun w hw=>⟨(),congrArg (Value.int .i64) hr.symm,trivial,(hw.sel [2,0,3] (by decide))⟩)
   ·have hnx:hC (cS (ae es) g) (dm (ae es) g o win p) j=dC (cS (ae es) g) (dm (ae es) g o win p):=by rw[←hkn,hC,gF hy,if_neg (by simp[h28])]
    refine cR ?_;exact nl fun w hw=>⟨rfl,j,(by omega),⟨rfl,jP,(via (.map _) rfl rfl),(via (cJ _ _) rfl rfl),jS,trivial⟩,⟨⟨by omega,hnx⟩,hw.pk⟩⟩
  ·obtain rfl:k=0:=by omega
   have hr:dC (cS (ae es) g) (dm (ae es) g o win p)= -1:=hkn.symm;refine WP.exit (an ?_);refine gg ?_;refine WP.aw rfl (fun h30=>?_) (fun h=>absurd (by omega) h);refine gg ?_;exact WP.cP Tryz.results44 (fun _ h=>h) (fun w hw=>⟨(),congrArg (Value.int .i64) hr.symm,trivial,(hw.sel [0,1,2] (by decide))⟩)
end
theorem J9 {l A m R:List Int} {x p:Int} {k:Nat} (hn:l.Nodup) (e:l=A++(m++x::R)) (hm:m≠[]) (hk:l[k]?=some x) (hp:l[k - 1]?=some p):p∈m:=by
  have h1:l[A.length+m.length]?=some x:=by
    rw[e,List.getElem?_append_right (by omega),List.getElem?_append_right (by omega)];have:A.length+m.length - A.length - m.length=0:=by omega
    rw[this];rfl
  have h2:(k:Int)=((A.length+m.length:Nat):Int):=(gL hn hk).symm.trans (gL hn h1);have hl:=List.length_pos_iff.2 hm;have h3:k - 1=A.length+(m.length - 1):=by omega
  rw[h3,e,List.getElem?_append_right (by omega),List.getElem?_append_left (by omega)] at hp;exact List.mem_of_getElem? hp
section
variable {F:ar (List Value)} {d:Int→Nat} {g:Int→Option Rc}
theorem E6 (hF:WF F d) {a x:Int} (h:kg F a x):sub F x<:+:sub F a:=by
  induction h with
  | refl=>exact⟨[],[],by simp⟩
  | @step y b hy h0 ha ih =>
    refine List.IsInfix.trans ?_ ih;obtain⟨u,hu,hm⟩:=hF.par y b hy h0;rw[hF.sub_eq hu];obtain⟨s,t,e⟩:=se (f:=sub F) hm;exact⟨b.up::s,t,by rw[←e];simp⟩
theorem y8 (hF:WF F d) (hu:F6 F g):∀(n:Nat) (y:Int),d y≤n→(g y).isSome=true→(g 0).isSome=true
  | n, y, hd, hy => by
    by_cases h0:y=0
    · rw[←h0];exact hy
    · obtain ⟨h1, h2⟩ := hu y hy
      obtain⟨_,_,_,h3⟩:=hF.iV h1 h0;cases n with
      | zero=>omega
      | succ n=>exact y8 hF hu n (upF F y) (by omega) (h2 h0)
theorem yE (hF:WF F d) (hu:F6 F g) {x:Int} (h:(cO F g)[0]?=some x):x=0:=by
  have h1:=eR.1 (List.mem_of_getElem? h);have h2:=y8 hF hu _ x (Nat.le_refl _) h1.2;have h3:=hF.Cm;unfold cO at h;cases e:order F with
  | nil=>rw[e] at h3;cases h3
  | cons a t =>
    rw[e] at h3 h;have ha:a=0:=by simpa using h3
    rw[List.filter_cons,if_pos (by rw[ha];exact h2)] at h;have:a=x:=by simpa using h
    rw[←this,ha]
theorem GH (hF:WF F d) (hu:F6 F g) {k:Nat} {x p:Int} (hx:(cO F g)[k]?=some x) (h0:x≠0) (hp:(cO F g)[k - 1]?=some p):kg F (upF F x) p:=by
  have hxi:=eR.1 (List.mem_of_getElem? hx);have hh:=hF.bw.1 hxi.1;obtain⟨h1,_,_,_⟩:=hF.iV hh h0;obtain⟨bu,hbu⟩:=aL h1;obtain⟨bx,hbx⟩:=aL hh;have hax:kg F (upF F x) x:=kg.step hbx h0 (by rw[←ch hbx];exact kg.refl h1);obtain⟨A,B,e⟩:=E6 hF (hF.AJ h1);have e0:sub F (upF F x)=upF F x::bu.kids.flatMap (sub F):=hF.sub_eq hbu;have hxs:x∈bu.kids.flatMap (sub F):=by
    have h2:=hF.cH.2 hax;rw[e0] at h2
    rcases List.mem_cons.1 h2 with h2 | h2
    · exfalso
      obtain⟨_,_,_,h3⟩:=hF.iV hh h0;rw[←h2] at h3;omega
    · exact h2
  have hxf:x∈(bu.kids.flatMap (sub F)).filter (lf g):=List.mem_filter.2 ⟨hxs,hxi.2⟩;obtain⟨s,t,e2⟩:=List.append_of_mem hxf;have hug:(g (upF F x)).isSome=true:=(hu x hxi.2).2 h0;have e3:cO F g=A.filter (lf g)++((upF F x::s)++x::(t++B.filter (lf g))):=by
    unfold cO order;rw[←e,List.filter_append,List.filter_append,e0,List.filter_cons,if_pos hug,e2];simp
  have h4:=J9 (jv hF) e3 (by simp) hx hp;refine hF.cH.1 ?_;rw[e0]
  rcases List.mem_cons.1 h4 with h4 | h4
  · rw[h4];simp
  · have : p ∈ (bu.kids.flatMap (sub F)).filter (lf g) := by rw [e2]; exact List.mem_append_left _ h4
    exact List.mem_cons_of_mem _ (List.mem_filter.1 this).1
theorem DC {i:Nat} {x:Int} (h:(cO F g)[i]?=some x):(bY F g)[i]?=some (jV F g x):=by
  unfold bY;rw[List.getElem?_map,h];rfl
theorem wx (hF:WF F d) (hu:F6 F g) {u:Int} (huG:u∈cO F g):∀(st:List Int) (z:Int) (i:Int),z∈cO F g→i=idxP (cO F g) z→Ch (bY F g) i st→kg F u z→idxP (cO F g) u∈st
  | [], z, i, hz, hi, hc, _ => by
    have h1:=(rK (cO F g) z).2.2 hz;have h2:i= -1:=hc;omega
  | y :: st, z, i, hz, hi, hc, ha => by
    obtain⟨h1,h2,h3⟩:=hc;have hiy:y=idxP (cO F g) z:=h1.symm.trans hi;cases ha with
    | refl=>rw[←hiy];simp
    | @step _ b hb h0 ha' =>
      obtain⟨k,hk⟩:=List.getElem?_of_mem hz;have hy:y=(k:Int):=hiy.trans (gL (jv hF) hk);have hup:ns (bY F g) y=idxP (cO F g) (upF F z):=by rw[hy];exact(sy (DC hk)).1
      have hzg:=eR.1 hz;have huz:upF F z∈cO F g:=eR.2 ⟨hF.bw.2 (hF.iV (hF.bw.1 hzg.1) h0).1,(hu z hzg.2).2 h0⟩;rw[hup] at h3;exact List.mem_cons_of_mem _ (wx hF hu huG st (upF F z) _ huz rfl h3 (by rw[ch hb];exact ha'))
theorem vp (hF:WF F d) (hu:F6 F g):∀k:Nat,k≤(cO F g).length→∃st,stk (bY F g) k=some st
  | 0,_=>⟨[],rfl⟩
  | k + 1, hk => by
    obtain⟨st,hs⟩:=vp hF hu k (by omega);obtain⟨x,hx⟩:∃x,(cO F g)[k]?=some x:=⟨_,List.getElem?_eq_getElem (by omega)⟩;refine(tX hs).2 ?_;have hup:ns (bY F g) (k:Int)=idxP (cO F g) (upF F x):=(sy (DC hx)).1
    split
    · rename_i h0
      subst h0;have h1:=yE hF hu hx;have h2:upF F 0= -1:=by
        obtain⟨b,hb,hu0⟩:=hF.root;rw[ch hb,hu0]
      have h3:ns (bY F g) 0=idxP (cO F g) (upF F x):=hup;rw[h3,h1,h2];refine nu fun h=>?_;obtain⟨b,hb⟩:=aL (hF.bw.1 (eR.1 h).1);have:=(hF.range _ b hb).1;omega
    · rename_i h0
      have hx0:x≠0:=fun e=>by
        obtain⟨z,hz⟩:∃z,(cO F g)[0]?=some z:=⟨_,List.getElem?_eq_getElem (by omega)⟩;have h1:=yE hF hu hz;rw[e,←h1] at hx;have h2:=(gL (jv hF) hx).symm.trans (gL (jv hF) hz);omega
      obtain⟨p,hp⟩:∃p,(cO F g)[k - 1]?=some p:=⟨_,List.getElem?_eq_getElem (by omega)⟩;have hc:=(sM hs).1;have hxg:=eR.1 (List.mem_of_getElem? hx);have huz:upF F x∈cO F g:=eR.2 ⟨hF.bw.2 (hF.iV (hF.bw.1 hxg.1) hx0).1,(hu x hxg.2).2 hx0⟩;rw[hup];exact wx hF hu huz st p _ (List.mem_of_getElem? hp) (by rw[gL (jv hF) hp];omega) hc (GH hF hu hx hx0 hp)
theorem yA (hF:WF F d) (hu:F6 F g):uv (bY F g)=true:=by
  obtain⟨st,h⟩:=vp hF hu _ (Nat.le_of_eq (fo (F:=F) (g:=g)));unfold uv;rw[h];rfl
theorem tw (hF:WF F d) (hu:F6 F g) (h:∀y∈order F,AO (ah F y)=false):cS F g=cO F g:=by
  unfold cS
  by_cases h0:bY F g=[]
  · rw [xg (.inl h0)]
    have:(cO F g).length=0:=by rw[←fo,h0];rfl
    rw[List.eq_nil_of_length_eq_zero this];rfl
  · rw [Du h0 (yA hF hu), zE (wO (yA hF hu)) _ h0, fo, List.map_map]
    · refine List.ext_getElem? fun i => ?_
      rw[List.getElem?_map]
      by_cases hi:i<(cO F g).length
      · rw [List.getElem?_range hi]
        show some (gI (cO F g) ((i:Int).toNat))=_;rw[Int.toNat_natCast];exact(j9 hi).symm
      · rw[List.getElem?_eq_none (by rw[List.length_range];omega),List.getElem?_eq_none (by omega)];rfl
    · intro x
      unfold oD
      split
      · rfl
      · split
        · rename_i n hn
          obtain⟨y,hy,rfl⟩:=List.mem_map.1 (List.mem_of_getElem? hn);exact h y (eR.1 hy).1
        · rfl
end
theorem ye {l r:List Int} {m:Int→Bool}:∀k:Nat,k≤l.length→hC (l++r) m k=hC l m k
  | 0,_=>rfl
  | k + 1, h => by
    have e:gI (l++r) k=gI l k:=gF (by rw[List.getElem?_append_left (show k<l.length by omega)];exact j9 (show k<l.length by omega));rw[hC,hC,e,ye (l:=l) (r:=r) (m:=m) k (show k≤l.length by omega)]
theorem Ip (l:List Int) (m:Int→Bool) (a:Int):dC (l++[a]) m=if m a=true then a else dC l m:=by
  have e:gI (l++[a]) l.length=a:=gF (by rw[List.getElem?_append_right (Nat.le_refl _),Nat.sub_self];rfl);unfold dC;rw[List.length_append,List.length_singleton,hC,e,ye l.length (Nat.le_refl _)]
theorem tH {l:List Int} {q m:Int→Bool} (h:∀x,m x=true→q x=true):∀k:Nat,k≤l.length→dC ((l.take k).filter q) m=hC l m k
  | 0,_=>rfl
  | k + 1, hk => by
    obtain⟨x,hx⟩:∃x,l[k]?=some x:=⟨_,List.getElem?_eq_getElem (by omega)⟩;have ih:=tH (l:=l) h k (by omega);rw[hC,gF hx];cases hq:q x with
    | true=>rw[o6 hx hq,Ip,ih]
    | false =>
      rw[rQ hx hq,ih,if_neg];intro hm;rw[h x hm] at hq;cases hq
def Fw:List Value:=[.int .i64 0,.int .i64 2,.int .i64 0,.int .i64 0,.int .i64 0,.int .i64 0,.int .i64 0,.int .i64 0,.int .i64 0,.int .i64 0,.int .i64 0,.int .i64 0,.int .i64 0,.int .i64 0,.int .i64 0,.int .i64 0,.int .i64 0,.int .i64 0,.int .i64 0,.int .i64 0,.int .i64 0,.int .i64 0,.int .i64 0,.int .i64 0,.int .i64 0,.int .i64 0,.int .i64 0,.int .i64 0,.int .i64 0,.int .i64 0,.int .i64 0,.int .i64 0,.int .i64 0,.int .i64 0,.int .i64 0,.int .i64 0,.int .i64 0,.int .i64 0,.int .i64 0,.int .i64 0,.int .i64 0,.int .i64 0,.int .i64 0,.int .i64 0,.int .i64 0,.bool false,.int .i64 0,.bool false,.int .i64 0,.int .i64 0,.int .i64 0,.bool false,.bool false,.int .i64 10,.int .i64 10]
theorem oB:bZ Fw:=bZ.wH rfl
abbrev W0:ar (List Value):=nz aR
abbrev W1:ar (List Value):=(addR aR W0 0 0).1
abbrev W2:ar (List Value):=(addR aR W1 0 1).1
abbrev W3:ar (List Value):=(setR bg W2 1 Fw).1
abbrev W4:ar (List Value):=(setR bg W3 2 Fw).1
def L8:List ew:=[⟨0,0,0,100,0,[⟨1,0,0,10,10,[]⟩,⟨2,0,0,10,10,[]⟩]⟩,⟨1,0,0,10,10,[]⟩,⟨2,0,0,10,10,[]⟩]
abbrev G8:Int→Option Rc:=J2 L8
abbrev N8:List PN:=[⟨-1,false,0⟩,⟨0,false,0⟩,⟨0,false,0⟩]
theorem we1:(addR aR W0 0 0).2=(1,0):=by kernel_rfl
theorem we2:(addR aR W1 0 1).2=(2,0):=by kernel_rfl
theorem we3:(setR bg W2 1 Fw).2=0:=by kernel_rfl
theorem we4:(setR bg W3 2 Fw).2=0:=by kernel_rfl
theorem we5:jK W4=3:=by kernel_rfl
theorem we6:nB W4 100 50=L8:=by kernel_rfl
theorem we7:order W4=[0,1,2]:=by kernel_rfl
theorem we8:cO W4 G8=[0,1,2]:=by kernel_rfl
theorem we9:bY W4 G8=N8:=by kernel_rfl
theorem wex:dm W4 G8 (fun _=>(0,0)) (eH 0 0 100 50) (0,0) 1=true:=by kernel_rfl
theorem wey:dC [0,1,2] (dm W4 G8 (fun _=>(0,0)) (eH 0 0 100 50) (9,9))=2:=by kernel_rfl
theorem wez:dC [0,1,2] (dm W4 G8 (fun _=>(0,0)) (eH 0 0 100 50) (10,9))= -1:=by kernel_rfl
theorem ww0:∃d,WF W0 d:=⟨_,WF.new aR⟩
theorem ww1:∃d,WF W1 d:=by obtain⟨d,h⟩:=ww0;exact h.addR aR 0 0
theorem ww2:∃d,WF W2 d:=by obtain⟨d,h⟩:=ww1;exact h.addR aR 0 1
theorem ww3:∃d,WF W3 d:=by obtain⟨d,h⟩:=ww2;exact h.setR bg 1 Fw
theorem Mf:∃d,WF W4 d:=by obtain⟨d,h⟩:=ww3;exact h.setR bg 2 Fw
theorem wgs:di W4:=(((di.new.addR 0 0).addR 0 1).setR 1 oB).setR 2 oB
theorem yU {m:List (Int×Value)} (h:uT m L8):RM W4 m G8:=Dd h fun f hf=>by
  simp only[L8,List.mem_cons,List.not_mem_nil,or_false] at hf
  rcases hf with rfl | rfl | rfl<;>kernel_rfl
theorem Cu:F6 W4 G8:=fun y hy=>by
  unfold G8 J2 at hy;rw[Option.isSome_map] at hy;obtain⟨f,hf⟩:=Option.isSome_iff_exists.1 hy;have h5:=List.find?_some hf;have h6:f.id=y:=by simpa using h5
  have hm:=List.mem_of_find?_eq_some hf;simp only[L8,List.mem_cons,List.not_mem_nil,or_false] at hm
  rcases hm with rfl | rfl | rfl<;>subst h6<;>refine⟨by kernel_rfl,fun h=>?_⟩
  · exact absurd rfl h
  · kernel_rfl
  · kernel_rfl
theorem Vy:cS W4 G8=[0,1,2]:=by
  obtain⟨d,hd⟩:=Mf;rw[tw hd Cu,we8];rw[we7];intro y hy;simp only[List.mem_cons,List.not_mem_nil,or_false] at hy
  rcases hy with rfl | rfl | rfl<;>kernel_rfl
section
variable (tp mb:Nat) (es:List PE) (hk:eG es)
include hk
theorem wkA (h:ae es=W0):Ct Tryz.prog 50 #[.pointer (some ⟨tp,0,none⟩),.int .i64 0,.int .i64 0] [al tp mb es] (fun _=>True) (X:=List PE) (fun _=>.tuple #[.int .i64 1,.int .i64 0]) (fun es'=>ae es'=W1∧eG es') (fun es'=>[al tp mb es']):=by
  obtain⟨d,hd⟩:=ww0;have h1:=BR tp mb es hk (h▸hd) 0 0;rw[h,we1] at h1;exact h1
theorem wkB (h:ae es=W1):Ct Tryz.prog 50 #[.pointer (some ⟨tp,0,none⟩),.int .i64 0,.int .i64 1] [al tp mb es] (fun _=>True) (X:=List PE) (fun _=>.tuple #[.int .i64 2,.int .i64 0]) (fun es'=>ae es'=W2∧eG es') (fun es'=>[al tp mb es']):=by
  obtain⟨d,hd⟩:=ww1;have h1:=BR tp mb es hk (h▸hd) 0 1;rw[h,we2] at h1;exact h1
theorem wkC (h:ae es=W2):Ct Tryz.prog 20 #[.pointer (some ⟨tp,0,none⟩),.int .i64 1,.agg Fw.toArray] [al tp mb es] (fun _=>True) (X:=List PE) (fun _=>.int .i64 0) (fun es'=>ae es'=W3∧eG es') (fun es'=>[al tp mb es']):=by
  have h1:=xp tp mb es hk 1 Fw oB;rw[h,we3] at h1;exact h1
theorem wkD (h:ae es=W3):Ct Tryz.prog 20 #[.pointer (some ⟨tp,0,none⟩),.int .i64 2,.agg Fw.toArray] [al tp mb es] (fun _=>True) (X:=List PE) (fun _=>.int .i64 0) (fun es'=>ae es'=W4∧eG es') (fun es'=>[al tp mb es']):=by
  have h1:=xp tp mb es hk 2 Fw oB;rw[h,we4] at h1;exact h1
theorem wkL (h:ae es=W4):Ct Tryz.prog 21 #[.pointer (some ⟨tp,0,none⟩),.int .i64 100,.int .i64 50] [al tp mb es] (fun _=>True) (X:=Nat×List ew) (fun p=>.map (some p.1)) (fun p=>uT (bO p.2) L8) (fun p=>[al tp mb es,aP p.1 (bO p.2)]):=by
  obtain⟨d,hd⟩:=Mf;have h1:=ig tp mb es hk (h▸hd) (by rw[h];exact wgs.st) (by rw[h];exact fun x=>Nat.le_trans (kO (n:=3) hd (by rw[we5];decide) x) (by decide)) 100 50 (by decide) (by decide);refine h1.to (fun p=>p) (fun _=>rfl) (fun p hp=>?_) (fun _=>rfl);have h2:=mapOf hp (by rw[h];exact jl hd wgs.st 100 50);rw[h,we6] at h2;exact h2
variable (mp:Nat) (m:List (Int×Value)) (hm:uT m L8)
include hm
theorem wkS (om:Nat) (h:ae es=W4):Ct Tryz.prog 27 #[.pointer (some ⟨tp,0,none⟩),.map (some mp),.map (some om),.int .i64 100,.int .i64 50] [al tp mb es,aP mp m,aP om []] (fun _=>True) (X:=Nat) (fun b=>.map (some b)) (fun _=>True) (fun b=>[al tp mb es,aP mp m,aP om [],aP b (lS W4 G8 (fun _=>(0,0)) (eH 0 0 100 50) (order W4))]):=by
  obtain⟨d,hd⟩:=Mf;have h1:=kx tp mb mp om es m [] G8 (fun _=>(0,0)) hk (h▸hd) (by rw[h];exact wgs.st) (by rw[h];exact yU hm) xq 100 50;rw[h] at h1;exact h1
theorem wkN (h:ae es=W4):Ct Tryz.prog 80 #[.pointer (some ⟨tp,0,none⟩),.map (some mp)] [al tp mb es,aP mp m] (fun _=>True) (X:=(Option Addr×Nat)×Option Addr×Nat) (fun p=>.tuple #[.slice p.1.1 3 p.1.2,.slice p.2.1 3 p.2.2]) (fun _=>True) (fun p=>[al tp mb es,aP mp m,qh p.1.1 p.1.2 N8,az p.2.1 3 p.2.2 [0,1,2]]):=by
  obtain⟨d,hd⟩:=Mf;have h1:=vu tp mb mp es m G8 hk (h▸hd) (by rw[h];exact yU hm) (by rw[h];exact Cu);rw[h,we8,we9] at h1;exact h1
theorem wkO (h:ae es=W4):Ct Tryz.prog 45 #[.pointer (some ⟨tp,0,none⟩),.map (some mp)] [al tp mb es,aP mp m] (fun _=>True) (X:=Option Addr×Nat) (fun p=>.slice p.1 3 p.2) (fun _=>True) (fun p=>[al tp mb es,aP mp m,az p.1 3 p.2 [0,1,2]]):=by
  obtain⟨d,hd⟩:=Mf;have h1:=qu tp mb mp es m G8 hk (h▸hd) (by rw[h];exact yU hm) (by rw[h];exact Cu) (by rw[h,we7];decide);rw[h,Vy] at h1;exact h1
variable (sb:Nat)
theorem wkH (h:ae es=W4) (p:Pt) (hp:PB p) (r:Int) (hr:dC [0,1,2] (dm W4 G8 (fun _=>(0,0)) (eH 0 0 100 50) p)=r):Ct Tryz.prog 44 #[.pointer (some ⟨tp,0,none⟩),.map (some mp),.map (some sb),cJ p.1 p.2] [al tp mb es,aP mp m,aP sb (lS W4 G8 (fun _=>(0,0)) (eH 0 0 100 50) (order W4))] (fun _=>True) (X:=Unit) (fun _=>.int .i64 r) (fun _=>True) (fun _=>[al tp mb es,aP mp m,aP sb (lS W4 G8 (fun _=>(0,0)) (eH 0 0 100 50) (order W4))]):=by
  obtain⟨d,hd⟩:=Mf;have h1:=od tp mb mp es m G8 hk (h▸hd) (by rw[h];exact yU hm) (by rw[h];exact Cu) (by rw[h,we7];decide) sb (fun _=>(0,0)) (eH 0 0 100 50) p hp;rw[h,Vy,hr] at h1;exact h1
theorem wkM (h:ae es=W4):Ct Tryz.prog 47 #[.pointer (some ⟨tp,0,none⟩),.map (some sb),.int .i64 1,cJ 0 0] [al tp mb es,aP sb (lS W4 G8 (fun _=>(0,0)) (eH 0 0 100 50) (order W4))] (fun _=>True) (X:=Unit) (fun _=>.bool true) (fun _=>True) (fun _=>[al tp mb es,aP sb (lS W4 G8 (fun _=>(0,0)) (eH 0 0 100 50) (order W4))]):=by
  obtain⟨d,hd⟩:=Mf;have h1:=nV tp mb es m G8 hk (h▸hd) (by rw[h];exact yU hm) sb (fun _=>(0,0)) (eH 0 0 100 50) (0,0) rI 1;rw[h,wex] at h1;exact h1
end
theorem kK:Ct Tryz.prog 43 #[] [] (fun _=>True) (X:=Unit) (fun _=>.bool true) (fun _=>True) (fun _=>[]):=by
  refine Ci fun w0 _=>?_;refine gg ?_;refine eF (xC Gl) fun⟨tp,mb,nb⟩ _=>?_;refine cR ?_;refine vl (xJ Tryz.underlying24 rfl rfl) ?_;refine gg ?_;refine WP.br rfl ?_;refine bW ?_;refine vl (cB (us:=[.int .i64 _,.int .i64 _]) Tryz.underlying40 Tryz.zeroValue40 Tryz.sizeOf3 rfl rfl rfl) ?_;refine vl (aV (us:=Fw) (pl:=[(0,1),(1,1),(2,1),(3,2),(5,2),(7,2),(9,2),(11,2),(13,2),(15,8),(23,8),(31,4),(35,4),(39,1),(40,1),(41,2),(43,1),(44,1),(45,1),(46,1),(47,1),(48,1),(49,1),(50,1),(51,1),(52,1),(53,2)]) Tryz.underlying42 Tryz.zeroValue42 rfl (by kernel_rfl) rfl rfl (by kernel_rfl)) ?_;refine aj.ef cg fun b2=>?_;refine aj.aX (xZ oB rfl) fun _=>?_;refine gg ?_;refine eF (xC (wkA tp mb _ (pK nb).2 (pK nb).1)) fun es1 hf1=>?_;refine gg ?_;refine eF (xC (wkB tp mb es1 hf1.2 hf1.1)) fun es2 hf2=>?_;refine gg ?_;refine vl (vW (bZ.len oB)) ?_;refine eF (xC (wkC tp mb es2 hf2.2 hf2.1)) fun es3 hf3=>?_;refine gg ?_;refine vl (vW (bZ.len oB)) ?_;refine eF (xC (wkD tp mb es3 hf3.2 hf3.1)) fun es4 hf4=>?_;refine gg ?_;refine eF (xC (wkL tp mb es4 hf4.2 hf4.1)) fun⟨mp,ps⟩ hml=>?_;dsimp only at hml;refine sg (v:=.map _) rfl ?_;refine cK ?_;refine mv (v:=.map _) rfl ?_;refine aj.ef (eV (σ':=fun _=>[_,_,_,_]) (fun _=>rfl)) (fun mp27=>?_);refine eF (xC (wkS tp mb es4 hf4.2 mp (bO ps) hml mp27 hf4.1)) fun sb _=>?_;refine sg (v:=.map _) rfl ?_;refine cK ?_;refine mv (v:=.map _) rfl ?_;refine eF (xC (wkN tp mb es4 hf4.2 mp (bO ps) hml hf4.1)) fun⟨⟨nA,nc⟩,iA,ic⟩ _=>?_;refine mv rfl ?_;refine qa ?_;refine mv (v:=.map _) rfl ?_;refine eF (xC (wkO tp mb es4 hf4.2 mp (bO ps) hml hf4.1)) fun⟨oA,oc⟩ _=>?_;refine av ?_;refine nl (oo ?_);refine sq ?_;refine WP.holds (fun w hw=>hw.aM (i:=4) rfl (by omega)) (fun⟨kb,hA⟩=>?_);subst hA;refine WP.holds (fun w hw=>hw.aM (i:=7) rfl (by omega)) (fun⟨lb,hB⟩=>?_);subst hB;refine bW ?_;refine mv (v:=.map _) rfl ?_;refine mv (v:=.map _) rfl ?_;refine eF (xC (show Ct Tryz.prog 25 #[.int .i64 9,.int .i64 9] [] (fun _=>True) (X:=Unit) (fun _=>cJ 9 9) (fun _=>True) (fun _=>[]) from fa 9 9)) fun _ _=>?_;refine eF (xC (wkH tp mb es4 hf4.2 mp (bO ps) hml sb hf4.1 (9,9) ⟨⟨by decide,by decide⟩,by decide,by decide⟩ 2 wey)) fun _ _=>?_;refine vl (fL (b:=true) (dD rfl rfl) (by decide)) ?_;refine bW ?_;refine vg (aC (v:=.map _) rfl) ?_;refine vg (aC (v:=.map _) rfl) ?_;refine aj.kn (xC (show Ct Tryz.prog 25 #[.int .i64 10,.int .i64 9] [] (fun _=>True) (X:=Unit) (fun _=>cJ 10 9) (fun _=>True) (fun _=>[]) from fa 10 9)) (fun _=>?_);refine aj.fact (fun _=>?_);refine aj.kn (xC (wkH tp mb es4 hf4.2 mp (bO ps) hml sb hf4.1 (10,9) ⟨⟨by decide,by decide⟩,by decide,by decide⟩ (-1) wez)) (fun _=>?_);refine aj.fact (fun _=>?_);refine vg (fL (b:=true) (dD rfl rfl) (by decide)) ?_;refine cK ?_;refine vg (aC (v:=.map _) rfl) ?_;refine aj.kn (xC (wkM tp mb es4 hf4.2 (bO ps) hml sb hf4.1)) (fun _=>?_);refine aj.fact (fun _=>?_);refine bS ?_
  refine vg (fL (b:=true) (dD rfl rfl) (by decide)) ?_;refine bS ?_;refine vg (fL (b:=true) (dD rfl rfl) (by decide)) ?_;refine bW ?_;refine vg (aC (v:=.slice _ _ _) rfl) ?_;refine vg (bG (j:=2) Tryz.underlying49 Tryz.sizeOf3 rfl rfl rfl (by omega)) ?_;refine vg (ai (u:=.int .i64 2) Tryz.isAgg3 rfl (fun w hw=>hw.bh (i:=3) (k:=2) rfl rfl (by decide))) ?_;refine vg (fL (b:=true) (dD rfl rfl) (by decide)) ?_;refine bS ?_;refine vg (fL (b:=true) (dD rfl rfl) (by decide)) ?_;refine bS ?_;refine vg (ai (u:=.int .i64 0) Tryz.isAgg3 rfl (fun w hw=>hw.bh (i:=4) (k:=0) rfl rfl (by decide))) ?_;refine vg (fL (b:=true) (dD rfl rfl) (by decide)) ?_;refine gg ?_;exact aT fun w hw=>⟨(),rfl,trivial,hw.pk⟩
theorem zV {l:List Int} {m:Int→Bool} (h:dC l m≠-1):dC l m∈l∧m (dC l m)=true:=by
  rcases uh l m l.length (Nat.le_refl _) with ⟨h1,_⟩ | ⟨j,h1,h2,h3,_⟩
  · exact absurd h1 h
  · unfold dC;rw[h2];exact⟨eo h1,h3⟩
section
variable {F:ar (List Value)} {d:Int→Nat} {g:Int→Option Rc} {o:Int→Pt} {win:Rc}
theorem qq (hF:WF F d) (hg:∀x,GS (ah F x)) (w h:Int):F6 F (gm F w h):=fun y hy=>by
  refine⟨?_,fun h0=>Yw hF hg hy h0⟩;unfold gm J2 at hy;rw[Option.isSome_map] at hy;obtain⟨f,hf⟩:=Option.isSome_iff_exists.1 hy;have h6:f.id=y:=by simpa using List.find?_some hf
  rw[←h6];exact(ua hF hg w h f (List.mem_of_find?_eq_some hf)).1
theorem Iq {p:Pt} {x:Int} (h:dm F g o win p x=true):(g x).isSome=true∧aK F x=true∧iJ (ah F x) 52=false∧Bl (fz F g o win x).r p=true∧Bl (fz F g o win x).c p=true:=by
  unfold dm at h;simp only[Bool.and_eq_true,Bool.not_eq_true'] at h;exact h
end
end Go.Proofs.YtbedndijejpcaaaGreat
