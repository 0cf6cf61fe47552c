/- HitQ HitW HitL POf -/
import Derived.Test.YtbedndijejpcaaaGreatH27
set_option linter.unusedVariables false
set_option linter.unusedSimpArgs false
set_option linter.unusedSectionVars false
set_option maxRecDepth 100000
set_option maxHeartbeats 8000000
namespace Go.Proofs.YtbedndijejpcaaaGreat
open Go.RowKit
theorem J9 {l A m R:List Int} {x p:Int} {k:Nat} (hn:l.Nodup) (e:l=A++(m++x::R)) (hm:m≠[]) (hk:l[k]?=some x) (hp:l[k - 1]?=some p):p∈m:=by
  have h1:l[A.length+m.length]?=some x:=by
    rw[e,List.getElem?_append_right (by omega),List.getElem?_append_right (by omega)];have:A.length+m.length - A.length - m.length=0:=by omega
    rw[this];rfl
  have h2:(k:Int)=((A.length+m.length:Nat):Int):=(gL hn hk).symm.trans (gL hn h1);have hl:=List.length_pos_iff.2 hm;have h3:k - 1=A.length+(m.length - 1):=by omega
  rw[h3,e,List.getElem?_append_right (by omega),List.getElem?_append_left (by omega)] at hp;exact List.mem_of_getElem? hp
section
variable {F:ar (List Value)} {d:Int→Nat} {g:Int→Option Rc}
theorem E6 (hF:WF F d) {a x:Int} (h:kg F a x):sub F x<:+:sub F a:=by
  induction h with
  | refl=>exact⟨[],[],by simp⟩
  | @step y b hy h0 ha ih =>
    refine List.IsInfix.trans ?_ ih;obtain⟨u,hu,hm⟩:=hF.par y b hy h0;rw[hF.sub_eq hu];obtain⟨s,t,e⟩:=se (f:=sub F) hm;exact⟨b.up::s,t,by rw[←e];simp⟩
theorem y8 (hF:WF F d) (hu:F6 F g):∀(n:Nat) (y:Int),d y≤n→(g y).isSome=true→(g 0).isSome=true
  | n, y, hd, hy => by
    by_cases h0:y=0
    · rw[←h0];exact hy
    · obtain ⟨h1, h2⟩ := hu y hy
      obtain⟨_,_,_,h3⟩:=hF.iV h1 h0;cases n with
      | zero=>omega
      | succ n=>exact y8 hF hu n (upF F y) (by omega) (h2 h0)
theorem yE (hF:WF F d) (hu:F6 F g) {x:Int} (h:(cO F g)[0]?=some x):x=0:=by
  have h1:=eR.1 (List.mem_of_getElem? h);have h2:=y8 hF hu _ x (Nat.le_refl _) h1.2;have h3:=hF.Cm;unfold cO at h;cases e:order F with
  | nil=>rw[e] at h3;cases h3
  | cons a t =>
    rw[e] at h3 h;have ha:a=0:=by simpa using h3
    rw[List.filter_cons,if_pos (by rw[ha];exact h2)] at h;have:a=x:=by simpa using h
    rw[←this,ha]
theorem GH (hF:WF F d) (hu:F6 F g) {k:Nat} {x p:Int} (hx:(cO F g)[k]?=some x) (h0:x≠0) (hp:(cO F g)[k - 1]?=some p):kg F (upF F x) p:=by
  have hxi:=eR.1 (List.mem_of_getElem? hx);have hh:=hF.bw.1 hxi.1;obtain⟨h1,_,_,_⟩:=hF.iV hh h0;obtain⟨bu,hbu⟩:=aL h1;obtain⟨bx,hbx⟩:=aL hh;have hax:kg F (upF F x) x:=kg.step hbx h0 (by rw[←ch hbx];exact kg.refl h1);obtain⟨A,B,e⟩:=E6 hF (hF.AJ h1);have e0:sub F (upF F x)=upF F x::bu.kids.flatMap (sub F):=hF.sub_eq hbu;have hxs:x∈bu.kids.flatMap (sub F):=by
    have h2:=hF.cH.2 hax;rw[e0] at h2
    rcases List.mem_cons.1 h2 with h2 | h2
    · exfalso
      obtain⟨_,_,_,h3⟩:=hF.iV hh h0;rw[←h2] at h3;omega
    · exact h2
  have hxf:x∈(bu.kids.flatMap (sub F)).filter (lf g):=List.mem_filter.2 ⟨hxs,hxi.2⟩;obtain⟨s,t,e2⟩:=List.append_of_mem hxf;have hug:(g (upF F x)).isSome=true:=(hu x hxi.2).2 h0;have e3:cO F g=A.filter (lf g)++((upF F x::s)++x::(t++B.filter (lf g))):=by
    unfold cO order;rw[←e,List.filter_append,List.filter_append,e0,List.filter_cons,if_pos hug,e2];simp
  have h4:=J9 (jv hF) e3 (by simp) hx hp;refine hF.cH.1 ?_;rw[e0]
  rcases List.mem_cons.1 h4 with h4 | h4
  · rw[h4];simp
  · have : p ∈ (bu.kids.flatMap (sub F)).filter (lf g) := by rw [e2]; exact List.mem_append_left _ h4
    exact List.mem_cons_of_mem _ (List.mem_filter.1 this).1
theorem DC {i:Nat} {x:Int} (h:(cO F g)[i]?=some x):(bY F g)[i]?=some (jV F g x):=by
  unfold bY;rw[List.getElem?_map,h];rfl
theorem wx (hF:WF F d) (hu:F6 F g) {u:Int} (huG:u∈cO F g):∀(st:List Int) (z:Int) (i:Int),z∈cO F g→i=idxP (cO F g) z→Ch (bY F g) i st→kg F u z→idxP (cO F g) u∈st
  | [], z, i, hz, hi, hc, _ => by
    have h1:=(rK (cO F g) z).2.2 hz;have h2:i= -1:=hc;omega
  | y :: st, z, i, hz, hi, hc, ha => by
    obtain⟨h1,h2,h3⟩:=hc;have hiy:y=idxP (cO F g) z:=h1.symm.trans hi;cases ha with
    | refl=>rw[←hiy];simp
    | @step _ b hb h0 ha' =>
      obtain⟨k,hk⟩:=List.getElem?_of_mem hz;have hy:y=(k:Int):=hiy.trans (gL (jv hF) hk);have hup:ns (bY F g) y=idxP (cO F g) (upF F z):=by rw[hy];exact(sy (DC hk)).1
      have hzg:=eR.1 hz;have huz:upF F z∈cO F g:=eR.2 ⟨hF.bw.2 (hF.iV (hF.bw.1 hzg.1) h0).1,(hu z hzg.2).2 h0⟩;rw[hup] at h3;exact List.mem_cons_of_mem _ (wx hF hu huG st (upF F z) _ huz rfl h3 (by rw[ch hb];exact ha'))
theorem vp (hF:WF F d) (hu:F6 F g):∀k:Nat,k≤(cO F g).length→∃st,stk (bY F g) k=some st
  | 0,_=>⟨[],rfl⟩
  | k + 1, hk => by
    obtain⟨st,hs⟩:=vp hF hu k (by omega);obtain⟨x,hx⟩:∃x,(cO F g)[k]?=some x:=⟨_,List.getElem?_eq_getElem (by omega)⟩;refine(tX hs).2 ?_;have hup:ns (bY F g) (k:Int)=idxP (cO F g) (upF F x):=(sy (DC hx)).1
    split
    · rename_i h0
      subst h0;have h1:=yE hF hu hx;have h2:upF F 0= -1:=by
        obtain⟨b,hb,hu0⟩:=hF.root;rw[ch hb,hu0]
      have h3:ns (bY F g) 0=idxP (cO F g) (upF F x):=hup;rw[h3,h1,h2];refine nu fun h=>?_;obtain⟨b,hb⟩:=aL (hF.bw.1 (eR.1 h).1);have:=(hF.range _ b hb).1;omega
    · rename_i h0
      have hx0:x≠0:=fun e=>by
        obtain⟨z,hz⟩:∃z,(cO F g)[0]?=some z:=⟨_,List.getElem?_eq_getElem (by omega)⟩;have h1:=yE hF hu hz;rw[e,←h1] at hx;have h2:=(gL (jv hF) hx).symm.trans (gL (jv hF) hz);omega
      obtain⟨p,hp⟩:∃p,(cO F g)[k - 1]?=some p:=⟨_,List.getElem?_eq_getElem (by omega)⟩;have hc:=(sM hs).1;have hxg:=eR.1 (List.mem_of_getElem? hx);have huz:upF F x∈cO F g:=eR.2 ⟨hF.bw.2 (hF.iV (hF.bw.1 hxg.1) hx0).1,(hu x hxg.2).2 hx0⟩;rw[hup];exact wx hF hu huz st p _ (List.mem_of_getElem? hp) (by rw[gL (jv hF) hp];omega) hc (GH hF hu hx hx0 hp)
theorem yA (hF:WF F d) (hu:F6 F g):uv (bY F g)=true:=by
  obtain⟨st,h⟩:=vp hF hu _ (Nat.le_of_eq (fo (F:=F) (g:=g)));unfold uv;rw[h];rfl
theorem tw (hF:WF F d) (hu:F6 F g) (h:∀y∈order F,AO (ah F y)=false):cS F g=cO F g:=by
  unfold cS
  by_cases h0:bY F g=[]
  · rw [xg (.inl h0)]
    have:(cO F g).length=0:=by rw[←fo,h0];rfl
    rw[List.eq_nil_of_length_eq_zero this];rfl
  · rw [Du h0 (yA hF hu), zE (wO (yA hF hu)) _ h0, fo, List.map_map]
    · refine List.ext_getElem? fun i => ?_
      rw[List.getElem?_map]
      by_cases hi:i<(cO F g).length
      · rw [List.getElem?_range hi]
        show some (gI (cO F g) ((i:Int).toNat))=_;rw[Int.toNat_natCast];exact(j9 hi).symm
      · rw[List.getElem?_eq_none (by rw[List.length_range];omega),List.getElem?_eq_none (by omega)];rfl
    · intro x
      unfold oD
      split
      · rfl
      · split
        · rename_i n hn
          obtain⟨y,hy,rfl⟩:=List.mem_map.1 (List.mem_of_getElem? hn);exact h y (eR.1 hy).1
        · rfl
end
theorem ye {l r:List Int} {m:Int→Bool}:∀k:Nat,k≤l.length→hC (l++r) m k=hC l m k
  | 0,_=>rfl
  | k + 1, h => by
    have e:gI (l++r) k=gI l k:=gF (by rw[List.getElem?_append_left (show k<l.length by omega)];exact j9 (show k<l.length by omega));rw[hC,hC,e,ye (l:=l) (r:=r) (m:=m) k (show k≤l.length by omega)]
theorem Ip (l:List Int) (m:Int→Bool) (a:Int):dC (l++[a]) m=if m a=true then a else dC l m:=by
  have e:gI (l++[a]) l.length=a:=gF (by rw[List.getElem?_append_right (Nat.le_refl _),Nat.sub_self];rfl);unfold dC;rw[List.length_append,List.length_singleton,hC,e,ye l.length (Nat.le_refl _)]
theorem tH {l:List Int} {q m:Int→Bool} (h:∀x,m x=true→q x=true):∀k:Nat,k≤l.length→dC ((l.take k).filter q) m=hC l m k
  | 0,_=>rfl
  | k + 1, hk => by
    obtain⟨x,hx⟩:∃x,l[k]?=some x:=⟨_,List.getElem?_eq_getElem (by omega)⟩;have ih:=tH (l:=l) h k (by omega);rw[hC,gF hx];cases hq:q x with
    | true=>rw[o6 hx hq,Ip,ih]
    | false =>
      rw[rQ hx hq,ih,if_neg];intro hm;rw[h x hm] at hq;cases hq
def Fw:List Value:=[.int .i64 0,.int .i64 2,.int .i64 0,.int .i64 0,.int .i64 0,.int .i64 0,.int .i64 0,.int .i64 0,.int .i64 0,.int .i64 0,.int .i64 0,.int .i64 0,.int .i64 0,.int .i64 0,.int .i64 0,.int .i64 0,.int .i64 0,.int .i64 0,.int .i64 0,.int .i64 0,.int .i64 0,.int .i64 0,.int .i64 0,.int .i64 0,.int .i64 0,.int .i64 0,.int .i64 0,.int .i64 0,.int .i64 0,.int .i64 0,.int .i64 0,.int .i64 0,.int .i64 0,.int .i64 0,.int .i64 0,.int .i64 0,.int .i64 0,.int .i64 0,.int .i64 0,.int .i64 0,.int .i64 0,.int .i64 0,.int .i64 0,.int .i64 0,.int .i64 0,.bool false,.int .i64 0,.bool false,.int .i64 0,.int .i64 0,.int .i64 0,.bool false,.bool false,.int .i64 10,.int .i64 10]
theorem oB:bZ Fw:=bZ.wH rfl
abbrev W0:ar (List Value):=nz aR
abbrev W1:ar (List Value):=(addR aR W0 0 0).1
abbrev W2:ar (List Value):=(addR aR W1 0 1).1
abbrev W3:ar (List Value):=(setR bg W2 1 Fw).1
abbrev W4:ar (List Value):=(setR bg W3 2 Fw).1
def L8:List ew:=[⟨0,0,0,100,0,[⟨1,0,0,10,10,[]⟩,⟨2,0,0,10,10,[]⟩]⟩,⟨1,0,0,10,10,[]⟩,⟨2,0,0,10,10,[]⟩]
abbrev G8:Int→Option Rc:=J2 L8
abbrev N8:List PN:=[⟨-1,false,0⟩,⟨0,false,0⟩,⟨0,false,0⟩]
theorem we1:(addR aR W0 0 0).2=(1,0):=by kernel_rfl
theorem we2:(addR aR W1 0 1).2=(2,0):=by kernel_rfl
theorem we3:(setR bg W2 1 Fw).2=0:=by kernel_rfl
theorem we4:(setR bg W3 2 Fw).2=0:=by kernel_rfl
theorem we5:jK W4=3:=by kernel_rfl
theorem we6:nB W4 100 50=L8:=by kernel_rfl
theorem we7:order W4=[0,1,2]:=by kernel_rfl
theorem we8:cO W4 G8=[0,1,2]:=by kernel_rfl
theorem we9:bY W4 G8=N8:=by kernel_rfl
theorem wex:dm W4 G8 (fun _=>(0,0)) (eH 0 0 100 50) (0,0) 1=true:=by kernel_rfl
theorem wey:dC [0,1,2] (dm W4 G8 (fun _=>(0,0)) (eH 0 0 100 50) (9,9))=2:=by kernel_rfl
theorem wez:dC [0,1,2] (dm W4 G8 (fun _=>(0,0)) (eH 0 0 100 50) (10,9))= -1:=by kernel_rfl
theorem ww0:∃d,WF W0 d:=⟨_,WF.new aR⟩
theorem ww1:∃d,WF W1 d:=by obtain⟨d,h⟩:=ww0;exact h.addR aR 0 0
theorem ww2:∃d,WF W2 d:=by obtain⟨d,h⟩:=ww1;exact h.addR aR 0 1
theorem ww3:∃d,WF W3 d:=by obtain⟨d,h⟩:=ww2;exact h.setR bg 1 Fw
theorem Mf:∃d,WF W4 d:=by obtain⟨d,h⟩:=ww3;exact h.setR bg 2 Fw
theorem wgs:di W4:=(((di.new.addR 0 0).addR 0 1).setR 1 oB).setR 2 oB
theorem yU {m:List (Int×Value)} (h:uT m L8):RM W4 m G8:=Dd h fun f hf=>by
  simp only[L8,List.mem_cons,List.not_mem_nil,or_false] at hf
  rcases hf with rfl | rfl | rfl<;>kernel_rfl
theorem Cu:F6 W4 G8:=fun y hy=>by
  unfold G8 J2 at hy;rw[Option.isSome_map] at hy;obtain⟨f,hf⟩:=Option.isSome_iff_exists.1 hy;have h5:=List.find?_some hf;have h6:f.id=y:=by simpa using h5
  have hm:=List.mem_of_find?_eq_some hf;simp only[L8,List.mem_cons,List.not_mem_nil,or_false] at hm
  rcases hm with rfl | rfl | rfl<;>subst h6<;>refine⟨by kernel_rfl,fun h=>?_⟩
  · exact absurd rfl h
  · kernel_rfl
  · kernel_rfl
theorem Vy:cS W4 G8=[0,1,2]:=by
  obtain⟨d,hd⟩:=Mf;rw[tw hd Cu,we8];rw[we7];intro y hy;simp only[List.mem_cons,List.not_mem_nil,or_false] at hy
  rcases hy with rfl | rfl | rfl<;>kernel_rfl
section
variable (tp mb:Nat) (es:List PE) (hk:eG es)
include hk
theorem wkA (h:ae es=W0):Ct Tryz.prog 50 #[.pointer (some ⟨tp,0,none⟩),.int .i64 0,.int .i64 0] [al tp mb es] (fun _=>True) (X:=List PE) (fun _=>.tuple #[.int .i64 1,.int .i64 0]) (fun es'=>ae es'=W1∧eG es') (fun es'=>[al tp mb es']):=by
  obtain⟨d,hd⟩:=ww0;have h1:=BR tp mb es hk (h▸hd) 0 0;rw[h,we1] at h1;exact h1
theorem wkB (h:ae es=W1):Ct Tryz.prog 50 #[.pointer (some ⟨tp,0,none⟩),.int .i64 0,.int .i64 1] [al tp mb es] (fun _=>True) (X:=List PE) (fun _=>.tuple #[.int .i64 2,.int .i64 0]) (fun es'=>ae es'=W2∧eG es') (fun es'=>[al tp mb es']):=by
  obtain⟨d,hd⟩:=ww1;have h1:=BR tp mb es hk (h▸hd) 0 1;rw[h,we2] at h1;exact h1
theorem wkC (h:ae es=W2):Ct Tryz.prog 20 #[.pointer (some ⟨tp,0,none⟩),.int .i64 1,.agg Fw.toArray] [al tp mb es] (fun _=>True) (X:=List PE) (fun _=>.int .i64 0) (fun es'=>ae es'=W3∧eG es') (fun es'=>[al tp mb es']):=by
  have h1:=xp tp mb es hk 1 Fw oB;rw[h,we3] at h1;exact h1
theorem wkD (h:ae es=W3):Ct Tryz.prog 20 #[.pointer (some ⟨tp,0,none⟩),.int .i64 2,.agg Fw.toArray] [al tp mb es] (fun _=>True) (X:=List PE) (fun _=>.int .i64 0) (fun es'=>ae es'=W4∧eG es') (fun es'=>[al tp mb es']):=by
  have h1:=xp tp mb es hk 2 Fw oB;rw[h,we4] at h1;exact h1
theorem wkL (h:ae es=W4):Ct Tryz.prog 21 #[.pointer (some ⟨tp,0,none⟩),.int .i64 100,.int .i64 50] [al tp mb es] (fun _=>True) (X:=Nat×List ew) (fun p=>.map (some p.1)) (fun p=>uT (bO p.2) L8) (fun p=>[al tp mb es,aP p.1 (bO p.2)]):=by
  obtain⟨d,hd⟩:=Mf;have h1:=ig tp mb es hk (h▸hd) (by rw[h];exact wgs.st) (by rw[h];exact fun x=>Nat.le_trans (kO (n:=3) hd (by rw[we5];decide) x) (by decide)) 100 50 (by decide) (by decide);refine h1.to (fun p=>p) (fun _=>rfl) (fun p hp=>?_) (fun _=>rfl);have h2:=mapOf hp (by rw[h];exact jl hd wgs.st 100 50);rw[h,we6] at h2;exact h2
variable (mp:Nat) (m:List (Int×Value)) (hm:uT m L8)
include hm
theorem wkS (om:Nat) (h:ae es=W4):Ct Tryz.prog 27 #[.pointer (some ⟨tp,0,none⟩),.map (some mp),.map (some om),.int .i64 100,.int .i64 50] [al tp mb es,aP mp m,aP om []] (fun _=>True) (X:=Nat) (fun b=>.map (some b)) (fun _=>True) (fun b=>[al tp mb es,aP mp m,aP om [],aP b (lS W4 G8 (fun _=>(0,0)) (eH 0 0 100 50) (order W4))]):=by
  obtain⟨d,hd⟩:=Mf;have h1:=kx tp mb mp om es m [] G8 (fun _=>(0,0)) hk (h▸hd) (by rw[h];exact wgs.st) (by rw[h];exact yU hm) xq 100 50;rw[h] at h1;exact h1
theorem wkN (h:ae es=W4):Ct Tryz.prog 80 #[.pointer (some ⟨tp,0,none⟩),.map (some mp)] [al tp mb es,aP mp m] (fun _=>True) (X:=(Option Addr×Nat)×Option Addr×Nat) (fun p=>.tuple #[.slice p.1.1 3 p.1.2,.slice p.2.1 3 p.2.2]) (fun _=>True) (fun p=>[al tp mb es,aP mp m,qh p.1.1 p.1.2 N8,az p.2.1 3 p.2.2 [0,1,2]]):=by
  obtain⟨d,hd⟩:=Mf;have h1:=vu tp mb mp es m G8 hk (h▸hd) (by rw[h];exact yU hm) (by rw[h];exact Cu);rw[h,we8,we9] at h1;exact h1
theorem wkO (h:ae es=W4):Ct Tryz.prog 45 #[.pointer (some ⟨tp,0,none⟩),.map (some mp)] [al tp mb es,aP mp m] (fun _=>True) (X:=Option Addr×Nat) (fun p=>.slice p.1 3 p.2) (fun _=>True) (fun p=>[al tp mb es,aP mp m,az p.1 3 p.2 [0,1,2]]):=by
  obtain⟨d,hd⟩:=Mf;have h1:=qu tp mb mp es m G8 hk (h▸hd) (by rw[h];exact yU hm) (by rw[h];exact Cu) (by rw[h,we7];decide);rw[h,Vy] at h1;exact h1
variable (sb:Nat)
theorem wkH (h:ae es=W4) (p:Pt) (hp:PB p) (r:Int) (hr:dC [0,1,2] (dm W4 G8 (fun _=>(0,0)) (eH 0 0 100 50) p)=r):Ct Tryz.prog 44 #[.pointer (some ⟨tp,0,none⟩),.map (some mp),.map (some sb),cJ p.1 p.2] [al tp mb es,aP mp m,aP sb (lS W4 G8 (fun _=>(0,0)) (eH 0 0 100 50) (order W4))] (fun _=>True) (X:=Unit) (fun _=>.int .i64 r) (fun _=>True) (fun _=>[al tp mb es,aP mp m,aP sb (lS W4 G8 (fun _=>(0,0)) (eH 0 0 100 50) (order W4))]):=by
  obtain⟨d,hd⟩:=Mf;have h1:=od tp mb mp es m G8 hk (h▸hd) (by rw[h];exact yU hm) (by rw[h];exact Cu) (by rw[h,we7];decide) sb (fun _=>(0,0)) (eH 0 0 100 50) p hp;rw[h,Vy,hr] at h1;exact h1
theorem wkM (h:ae es=W4):Ct Tryz.prog 47 #[.pointer (some ⟨tp,0,none⟩),.map (some sb),.int .i64 1,cJ 0 0] [al tp mb es,aP sb (lS W4 G8 (fun _=>(0,0)) (eH 0 0 100 50) (order W4))] (fun _=>True) (X:=Unit) (fun _=>.bool true) (fun _=>True) (fun _=>[al tp mb es,aP sb (lS W4 G8 (fun _=>(0,0)) (eH 0 0 100 50) (order W4))]):=by
  obtain⟨d,hd⟩:=Mf;have h1:=nV tp mb es m G8 hk (h▸hd) (by rw[h];exact yU hm) sb (fun _=>(0,0)) (eH 0 0 100 50) (0,0) rI 1;rw[h,wex] at h1;exact h1
end
theorem kK:Ct Tryz.prog 43 #[] [] (fun _=>True) (X:=Unit) (fun _=>.bool true) (fun _=>True) (fun _=>[]):=by
  refine Ci fun w0 _=>?_;refine gg ?_;refine eF (xC Gl) fun⟨tp,mb,nb⟩ _=>?_;refine cR ?_;refine vl (xJ Tryz.underlying24 rfl rfl) ?_;refine gg ?_;refine WP.br rfl ?_;refine bW ?_;refine vl (cB (us:=[.int .i64 _,.int .i64 _]) Tryz.underlying40 Tryz.zeroValue40 Tryz.sizeOf3 rfl rfl rfl) ?_;refine vl (aV (us:=Fw) (pl:=[(0,1),(1,1),(2,1),(3,2),(5,2),(7,2),(9,2),(11,2),(13,2),(15,8),(23,8),(31,4),(35,4),(39,1),(40,1),(41,2),(43,1),(44,1),(45,1),(46,1),(47,1),(48,1),(49,1),(50,1),(51,1),(52,1),(53,2)]) Tryz.underlying42 Tryz.zeroValue42 rfl (by kernel_rfl) rfl rfl (by kernel_rfl)) ?_;refine aj.ef cg fun b2=>?_;refine aj.aX (xZ oB rfl) fun _=>?_;refine gg ?_;refine eF (xC (wkA tp mb _ (pK nb).2 (pK nb).1)) fun es1 hf1=>?_;refine gg ?_;refine eF (xC (wkB tp mb es1 hf1.2 hf1.1)) fun es2 hf2=>?_;refine gg ?_;refine vl (vW (bZ.len oB)) ?_;refine eF (xC (wkC tp mb es2 hf2.2 hf2.1)) fun es3 hf3=>?_;refine gg ?_;refine vl (vW (bZ.len oB)) ?_;refine eF (xC (wkD tp mb es3 hf3.2 hf3.1)) fun es4 hf4=>?_;refine gg ?_;refine eF (xC (wkL tp mb es4 hf4.2 hf4.1)) fun⟨mp,ps⟩ hml=>?_;dsimp only at hml;refine sg (v:=.map _) rfl ?_;refine cK ?_;refine mv (v:=.map _) rfl ?_;refine aj.ef (eV (σ':=fun _=>[_,_,_,_]) (fun _=>rfl)) (fun mp27=>?_);refine eF (xC (wkS tp mb es4 hf4.2 mp (bO ps) hml mp27 hf4.1)) fun sb _=>?_;refine sg (v:=.map _) rfl ?_;refine cK ?_;refine mv (v:=.map _) rfl ?_;refine eF (xC (wkN tp mb es4 hf4.2 mp (bO ps) hml hf4.1)) fun⟨⟨nA,nc⟩,iA,ic⟩ _=>?_;refine mv rfl ?_;refine qa ?_;refine mv (v:=.map _) rfl ?_;refine eF (xC (wkO tp mb es4 hf4.2 mp (bO ps) hml hf4.1)) fun⟨oA,oc⟩ _=>?_;refine av ?_;refine nl (oo ?_);refine sq ?_;refine WP.holds (fun w hw=>hw.aM (i:=4) rfl (by omega)) (fun⟨kb,hA⟩=>?_);subst hA;refine WP.holds (fun w hw=>hw.aM (i:=7) rfl (by omega)) (fun⟨lb,hB⟩=>?_);subst hB;refine bW ?_;refine mv (v:=.map _) rfl ?_;refine mv (v:=.map _) rfl ?_;refine eF (xC (show Ct Tryz.prog 25 #[.int .i64 9,.int .i64 9] [] (fun _=>True) (X:=Unit) (fun _=>cJ 9 9) (fun _=>True) (fun _=>[]) from fa 9 9)) fun _ _=>?_;refine eF (xC (wkH tp mb es4 hf4.2 mp (bO ps) hml sb hf4.1 (9,9) ⟨⟨by decide,by decide⟩,by decide,by decide⟩ 2 wey)) fun _ _=>?_;refine vl (fL (b:=true) (dD rfl rfl) (by decide)) ?_;refine bW ?_;refine vg (aC (v:=.map _) rfl) ?_;refine vg (aC (v:=.map _) rfl) ?_;refine aj.kn (xC (show Ct Tryz.prog 25 #[.int .i64 10,.int .i64 9] [] (fun _=>True) (X:=Unit) (fun _=>cJ 10 9) (fun _=>True) (fun _=>[]) from fa 10 9)) (fun _=>?_);refine aj.fact (fun _=>?_);refine aj.kn (xC (wkH tp mb es4 hf4.2 mp (bO ps) hml sb hf4.1 (10,9) ⟨⟨by decide,by decide⟩,by decide,by decide⟩ (-1) wez)) (fun _=>?_);refine aj.fact (fun _=>?_);refine vg (fL (b:=true) (dD rfl rfl) (by decide)) ?_;refine cK ?_;refine vg (aC (v:=.map _) rfl) ?_;refine aj.kn (xC (wkM tp mb es4 hf4.2 (bO ps) hml sb hf4.1)) (fun _=>?_);refine aj.fact (fun _=>?_);refine bS ?_
  refine vg (fL (b:=true) (dD rfl rfl) (by decide)) ?_;refine bS ?_;refine vg (fL (b:=true) (dD rfl rfl) (by decide)) ?_;refine bW ?_;refine vg (aC (v:=.slice _ _ _) rfl) ?_;refine vg (bG (j:=2) Tryz.underlying49 Tryz.sizeOf3 rfl rfl rfl (by omega)) ?_;refine vg (ai (u:=.int .i64 2) Tryz.isAgg3 rfl (fun w hw=>hw.bh (i:=3) (k:=2) rfl rfl (by decide))) ?_;refine vg (fL (b:=true) (dD rfl rfl) (by decide)) ?_;refine bS ?_;refine vg (fL (b:=true) (dD rfl rfl) (by decide)) ?_;refine bS ?_;refine vg (ai (u:=.int .i64 0) Tryz.isAgg3 rfl (fun w hw=>hw.bh (i:=4) (k:=0) rfl rfl (by decide))) ?_;refine vg (fL (b:=true) (dD rfl rfl) (by decide)) ?_;refine gg ?_;exact aT fun w hw=>⟨(),rfl,trivial,hw.pk⟩
theorem zV {l:List Int} {m:Int→Bool} (h:dC l m≠-1):dC l m∈l∧m (dC l m)=true:=by
  rcases uh l m l.length (Nat.le_refl _) with ⟨h1,_⟩ | ⟨j,h1,h2,h3,_⟩
  · exact absurd h1 h
  · unfold dC;rw[h2];exact⟨eo h1,h3⟩
section
variable {F:ar (List Value)} {d:Int→Nat} {g:Int→Option Rc} {o:Int→Pt} {win:Rc}
theorem qq (hF:WF F d) (hg:∀x,GS (ah F x)) (w h:Int):F6 F (gm F w h):=fun y hy=>by
  refine⟨?_,fun h0=>Yw hF hg hy h0⟩;unfold gm J2 at hy;rw[Option.isSome_map] at hy;obtain⟨f,hf⟩:=Option.isSome_iff_exists.1 hy;have h6:f.id=y:=by simpa using List.find?_some hf
  rw[←h6];exact(ua hF hg w h f (List.mem_of_find?_eq_some hf)).1
theorem Iq {p:Pt} {x:Int} (h:dm F g o win p x=true):(g x).isSome=true∧aK F x=true∧iJ (ah F x) 52=false∧Bl (fz F g o win x).r p=true∧Bl (fz F g o win x).c p=true:=by
  unfold dm at h;simp only[Bool.and_eq_true,Bool.not_eq_true'] at h;exact h
end
end Go.Proofs.YtbedndijejpcaaaGreat
