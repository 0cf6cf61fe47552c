/- PaintAll PaintOrd HitA HitQ -/
import Derived.Test.YtbedndijejpcaaaGreatH27
set_option linter.unusedVariables false
set_option linter.unusedSimpArgs false
set_option linter.unusedSectionVars false
set_option maxRecDepth 100000
set_option maxHeartbeats 8000000
namespace Go.Proofs.YtbedndijejpcaaaGreat
open Go.RowKit
abbrev CF (b ab ao c n mb:Nat):HI:=.cl b 191 [.slice (some ⟨ab,ao,none⟩) n c,.map (some mb)]
theorem yG {P:Program} {S:World→Prop} {ρ:Env} {dst:Option Tmp} {ty:TypeId} {pos:String} {af:Array Edge} {g:Option (Nat×Bool)} {t kt et:TypeId} {x y:Operand} {q:IntKind} {b:Nat} {es:List KE} {k:Int} (ht:P.underlying t=some (.map kt et)) (hk:P.underlying kt=some (.int q)) (hz:∀w,(zeroValue et).run P w=.ok (.slice none 0 0) w) (hx:evo ρ x=.map (some b)) (hy:evo ρ y=.int .i64 k) (hm:∀w,S w→sV b (es.map KE.fA) w):
    cw P S ⟨dst,.lookup t x y false,ty,pos,af,g⟩ ρ (.slice (Ft es k) (dY es k).length (KU es k)):=by
  rw[←wg];exact fu ht hk hz hx hy hm
theorem GA (ab ao c n mb:Nat) (x:Int):Ct Tryz.prog 129 #[.agg #[.slice (some ⟨ab,ao,none⟩) n c,.map (some mb)],.int .i64 x] [] (fun _=>True) (X:=Nat×Nat) (fun p=>.func (.func 165) #[] #[.pointer (some ⟨p.1,0,none⟩),.pointer (some ⟨p.2,0,none⟩)]) (fun _=>True) (fun p=>[qi p.1 x,CF p.2 ab ao c n mb]):=by
  refine Ci fun w0 _=>?_;refine gg ?_;refine aj.ef xB fun b2=>?_;refine aj.ef (eN (u:=.int .i64 _) (σ':=fun _=>[_,_]) rfl (fun _=>rfl)) (fun b3=>?_);refine sg rfl ?_;refine bW ?_;refine vl (eW) ?_;refine sg rfl ?_;refine gg ?_;exact aT fun w hw=>⟨(b3,b2),rfl,trivial,hw.pk⟩
def kX (L:List PN) (kids:List Int) (i:Nat):Nat:=1+((kids.take i).flatMap (PT L)).length
theorem ng {L:List PN} {kids:List Int} {i:Nat} {kid:Int} (h:kids[i]?=some kid):kX L kids (i+1)=kX L kids i+(PT L kid).length:=by
  unfold kX;rw[df h,List.flatMap_append,List.length_append];simp;omega
theorem rX {L:List PN} {kids:List Int} {i k:Nat} {kid x id:Int} (h:kids[i]?=some kid) (hx:(PT L kid)[k]?=some x):(id::kids.flatMap (PT L))[kX L kids i+k]?=some x:=by
  have hk:=(List.getElem?_eq_some_iff.1 h).1;have e:kids=kids.take i++kid::kids.drop (i+1):=by
    have h1:=List.take_append_drop i kids;rw[List.drop_eq_getElem_cons hk,(List.getElem?_eq_some_iff.1 h).2] at h1;exact h1.symm
  have h2:kids.flatMap (PT L)=(kids.take i).flatMap (PT L)++(PT L kid++(kids.drop (i+1)).flatMap (PT L)):=by
    conv=>lhs;rw[e]
    rw[List.flatMap_append,List.flatMap_cons]
  have h3:kX L kids i+k=(((kids.take i).flatMap (PT L)).length+k)+1:=by unfold kX;omega
  rw[h3,List.getElem?_cons_succ,h2,List.getElem?_append_right (by omega),Nat.add_sub_cancel_left,List.getElem?_append_left (List.getElem?_eq_some_iff.1 hx).1];exact hx
theorem y0 (L:List PN) (id:Int) (kids:List Int):kX L kids kids.length=(id::kids.flatMap (PT L)).length:=by
  unfold kX;rw[List.take_of_length_le (Nat.le_refl _)];simp;omega
theorem HK (L:List PN) (a:Int):(ez L a).length≤L.length:=by
  rw[ez,(iG _).length_eq];exact Nat.le_trans (y2 a _) (by omega)
theorem y1 (ab ao c mb:Nat) (o:Obj) (L:List PN) (hP:PV L) (hL:L.length≤1000) (ho:T1 o ao L) (es:List KE) (hes:∀a,dY es a=ez L a) (x:Int) (n1 n2:Nat)
    (ih:∀y m1 m2,y∈ez L x→gM Tryz.prog 165 [] [.pointer (some ⟨m1,0,none⟩),.pointer (some ⟨m2,0,none⟩)] [.ob ab o,ot mb es,qi m1 y,CF m2 ab ao c L.length mb] xY (PT L y)):
    gM Tryz.prog 165 [] [.pointer (some ⟨n1,0,none⟩),.pointer (some ⟨n2,0,none⟩)] [.ob ab o,ot mb es,qi n1 x,CF n2 ab ao c L.length mb] xY (PT L x):=by
  intro l Z Y H J Inv hy z0 hz0;have hsub:PT L x=x::(ez L x).flatMap (PT L):=sX hP x;have hkl:=HK L x;refine Ci fun w0 _=>?_;refine gg ?_;refine aj.ef (eN (u:=_) (σ':=fun _=>[_,_,_,_,_,_]) rfl (fun _=>rfl)) (fun b3=>?_);refine cK ?_;refine vl (ai (u:=_) Tryz.isAgg44 rfl (fun w hw=>hw.aq (i:=5) rfl _ rfl)) ?_;refine gg ?_;refine aj.ef (iF (hy 0 x z0 (by rw[hsub];rfl) hz0) [0,1,2,3,4] [5] rfl (τ:=fun _=>[_,_,_,_,_,_]) (fun _=>rfl)) (fun o1=>?_);refine aj.fact (fun hf=>?_);refine gg ?_;refine WP.cond rfl (fun h10=>?_) (fun h10=>?_)
  ·obtain⟨y,rfl⟩:=jw h10;exact WP.IB Tryz.results165 (fun _ h=>h) (fun w hw=>⟨.inr (0,y),rfl,⟨fun z e=>(by cases e),fun p e=>(by cases e;rw[hsub];exact Nat.succ_pos _)⟩,(hw.sel [1,2,3,4,5] (by decide))⟩)
  ·obtain⟨zz,rfl⟩:=kL h10;refine cK ?_;refine vl (ai (u:=.map _) Tryz.isAgg189 rfl (fun w hw=>hw.aq (i:=4) rfl _ rfl)) ?_;refine av ?_;refine vl (yG (es:=es) (k:=x) Tryz.underlying189 Tryz.underlying3 Tryz.zeroValue49 rfl rfl (fun w hw=>hw.TS (i:=2) rfl)) ?_;refine gg ?_;refine WP.K7 (X:=Nat×Z×List Nat) [2,3,14,15,34] (fun p=>[(16,.int .i64 (p.1:Int))]) (fun p w=>(p.1≤(ez L x).length∧Inv (kX L (ez L x) p.1) p.2.1)∧St w0 (ay ([.ob ab o,ot mb es,qi n1 x,CF n2 ab ao c L.length mb]++[H 0 z0])) [j8 p.2.2,.ob ab o,ot mb es,qi n1 x,CF n2 ab ao c L.length mb,.cl b3 44 [.func (.yield l) #[] #[]],H (kX L (ez L x) p.1) p.2.1] w) (fun p=>p.2.2.map mark) (fun p=>(ez L x).length - p.1) (0,zz,[]) ⟨rfl,trivial⟩ rfl (fun w hw=>⟨⟨Nat.zero_le _,hf zz rfl⟩,St.DJ (hw.sel [1,2,3,4,0,5] (by decide))⟩) (fun p ρ0=>?_);obtain⟨i,z,Ds⟩:=p;dsimp only;refine WP.fact (fun⟨hile,hinv⟩=>?_);refine gg ?_;refine WP.aw rfl (fun h17=>?_) (fun h17=>?_)
   ·have hi:i<(ez L x).length:=by rw[hes] at h17;omega
    obtain⟨kid,hkid⟩:∃kid,(ez L x)[i]?=some kid:=⟨_,List.getElem?_eq_getElem hi⟩;have hmem:=List.mem_of_getElem? hkid;have hgt:=eb hP hmem;obtain⟨m,rfl⟩:∃m:Nat,kid=m:=⟨kid.toNat,by omega⟩;have hkid':(dY es x)[i]?=some (m:Int):=by rw[hes];exact hkid
    obtain⟨n,hn⟩:∃n,L[m]?=some n:=⟨_,List.getElem?_eq_getElem (by omega)⟩;refine WP.holds (p:=∃b o,Ft es x=some ⟨b,o,none⟩) (fun w hw=>by obtain⟨b,o,e1,_⟩:=(hw.K6 (i:=2) rfl x) i m hkid';exact⟨b,o,e1⟩) (fun⟨kb,ko,hka⟩=>?_);rw[hka];refine cR ?_;refine vl (ai (u:=.int .i64 _) Tryz.isAgg3 rfl (fun w hw=>by obtain⟨b1,o1,e1,hc⟩:=(hw.K6 (i:=2) rfl x) i m hkid';rw[hka] at e1;cases e1;exact hc)) ?_;refine JW ?_;refine vl (ai (u:=.bool _) Tryz.isAgg4 rfl (fun w hw=>(hw.ag9 (i:=1) rfl ho hn).one (j:=1) rfl (by omega))) ?_;refine gg ?_;refine WP.cond rfl (fun h26=>?_) (fun h26=>?_)
    ·have hptp:PT L (m:Int)=[(m:Int)]:=Aj hP (by omega) (by rw[Hs hn];simpa using h26);have hone:(PT L (m:Int)).length=1:=by rw[hptp];rfl
     refine bW ?_;refine vl (ai (u:=_) Tryz.isAgg44 rfl (fun w hw=>hw.aq (i:=5) rfl _ rfl)) ?_;refine gg ?_;refine aj.ef (iF (hy (kX L (ez L x) i) (m:Int) z (by rw[hsub];exact rX (k:=0) hkid (by rw[hptp];rfl)) hinv) [1,2,3,4,6] [0,5] rfl (τ:=fun _=>[_,_,_,_,_,_,_]) (fun _=>rfl)) (fun o1=>?_);refine aj.fact (fun hf=>?_);refine gg ?_;refine WP.cond rfl (fun h30=>?_) (fun h30=>?_)
     ·obtain⟨y,rfl⟩:=jw h30;have hlt:kX L (ez L x) i<(PT L x).length:=by rw[hsub];exact(List.getElem?_eq_some_iff.1 (rX (L:=L) (k:=0) (id:=x) hkid (by rw[hptp];rfl))).1
      exact WP.AE Ds (τ:=[.ob ab o,ot mb es,qi n1 x,CF n2 ab ao c L.length mb,J (kX L (ez L x) i) y]) (fun w hw=>St.uk (hw.sel [0,2,3,4,5,6] (by decide))) (fun _ h=>h) (fun w hw=>da.IG Tryz.results165 (.inl rfl) ⟨.inr (kX L (ez L x) i,y),rfl,⟨fun z e=>(by cases e),fun p e=>(by cases e;exact hlt)⟩,hw⟩)
     ·obtain⟨z2,rfl⟩:=kL h30;refine gg ?_;refine WP.exit (an ?_);refine cK ?_;exact nl fun w hw=>⟨(i+1,z2,Ds),(by simp only;omega),rfl,⟨rfl,rfl,rfl,jS,jI,rfl,trivial⟩,⟨⟨by simp only;omega,by simp only;rw[ng hkid,hone];exact hf z2 rfl⟩,by simp only;rw[ng hkid,hone];exact(hw.sel [0,2,3,4,5,1,6] (by decide))⟩⟩
    ·refine bW ?_;refine vl (au (cs:=[.slice _ _ _,.map _]) Tryz.isAgg191 Tryz.sizeOf191 rfl (fun w hw=>hw.aq (i:=4) rfl _ rfl)) ?_;refine gg ?_;refine eF (xC (GA ab ao c L.length mb (m:Int))) fun⟨m1,m2⟩ _=>?_;refine bW ?_;refine sl [1,2,7,8,6,3,4,5,0] ?_;refine WP.k9 (gf:=165) (first:=[]) (cap:=[.pointer (some ⟨m1,0,none⟩),.pointer (some ⟨m2,0,none⟩)]) rfl Tryz.call165 (ih (m:Int) m1 m2 hmem) (Z:=Z) (own:=fun k z=>[H (kX L (ez L x) i+k) z,qi n1 x,CF n2 ab ao c L.length mb,.cl b3 44 [.func (.yield l) #[] #[]],j8 Ds]) (Inv:=fun k z=>Inv (kX L (ez L x) i+k) z) z hinv (List.Perm.refl _) (fun _=>rfl) (by decide) (Y:=(Nat×Y)) (fun c _ y=>c=.ret∧y.1<(PT L x).length) (fun y=>[J y.1 y.2,qi n1 x,CF n2 ab ao c L.length mb,.cl b3 44 [.func (.yield l) #[] #[]],j8 Ds]) ?_ ?_ ?_
     ·intro lk l2 D2 k x2 z1 hx hz w1 M1;refine bW ?_;refine aj.nil (iL (i:=0) rfl ?_);refine bW ?_;refine vl (ai (u:=_) Tryz.isAgg44 rfl (fun w hw=>hw.aq (i:=10) rfl _ rfl)) ?_;refine gg ?_;refine aj.ef (iF (hy (kX L (ez L x) i+k) x2 z1 (by rw[hsub];exact rX hkid hx) hz) [3,4,8,9,7] [0,1,2,5,6,10,11] rfl (τ:=fun _=>[_,_,_,_,_,_,_,_,_,_,_,_]) (fun _=>rfl)) (fun o1=>?_);refine aj.fact (fun hf=>?_);refine gg ?_;refine WP.cond rfl (fun h38=>?_) (fun h38=>?_)
      ·obtain⟨y,rfl⟩:=jw h38;have hlt:kX L (ez L x) i+k<(PT L x).length:=by rw[hsub];exact(List.getElem?_eq_some_iff.1 (rX (id:=x) hkid hx)).1
       exact WP.ret (fun w hw=>fX.jump (i:=0) (.inl ⟨rfl,rfl⟩) rfl hw (fun w2 hw2=>.inr ⟨_,(kX L (ez L x) i+k,y),rfl,⟨rfl,hlt⟩,(hw2.sel [0,1,2,7,8,3,4,11,9,10,5,6] (by decide))⟩))
      ·obtain⟨z2,rfl⟩:=kL h38;exact WP.skip (fun w hw=>fX.normal (i:=0) rfl hw (fun w2 hw2=>.inl ⟨z2,rfl,(hf z2 rfl),(hw2.sel [0,1,2,7,8,3,4,11,9,10,5,6] (by decide))⟩))
     ·intro D z3 hz;refine sx (an ?_);refine cK ?_;exact nl fun w hw=>⟨(i+1,z3,D::Ds),(by simp only;omega),rfl,⟨rfl,rfl,rfl,jS,jI,rfl,trivial⟩,⟨⟨by simp only;omega,by simp only;rw[ng hkid];exact hz⟩,by simp only;rw[ng hkid];exact St.mark hw.pk⟩⟩
     ·intro D c k y hf hk2;obtain⟨rfl,hlt⟩:=hf;obtain⟨yk,yy⟩:=y;exact WP.AE (D::Ds) (τ:=[.ob ab o,ot mb es,qi n1 x,CF n2 ab ao c L.length mb,J yk yy]) (fun w hw=>St.uk (St.mark hw.pk)) (fun _ h=>h) (fun w hw=>da.IG Tryz.results165 (.inl rfl) ⟨.inr (yk,yy),rfl,⟨fun z e=>(by cases e),fun p e=>(by cases e;exact hlt)⟩,hw⟩)
   ·have hi:i=(ez L x).length:=by rw[hes] at h17;omega
    exact WP.exit fun w hw=>da.IC Ds (.inr rfl) (St.uk (hw.sel [0,1,2,3,4,6] (by decide))) (fun w hw=>da.IG Tryz.results165 (.inl rfl) ⟨.inl z,rfl,⟨fun z9 e9=>(by cases e9;rw[hsub,←y0 L,←hi];exact hinv),fun p e=>(by cases e)⟩,(by rw[show (PT L x).length=kX L (ez L x) i from by rw[hsub,←y0 L,←hi]];exact hw)⟩)
theorem yr (ab ao c mb:Nat) (o:Obj) (L:List PN) (hP:PV L) (hL:L.length≤1000) (ho:T1 o ao L) (es:List KE) (hes:∀a,dY es a=ez L a):∀(n:Nat) (x:Int) (n1 n2:Nat),L.length - x.toNat≤n→
    gM Tryz.prog 165 [] [.pointer (some ⟨n1,0,none⟩),.pointer (some ⟨n2,0,none⟩)] [.ob ab o,ot mb es,qi n1 x,CF n2 ab ao c L.length mb] xY (PT L x)
  | 0, x, n1, n2, hn => y1 ab ao c mb o L hP hL ho es hes x n1 n2 fun y m1 m2 hm => by
    have:=eb hP hm;omega
  | n + 1, x, n1, n2, hn => y1 ab ao c mb o L hP hL ho es hes x n1 n2 fun y m1 m2 hm => by
    have:=eb hP hm;exact yr ab ao c mb o L hP hL ho es hes n y m1 m2 (by omega)
theorem yP (ab ao c mb:Nat) (o:Obj) (L:List PN) (hP:PV L) (hL:L.length≤1000) (ho:T1 o ao L) (es:List KE) (hes:∀a,dY es a=ez L a) (x:Int) (n1 n2:Nat) (hlen:(PT L x).length≤1000):
    Ct Tryz.prog 61 #[.func (.func 165) #[] #[.pointer (some ⟨n1,0,none⟩),.pointer (some ⟨n2,0,none⟩)]] [ot mb es,qi n1 x,CF n2 ab ao c L.length mb] (fun w=>w.heap[ab]?=some o∧¬ay [ot mb es,qi n1 x,CF n2 ab ao c L.length mb] ab) (X:=Option Addr×Nat) (fun p=>.slice p.1 (PT L x).length p.2) (fun _=>True)
      (fun p=>[ot mb es,qi n1 x,CF n2 ab ao c L.length mb,az p.1 (PT L x).length p.2 (PT L x)]):=by
  have h:=r9 165 [.pointer (some ⟨n1,0,none⟩),.pointer (some ⟨n2,0,none⟩)] Tryz.call165 (cN [.ob ab o,ot mb es,qi n1 x,CF n2 ab ao c L.length mb]) (PT L x) (by omega) (yr ab ao c mb o L hP hL ho es hes _ x n1 n2 (Nat.le_refl _)).pack;refine Ct.weaken ?_;intro w h1 h2 h3;have st:=St.pack (F:=[]) (by simpa using St.start h1 h2);refine(h w st.all st.disj h3).mono ?_
  rintro e w' ⟨p,rfl,hf,hs⟩
  refine⟨p,rfl,hf,?_⟩;have hs':=hs.unpack;rw[gP] at hs';exact hs'
theorem x9:∀{es:List KE} {e x:KE},x∈kf es e→x=e∨x∈es
  | [],e,x,h=>by simpa [kf] using h
  | a :: es, e, x, h => by
    unfold kf at h
    split at h
    · rcases List.mem_cons.1 h with h | h
      · exact .inl h
      · exact .inr (List.mem_cons_of_mem _ h)
    · rcases List.mem_cons.1 h with h | h
      · exact .inr (by simp[h])
      · rcases x9 h with h | h
        · exact .inl h
        · exact .inr (List.mem_cons_of_mem _ h)
structure xI (L:List PN) (k:Nat) (es:List KE):Prop where
  lst:∀a,dY es a=qD L a k
  keys:(es.map KE.key).Nodup
  some:∀e∈es,e.l≠[]
theorem xI.nil (L:List PN):xI L 0 []:=⟨fun a=>rfl,by simp,by simp⟩
theorem xI.step {L:List PN} {k:Nat} {es:List KE} (h:xI L k es) {a:Int} (ha:gV L ((k:Int)+1)=a) (A:Option Addr) (c:Nat):xI L (k+1) (kf es ⟨a,A,c,dY es a++[(k:Int)+1]⟩):=by
  refine⟨fun b=>?_,(wv es _ h.keys).1,fun e he=>?_⟩
  · rw [uU]
    unfold dY;rw[vE]
    by_cases e:b=a
    · subst e
      rw[if_pos rfl,if_pos ha,←h.lst];rfl
    · rw [if_neg e, if_neg (fun h1 => e (h1.symm.trans ha)), List.append_nil, ← h.lst]
      rfl
  · rcases x9 he with rfl | he
    · simp
    · exact h.some e he
theorem xI.entry {L:List PN} {k:Nat} {es:List KE} (h:xI L k es) {e:KE} (he:e∈es):e.l=qD L e.key k:=by
  rw[←h.lst,dY,u3 h.keys he]
theorem Oi {l:List Nat} {n:Nat} (hn:l.Nodup) (h:∀j∈l,j<n):l.length≤n:=by
  have h1 := tV (l := l.map fun j : Nat => (j : Int)) (m := (List.range n).map fun j : Nat => (j : Int)) (List.Pairwise.map _ (fun a b (hab : a ≠ b) e => hab (by omega)) hn) (fun x hx => by
    obtain ⟨j, hj, rfl⟩ := List.mem_map.1 hx
    exact List.mem_map.2 ⟨j, List.mem_range.2 (h j hj), rfl⟩)
  simpa using h1
theorem BC (L:List PN) (es:List KE):jG L es []=es:=by
  apply List.ext_getElem?;intro k;unfold jG;rw[List.getElem?_mapIdx];cases es[k]?<;>simp
section
variable {w0 w:World} {M:Nat→Prop} {σ F:List HI} {mb:Nat} {es:List KE}
theorem St.putK {a v:Int} {A:Option Addr} {c:Nat} (h:St w0 M (.row 3 1 A ((dY es a).length+1) c ((dY es a).map (Value.int .i64)++[.int .i64 v])::j4 (rC es a)::aP mb (putM (es.map KE.fA) a (.slice A ((dY es a).length+1) c))::F) w):
    St w0 M (aP mb ((kf es ⟨a,A,c,dY es a++[v]⟩).map KE.fA)::j4 (kf es ⟨a,A,c,dY es a++[v]⟩)::F) w:=by
  rw[yq];have e1:(dY es a++[v]).length=(dY es a).length+1:=by simp
  have e2:KE.row ⟨a,A,c,dY es a++[v]⟩=.row 3 1 A ((dY es a).length+1) c ((dY es a).map (Value.int .i64)++[.int .i64 v]):=by
    show HI.row _ _ _ _ _ _=_;rw[e1,List.map_append];rfl
  have h2:St w0 M (KE.row ⟨a,A,c,dY es a++[v]⟩::j4 (rC es (KE.mk a A c (dY es a++[v])).key)::aP mb (putM (es.map KE.fA) a (.slice A ((dY es a).length+1) c))::F) w:=by rw[e2];exact h
  have h3:=St.TQ _ h2;show St w0 M (aP mb (putM (es.map KE.fA) a (.slice A (dY es a++[v]).length c))::_) w;rw[e1];exact h3.perm (List.Perm.swap _ _ _)
theorem St.apart {i j:Nat} {x y:HI} (h:St w0 M σ w) (hi:σ[i]?=some x) (hj:σ[j]?=some y) (hne:i≠j) {b:Nat} (hx:x.foot b):¬y.foot b:=by
  obtain⟨hp,rfl⟩:=List.getElem?_eq_some_iff.1 hi;obtain⟨hq,rfl⟩:=List.getElem?_eq_some_iff.1 hj;have hd:=List.pairwise_iff_getElem.1 h.disj
  rcases Nat.lt_or_gt_of_ne hne with hlt | hlt
  · exact hd i j hp hq hlt b hx
  · exact fun hy=>hd j i hq hp hlt b hy hx
theorem St.K3 {i j b gb n cap sz:Nat} {t t2:TypeId} {cs xs:List Value} (h:St w0 M σ w) (hi:σ[i]?=some (.cl b t cs)) (hj:σ[j]?=some (.row t2 sz (some ⟨gb,0,none⟩) n cap xs)) (hne:i≠j):b≠gb:=fun e=>h.apart hi hj hne (b:=b) rfl ⟨_,rfl,e⟩
theorem St.II (h:St w0 (ay []) σ w) {b:Nat} (hb:b<w0.heap.size):¬ay σ b:=fun⟨i,hi,hib⟩=>by
  rcases h.fresh i hi b hib with h1 | h1
  · omega
  · exact ax b h1
end
theorem Eg (A:Option Addr) (c:Nat) (L:List PN) (hL:L.length≤1000) (hcap:L.length≤c):Ct Tryz.prog 81 #[.slice A L.length c] [] (fun w=>T2 w A L) (X:=Option Addr×Nat) (fun p=>.slice p.1 (gS L).length p.2) (fun _=>True) (fun p=>[az p.1 (gS L).length p.2 (gS L)]):=by
  refine Ci fun w0 hz=>?_;refine gg ?_;refine aj.ef (eN (u:=.slice _ _ _) (σ':=fun _=>[_]) rfl (fun _=>rfl)) (fun b1=>?_);refine uw ?_;refine aj.split 12 rfl (fun h12=>?_) (fun h12=>?_)
  ·refine gg ?_;have hr:gS L=[]:=xg (.inl (List.eq_nil_of_length_eq_zero (by omega)));refine WP.aQ rfl ?_;refine gg ?_;exact aT fun w hw=>⟨(none,0),by rw[hr];rfl,trivial,by rw[hr];exact(hw.bB 3 1).sel [1] (by decide)⟩
  ·refine gg ?_;refine aj.kn (xC (Eb A c L hL) (hF:=fun w hw=>hw.rd hz ax)) (fun _=>?_);refine aj.fact (fun _=>?_);refine gg ?_;refine WP.cond rfl (fun h16=>?_) (fun h16=>?_)
   ·have hr:gS L=[]:=xg (.inr (by simpa using h16));refine gg ?_;exact aT fun w hw=>⟨(none,0),by rw[hr];rfl,trivial,by rw[hr];exact(hw.bB 3 1).sel [1] (by decide)⟩
   ·have hok:uv L=true:=by simpa using h16
    have hP:=wO hok;have hne:L≠[]:=fun e=>by rw[e] at h12;simp at h12
    have hpos:=List.length_pos_iff.2 hne;have hr:=Du hne hok;obtain⟨nd,ab,ao,hnd0,rfl,hc0⟩:=rU hz hpos;obtain⟨ob,hob0,hob⟩:=Sb hz hne;have hab:ab<w0.heap.size:=(Array.getElem?_eq_some_iff.1 hob0).1;refine gg ?_;refine aj.ef (eV (σ':=fun _=>[_,_]) (fun _=>rfl)) (fun mp18=>?_);refine vl (aV (us:=[.slice _ _ _,.map _]) (pl:=[(0,1),(1,1)]) Tryz.underlying191 Tryz.zeroValue191 rfl (by kernel_rfl) rfl rfl (by kernel_rfl)) ?_;refine aj.ef cg fun b3=>?_;refine aj.aX (xW rfl) fun _=>?_;refine nl (oo ?_)
    iterate 2 refine sq ?_
    skip
    refine WP.region ?_;refine av ?_;refine vl (cD (kh:=0) (l:=1) (h:=L.length) Tryz.underlying143 Tryz.sizeOf186 rfl ⟨rfl,rfl⟩ rfl hpos hcap) ?_;refine gg ?_;refine WP.bm (X:=Nat×List KE) [1,3,22] (fun p=>[(23,.int .i64 (p.1:Int))]) (fun p w=>(p.1≤L.length - 1∧xI L p.1 p.2)∧St w0 (ay []) [.cl b1 143 [.slice (some ⟨ab,ao,none⟩) L.length c],.cl b3 191 [.slice (some ⟨ab,ao,none⟩) L.length c,.map (some mp18)],aP mp18 (p.2.map KE.fA),j4 p.2] w) (fun p=>L.length - 1 - p.1) (0,[]) ⟨rfl,trivial⟩ (fun w hw=>⟨⟨Nat.zero_le _,xI.nil L⟩,(St.pack (τ:=[]) (hw.sel [0,2,1] (by decide))).sel [1,2,3,0] (by decide)⟩) (fun p ρ0=>?_);obtain⟨k,es⟩:=p;dsimp only;refine WP.fact (fun⟨hkl,hms⟩=>?_);refine gg ?_;refine WP.aw rfl (fun h24=>?_) (fun h24=>?_)
    ·refine gg ?_;refine eF (xC (G9 (some ⟨ab,ao,none⟩) c L hP ((k:Int)+1) (by omega) (by omega)) (hF:=fun w hw=>hw.rd hz ax)) fun _ _=>?_;refine bW ?_;refine WP.pre ?_ (fun w hw=>St.ad3 (hw.sel [3,0,1,2] (by decide)) (gV L ((k:Int)+1)));have hml:=y2 (L:=L) (gV L ((k:Int)+1)) k;rw[←hms.lst] at hml;refine WP.dj (some 11) [1,2,3,4] [(0,true),(1,true),(2,true),(3,true),(4,true),(5,true),(6,true),(7,true),(8,true),(9,false),(10,false),(11,false)] mixed (by kernel_rfl) (by decide) ?_;refine aB.take rfl (aS (o':=1) Tryz.underlying191 rfl Tryz.sizeOf189 rfl rfl) ?_ (fun _ h=>h.sel [1,2,3,4] (by decide));refine aB.take rfl (ai (u:=.map _) Tryz.isAgg189 rfl (fun w hw=>hw.aq (i:=2) rfl _ rfl)) ?_ (fun _ h=>h.sel [1,2,3,4] (by decide));refine bW ?_;refine aB.take rfl (ai (u:=.map _) Tryz.isAgg189 rfl (fun w hw=>hw.aq (i:=2) rfl _ rfl)) ?_ (fun _ h=>h.sel [1,2,3,4] (by decide));refine ad ?_;refine aB.take rfl (yG (es:=es) (k:=(gV L ((k:Int)+1))) Tryz.underlying189 Tryz.underlying3 Tryz.zeroValue49 rfl rfl (fun w hw=>hw.fC (i:=3) rfl)) ?_ (fun _ h=>h.sel [1,2,3,4] (by decide));refine gg ?_;refine aB.ef rfl (cu (us:=[.int .i64 _]) (σ':=fun _=>[_,_,_,_,_,_]) Tryz.underlying49 Tryz.sizeOf3 Tryz.zeroValue3 rfl rfl rfl (by decide) (by decide) (fun _=>rfl)) (fun _ _ _ h=>h.sel [1,2,3,4] (by decide)) (fun g39=>?_);refine aB.ef rfl (cm (sz:=1) (σ':=fun _=>[_,_,_,_,_,_]) Tryz.underlying49 cT rfl (by decide) rfl rfl (i:=0) rfl (fun w hw=>hw.fk (i:=5) rfl) rfl (by simp[Value.oneCell']) (by omega) (by omega) (fun _=>rfl)) (fun _ _ _ h=>h.sel [1,2,3,4] (by decide)) (fun⟨A40,c40⟩=>?_);refine aB.aX rfl (mK (m:=es.map KE.fA) (k:=(gV L ((k:Int)+1))) (u:=.slice A40 ((dY es (gV L ((k:Int)+1))).length+1) c40) (σ':=[_,_,_,_,_,_]) Tryz.underlying189 Tryz.underlying3 rfl rfl rfl (i:=4) rfl rfl) (fun h=>absurd rfl h) (fun _=>?_);refine bS ?_;exact nl fun w hw=>⟨rfl,(k+1,kf es ⟨(gV L ((k:Int)+1)),A40,c40,dY es (gV L ((k:Int)+1))++[(k:Int)+1]⟩),(by simp only;omega),⟨rfl,rfl,rfl,jI,trivial⟩,⟨⟨by simp only;omega,hms.step rfl A40 c40⟩,(St.putK (hw.sel [0,1,4,2,3] (by decide))).sel [2,3,0,1] (by decide)⟩⟩
    ·obtain rfl:k=L.length - 1:=by omega
     refine WP.exit (an ?_);refine gv ?_;refine vl (eW) ?_;refine sg rfl ?_;refine bS ?_;refine vl (ai (u:=.map _) Tryz.isAgg189 rfl (fun w hw=>hw.aq (i:=1) rfl _ rfl)) ?_;refine aj.ef (Kv (m:=(es.map KE.fA)) (σ'':=fun _=>[_,_,_,_]) Tryz.underlying189 rfl (i:=2) rfl (fun _=>rfl)) (fun q45=>?_);refine gg ?_;refine WP.bm (X:=List Nat×Nat) [3,6,45] (fun p=>[]) (fun p w=>(p.1.Nodup∧(∀j∈p.1,j<es.length)∧p.1.length+p.2=es.length)∧St w0 (ay []) [.cl b1 143 [.slice (some ⟨ab,ao,none⟩) L.length c],.cl b3 191 [.slice (some ⟨ab,ao,none⟩) L.length c,.map (some mp18)],yg mp18 q45 (es.map KE.fA) p.1,j4 (jG L es p.1)] w) (fun p=>p.2) ([],es.length) trivial (fun w hw=>⟨⟨by simp,by simp,by simp⟩,by rw[BC];exact(hw.sel [0,1,2,3] (by decide))⟩) (fun p ρ0=>?_);refine WP.fact (fun⟨hdn0,hdl0,hdk⟩=>?_);refine gg ?_;refine aj.ef (RW (m:=(es.map KE.fA)) (done:=p.1) (σ'':=fun _=>[_,_,_,_]) rfl (i:=2) rfl (fun _=>rfl)) (fun o=>?_);refine aj.fact (fun hnx=>?_);refine vl (FA (m:=(es.map KE.fA)) rfl) ?_;refine gg ?_;refine WP.cond rfl (fun h47=>?_) (fun h47=>?_)
     ·obtain⟨j,rfl⟩:∃j,o=some j:=Option.isSome_iff_exists.1 h47;have hj:j<es.length∧j∉p.1:=by have h:j<(es.map KE.fA).length∧j∉p.1:=hnx;simpa using h
      obtain⟨e,hpj⟩:∃e,es[j]?=some e:=⟨_,List.getElem?_eq_getElem hj.1⟩;have hpe:(es.map KE.fA)[j]?=some e.fA:=by rw[List.getElem?_map,hpj];rfl
      have hm:=List.mem_of_getElem? hpj;have hel0:=hms.entry hm;have hel1:=hms.some e hm;obtain⟨done,n⟩:=p;obtain⟨ek,eA,ec,el⟩:=e;dsimp only[AB] at*;have hel:0<el.length:=List.length_pos_iff.2 hel1;have hmem:∀x∈el,0≤x∧x<L.length:=fun x hx=>by rw[hel0] at hx;have:=tr.1 hx;omega
      have hnd:el.Nodup:=by rw[hel0];exact(qv _ _).imp fun h=>by omega
      have hdn:(done++[j]).Nodup:=by
        rw[List.nodup_append]
        exact ⟨hdn0, by simp, fun a ha b hb e => by obtain rfl : b = j := by simpa using hb
                                                    exact hj.2 (e ▸ ha)⟩
      have hdl:∀i∈done++[j],i<es.length:=fun i hi=>by
        rcases List.mem_append.1 hi with hi | hi
        · exact hdl0 i hi
        · obtain rfl : i = j := by simpa using hi
          exact hj.1
      have hn1:0<n:=by
        have h:=Oi hdn hdl;simp at h;omega
      refine cK ?_;refine vl (J7 (m:=(es.map KE.fA)) (done:=done) (j:=j) (p:=(ek,Value.slice eA el.length ec)) rfl (i:=2) rfl hpe) ?_;refine vl (bR (v:=.slice eA el.length ec) rfl rfl) ?_;refine bW ?_;refine WP.pre ?_ (fun w hw=>St.ad2 (BU hpj hj.2) (hw.sel [3,0,1,2] (by decide)));refine WP.holds (fun w hw=>hw.aM (i:=0) rfl hel) (fun⟨gb,hgb⟩=>?_);dsimp only at hgb;subst hgb;refine bW ?_;refine mv rfl ?_;refine aj.ef (ck Tryz.call128 (Jz gb ec (some ⟨ab,ao,none⟩) c L hL (some mp18) b3 b1 el (fun x hx=>hmem x hx) hnd hel) [0] [1,2,3,4] rfl (fun w hw=>⟨⟨hw.rd hz ax,hw.aq (i:=3) rfl 0 rfl,hw.aq (i:=2) rfl 0 rfl⟩,fun b o e=>by cases e;exact fun e2=>hw.II hab ⟨_,List.mem_of_getElem? (i:=0) rfl,_,rfl,e2⟩,hw.K3 (i:=3) (j:=0) rfl rfl (by decide),hw.K3 (i:=2) (j:=0) rfl rfl (by decide)⟩) (τ:=fun _=>[_,_,_,_,_]) (fun _=>rfl)) (fun _=>?_);refine aj.fact (fun _=>?_);exact nl fun w hw=>⟨rfl,(done++[j],n - 1),(by simp only;omega),⟨rfl,rfl,rfl,trivial⟩,⟨⟨hdn,hdl,by simp only[List.length_append,List.length_singleton];omega⟩,by dsimp only;rw[yW hpj];exact(St.ad1 (e':=jM L ⟨ek,some ⟨gb,0,none⟩,ec,el⟩) (by unfold jG;rw[List.length_mapIdx];exact hj.1) (hw.sel [4,0,1,2,3] (by decide))).sel [1,2,3,0] (by decide)⟩⟩
     ·have ho:o=none:=Option.isNone_iff_eq_none.1 (by simpa using h47);subst ho;have hall:∀j<es.length,j∈p.1:=by have h:∀j<(es.map KE.fA).length,j∈p.1:=hnx;simpa using h
      refine WP.exit (an ?_);refine sq ?_;refine WP.pre ?_ (fun w hw=>St.ad8 (mb:=mp18) (es:=es.map (jM L)) (by rw[show (es.map (jM L)).map KE.fA=es.map KE.fA by rw[List.map_map];exact List.map_congr_left (fun e _=>E8 L e)];have h:=St.TW (hw.sel [2,3,0,1] (by decide));rw[AS hall] at h;exact h.sel [0,1,2,3] (by decide)));have hes:∀a,dY (es.map (jM L)) a=ez L a:=fun a=>by rw[Ei,hms.lst];rfl
      have hpl:(PT L 0).length≤1000:=by rw[CQ hP hne];exact hL
      refine gv ?_;refine vl (au (cs:=[.slice _ _ _,.map _]) Tryz.isAgg191 Tryz.sizeOf191 rfl (fun w hw=>hw.aq (i:=2) rfl _ rfl)) ?_;refine aj.ef (ck Tryz.call129 (GA ab ao c L.length mp18 0) [] [0,1,2] rfl (fun w hw=>trivial) (τ:=fun _=>[_,_,_,_,_]) (fun _=>rfl)) (fun⟨m1,m2⟩=>?_);refine aj.fact (fun _=>?_);refine eF (xC (yP ab ao c mp18 ob L hP hL hob (es.map (jM L)) hes 0 m1 m2 hpl) (hF:=fun w hw=>⟨(hw.old ab hab (ax _)).trans hob0,by have h:=(hw.sel [0,3,4] (by decide)).II hab;exact h⟩)) fun⟨A55,c55⟩ _=>?_;refine gg ?_;exact aT fun w hw=>⟨(A55,c55),by rw[hr];rfl,trivial,by rw[hr];exact hw.pk⟩
theorem aei:(Tryz.prog.info? 186).map (fun i=>(i.zero,i.size,i.bytes))=some (some (.agg #[.int .i64 0,.bool false,.int .i64 0]),3,24):=by kernel_rfl
abbrev qh (A:Option Addr) (c:Nat) (L:List PN):HI:=.row 186 3 A L.length c (L.flatMap tT)
theorem Ax (A:Option Addr) (c:Nat) (L:List PN) (n:PN):qh A c (L++[n])=.row 186 3 A (L.length+1) c (L.flatMap tT++tT n):=by simp[qh]
theorem Cv (s:Sp) (n:Int):Ct Tryz.prog 130 #[s.v,.int .i64 n] [] (fun _=>True) (X:=Unit) (fun _=>.bool (HQ s n)) (fun _=>True) (fun _=>[]):=by
  refine Ci fun w0 _=>?_;refine gg ?_;refine aj.ef xB fun b2=>?_;refine uw ?_;refine aj.split 9 rfl (fun h9=>?_) (fun h9=>?_)
  ·refine gg ?_;exact aT fun w hw=>⟨(),congrArg Value.bool (by unfold HQ;first | (simp_all;done) | (rw[Bool.eq_iff_iff];simp;omega)),trivial,hw.pk⟩
  ·refine gg ?_;exact aT fun w hw=>⟨(),congrArg Value.bool (by unfold HQ;first | (simp_all;done) | (rw[Bool.eq_iff_iff];simp;omega)),trivial,hw.pk⟩
theorem Ao (r:Rc) (p:Pt) (hp:PB p):Ct Tryz.prog 82 #[r.v,cJ p.1 p.2] [] (fun _=>True) (X:=Unit) (fun _=>.bool (Bl r p)) (fun _=>True) (fun _=>[]):=by
  refine Ci fun w0 _=>?_;refine gg ?_;refine aj.ef xB fun b2=>?_;refine gg ?_;refine eF (xC (jU r)) fun _ _=>?_;refine mv (v:=cJ _ _) rfl ?_;refine eF (xC (FH p.1 p.2 hp.1 hp.2)) fun _ _=>?_;refine eF (xC (Cv (bC r) p.1)) fun _ _=>?_;refine av ?_;refine aj.aY 10 rfl (fun h10=>?_) (fun h10=>?_)
  ·refine gg ?_;refine aj.kn (xC (jN r)) (fun _=>?_);refine aj.fact (fun _=>?_);refine vg (aC (v:=cJ _ _) rfl) ?_;refine aj.kn (xC (Ii p.1 p.2 hp.1 hp.2)) (fun _=>?_);refine aj.fact (fun _=>?_);refine aj.kn (xC (Cv (dh r) p.2)) (fun _=>?_);refine aj.fact (fun _=>?_);refine gg ?_;exact aT fun w hw=>⟨(),congrArg Value.bool (by unfold Bl;simp_all),trivial,hw.pk⟩
  ·refine gg ?_;exact aT fun w hw=>⟨(),congrArg Value.bool (by unfold Bl;simp_all),trivial,hw.pk⟩
theorem JI (s:List Value) (hs:bZ s) (u:Int):Ct Tryz.prog 121 #[.agg s.toArray,.int .i64 u] [] (fun _=>True) (X:=Unit) (fun _=>.agg (tT (FO s u)).toArray) (fun _=>True) (fun _=>[]):=by
  refine Ci fun w0 _=>?_;refine gg ?_;refine aj.ef (xB (us:=s)) fun b2=>?_;refine aj.ef cg fun b4=>?_;refine bS ?_;refine vl (ai (u:=.bool (iJ s 47)) Tryz.isAgg4 rfl (fun w hw=>hw.aq (i:=0) rfl 47 (cell_of (bZ.bit hs 47 (by decide) rfl)))) ?_;refine vl (aV (us:=[.int .i64 _,.bool _,.int .i64 _]) (pl:=[(0,1),(1,1),(2,1)]) Tryz.underlying186 Tryz.zeroValue186 rfl (by kernel_rfl) rfl rfl (by kernel_rfl)) ?_;refine aj.ef cg fun b5=>?_;refine aj.aX (xW rfl) fun _=>?_;refine bS ?_;refine vl (ai (u:=.bool (iJ s 47)) Tryz.isAgg4 rfl (fun w hw=>hw.aq (i:=0) rfl 47 (cell_of (bZ.bit hs 47 (by decide) rfl)))) ?_;refine gg ?_;refine WP.cond rfl (fun h11=>?_) (fun h11=>?_)
  case' _=>
   refine gg ?_;refine vl (vS hs 48) ?_;refine gg ?_;refine aj.aX (xS rfl (jJ rfl)) fun _=>?_;refine cR ?_;refine aj.aY 17 rfl (fun h17=>?_) (fun h17=>?_);rotate_left
   case' _=>
    refine ag ?_;refine vg (vS hs 1) ?_;refine cK ?_;refine aj.split 22 rfl (fun h22=>?_) (fun h22=>?_);rotate_left
    case' _=>
     refine ag ?_;refine vg (vS hs 1) ?_
  rotate_left 3
  case' _=>
   refine cR ?_;refine aj.aY 17 rfl (fun h17=>?_) (fun h17=>?_);rotate_left
   case' _=>
    refine ag ?_;refine vg (vS hs 1) ?_;refine cK ?_;refine aj.split 22 rfl (fun h22=>?_) (fun h22=>?_);rotate_left
    case' _=>
     refine ag ?_;refine vg (vS hs 1) ?_
  all_goals
   refine gg ?_;refine aj.aX (xS rfl (T0 rfl)) fun _=>?_;refine nl (oo ?_);refine eh ?_;refine vl (au (cs:=[.int .i64 _,.bool _,.int .i64 _]) Tryz.isAgg186 Tryz.sizeOf186 rfl (fun w hw=>hw.aq (i:=2) rfl _ rfl)) ?_;refine aj.aX (ct (us:=[.int .i64 _,.bool _,.int .i64 _]) (σ':=[_,.cl _ _ [_,_,_],_]) Tryz.sizeOf186 rfl rfl (i:=1) rfl rfl rfl (by simp[Value.oneCell'])) (fun _=>?_);refine gg ?_;exact jf rfl fun w hw=>⟨(),by unfold FO AO;simp_all,trivial,hw.pk⟩
section
variable (tp mb mp:Nat) (es:List PE) (m:List (Int×Value)) (g:Int→Option Rc)
variable (hk:eG es) {d:Int→Nat} (hF:WF (ae es) d) (hm:RM (ae es) m g) (hu:F6 (ae es) g)
include hk hF hm hu in
theorem vu:Ct Tryz.prog 80 #[.pointer (some ⟨tp,0,none⟩),.map (some mp)] [al tp mb es,aP mp m] (fun _=>True) (X:=(Option Addr×Nat)×Option Addr×Nat) (fun p=>.tuple #[.slice p.1.1 (bY (ae es) g).length p.1.2,.slice p.2.1 (cO (ae es) g).length p.2.2]) (fun _=>True) (fun p=>[al tp mb es,aP mp m,qh p.1.1 p.1.2 (bY (ae es) g),az p.2.1 (cO (ae es) g).length p.2.2 (cO (ae es) g)]):=by
  refine Ci fun w0 _=>?_;refine gg ?_;refine aj.ef (eV (σ':=fun _=>[_,_,_]) (fun _=>rfl)) (fun mp13=>?_);refine aj.aX (mr (m:=[]) (k:=-1) (u:=.int .i64 (-1)) (σ':=[_,_,_]) Tryz.underlying184 Tryz.underlying3 rfl rfl rfl (i:=2) rfl rfl) (fun _=>?_);refine mv (v:=.map _) rfl ?_;refine sg (v:=.map _) rfl ?_;refine JW ?_;have hol:(order (ae es)).length≤4096:=hF.e6 0;refine gg ?_;refine eF (xC (mF tp mb es hk hF)) fun⟨A6,c6⟩ _=>?_;refine gg ?_;refine WP.bm (X:=Nat×(Option Addr×Nat)×(Option Addr×Nat)×List (Int×Value)) [0,1,6,16,17] (fun p=>[(7,.slice p.2.1.1 ((((order (ae es)).take p.1).filter (lf g)).map (jV (ae es) g)).length p.2.1.2),(8,.slice p.2.2.1.1 (((order (ae es)).take p.1).filter (lf g)).length p.2.2.1.2),(18,.int .i64 (p.1:Int))]) (fun p w=>(p.1≤(order (ae es)).length∧PM (((order (ae es)).take p.1).filter (lf g)) p.2.2.2)∧St w0 (ay [al tp mb es,aP mp m]) [al tp mb es,aP mp m,aP mp13 p.2.2.2,az A6 (order (ae es)).length c6 (order (ae es)),qh p.2.1.1 p.2.1.2 ((((order (ae es)).take p.1).filter (lf g)).map (jV (ae es) g)),az p.2.2.1.1 (((order (ae es)).take p.1).filter (lf g)).length p.2.2.1.2 (((order (ae es)).take p.1).filter (lf g))] w) (fun p=>(order (ae es)).length - p.1) (0,(none,0),(none,0),[(-1,.int .i64 (-1))]) ⟨rfl,rfl,rfl,trivial⟩ (fun w hw=>⟨⟨Nat.zero_le _,PM.nil⟩,((hw.sel [2,0,1,3] (by decide)).bB 186 3).bB 3 1⟩) (fun p ρ0=>?_);obtain⟨k,⟨nA,nc⟩,⟨iA,ic⟩,pv⟩:=p;dsimp only;refine WP.fact (fun⟨hkl,hpm⟩=>?_);refine gg ?_;refine WP.aw rfl (fun h19=>?_) (fun h19=>?_)
  ·obtain⟨y,hy⟩:∃y,(order (ae es))[k]?=some y:=⟨_,List.getElem?_eq_getElem (by omega)⟩;have hhas:=hF.bw.1 (List.mem_of_getElem? hy);have hfl:=C3 (order (ae es)) k (lf g);have hnl:((((order (ae es)).take k).filter (lf g)).map (jV (ae es) g)).length=(((order (ae es)).take k).filter (lf g)).length:=List.length_map _;have hyn:0≤y:=by obtain⟨b,hb⟩:=aL hhas;exact(hF.range y b hb).1
   refine WP.holds (fun w hw=>hw.aM (i:=3) rfl (by omega)) (fun⟨kb,hA⟩=>?_);subst hA;refine gg ?_;refine vl (vR 3 (by rw[List.getElem?_map,hy];rfl)) ?_;refine bS ?_;refine mv (v:=.map _) rfl ?_;refine av ?_;refine vl (mO (hX (m:=m) (k:=y) (z:=zR.v) Tryz.underlying47 Tryz.underlying3 Tryz.zeroValue52 rfl rfl (fun w hw=>hw.fC (i:=1) rfl)) (v':=.tuple #[((g y).getD zR).v,.bool (g y).isSome]) (by rw[hm.val y,hm.is y];try rfl)) ?_;refine mv rfl ?_;refine vl (bR (v:=.agg _) rfl rfl) ?_;refine gg ?_;refine aj.ef cg fun b11=>?_;refine aj.aX (xW rfl) fun _=>?_;refine gg ?_;refine WP.cond rfl (fun h29=>?_) (fun h29=>?_)
   ·have hfn:(((order (ae es)).take (k+1)).filter (lf g))=(((order (ae es)).take k).filter (lf g)):=rQ hy (by simpa using h29);refine WP.exit (an ?_);refine cK ?_;exact nl fun w hw=>⟨rfl,(k+1,(nA,nc),(iA,ic),pv),(by simp only;omega),⟨(via (.slice nA ((((order (ae es)).take k).filter (lf g)).map (jV (ae es) g)).length nc) rfl (by simp only;rw[hfn])),(via (.slice iA (((order (ae es)).take k).filter (lf g)).length ic) rfl (by simp only;rw[hfn])),rfl,jP,(via (.map _) rfl rfl),(via (.map _) rfl rfl),jS,jI,trivial⟩,⟨⟨by simp only;omega,by simp only;rw[hfn];exact hpm⟩,by simp only;rw[hfn];exact hw.pk⟩⟩
   ·have h29:(g y).isSome=true:=by simpa using h29
    have hfy:(((order (ae es)).take (k+1)).filter (lf g))=(((order (ae es)).take k).filter (lf g))++[y]:=o6 hy h29;have hnd:((((order (ae es)).take (k+1)).filter (lf g)).map (jV (ae es) g))=((((order (ae es)).take k).filter (lf g)).map (jV (ae es) g))++[jV (ae es) g y]:=by rw[hfy,List.map_append];rfl
    have hpm2:PM ((((order (ae es)).take k).filter (lf g))++[y]) (putM pv y (.int .i64 (((((order (ae es)).take k).filter (lf g)).map (jV (ae es) g)).length:Int))):=by rw[List.length_map];exact hpm.step (fun x hx=>Gu hF hx) hyn (N0 hF hy)
    refine bW ?_;refine mv (v:=.map _) rfl ?_;refine gg ?_;refine aj.aX (mK (m:=pv) (k:=y) (u:=.int .i64 (((((order (ae es)).take k).filter (lf g)).map (jV (ae es) g)).length:Int)) (σ':=[_,_,_,_,_,_,_]) Tryz.underlying184 Tryz.underlying3 rfl rfl rfl (i:=2) rfl rfl) (fun _=>?_);refine gg ?_;refine eF (xC (a6 tp mb es hk y)) fun _ _=>?_;refine mv (v:=.map _) rfl ?_;refine gg ?_;refine eF (xC (mm tp mb es hk y)) fun _ _=>?_;refine vl (mO (fu (m:=putM pv y (.int .i64 (((((order (ae es)).take k).filter (lf g)).map (jV (ae es) g)).length:Int))) (k:=upF (ae es) y) (z:=.int .i64 0) Tryz.underlying184 Tryz.underlying3 Tryz.zeroValue3 rfl rfl (fun w hw=>hw.fC (i:=1) rfl)) (v':=.int .i64 (idxP (cO (ae es) g) (upF (ae es) y))) (Kc hF hu hy h29 hpm2)) ?_;refine eF (xC (JI (ah (ae es) y) (hk.aE y) (idxP (cO (ae es) g) (upF (ae es) y)))) fun _ _=>?_;refine aj.ef (xN rfl (us:=[.int .i64 _,.bool _,.int .i64 _])) fun g44=>?_;refine aj.ef (xP 3 7 (h1:=by intro u hu;simp only[List.mem_cons,List.not_mem_nil,or_false] at hu;rcases hu with rfl | rfl | rfl<;>rfl)) fun⟨A45,c45⟩=>?_;refine gg ?_;refine aj.ef (xN (L1 rfl)) fun g48=>?_;refine aj.ef (xP 4 8) fun⟨A49,c49⟩=>?_;refine cR ?_;exact nl fun w hw=>⟨rfl,(k+1,(A45,c45),(A49,c49),putM pv y (.int .i64 (((((order (ae es)).take k).filter (lf g)).map (jV (ae es) g)).length:Int))),(by simp only;omega),⟨(via (.slice A45 (((((order (ae es)).take k).filter (lf g)).map (jV (ae es) g)).length+1) c45) rfl (by simp only;rw[hnd,List.length_append];rfl)),(via (.slice A49 ((((order (ae es)).take k).filter (lf g)).length+1) c49) rfl (by simp only;rw[hfy,List.length_append];rfl)),rfl,jP,(via (.map _) rfl rfl),(via (.map _) rfl rfl),jS,jI,trivial⟩,⟨⟨by simp only;omega,by simp only;rw[hfy];exact hpm2⟩,by simp only;rw[hnd,hfy,Ax,List.length_append,List.length_singleton,eK];exact(hw.sel [6,0,1,2,3,4] (by decide))⟩⟩
  ·obtain rfl:k=(order (ae es)).length:=by omega
   have htk:(((order (ae es)).take (order (ae es)).length).filter (lf g))=cO (ae es) g:=by rw[List.take_of_length_le (Nat.le_refl _)];rfl
   refine WP.exit (an ?_);refine gg ?_;exact rF fun w hw=>⟨((nA,nc),iA,ic),by rw[←htk];unfold bY;rw[←htk];rfl,trivial,by unfold bY;rw[←htk];exact hw.pk⟩
variable (hol:(order (ae es)).length≤1000)
include hk hF hm hu hol in
theorem qu:Ct Tryz.prog 45 #[.pointer (some ⟨tp,0,none⟩),.map (some mp)] [al tp mb es,aP mp m] (fun _=>True) (X:=Option Addr×Nat) (fun p=>.slice p.1 (cS (ae es) g).length p.2) (fun _=>True) (fun p=>[al tp mb es,aP mp m,az p.1 (cS (ae es) g).length p.2 (cS (ae es) g)]):=by
  refine Ci fun w0 _=>?_;refine cR ?_;refine mv (v:=.map _) rfl ?_;refine eF (xC (vu tp mb mp es m g hk hF hm hu)) fun⟨⟨nA,nc⟩,iA,ic⟩ _=>?_;refine mv rfl ?_
  iterate 4 refine av ?_
  refine nl (oo ?_);refine eh ?_;refine av ?_;refine nl (oo ?_)
  iterate 2 refine sq ?_
  refine WP.holds (fun w hw=>(hw.ny (i:=2) rfl).1) (fun hnc=>?_);have hop:=CH (bY (ae es) g);rw[fo] at hop;have hhl:(cO (ae es) g).length≤1000:=Nat.le_trans (List.length_filter_le _ _) hol;refine gg ?_;refine eF (xC (Eg nA nc (bY (ae es) g) (by rw[fo];exact Nat.le_trans (List.length_filter_le _ _) hol) hnc) (hF:=fun w hw=>hw.ur (i:=2) rfl rfl (fun _=>rfl))) fun⟨oA,oc⟩ _=>?_;refine gg ?_;refine WP.bm (X:=Nat×Option Addr×Nat) [6,17,18] (fun p=>[(7,.slice p.2.1 (((gS (bY (ae es) g)).take p.1).map fun i=>gI (cO (ae es) g) i.toNat).length p.2.2),(19,.int .i64 (p.1:Int))]) (fun p w=>p.1≤(gS (bY (ae es) g)).length∧St w0 (ay [al tp mb es,aP mp m]) [al tp mb es,aP mp m,qh nA nc (bY (ae es) g),az iA (cO (ae es) g).length ic (cO (ae es) g),az oA (gS (bY (ae es) g)).length oc (gS (bY (ae es) g)),az p.2.1 (((gS (bY (ae es) g)).take p.1).map fun i=>gI (cO (ae es) g) i.toNat).length p.2.2 (((gS (bY (ae es) g)).take p.1).map fun i=>gI (cO (ae es) g) i.toNat)] w) (fun p=>(gS (bY (ae es) g)).length - p.1) (0,none,0) ⟨rfl,rfl,trivial⟩ (fun w hw=>⟨Nat.zero_le _,(hw.sel [0,1,2,3,4] (by decide)).bB 3 1⟩) (fun p ρ0=>?_);obtain⟨k,uA,uc⟩:=p;dsimp only;refine WP.fact (fun hkl=>?_);refine gg ?_;refine WP.aw rfl (fun h20=>?_) (fun h20=>?_)
  ·obtain⟨x,hx⟩:∃x,(gS (bY (ae es) g))[k]?=some x:=⟨_,List.getElem?_eq_getElem (by omega)⟩;have hxr:=zm (List.mem_of_getElem? hx);rw[fo] at hxr;obtain⟨j,rfl⟩:∃j:Nat,x=j:=⟨x.toNat,by omega⟩;obtain⟨y,hy⟩:∃y,(cO (ae es) g)[j]?=some y:=⟨_,List.getElem?_eq_getElem (by omega)⟩;have hst:(((gS (bY (ae es) g)).take (k+1)).map fun i=>gI (cO (ae es) g) i.toNat)=(((gS (bY (ae es) g)).take k).map fun i=>gI (cO (ae es) g) i.toNat)++[y]:=by rw[l6 hx,List.map_append];exact congrArg (_++[·]) (gF hy)
   have hho:(((gS (bY (ae es) g)).take k).map fun i=>gI (cO (ae es) g) i.toNat).length≤k:=by rw[List.length_map,List.length_take];omega
   refine WP.holds (fun w hw=>hw.aM (i:=4) rfl (by omega)) (fun⟨kb,hA⟩=>?_);subst hA;refine WP.holds (fun w hw=>hw.aM (i:=3) rfl (by omega)) (fun⟨ib,hB⟩=>?_);subst hB;refine gg ?_;refine vl (vR 4 (by rw[List.getElem?_map,hx];rfl)) ?_;refine gg ?_;refine vl (vR 3 (by rw[List.getElem?_map,hy];rfl)) ?_;refine aj.ef (xN (L1 rfl)) fun g28=>?_;refine aj.ef (xP 5 6) fun⟨A29,c29⟩=>?_;refine cR ?_;exact nl fun w hw=>⟨rfl,(k+1,A29,c29),(by simp only;omega),⟨(via (.slice A29 ((((gS (bY (ae es) g)).take k).map fun i=>gI (cO (ae es) g) i.toNat).length+1) c29) rfl (by simp only;rw[hst,List.length_append];rfl)),rfl,jS,jS,jI,trivial⟩,⟨by simp only;omega,by simp only;rw[hst,List.length_append,List.length_singleton,eK];exact hw.pk⟩⟩
  ·obtain rfl:k=(gS (bY (ae es) g)).length:=by omega
   have htk:(((gS (bY (ae es) g)).take (gS (bY (ae es) g)).length).map fun i=>gI (cO (ae es) g) i.toNat)=cS (ae es) g:=by rw[List.take_of_length_le (Nat.le_refl _)];rfl
   refine WP.exit (an ?_);refine gg ?_;exact aT fun w hw=>⟨(uA,uc),by rw[←htk];rfl,trivial,by rw[←htk];exact hw.pk⟩
variable (sb:Nat) (o:Int→Pt) (win:Rc) (p:Pt) (hp:PB p)
include hk hF hm hp in
omit hu hol in
theorem nV (x:Int):Ct Tryz.prog 47 #[.pointer (some ⟨tp,0,none⟩),.map (some sb),.int .i64 x,cJ p.1 p.2] [al tp mb es,aP sb (lS (ae es) g o win (order (ae es)))] (fun _=>True) (X:=Unit) (fun _=>.bool (dm (ae es) g o win p x)) (fun _=>True) (fun _=>[al tp mb es,aP sb (lS (ae es) g o win (order (ae es)))]):=by
  refine Ci fun w0 _=>?_;refine bS ?_;refine mv (v:=.map _) rfl ?_;refine av ?_;refine vl (mO (hX (m:=lS (ae es) g o win (order (ae es))) (k:=x) (z:=iD.v) Tryz.underlying59 Tryz.underlying3 Tryz.zeroValue63 rfl rfl (fun w hw=>hw.fC (i:=1) rfl)) (v':=.tuple #[(fz (ae es) g o win x).v,.bool (g x).isSome]) (by rw[CE hF hm.2 x,HV hm.2 hF x])) ?_;refine mv rfl ?_;refine vl (bR (v:=.agg _) rfl rfl) ?_;refine gg ?_;refine aj.ef cg fun b9=>?_;refine aj.aX (xW rfl) fun _=>?_;refine cR ?_;refine aj.aY 18 rfl (fun h18=>?_) (fun h18=>?_)
  ·refine gg ?_;refine aj.kn (xC (lE tp mb es x)) (fun _=>?_);refine aj.fact (fun _=>?_);refine bW ?_;refine aj.aY 23 rfl (fun h23=>?_) (fun h23=>?_)
   ·refine gg ?_;refine aj.kn (xC (a6 tp mb es hk x)) (fun _=>?_);refine aj.fact (fun _=>?_);refine vg (hR (u:=.bool (iJ (ah (ae es) (x)) 52)) Tryz.underlying42 rfl Tryz.isAgg4 rfl (oP (bZ.bit (hk.aE (x)) 52 (by decide) rfl))) ?_;refine cK ?_;refine aj.aY 30 rfl (fun h30=>?_) (fun h30=>?_)
    ·refine bW ?_;refine vg (aC (v:=cJ _ _) rfl) ?_;refine aj.kn (xC (Ao (fz (ae es) g o win x).r p hp)) (fun _=>?_);refine aj.fact (fun _=>?_);refine bW ?_;refine aj.aY 36 rfl (fun h36=>?_) (fun h36=>?_)
     ·refine bW ?_;refine vg (aC (v:=cJ _ _) rfl) ?_;refine aj.kn (xC (Ao (fz (ae es) g o win x).c p hp)) (fun _=>?_);refine aj.fact (fun _=>?_);refine gg ?_;exact aT fun w hw=>⟨(),congrArg Value.bool (by unfold dm;simp_all),trivial,hw.pk⟩
     ·refine gg ?_;exact aT fun w hw=>⟨(),congrArg Value.bool (by unfold dm;simp_all),trivial,hw.pk⟩
    ·refine gg ?_;exact aT fun w hw=>⟨(),congrArg Value.bool (by unfold dm;simp_all),trivial,hw.pk⟩
   ·refine gg ?_;exact aT fun w hw=>⟨(),congrArg Value.bool (by unfold dm;simp_all),trivial,hw.pk⟩
  ·refine gg ?_;exact aT fun w hw=>⟨(),congrArg Value.bool (by unfold dm;simp_all),trivial,hw.pk⟩
include hk hF hm hu hol hp in
theorem od:Ct Tryz.prog 44 #[.pointer (some ⟨tp,0,none⟩),.map (some mp),.map (some sb),cJ p.1 p.2] [al tp mb es,aP mp m,aP sb (lS (ae es) g o win (order (ae es)))] (fun _=>True) (X:=Unit) (fun _=>.int .i64 (dC (cS (ae es) g) (dm (ae es) g o win p))) (fun _=>True) (fun _=>[al tp mb es,aP mp m,aP sb (lS (ae es) g o win (order (ae es)))]):=by
  refine Ci fun w0 _=>?_;refine cK ?_;refine WP.IJ (X:=Empty) 0 rfl [] (fun x=>nomatch x) (fun x=>nomatch x) (fun x=>nomatch x) (fun _=>?_) (fun x=>nomatch x);refine bW ?_;refine mv (v:=.map _) rfl ?_;refine eF (xC (qu tp mb mp es m g hk hF hm hu hol)) fun⟨oA,oc⟩ _=>?_;refine av ?_;refine nl (oo ?_);refine sq ?_;have hhl:(cS (ae es) g).length≤1000:=Nat.le_trans C4 (Nat.le_trans (List.length_filter_le _ _) hol);refine WP.region ?_
  iterate 4 refine av ?_
  refine nl (oo ?_);refine sq ?_;refine WP.label (an ?_);refine gg ?_;refine WP.bm (X:=Nat) [0,2,3,9] (fun k=>[(10,.int .i64 ((k:Int) - 1))]) (fun k w=>(k≤(cS (ae es) g).length∧hC (cS (ae es) g) (dm (ae es) g o win p) k=dC (cS (ae es) g) (dm (ae es) g o win p))∧St w0 (ay [al tp mb es,aP mp m,aP sb (lS (ae es) g o win (order (ae es)))]) [al tp mb es,aP mp m,aP sb (lS (ae es) g o win (order (ae es))),az oA (cS (ae es) g).length oc (cS (ae es) g)] w) (fun k=>k) (cS (ae es) g).length ⟨rfl,trivial⟩ (fun w hw=>⟨⟨Nat.le_refl _,rfl⟩,(hw.sel [1,2,0,3] (by decide))⟩) (fun k ρ0=>?_);refine WP.fact (fun⟨hkl,hkn⟩=>?_);refine gg ?_;refine WP.aw rfl (fun h18=>?_) (fun h18=>?_)
  ·obtain⟨j,rfl⟩:∃j,k=j+1:=⟨k - 1,by omega⟩;have e:(((j+1:Nat):Int) - 1)=(j:Int):=by omega
   rw[e];obtain⟨y,hy⟩:∃y,(cS (ae es) g)[j]?=some y:=⟨_,List.getElem?_eq_getElem (by omega)⟩;refine WP.holds (fun w hw=>hw.aM (i:=3) rfl (by omega)) (fun⟨kb,hA⟩=>?_);subst hA;refine cR ?_;refine mv (v:=.map _) rfl ?_;refine gg ?_;refine vl (vR 3 (by rw[List.getElem?_map,hy];rfl)) ?_;refine mv (v:=cJ _ _) rfl ?_;refine eF (xC (nV tp mb es m g hk hF hm sb o win p hp y)) fun _ _=>?_;refine gg ?_;refine WP.cond rfl (fun h28=>?_) (fun h28=>?_)
   ·have hr:dC (cS (ae es) g) (dm (ae es) g o win p)=y:=by rw[←hkn,hC,gF hy,if_pos h28]
    refine WP.exit (an ?_);refine gg ?_;refine WP.aw rfl (fun h=>absurd h (by omega)) (fun h30=>?_);refine gg ?_;refine vl (vR 1 (by rw[List.getElem?_map,hy];rfl)) ?_;refine gg ?_;exact WP.cP Tryz.results44 (fun _ h=>h) (fun w hw=>⟨(),congrArg (Value.int .i64) hr.symm,trivial,(hw.sel [2,0,3] (by decide))⟩)
   ·have hnx:hC (cS (ae es) g) (dm (ae es) g o win p) j=dC (cS (ae es) g) (dm (ae es) g o win p):=by rw[←hkn,hC,gF hy,if_neg (by simp[h28])]
    refine cR ?_;exact nl fun w hw=>⟨rfl,j,(by omega),⟨rfl,jP,(via (.map _) rfl rfl),(via (cJ _ _) rfl rfl),jS,trivial⟩,⟨⟨by omega,hnx⟩,hw.pk⟩⟩
  ·obtain rfl:k=0:=by omega
   have hr:dC (cS (ae es) g) (dm (ae es) g o win p)= -1:=hkn.symm;refine WP.exit (an ?_);refine gg ?_;refine WP.aw rfl (fun h30=>?_) (fun h=>absurd (by omega) h);refine gg ?_;exact WP.cP Tryz.results44 (fun _ h=>h) (fun w hw=>⟨(),congrArg (Value.int .i64) hr.symm,trivial,(hw.sel [0,1,2] (by decide))⟩)
end
theorem J9 {l A m R:List Int} {x p:Int} {k:Nat} (hn:l.Nodup) (e:l=A++(m++x::R)) (hm:m≠[]) (hk:l[k]?=some x) (hp:l[k - 1]?=some p):p∈m:=by
  have h1:l[A.length+m.length]?=some x:=by
    rw[e,List.getElem?_append_right (by omega),List.getElem?_append_right (by omega)];have:A.length+m.length - A.length - m.length=0:=by omega
    rw[this];rfl
  have h2:(k:Int)=((A.length+m.length:Nat):Int):=(gL hn hk).symm.trans (gL hn h1);have hl:=List.length_pos_iff.2 hm;have h3:k - 1=A.length+(m.length - 1):=by omega
  rw[h3,e,List.getElem?_append_right (by omega),List.getElem?_append_left (by omega)] at hp;exact List.mem_of_getElem? hp
section
variable {F:ar (List Value)} {d:Int→Nat} {g:Int→Option Rc}
theorem E6 (hF:WF F d) {a x:Int} (h:kg F a x):sub F x<:+:sub F a:=by
  induction h with
  | refl=>exact⟨[],[],by simp⟩
  | @step y b hy h0 ha ih =>
    refine List.IsInfix.trans ?_ ih;obtain⟨u,hu,hm⟩:=hF.par y b hy h0;rw[hF.sub_eq hu];obtain⟨s,t,e⟩:=se (f:=sub F) hm;exact⟨b.up::s,t,by rw[←e];simp⟩
theorem y8 (hF:WF F d) (hu:F6 F g):∀(n:Nat) (y:Int),d y≤n→(g y).isSome=true→(g 0).isSome=true
  | n, y, hd, hy => by
    by_cases h0:y=0
    · rw[←h0];exact hy
    · obtain ⟨h1, h2⟩ := hu y hy
      obtain⟨_,_,_,h3⟩:=hF.iV h1 h0;cases n with
      | zero=>omega
      | succ n=>exact y8 hF hu n (upF F y) (by omega) (h2 h0)
theorem yE (hF:WF F d) (hu:F6 F g) {x:Int} (h:(cO F g)[0]?=some x):x=0:=by
  have h1:=eR.1 (List.mem_of_getElem? h);have h2:=y8 hF hu _ x (Nat.le_refl _) h1.2;have h3:=hF.Cm;unfold cO at h;cases e:order F with
  | nil=>rw[e] at h3;cases h3
  | cons a t =>
    rw[e] at h3 h;have ha:a=0:=by simpa using h3
    rw[List.filter_cons,if_pos (by rw[ha];exact h2)] at h;have:a=x:=by simpa using h
    rw[←this,ha]
theorem GH (hF:WF F d) (hu:F6 F g) {k:Nat} {x p:Int} (hx:(cO F g)[k]?=some x) (h0:x≠0) (hp:(cO F g)[k - 1]?=some p):kg F (upF F x) p:=by
  have hxi:=eR.1 (List.mem_of_getElem? hx);have hh:=hF.bw.1 hxi.1;obtain⟨h1,_,_,_⟩:=hF.iV hh h0;obtain⟨bu,hbu⟩:=aL h1;obtain⟨bx,hbx⟩:=aL hh;have hax:kg F (upF F x) x:=kg.step hbx h0 (by rw[←ch hbx];exact kg.refl h1);obtain⟨A,B,e⟩:=E6 hF (hF.AJ h1);have e0:sub F (upF F x)=upF F x::bu.kids.flatMap (sub F):=hF.sub_eq hbu;have hxs:x∈bu.kids.flatMap (sub F):=by
    have h2:=hF.cH.2 hax;rw[e0] at h2
    rcases List.mem_cons.1 h2 with h2 | h2
    · exfalso
      obtain⟨_,_,_,h3⟩:=hF.iV hh h0;rw[←h2] at h3;omega
    · exact h2
  have hxf:x∈(bu.kids.flatMap (sub F)).filter (lf g):=List.mem_filter.2 ⟨hxs,hxi.2⟩;obtain⟨s,t,e2⟩:=List.append_of_mem hxf;have hug:(g (upF F x)).isSome=true:=(hu x hxi.2).2 h0;have e3:cO F g=A.filter (lf g)++((upF F x::s)++x::(t++B.filter (lf g))):=by
    unfold cO order;rw[←e,List.filter_append,List.filter_append,e0,List.filter_cons,if_pos hug,e2];simp
  have h4:=J9 (jv hF) e3 (by simp) hx hp;refine hF.cH.1 ?_;rw[e0]
  rcases List.mem_cons.1 h4 with h4 | h4
  · rw[h4];simp
  · have : p ∈ (bu.kids.flatMap (sub F)).filter (lf g) := by rw [e2]; exact List.mem_append_left _ h4
    exact List.mem_cons_of_mem _ (List.mem_filter.1 this).1
theorem DC {i:Nat} {x:Int} (h:(cO F g)[i]?=some x):(bY F g)[i]?=some (jV F g x):=by
  unfold bY;rw[List.getElem?_map,h];rfl
theorem wx (hF:WF F d) (hu:F6 F g) {u:Int} (huG:u∈cO F g):∀(st:List Int) (z:Int) (i:Int),z∈cO F g→i=idxP (cO F g) z→Ch (bY F g) i st→kg F u z→idxP (cO F g) u∈st
  | [], z, i, hz, hi, hc, _ => by
    have h1:=(rK (cO F g) z).2.2 hz;have h2:i= -1:=hc;omega
  | y :: st, z, i, hz, hi, hc, ha => by
    obtain⟨h1,h2,h3⟩:=hc;have hiy:y=idxP (cO F g) z:=h1.symm.trans hi;cases ha with
    | refl=>rw[←hiy];simp
    | @step _ b hb h0 ha' =>
      obtain⟨k,hk⟩:=List.getElem?_of_mem hz;have hy:y=(k:Int):=hiy.trans (gL (jv hF) hk);have hup:ns (bY F g) y=idxP (cO F g) (upF F z):=by rw[hy];exact(sy (DC hk)).1
      have hzg:=eR.1 hz;have huz:upF F z∈cO F g:=eR.2 ⟨hF.bw.2 (hF.iV (hF.bw.1 hzg.1) h0).1,(hu z hzg.2).2 h0⟩;rw[hup] at h3;exact List.mem_cons_of_mem _ (wx hF hu huG st (upF F z) _ huz rfl h3 (by rw[ch hb];exact ha'))
theorem vp (hF:WF F d) (hu:F6 F g):∀k:Nat,k≤(cO F g).length→∃st,stk (bY F g) k=some st
  | 0,_=>⟨[],rfl⟩
  | k + 1, hk => by
    obtain⟨st,hs⟩:=vp hF hu k (by omega);obtain⟨x,hx⟩:∃x,(cO F g)[k]?=some x:=⟨_,List.getElem?_eq_getElem (by omega)⟩;refine(tX hs).2 ?_;have hup:ns (bY F g) (k:Int)=idxP (cO F g) (upF F x):=(sy (DC hx)).1
    split
    · rename_i h0
      subst h0;have h1:=yE hF hu hx;have h2:upF F 0= -1:=by
        obtain⟨b,hb,hu0⟩:=hF.root;rw[ch hb,hu0]
      have h3:ns (bY F g) 0=idxP (cO F g) (upF F x):=hup;rw[h3,h1,h2];refine nu fun h=>?_;obtain⟨b,hb⟩:=aL (hF.bw.1 (eR.1 h).1);have:=(hF.range _ b hb).1;omega
    · rename_i h0
      have hx0:x≠0:=fun e=>by
        obtain⟨z,hz⟩:∃z,(cO F g)[0]?=some z:=⟨_,List.getElem?_eq_getElem (by omega)⟩;have h1:=yE hF hu hz;rw[e,←h1] at hx;have h2:=(gL (jv hF) hx).symm.trans (gL (jv hF) hz);omega
      obtain⟨p,hp⟩:∃p,(cO F g)[k - 1]?=some p:=⟨_,List.getElem?_eq_getElem (by omega)⟩;have hc:=(sM hs).1;have hxg:=eR.1 (List.mem_of_getElem? hx);have huz:upF F x∈cO F g:=eR.2 ⟨hF.bw.2 (hF.iV (hF.bw.1 hxg.1) hx0).1,(hu x hxg.2).2 hx0⟩;rw[hup];exact wx hF hu huz st p _ (List.mem_of_getElem? hp) (by rw[gL (jv hF) hp];omega) hc (GH hF hu hx hx0 hp)
theorem yA (hF:WF F d) (hu:F6 F g):uv (bY F g)=true:=by
  obtain⟨st,h⟩:=vp hF hu _ (Nat.le_of_eq (fo (F:=F) (g:=g)));unfold uv;rw[h];rfl
theorem ahD (hF:WF F d) (hu:F6 F g):(cS F g).length=(cO F g).length:=by
  unfold cS;rw[List.length_map,←fo]
  by_cases h:bY F g=[]
  · rw[xg (.inl h),h];rfl
  · rw[Du h (yA hF hu),CQ (wO (yA hF hu)) h]
theorem ahs (hF:WF F d):(cS F g).Nodup:=by
  unfold cS;refine List.pairwise_map.2 ((ahq (bY F g)).imp_of_mem fun {a b} ha hb hab e=>hab ?_);have h1:=zm ha;have h2:=zm hb;rw[fo] at h1 h2;have h3:=gL (jv (g:=g) hF) (j9 (l:=cO F g) (k:=a.toNat) (by omega));have h4:=gL (jv (g:=g) hF) (j9 (l:=cO F g) (k:=b.toNat) (by omega));rw[e] at h3;omega
theorem tw (hF:WF F d) (hu:F6 F g) (h:∀y∈order F,AO (ah F y)=false):cS F g=cO F g:=by
  unfold cS
  by_cases h0:bY F g=[]
  · rw [xg (.inl h0)]
    have:(cO F g).length=0:=by rw[←fo,h0];rfl
    rw[List.eq_nil_of_length_eq_zero this];rfl
  · rw [Du h0 (yA hF hu), zE (wO (yA hF hu)) _ h0, fo, List.map_map]
    · refine List.ext_getElem? fun i => ?_
      rw[List.getElem?_map]
      by_cases hi:i<(cO F g).length
      · rw [List.getElem?_range hi]
        show some (gI (cO F g) ((i:Int).toNat))=_;rw[Int.toNat_natCast];exact(j9 hi).symm
      · rw[List.getElem?_eq_none (by rw[List.length_range];omega),List.getElem?_eq_none (by omega)];rfl
    · intro x
      unfold oD
      split
      · rfl
      · split
        · rename_i n hn
          obtain⟨y,hy,rfl⟩:=List.mem_map.1 (List.mem_of_getElem? hn);exact h y (eR.1 hy).1
        · rfl
end
theorem ye {l r:List Int} {m:Int→Bool}:∀k:Nat,k≤l.length→hC (l++r) m k=hC l m k
  | 0,_=>rfl
  | k + 1, h => by
    have e:gI (l++r) k=gI l k:=gF (by rw[List.getElem?_append_left (show k<l.length by omega)];exact j9 (show k<l.length by omega));rw[hC,hC,e,ye (l:=l) (r:=r) (m:=m) k (show k≤l.length by omega)]
theorem Ip (l:List Int) (m:Int→Bool) (a:Int):dC (l++[a]) m=if m a=true then a else dC l m:=by
  have e:gI (l++[a]) l.length=a:=gF (by rw[List.getElem?_append_right (Nat.le_refl _),Nat.sub_self];rfl);unfold dC;rw[List.length_append,List.length_singleton,hC,e,ye l.length (Nat.le_refl _)]
theorem tH {l:List Int} {q m:Int→Bool} (h:∀x,m x=true→q x=true):∀k:Nat,k≤l.length→dC ((l.take k).filter q) m=hC l m k
  | 0,_=>rfl
  | k + 1, hk => by
    obtain⟨x,hx⟩:∃x,l[k]?=some x:=⟨_,List.getElem?_eq_getElem (by omega)⟩;have ih:=tH (l:=l) h k (by omega);rw[hC,gF hx];cases hq:q x with
    | true=>rw[o6 hx hq,Ip,ih]
    | false =>
      rw[rQ hx hq,ih,if_neg];intro hm;rw[h x hm] at hq;cases hq
end Go.Proofs.YtbedndijejpcaaaGreat
