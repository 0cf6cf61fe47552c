/- PaintVal PaintLay PaintCmp PaintSort PaintPic PaintSeq -/
import Derived.Shelf.SlSortCmp.Whole1
import Derived.Test.YtbedndijejpcaaaGreatH26
set_option linter.unusedVariables false
set_option linter.unusedSimpArgs false
set_option linter.unusedSectionVars false
set_option maxRecDepth 100000
set_option maxHeartbeats 8000000
namespace Go.Proofs.YtbedndijejpcaaaGreat
open Go.RowKit
theorem rU {w:World} {A:Option Addr} {L:List PN} (hz:T2 w A L) {i:Nat} (h:i<L.length):∃(n:PN) (ab ao:Nat),L[i]?=some n∧A=some ⟨ab,ao,none⟩∧aJ w ab (ao+i*3) (tT n):=by
  have hn:L[i]?=some L[i]:=List.getElem?_eq_getElem h;obtain⟨b,o,e,hc⟩:=hz i _ hn;exact⟨_,b,o,hn,e,hc⟩
theorem FJ {u:Int} {st:List Int} (h:∀y t,st=y::t→y=u):pop u st=st:=by
  cases st with
  | nil=>rfl
  | cons y t=>rw[h y t rfl,ry]
theorem Kr (u:Int) (st:List Int):(pop u st).length≤st.length:=(List.dropWhile_sublist _).length_le
theorem yR {L:List PN}:∀{k:Nat} {st:List Int},stk L k=some st→st.length≤k
  | 0, st, h => by
    obtain rfl:[]=st:=by simpa [stk] using h
    simp
  | k + 1, st, h => by
    rw[stk] at h;cases e:stk L k with
    | none=>rw[e] at h;cases h
    | some s =>
      rw[e] at h;have h1:=yR e;simp only at h
      split at h
      · split at h
        · cases h;simp
        · cases h
      · split at h
        · cases h
        · cases h
          have:=Kr (ns L k) s;simp only[List.length_cons];omega
theorem Kd {L:List PN} {k:Nat} {st:List Int} (h:stk L k=some st) {u:Int} (hu:u<0):pop u st=[]:=by
  obtain⟨h1,h2⟩:=sM h
  rcases xn (u:=u) h1 with ⟨p1,_⟩ | ⟨t,p1,_,p3⟩
  · exact p1
  · have:=h2 u (p3 u (by simp));omega
theorem yV {L:List PN} {k:Nat} {st:List Int} (h:stk L k=some st) (he:(decide ((k:Int)=0) !=decide (ns L k= -1))=true):stk L (k+1)=none:=by
  rw[stk,h];simp only
  by_cases h0:k=0
  · subst h0
    rw[if_pos rfl,if_neg (fun e=>by rw[show ((0:Nat):Int)=0 from rfl,e] at he;simp at he)]
  · rw [if_neg h0]
    have hu:ns L k= -1:=by
      by_cases e:ns L k= -1
      · exact e
      · have h0' : ¬ ((k : Int) = 0) := by omega
        simp[e,h0'] at he;omega
    rw[Kd h (by omega),if_pos rfl]
theorem I3 {L:List PN} (h:ns L 0= -1):stk L 1=some [0]:=by simp[stk,h]
theorem Eb (A:Option Addr) (c:Nat) (L:List PN) (hL:L.length≤1000):Ct Tryz.prog 122 #[.slice A L.length c] [] (fun w=>T2 w A L) (X:=Unit) (fun _=>.bool (uv L)) (fun _=>True) (fun _=>[]):=by
  refine Ci fun w0 hz=>?_;refine eh ?_;refine av ?_;refine nl (oo ?_);refine eh ?_;refine av ?_;refine nl (oo ?_)
  iterate 2 refine sq ?_
  refine WP.pre ?_ (fun w hw=>hw.bB 3 1);refine gg ?_;refine WP.bm (X:=Nat×List Int×Option Addr×Nat) [6,7] (fun p=>[(8,.int .i64 (p.1:Int)),(3,.slice p.2.2.1 p.2.1.length p.2.2.2)]) (fun p w=>(p.1≤L.length∧stk L p.1=some p.2.1)∧St w0 (ay []) [.row 3 1 p.2.2.1 p.2.1.length p.2.2.2 (p.2.1.reverse.map (Value.int .i64))] w) (fun p=>L.length - p.1) (0,[],none,0) ⟨rfl,rfl,trivial⟩ (fun w hw=>⟨⟨Nat.zero_le _,rfl⟩,hw⟩) (fun p ρ0=>?_);obtain⟨k,st,zA,zc⟩:=p;dsimp only;refine WP.fact (fun⟨hkl,hstk⟩=>?_);refine gg ?_;refine WP.aw rfl (fun h9=>?_) (fun h9=>?_)
  ·have hk:k<L.length:=by omega
   obtain⟨n,ab,ao,hn,rfl,hc⟩:=rU hz hk;have hup:=upN hn;have hsl0:st.length≤1000:=by
     have:=yR hstk;omega
   refine iX ?_;refine vl (au (cs:=[.int .i64 _,.bool _,.int .i64 _]) Tryz.isAgg186 Tryz.sizeOf186 rfl (fun w hw=>hw.cW hc (ax _))) ?_;refine aj.ef cg fun b5=>?_;refine gg ?_;refine aj.aX (xW rfl) fun _=>?_;refine gg ?_;refine WP.bm (X:=List Int) [4,5,6,7,8] (fun s2=>[(3,.slice zA s2.length zc)]) (fun s2 w=>(pop n.up s2=pop n.up st∧s2.length≤st.length)∧St w0 (ay []) [.row 3 1 zA s2.length zc (s2.reverse.map (Value.int .i64)),.cl b5 186 (tT n)] w) (fun s2=>s2.length) st ⟨rfl,trivial⟩ (fun w hw=>⟨⟨rfl,Nat.le_refl _⟩,(hw.sel [0,1] (by decide))⟩) (fun s2 ρ0=>?_);refine WP.fact (fun⟨hpop,hsl⟩=>?_);refine bW ?_;refine WP.holds (fun w hw=>(hw.IT (i:=0) rfl:s2.length≤zc)) (fun hcap=>?_);refine WP.holds (p:=0<s2.length→∃lb,zA=some ⟨lb,0,none⟩) (fun w hw=>fun h=>hw.aM (i:=0) rfl h) (fun hpos=>?_);refine WP.fj none [(0,true),(1,true),(2,true),(3,true),(4,true),(5,true),(6,true),(7,true),(8,true),(9,true),(10,true),(11,true),(12,true),(13,true)] mixed (by kernel_rfl) (by decide) (fun _ h=>h.drawn) ?_;refine bS ?_;refine aB.split 16 rfl (fun h16=>?_) (fun h16=>?_)
   ·obtain⟨y,s3,rfl⟩:∃y s3,s2=y::s3:=by cases s2 with | nil=>exact absurd h16 (by simp) | cons y s3=>exact⟨y,s3,rfl⟩
    obtain⟨lb,hlb⟩:=hpos (by simp);subst hlb;refine bS ?_;refine tE rfl (bG (j:=s3.length) Tryz.underlying49 Tryz.sizeOf3 rfl rfl (by simp only[List.length_cons];omega) (by simp)) ?_;refine tE rfl (ai (u:=.int .i64 _) Tryz.isAgg3 rfl (fun w hw=>hw.bh (i:=0) (k:=s3.length) (u:=.int .i64 y) rfl (by simp) (by omega))) ?_;refine gg ?_;refine WP.aw rfl (fun h26=>?_) (fun h26=>?_)
    ·refine qa ?_;refine vl (cD (kl:=0) (l:=0) (h:=s3.length) Tryz.underlying49 Tryz.sizeOf3 rfl rfl ⟨rfl,by simp only[List.length_cons];omega⟩ (by omega) (by simp only[List.length_cons] at hcap;omega)) ?_;refine av ?_;exact nl fun w hw=>⟨rfl,s3,(by simp),⟨(by show Value.slice (dZ (some ⟨lb,0,none⟩) 0 zc 1) (s3.length - 0) (zc - 0)=_;rw[fQ];rfl),jI,rfl,jS,jI,jI,trivial⟩,⟨⟨by rw[←hpop,qX h26],by simp only[List.length_cons] at hsl;omega⟩,by have h:=St.TP (k:=s3.length) (hw.sel [0,1] (by decide)) (i:=0) rfl (by simp);rw[show (List.map (Value.int .i64) (y::s3).reverse).take (s3.length*1)=s3.reverse.map (Value.int .i64) by simp] at h;exact h⟩⟩
    ·have hp2:pop n.up st=y::s3:=by rw[←hpop];exact FJ (fun a t e=>by cases e;exact Decidable.not_not.1 h26)
     refine WP.exit (an ?_);refine qa ?_;refine vl (CZ Tryz.underlying4 rfl rfl) ?_;refine av ?_;refine aj.aY 38 rfl (fun h38=>?_) (fun h38=>?_)
     ·refine gg ?_;have hres:uv L=false:=xM (i:=k+1) (by omega) (yV hstk (by rw[hup];exact h38));refine WP.aQ rfl ?_;refine gg ?_;exact aT fun w hw=>⟨(),congrArg Value.bool (by rw[hres]),trivial,hw.pk⟩
     ·refine cK ?_;refine aj.split 41 rfl (fun h41=>?_) (fun h41=>?_)
      ·refine gg ?_;refine WP.aw rfl (fun h46=>?_) (fun h46=>?_)
       ·have hres:uv L=false:=xM (i:=k+1) (by omega) (by rw[stk,hstk];simp only;rw[hup,hp2,if_neg (by omega)];first | rfl | (exfalso;simp at h46;omega));refine gg ?_;exact aT fun w hw=>⟨(),congrArg Value.bool (by rw[hres]),trivial,hw.pk⟩
       ·have hnew:stk L (k+1)=some ((k:Int)::(y::s3)):=by rw[stk,hstk];simp only;rw[if_neg (by omega),hup,hp2,if_neg (by simp)]
        refine gg ?_;refine aj.ef (xN (L1 rfl)) fun g49=>?_;refine aj.ef (xP 0 2) fun⟨A50,c50⟩=>?_;refine cR ?_;exact nl fun w hw=>⟨rfl,(k+1,(k:Int)::(y::s3),A50,c50),(by simp only;omega),⟨rfl,(by show Value.slice A50 ((y::s3).length+1) c50=_;rfl),jS,jI,trivial⟩,⟨⟨by simp only;omega,hnew⟩,by dsimp only;rw[show ((k:Int)::(y::s3)).reverse.map (Value.int .i64)=((y::s3)).reverse.map (Value.int .i64)++[.int .i64 (k:Int)] by simp];exact hw.pk⟩⟩
      ·refine gg ?_;have hnew:stk L (k+1)=some ((k:Int)::(y::s3)):=by exfalso;obtain rfl:k=0:=(by omega);rw[stk] at hstk;cases hstk;simp at hsl
       refine WP.br rfl ?_;refine gg ?_;refine aj.ef (xN (L1 rfl)) fun g49=>?_;refine aj.ef (xP 0 2) fun⟨A50,c50⟩=>?_;refine cR ?_;exact nl fun w hw=>⟨rfl,(k+1,(k:Int)::(y::s3),A50,c50),(by simp only;omega),⟨rfl,(by show Value.slice A50 ((y::s3).length+1) c50=_;rfl),jS,jI,trivial⟩,⟨⟨by simp only;omega,hnew⟩,by dsimp only;rw[show ((k:Int)::(y::s3)).reverse.map (Value.int .i64)=((y::s3)).reverse.map (Value.int .i64)++[.int .i64 (k:Int)] by simp];exact hw.pk⟩⟩
   ·obtain rfl:s2=[]:=by cases s2 with | nil=>rfl | cons y s3=>exact absurd (by simp only[List.length_cons];omega) h16
    refine dS ?_;refine dS ?_;refine dS ?_;refine dS ?_;refine dS ?_;refine dS ?_;refine dS ?_;refine dS ?_;refine dS ?_;refine gg ?_;have hp2:pop n.up st=[]:=hpop.symm;refine WP.br rfl ?_;refine WP.exit (an ?_);refine qa ?_;refine vl (CZ Tryz.underlying4 rfl rfl) ?_;refine av ?_;refine aj.aY 38 rfl (fun h38=>?_) (fun h38=>?_)
    ·refine gg ?_;have hres:uv L=false:=xM (i:=k+1) (by omega) (yV hstk (by rw[hup];exact h38));refine WP.aQ rfl ?_;refine gg ?_;exact aT fun w hw=>⟨(),congrArg Value.bool (by rw[hres]),trivial,hw.pk⟩
    ·refine cK ?_;refine aj.split 41 rfl (fun h41=>?_) (fun h41=>?_)
     ·refine gg ?_;refine WP.aw rfl (fun h46=>?_) (fun h46=>?_)
      ·have hres:uv L=false:=xM (i:=k+1) (by omega) (by rw[stk,hstk];simp only;rw[hup,hp2,if_neg (by omega)];first | rfl | (exfalso;simp at h46;omega));refine gg ?_;exact aT fun w hw=>⟨(),congrArg Value.bool (by rw[hres]),trivial,hw.pk⟩
      ·have hnew:stk L (k+1)=some ((k:Int)::([]:List Int)):=by exfalso;simp at h46
       refine gg ?_;refine aj.ef (xN (L1 rfl)) fun g49=>?_;refine aj.ef (xP 0 2) fun⟨A50,c50⟩=>?_;refine cR ?_;exact nl fun w hw=>⟨rfl,(k+1,(k:Int)::([]:List Int),A50,c50),(by simp only;omega),⟨rfl,(by show Value.slice A50 (([]:List Int).length+1) c50=_;rfl),jS,jI,trivial⟩,⟨⟨by simp only;omega,hnew⟩,by dsimp only;rw[show ((k:Int)::([]:List Int)).reverse.map (Value.int .i64)=(([]:List Int)).reverse.map (Value.int .i64)++[.int .i64 (k:Int)] by simp];exact hw.pk⟩⟩
     ·refine gg ?_;have hnew:stk L (k+1)=some ((k:Int)::([]:List Int)):=by obtain rfl:k=0:=(by omega);exact I3 (by have h:ns L 0=n.up:=hup;simp at h38;rw[h];omega)
      refine WP.br rfl ?_;refine gg ?_;refine aj.ef (xN (L1 rfl)) fun g49=>?_;refine aj.ef (xP 0 2) fun⟨A50,c50⟩=>?_;refine cR ?_;exact nl fun w hw=>⟨rfl,(k+1,(k:Int)::([]:List Int),A50,c50),(by simp only;omega),⟨rfl,(by show Value.slice A50 (([]:List Int).length+1) c50=_;rfl),jS,jI,trivial⟩,⟨⟨by simp only;omega,hnew⟩,by dsimp only;rw[show ((k:Int)::([]:List Int)).reverse.map (Value.int .i64)=(([]:List Int)).reverse.map (Value.int .i64)++[.int .i64 (k:Int)] by simp];exact hw.pk⟩⟩
  ·obtain rfl:k=L.length:=by omega
   have hres:uv L=true:=by rw[uv,hstk];rfl
   refine WP.exit (an ?_);refine gg ?_;exact aT fun w hw=>⟨(),congrArg Value.bool (by rw[hres]),trivial,hw.pk⟩
theorem Ch.neg {L:List PN} {x:Int} {st:List Int} (h:Ch L x st) (hx:x<0):st=[]:=by
  cases st with
  | nil=>rfl
  | cons y t=>have:=h.1;have:=h.2.1;omega
theorem Ch.pos {L:List PN} {x:Int} {st:List Int} (h:Ch L x st) (hx:0≤x):∃t,st=x::t∧Ch L (ns L x) t:=by
  cases st with
  | nil => have : x = -1 := h
           omega
  | cons y t =>
    have e:x=y:=h.1;subst e;exact⟨t,rfl,h.2.2⟩
theorem G9 (A:Option Addr) (c:Nat) (L:List PN) (hP:PV L) (x:Int) (hx0:0≤x) (hx:x<L.length):Ct Tryz.prog 123 #[.slice A L.length c,.int .i64 x] [] (fun w=>T2 w A L) (X:=Unit) (fun _=>.int .i64 (gV L x)) (fun _=>True) (fun _=>[]):=by
  refine Ct.intro Tryz.func123 rfl Tryz.ntmps123 (by simp) (fun w0 hz=>?_);refine eh ?_;refine sg (v:=.int .i64 (0)) rfl ?_;refine nl (oo ?_);refine sq ?_;obtain⟨i,rfl⟩:∃i:Nat,x=i:=⟨x.toNat,by omega⟩;obtain⟨n,ab,ao,hn,rfl,hc⟩:=rU hz (i:=i) (by omega);have hux:ns L (i:Int)=n.up:=upN hn;have hyl:n.up<L.length:=by
    by_cases h0:i=0
    · subst h0
      have:=hP.root (fun e=>by rw[e] at hx;simp at hx);have h3:ns L 0=n.up:=hux;omega
    · have := hP.up (i : Int) (by omega) hx
      omega
  refine WP.region ?_;refine mvS rfl ?_;refine lj rfl ?_;refine vl (bG (j:=i) Tryz.underlying143 Tryz.sizeOf186 rfl rfl rfl (by omega)) ?_;refine vl (e7 (off:=0) Tryz.underlying186 rfl Tryz.sizeOf3 rfl) ?_;refine vl (ai (u:=.int .i64 _) Tryz.isAgg3 rfl (fun w hw=>hw.cW (hc.one (j:=0) rfl (by omega)) (ax _))) ?_;refine IV rfl ?_;refine nl (oo ?_);refine sq ?_;refine WP.block ?_;refine WP.bm (X:=Int) [0] (fun y=>[(5,.int .i64 y)]) (fun y w=>(y<L.length∧tJ L y=gV L (i:Int))∧St w0 (ay []) [] w) (fun y=>y.toNat) n.up ⟨rfl,trivial⟩ (fun w hw=>⟨⟨hyl,by unfold gV;rw[hux]⟩,hw⟩) (fun y ρ0=>?_);refine WP.fact (fun⟨hyn,hlay⟩=>?_);refine sq ?_;refine eh ?_;refine lj rfl ?_;refine vl (GV rfl rfl) ?_;refine Fs rfl ?_;refine aj.split 13 rfl (fun h13=>?_) (fun h13=>?_)
  ·obtain⟨m,rfl⟩:∃m:Nat,y=m:=⟨y.toNat,by omega⟩;obtain⟨n2,ab2,ao2,hn2,hA2,hc2⟩:=rU hz (i:=m) (by omega);cases hA2;have hu2:=hP.up (m:Int) (by omega) hyn;rw[upN hn2] at hu2;refine vg (aC (v:=.slice _ _ _) rfl) ?_;refine vg (aC (v:=.int .i64 _) rfl) ?_;refine vg (bG (j:=m) Tryz.underlying143 Tryz.sizeOf186 rfl rfl rfl (by omega)) ?_;refine vg (e7 (off:=1) Tryz.underlying186 rfl Tryz.sizeOf4 rfl) ?_;refine vg (ai (u:=.bool _) Tryz.isAgg4 rfl (fun w hw=>hw.cW (hc2.one (j:=1) rfl (by omega)) (ax _))) ?_;refine vg (GI rfl) ?_;refine vl (fJ (u:=.bool _) rfl rfl) ?_;refine nl (oo ?_);refine WP.cond rfl (fun h20=>?_) (fun h20=>?_)
   ·have hstep:tJ L (m:Int)=tJ L n2.up:=by rw[pV hP hyn,if_pos ⟨by omega,by rw[Hs hn2];simpa using h20⟩,upN hn2]
    refine WP.skip (an ?_);refine WP.block ?_;refine WP.region ?_;refine mvS rfl ?_;refine lj rfl ?_;refine vl (bG (j:=m) Tryz.underlying143 Tryz.sizeOf186 rfl rfl rfl (by omega)) ?_;refine vl (e7 (off:=0) Tryz.underlying186 rfl Tryz.sizeOf3 rfl) ?_;refine vl (ai (u:=.int .i64 _) Tryz.isAgg3 rfl (fun w hw=>hw.cW (hc2.one (j:=0) rfl (by omega)) (ax _))) ?_;refine IV rfl ?_;exact nl fun w hw=>⟨rfl,n2.up,(by omega),⟨rfl,(via (.slice _ _ _) rfl rfl),trivial⟩,⟨⟨by omega,by rw[←hstep];exact hlay⟩,hw⟩⟩
   ·have hr:gV L (i:Int)=(m:Int):=by rw[←hlay,pV hP hyn,if_neg (by rw[Hs hn2];intro e;simp[e.2] at h20)]
    refine WP.exit (an ?_);refine eh ?_;refine lj rfl ?_;refine IV rfl ?_;refine nl (oo ?_);exact WP.cP Tryz.results123 (fun _ h=>h) (fun w hw=>⟨(),congrArg (Value.int .i64) (by rw[hr]),trivial,hw⟩)
  ·refine sk ?_;refine sk ?_;refine sk ?_;refine sk ?_;refine sk ?_;refine sk ?_;refine vl (eM (v:=.bool _) rfl rfl) ?_;refine nl (oo ?_);have hr:gV L (i:Int)=y:=by rw[←hlay,pV hP hyn,if_neg (by omega)]
   refine WP.br rfl ?_;refine WP.exit (an ?_);refine eh ?_;refine lj rfl ?_;refine IV rfl ?_;refine nl (oo ?_);exact WP.cP Tryz.results123 (fun _ h=>h) (fun w hw=>⟨(),congrArg (Value.int .i64) (by rw[hr]),trivial,hw⟩)
theorem ahA {l:List Int} {x:Int} (h:x∉l):idxP l x= -1:=by
  have:=rK l x;have h2:¬0≤idxP l x:=fun e=>h (this.2.1 e);omega
theorem ahw:∀{l:List Int} {x:Int} {k:Nat},l[k]?=some x→x∉l.take k→idxP l x=k
  | [],_,_,h,_=>by simp at h
  | y :: l, x, 0, h, _ => by
    obtain rfl:y=x:=by simpa using h
    simp[idxP]
  | y :: l, x, k + 1, h, hn => by
    have h1:y≠x:=fun e=>hn (by simp[e]);have h2:=ahw (l:=l) (x:=x) (k:=k) (by simpa using h) (fun hm=>hn (by simp[hm]));rw[idxP,if_neg h1,h2,if_neg (by omega)];omega
theorem ahL (A:Option Addr) (c:Nat) (l:List Int) (x:Int) (hl:l.length≤10000):Ct Tryz.prog 46 #[.slice A l.length c,.int .i64 x] [] (fun w=>vd w A l) (X:=Unit) (fun _=>.int .i64 (idxP l x)) (fun _=>True) (fun _=>[]):=by
  refine Ct.intro Tryz.func46 rfl Tryz.ntmps46 (by simp) (fun w0 hz=>?_);refine eh ?_;refine sg (v:=.int .i64 (0)) rfl ?_;refine nl (oo ?_);refine sq ?_;refine eh ?_;refine sg (v:=.int .i64 (0)) rfl ?_;refine nl (oo ?_);refine WP.block ?_;refine WP.bm (X:=Nat) [0,1] (fun k=>[(5,.int .i64 (k:Int))]) (fun k w=>(k≤l.length∧x∉l.take k)∧St w0 (ay []) [] w) (fun k=>l.length - k) 0 ⟨rfl,trivial⟩ (fun w hw=>⟨⟨Nat.zero_le _,by simp⟩,hw⟩) (fun k ρ0=>?_);refine WP.fact (fun⟨hkl,hnk⟩=>?_);refine sq ?_;refine eh ?_;refine lj rfl ?_;refine mvS rfl ?_;refine vl (acz Tryz.underlying49 rfl) ?_;refine vl (nG rfl rfl) ?_;refine nl (oo ?_);refine WP.aw rfl (fun h9=>?_) (fun h9=>?_)
  ·obtain⟨y,hy⟩:∃y,l[k]?=some y:=⟨_,List.getElem?_eq_getElem (by omega)⟩;obtain⟨ab,ao,rfl,hc⟩:=hz k y hy;refine WP.skip (an ?_);refine sq ?_;refine WP.block ?_;refine eh ?_;refine mvS rfl ?_;refine lj rfl ?_;refine vl (bG (j:=k) Tryz.underlying49 Tryz.sizeOf3 rfl rfl rfl (by omega)) ?_;refine vl (ai (u:=.int .i64 _) Tryz.isAgg3 rfl (fun w hw=>hw.cW hc (ax _))) ?_;refine lj rfl ?_;refine vl (dD rfl rfl) ?_;refine nl (oo ?_);refine WP.aw rfl (fun h17=>?_) (fun h17=>?_)
   ·have hr:idxP l x=k:=ahw (by rw[hy,h17]) hnk;refine eh ?_;refine lj rfl ?_;refine IV rfl ?_;refine nl (oo ?_);exact WP.cP Tryz.results46 (fun _ h=>h) (fun w hw=>⟨(),congrArg (Value.int .i64) (by rw[hr]),trivial,hw⟩)
   ·refine WP.skip (an ?_);refine WP.region ?_;refine lj rfl ?_;refine vl (zI rfl rfl (by omega)) ?_;refine IV rfl ?_;exact nl fun w hw=>⟨rfl,k+1,(by omega),⟨rfl,(via (.slice _ _ _) rfl rfl),(via (.int .i64 _) rfl rfl),trivial⟩,⟨⟨by omega,by rw[df hy];simp only[List.mem_append,List.mem_singleton,not_or];exact⟨hnk,fun e=>h17 e.symm⟩⟩,hw⟩⟩
  ·obtain rfl:k=l.length:=by omega
   rw[List.take_of_length_le (Nat.le_refl _)] at hnk;have hr:=ahA hnk;refine WP.exit (an ?_);refine eh ?_;refine sg (v:=.int .i64 (-1)) rfl ?_;refine nl (oo ?_);exact WP.cP Tryz.results46 (fun _ h=>h) (fun w hw=>⟨(),congrArg (Value.int .i64) (by rw[hr]),trivial,hw⟩)
end Go.Proofs.YtbedndijejpcaaaGreat
namespace Go.Proofs.YtbedndijejpcaaaGreat
def G5 (a b:Int):Int:=if a<b then -1 else if b<a then 1 else 0
def orI:List Int→Int
  | []=>0
  | x::l=>if x=0 then orI l else x
theorem QI:∀{l:List Int} {k:Nat} {x:Int},(∀y∈l.take k,y=0)→l[k]?=some x→x≠0→orI l=x
  | [],_,_,_,h,_=>by simp at h
  | y :: l, 0, x, _, h, hx => by
    obtain rfl:y=x:=by simpa using h
    rw[orI,if_neg hx]
  | y :: l, k + 1, x, h0, h, hx => by
    rw[orI,if_pos (h0 y (by simp))];exact QI (k:=k) (fun z hz=>h0 z (by simp[hz])) (by simpa using h) hx
theorem HT:∀{l:List Int},(∀y∈l,y=0)→orI l=0
  | [],_=>rfl
  | y::l,h=>by rw[orI,if_pos (h y (by simp)),HT (fun z hz=>h z (by simp[hz]))]
theorem Ec (a b:Int):(G5 a b<0↔a<b)∧(G5 a b=0↔a=b):=by
  unfold G5
  split
  · omega
  · split<;>omega
def D0 (L:List PN) (a b:Int):Int:=if ff L a=0∧ff L b=0 then a - b else orI [ff L a - ff L b,G5 (zP L a) (zP L b),a - b]
theorem DB (L:List PN) (x:Int):-1≤ff L x∧ff L x≤1:=by unfold ff;split;omega;split<;>omega
theorem Jb (L:List PN) (a b:Int):D0 L a b<0↔p9 L a b:=by
  have h1:=DB L a;have h2:=DB L b;unfold D0 p9
  split
  · omega
  · have hs := Ec (zP L a) (zP L b)
    generalize G5 (zP L a) (zP L b)=m at hs
    rw[show orI [ff L a - ff L b,m,a - b]=if ff L a - ff L b=0 then (if m=0 then (if a - b=0 then 0 else a - b) else m) else ff L a - ff L b from rfl]
    split
    · split
      · split<;>omega
      · omega
    · omega
namespace Q
open Go.RowKit
theorem ahc (A:Option Addr) (c:Nat) (L:List PN) (mb:Option Nat) (x:Int) (hx0:0≤x) (hx:x<L.length):Ct Tryz.prog 125 #[.agg #[.slice A L.length c,.map mb],.int .i64 x] [] (fun w=>T2 w A L) (X:=Unit) (fun _=>.int .i64 (ff L x)) (fun _=>True) (fun _=>[]):=by
  obtain⟨i,rfl⟩:∃i:Nat,x=i:=⟨x.toNat,by omega⟩;refine Ct.intro Tryz.func125 rfl Tryz.ntmps125 (by simp) (fun w0 hz=>?_);refine gg ?_;refine aj.ef (fw (us:=[.slice _ _ _,.map _]) (σ':=fun _=>[_]) rfl (fun _=>rfl)) (fun b2=>?_);refine av ?_;refine nl (oo ?_);refine sq ?_;obtain⟨n,ab,ao,hn,rfl,hc⟩:=rU hz (i:=i) (by omega);have hlay:=Hs hn;have hzz:=zN hn;refine WP.region ?_;refine vl (aS (o':=0) Tryz.underlying191 rfl Tryz.sizeOf143 rfl rfl) ?_;refine vl (ai (u:=.slice _ _ _) Tryz.isAgg143 rfl (fun w hw=>hw.aq (i:=0) rfl _ rfl)) ?_;refine lj rfl ?_;refine vl (bG (j:=i) Tryz.underlying143 Tryz.sizeOf186 rfl rfl rfl (by omega)) ?_;refine vl (au (cs:=[.int .i64 _,.bool _,.int .i64 _]) Tryz.isAgg186 Tryz.sizeOf186 rfl (fun w hw=>hw.cW hc (ax _))) ?_;refine aj.ef (cQ (us:=[_,_,_]) (σ':=fun _=>[_,_]) Tryz.zeroValue186 rfl (fun _=>rfl)) (fun b5=>?_);refine aj.aX (ct (us:=[.int .i64 _,.bool _,.int .i64 _]) (σ':=[_,.cl _ _ [_,_,_]]) Tryz.sizeOf186 rfl rfl (i:=1) rfl rfl rfl (by simp[Value.oneCell'])) (fun _=>?_);refine nl (oo ?_);refine sq ?_;refine WP.block ?_;refine eh ?_;refine vl (aS (o':=1) Tryz.underlying186 rfl Tryz.sizeOf4 rfl rfl) ?_;refine vl (ai (u:=.bool _) Tryz.isAgg4 rfl (fun w hw=>hw.aq (i:=1) rfl _ rfl)) ?_;refine vl (GI rfl) ?_;refine oF rfl ?_;refine gg ?_;refine WP.cond rfl (fun h11=>?_) (fun h11=>?_)
  ·have hr:ff L (i:Int)=0:=aed (by rw[hlay];simpa using h11);refine gg ?_;exact WP.cP Tryz.results125 (fun _ h=>h) (fun w hw=>⟨(),congrArg (Value.int .i64) (by rw[hr]),trivial,hw.sel [] (by decide)⟩)
  ·refine eh ?_;refine vl (aS (o':=2) Tryz.underlying186 rfl Tryz.sizeOf3 rfl rfl) ?_;refine vl (ai (u:=.int .i64 _) Tryz.isAgg3 rfl (fun w hw=>hw.aq (i:=1) rfl _ rfl)) ?_;refine vl (nG rfl rfl) ?_;refine oF rfl ?_;refine gg ?_;refine WP.aw rfl (fun h15=>?_) (fun h15=>?_)
   ·have hr:ff L (i:Int)= -1:=by rw[Wi (by rw[hlay];simpa using h11),if_pos (by rw[hzz];exact h15)]
    refine gg ?_;exact WP.cP Tryz.results125 (fun _ h=>h) (fun w hw=>⟨(),congrArg (Value.int .i64) (by rw[hr]),trivial,hw.sel [] (by decide)⟩)
   ·have hr:ff L (i:Int)=1:=by rw[Wi (by rw[hlay];simpa using h11),if_neg (by rw[hzz];exact h15)]
    refine gg ?_;exact WP.cP Tryz.results125 (fun _ h=>h) (fun w hw=>⟨(),congrArg (Value.int .i64) (by rw[hr]),trivial,hw.sel [] (by decide)⟩)
theorem ahd (x:Int):Ct Tryz.prog 162 #[.int .i64 x] [] (fun _=>True) (X:=Unit) (fun _=>.bool false) (fun _=>True) (fun _=>[]):=by
  refine Ct.intro Tryz.func162 rfl Tryz.ntmps162 (by simp) (fun w0 _=>?_);refine iX ?_;refine vl (fL (b:=false) (vr rfl rfl) (decide_eq_false (fun h=>h rfl))) ?_;refine gg ?_;exact aT fun w hw=>⟨(),rfl,trivial,hw⟩
theorem ahb (x y:Int):Ct Tryz.prog 127 #[.int .i64 x,.int .i64 y] [] (fun _=>True) (X:=Unit) (fun _=>.int .i64 (G5 x y)) (fun _=>True) (fun _=>[]):=by
  refine Ct.intro Tryz.func127 rfl Tryz.ntmps127 (by simp) (fun w0 _=>?_);refine gg ?_;refine aj.ef (ck Tryz.call162 (ahd x) [] [] rfl (fun w hw=>trivial) (τ:=fun _=>[]) (fun _=>rfl)) (fun _=>?_);refine aj.fact (fun _=>?_);refine gg ?_;refine aj.ef (ck Tryz.call162 (ahd y) [] [] rfl (fun w hw=>trivial) (τ:=fun _=>[]) (fun _=>rfl)) (fun _=>?_);refine aj.fact (fun _=>?_);refine gg ?_;refine WP.br rfl ?_;refine gg ?_;refine WP.br rfl ?_;refine gg ?_;refine WP.aw rfl (fun h16=>?_) (fun h16=>?_)
  ·have hr:G5 x y= -1:=by rw[G5,if_pos h16]
   refine gg ?_;exact WP.cP Tryz.results127 (fun _ h=>h) (fun w hw=>⟨(),congrArg (Value.int .i64) (by rw[hr]),trivial,hw.sel [] (by decide)⟩)
  ·refine gg ?_;refine WP.aw rfl (fun h19=>?_) (fun h19=>?_)
   ·have hr:G5 x y=1:=by rw[G5,if_neg h16,if_pos h19]
    refine gg ?_;exact WP.cP Tryz.results127 (fun _ h=>h) (fun w hw=>⟨(),congrArg (Value.int .i64) (by rw[hr]),trivial,hw.sel [] (by decide)⟩)
   ·have hr:G5 x y=0:=by rw[G5,if_neg h16,if_neg h19]
    refine gg ?_;exact WP.cP Tryz.results127 (fun _ h=>h) (fun w hw=>⟨(),congrArg (Value.int .i64) (by rw[hr]),trivial,hw.sel [] (by decide)⟩)
theorem ahe (A:Option Addr) (c:Nat) (l:List Int) (hl:l.length≤1000):Ct Tryz.prog 126 #[.slice A l.length c] [] (fun w=>vd w A l) (X:=Unit) (fun _=>.int .i64 (orI l)) (fun _=>True) (fun _=>[]):=by
  refine Ct.intro Tryz.func126 rfl Tryz.ntmps126 (by simp) (fun w0 hz=>?_);refine gg ?_;refine WP.bm (X:=Nat) [3,6,7] (fun k=>[(8,.int .i64 (k:Int))]) (fun k w=>(k≤l.length∧∀y∈l.take k,y=0)∧St w0 (ay []) [] w) (fun k=>l.length - k) 0 ⟨rfl,trivial⟩ (fun w hw=>⟨⟨Nat.zero_le _,by simp⟩,hw⟩) (fun k ρ0=>?_);refine WP.fact (fun⟨hkl,hall⟩=>?_);refine gg ?_;refine WP.aw rfl (fun h9=>?_) (fun h9=>?_)
  ·obtain⟨y,hy⟩:∃y,l[k]?=some y:=⟨_,List.getElem?_eq_getElem (by omega)⟩;obtain⟨ab,ao,rfl,hc⟩:=hz k y hy;refine cR ?_;refine vl (ai (u:=.int .i64 _) Tryz.isAgg3 rfl (fun w hw=>hw.cW hc (ax _))) ?_;refine gg ?_;refine WP.aw rfl (fun h14=>?_) (fun h14=>?_)
   ·have hr:orI l=y:=QI hall hy h14;refine gg ?_;exact WP.cP Tryz.results126 (fun _ h=>h) (fun w hw=>⟨(),congrArg (Value.int .i64) (by rw[hr]),trivial,hw.sel [] (by decide)⟩)
   ·refine bS ?_;exact nl fun w hw=>⟨rfl,k+1,(by omega),⟨rfl,jI,jS,jI,trivial⟩,⟨⟨by omega,fun z hz2=>by rw[df hy] at hz2;rcases List.mem_append.1 hz2 with h | h;exact hall z h;(obtain rfl:z=y:=by simpa using h);omega⟩,hw⟩⟩
  ·obtain rfl:k=l.length:=by omega
   rw[List.take_of_length_le (Nat.le_refl _)] at hall;have hr:=HT hall;refine WP.exit (an ?_);refine gg ?_;exact WP.cP Tryz.results126 (fun _ h=>h) (fun w hw=>⟨(),congrArg (Value.int .i64) (by rw[hr]),trivial,hw.sel [] (by decide)⟩)
theorem cmp_ct (A:Option Addr) (c:Nat) (L:List PN) (mb:Option Nat) (pb lb:Nat) (x y:Int) (hx0:0≤x) (hx:x<L.length) (hy0:0≤y) (hy:y<L.length) (hL:L.length≤1000):
    Ct Tryz.prog 124 #[.int .i64 x,.int .i64 y,.pointer (some ⟨pb,0,none⟩),.pointer (some ⟨lb,0,none⟩)] [] (fun w=>T2 w A L∧aJ w pb 0 [.slice A L.length c,.map mb]∧aJ w lb 0 [.slice A L.length c]) (X:=Unit) (fun _=>.int .i64 (D0 L x y)) (fun _=>True) (fun _=>[]):=by
  obtain⟨i,rfl⟩:∃i:Nat,x=i:=⟨x.toNat,by omega⟩;obtain⟨j,rfl⟩:∃j:Nat,y=j:=⟨y.toNat,by omega⟩;have hri:=DB L (i:Int);have hrj:=DB L (j:Int);refine Ct.intro Tryz.func124 rfl Tryz.ntmps124 (by simp) (fun w0 ⟨hz,hp,hlb⟩=>?_);refine gg ?_;refine WP.dj none [] [(0,true),(1,true),(3,true),(4,true),(2,false),(5,false),(6,true),(7,true)] mixed (by kernel_rfl) (by decide) ?_;refine tE rfl (au (cs:=[.slice _ _ _,.map _]) Tryz.isAgg191 Tryz.sizeOf191 rfl (fun w hw=>hw.cW hp (ax _))) ?_;refine ad ?_;refine tE rfl (au (cs:=[.slice _ _ _,.map _]) Tryz.isAgg191 Tryz.sizeOf191 rfl (fun w hw=>hw.cW hp (ax _))) ?_;refine gg ?_;refine aB.ef rfl (ck Tryz.call125 (ahc A c L mb (i:Int) (by omega) (by omega)) [] [] rfl (fun w hw=>hw.rd hz ax) (τ:=fun _=>[]) (fun _=>rfl)) (fun _ _ _ h=>h.2.sel [] (by decide)) (fun _=>?_);refine aB.fact (fun _=>?_);refine aB.ef rfl (ck Tryz.call125 (ahc A c L mb (j:Int) (by omega) (by omega)) [] [] rfl (fun w hw=>hw.rd hz ax) (τ:=fun _=>[]) (fun _=>rfl)) (fun _ _ _ h=>h.2.sel [] (by decide)) (fun _=>?_);refine aB.fact (fun _=>?_);refine uw ?_;refine aj.split 17 rfl (fun h17=>?_) (fun h17=>?_)
  ·refine gg ?_;refine WP.aw rfl (fun h20=>?_) (fun h20=>?_)
   ·have hr:D0 L (i:Int) (j:Int)=(i:Int) - (j:Int):=by rw[D0,if_pos ⟨by omega,by omega⟩]
    refine gg ?_;exact WP.cP Tryz.results124 (fun _ h=>h) (fun w hw=>⟨(),congrArg (Value.int .i64) (by rw[hr]),trivial,hw.sel [] (by decide)⟩)
   ·have hor:=(show ¬(ff L (i:Int)=0∧ff L (j:Int)=0) by omega);refine bW ?_;obtain⟨n,ab,ao,hn,rfl,hc⟩:=rU hz (i:=i) (by omega);obtain⟨n2,ab2,ao2,hn2,hA2,hc2⟩:=rU hz (i:=j) (by omega);cases hA2;have hr:D0 L (i:Int) (j:Int)=orI [ff L (i:Int) - ff L (j:Int),G5 n.z n2.z,(i:Int) - (j:Int)]:=by rw[D0,if_neg hor,zN hn,zN hn2]
    refine WP.dj none [] [(0,true),(1,true),(2,true),(3,true),(4,true),(5,true),(6,true),(7,true),(8,true),(9,true),(10,true),(11,true),(12,true),(14,true),(15,true),(16,true),(13,false),(17,false),(18,false),(19,true)] mixed (by kernel_rfl) (by decide) ?_;refine cK ?_;refine aB.take rfl (ai (u:=.slice _ _ _) Tryz.isAgg143 rfl (fun w hw=>hw.cW hlb (ax _))) ?_ (fun _ h=>h.sel [] (by decide));refine cK ?_;refine aB.take rfl (ai (u:=.int .i64 _) Tryz.isAgg3 rfl (fun w hw=>hw.cW (hc.one (j:=2) rfl (by omega)) (ax _))) ?_ (fun _ h=>h.sel [] (by decide));refine aB.take rfl (ai (u:=.slice _ _ _) Tryz.isAgg143 rfl (fun w hw=>hw.cW hlb (ax _))) ?_ (fun _ h=>h.sel [] (by decide));refine cK ?_;refine aB.take rfl (ai (u:=.int .i64 _) Tryz.isAgg3 rfl (fun w hw=>hw.cW (hc2.one (j:=2) rfl (by omega)) (ax _))) ?_ (fun _ h=>h.sel [] (by decide));refine gg ?_;refine aB.ef rfl (ck Tryz.call127 (ahb n.z n2.z) [] [] rfl (fun w hw=>trivial) (τ:=fun _=>[]) (fun _=>rfl)) (fun _ _ _ h=>h.2.sel [] (by decide)) (fun _=>?_);refine aB.fact (fun _=>?_);refine aB.ef rfl (cu (us:=[.int .i64 _,.int .i64 _,.int .i64 _]) (σ':=fun _=>[_]) Tryz.underlying49 Tryz.sizeOf3 Tryz.zeroValue3 rfl rfl rfl (by decide) (by decide) (fun _=>rfl)) (fun _ _ _ h=>h.sel [] (by decide)) (fun g41=>?_);refine aB.ef rfl (ck Tryz.call126 (ahe (some ⟨g41,0,none⟩) 3 [ff L (i:Int) - ff L (j:Int),G5 n.z n2.z,(i:Int) - (j:Int)] (by simp)) [] [0] rfl (fun w hw=>hw.eO (i:=0) (f:=Value.int .i64) rfl) (τ:=fun _=>[_]) (fun _=>rfl)) (fun _ _ _ h=>h.2.sel [] (by decide)) (fun _=>?_);refine aB.fact (fun _=>?_);refine aB.take rfl (dB (v:=.int .i64 _) rfl) ?_ (fun _ h=>h.sel [] (by decide));refine gg ?_;exact WP.cP Tryz.results124 (fun _ h=>h) (fun w hw=>⟨(),congrArg (Value.int .i64) (by rw[hr]),trivial,hw.sel [] (by decide)⟩)
  ·refine gg ?_;have hor:=(show ¬(ff L (i:Int)=0∧ff L (j:Int)=0) by omega);refine WP.br rfl ?_;refine bW ?_;obtain⟨n,ab,ao,hn,rfl,hc⟩:=rU hz (i:=i) (by omega);obtain⟨n2,ab2,ao2,hn2,hA2,hc2⟩:=rU hz (i:=j) (by omega);cases hA2;have hr:D0 L (i:Int) (j:Int)=orI [ff L (i:Int) - ff L (j:Int),G5 n.z n2.z,(i:Int) - (j:Int)]:=by rw[D0,if_neg hor,zN hn,zN hn2]
   refine WP.dj none [] [(0,true),(1,true),(2,true),(3,true),(4,true),(5,true),(6,true),(7,true),(8,true),(9,true),(10,true),(11,true),(12,true),(14,true),(15,true),(16,true),(13,false),(17,false),(18,false),(19,true)] mixed (by kernel_rfl) (by decide) ?_;refine cK ?_;refine aB.take rfl (ai (u:=.slice _ _ _) Tryz.isAgg143 rfl (fun w hw=>hw.cW hlb (ax _))) ?_ (fun _ h=>h.sel [] (by decide));refine cK ?_;refine aB.take rfl (ai (u:=.int .i64 _) Tryz.isAgg3 rfl (fun w hw=>hw.cW (hc.one (j:=2) rfl (by omega)) (ax _))) ?_ (fun _ h=>h.sel [] (by decide));refine aB.take rfl (ai (u:=.slice _ _ _) Tryz.isAgg143 rfl (fun w hw=>hw.cW hlb (ax _))) ?_ (fun _ h=>h.sel [] (by decide));refine cK ?_;refine aB.take rfl (ai (u:=.int .i64 _) Tryz.isAgg3 rfl (fun w hw=>hw.cW (hc2.one (j:=2) rfl (by omega)) (ax _))) ?_ (fun _ h=>h.sel [] (by decide));refine gg ?_;refine aB.ef rfl (ck Tryz.call127 (ahb n.z n2.z) [] [] rfl (fun w hw=>trivial) (τ:=fun _=>[]) (fun _=>rfl)) (fun _ _ _ h=>h.2.sel [] (by decide)) (fun _=>?_);refine aB.fact (fun _=>?_);refine aB.ef rfl (cu (us:=[.int .i64 _,.int .i64 _,.int .i64 _]) (σ':=fun _=>[_]) Tryz.underlying49 Tryz.sizeOf3 Tryz.zeroValue3 rfl rfl rfl (by decide) (by decide) (fun _=>rfl)) (fun _ _ _ h=>h.sel [] (by decide)) (fun g41=>?_);refine aB.ef rfl (ck Tryz.call126 (ahe (some ⟨g41,0,none⟩) 3 [ff L (i:Int) - ff L (j:Int),G5 n.z n2.z,(i:Int) - (j:Int)] (by simp)) [] [0] rfl (fun w hw=>hw.eO (i:=0) (f:=Value.int .i64) rfl) (τ:=fun _=>[_]) (fun _=>rfl)) (fun _ _ _ h=>h.2.sel [] (by decide)) (fun _=>?_);refine aB.fact (fun _=>?_);refine aB.take rfl (dB (v:=.int .i64 _) rfl) ?_ (fun _ h=>h.sel [] (by decide));refine gg ?_;exact WP.cP Tryz.results124 (fun _ h=>h) (fun w hw=>⟨(),congrArg (Value.int .i64) (by rw[hr]),trivial,hw.sel [] (by decide)⟩)
end Q
end Go.Proofs.YtbedndijejpcaaaGreat
namespace Go.Proofs.YtbedndijejpcaaaGreat
open Go.Shelf Go.RowKit Go.Lib Go.Sort
def Vx:Go.Shelf.Ren:=⟨fun | 6=>128 | 15=>164 | 14=>163 | 28=>195 | 29=>196 | 20=>187 | 21=>188 | 22=>189 | 23=>190 | 24=>191 | 25=>192 | 26=>193 | 27=>194 | 46=>222 | 47=>223 | 48=>224 | 49=>225 | 50=>226 | 57=>237 | n=>n,fun | 22=>49 | 24=>3 | 25=>124 | 3=>3 | 39=>229 | 0=>0 | 53=>251 | 55=>253 | 4=>4 | 46=>244 | 45=>243 | 50=>248 | 5=>5 | 9=>9 | 66=>278 | 70=>282 | 76=>292 | 77=>136 | n=>n,fun n=>n⟩
theorem YK : SlLaysF.n6 Tryz.prog Vx := {
  mixed := by kernel_rfl,
  f6 := ⟨Tryz.f128.name, by decide, Tryz.func128.trans (congrArg some (by kernel_rfl))⟩,
  f14 := ⟨Tryz.f163.name, by decide, Tryz.func163.trans (congrArg some (by kernel_rfl))⟩,
  f15 := Tryz.func164.trans (congrArg some (by kernel_rfl)),
  f20 := ⟨Tryz.f187.name, by decide, Tryz.func187.trans (congrArg some (by kernel_rfl))⟩,
  f21 := ⟨Tryz.f188.name, by decide, Tryz.func188.trans (congrArg some (by kernel_rfl))⟩,
  f22 := ⟨Tryz.f189.name, by decide, Tryz.func189.trans (congrArg some (by kernel_rfl))⟩,
  f23 := ⟨Tryz.f190.name, by decide, Tryz.func190.trans (congrArg some (by kernel_rfl))⟩,
  f24 := ⟨Tryz.f191.name, by decide, Tryz.func191.trans (congrArg some (by kernel_rfl))⟩,
  f25 := ⟨Tryz.f192.name, by decide, Tryz.func192.trans (congrArg some (by kernel_rfl))⟩,
  f26 := ⟨Tryz.f193.name, by decide, Tryz.func193.trans (congrArg some (by kernel_rfl))⟩,
  f27 := ⟨Tryz.f194.name, by decide, Tryz.func194.trans (congrArg some (by kernel_rfl))⟩,
  f28 := Tryz.func195.trans (congrArg some (by kernel_rfl)),
  f29 := Tryz.func196.trans (congrArg some (by kernel_rfl)),
  f46 := ⟨Tryz.f222.name, by decide, Tryz.func222.trans (congrArg some (by kernel_rfl))⟩,
  f47 := Tryz.func223.trans (congrArg some (by kernel_rfl)),
  f48 := Tryz.func224.trans (congrArg some (by kernel_rfl)),
  f49 := ⟨Tryz.f225.name, by decide, Tryz.func225.trans (congrArg some (by kernel_rfl))⟩,
  f50 := ⟨Tryz.f226.name, by decide, Tryz.func226.trans (congrArg some (by kernel_rfl))⟩,
  f57 := ⟨Tryz.f237.name, by decide, Tryz.func237.trans (congrArg some (by kernel_rfl))⟩,
  t0 := Tryz.underlying0,
  a0 := Tryz.isAgg0,
  z0 := Tryz.sizeOf0,
  v0 := Tryz.zeroValue0,
  t3 := Tryz.underlying3,
  a3 := Tryz.isAgg3,
  z3 := Tryz.sizeOf3,
  v3 := Tryz.zeroValue3,
  t4 := Tryz.underlying4,
  a4 := Tryz.isAgg4,
  z4 := Tryz.sizeOf4,
  v4 := Tryz.zeroValue4,
  t5 := Tryz.underlying5,
  a5 := Tryz.isAgg5,
  z5 := Tryz.sizeOf5,
  v5 := Tryz.zeroValue5,
  t9 := Tryz.underlying9,
  a9 := Tryz.isAgg9,
  z9 := Tryz.sizeOf9,
  v9 := Tryz.zeroValue9,
  t22 := Tryz.underlying49,
  a22 := Tryz.isAgg49,
  z22 := Tryz.sizeOf49,
  v22 := Tryz.zeroValue49,
  a24 := Tryz.isAgg3,
  z24 := Tryz.sizeOf3,
  t25 := Tryz.underlying124,
  a25 := Tryz.isAgg124,
  z25 := Tryz.sizeOf124,
  v25 := Tryz.zeroValue124,
  t39 := Tryz.underlying229,
  a39 := Tryz.isAgg229,
  z39 := Tryz.sizeOf229,
  v39 := Tryz.zeroValue229,
  t45 := Tryz.underlying243,
  a45 := Tryz.isAgg243,
  z45 := Tryz.sizeOf243,
  v45 := Tryz.zeroValue243,
  t46 := Tryz.underlying244,
  a46 := Tryz.isAgg244,
  z46 := Tryz.sizeOf244,
  v46 := Tryz.zeroValue244,
  t50 := Tryz.underlying248,
  a50 := Tryz.isAgg248,
  z50 := Tryz.sizeOf248,
  v50 := Tryz.zeroValue248,
  t53 := Tryz.underlying251,
  a53 := Tryz.isAgg251,
  z53 := Tryz.sizeOf251,
  v53 := Tryz.zeroValue251,
  t55 := Tryz.underlying253,
  a55 := Tryz.isAgg253,
  z55 := Tryz.sizeOf253,
  v55 := Tryz.zeroValue253,
  t66 := Tryz.underlying278,
  a66 := Tryz.isAgg278,
  z66 := Tryz.sizeOf278,
  v66 := Tryz.zeroValue278,
  t70 := Tryz.underlying282,
  a70 := Tryz.isAgg282,
  z70 := Tryz.sizeOf282,
  v70 := Tryz.zeroValue282,
  t76 := Tryz.underlying292,
  a76 := Tryz.isAgg292,
  z76 := Tryz.sizeOf292,
  v76 := Tryz.zeroValue292,
  t77 := Tryz.underlying136,
  a77 := Tryz.isAgg136,
  z77 := Tryz.sizeOf136,
  v77 := Tryz.zeroValue136 }
theorem Q.St.grown {w w':World} (h:Q.St w (ay []) [] w'):∃q os,w'=grow (w.drewN q) os:=by
  refine⟨w'.drawn - w.drawn,w'.heap.extract w.heap.size w'.heap.size,?_⟩;have hh:w'.heap=w.heap++w'.heap.extract w.heap.size w'.heap.size:=by
    apply Array.ext_getElem?;intro k
    by_cases hk:k<w.heap.size
    · rw[Array.getElem?_append_left hk,h.old k hk (ax k)]
    · rw [Array.getElem?_append_right (by omega)]
      have hs:=h.size
      by_cases h2:k<w'.heap.size
      · rw [Array.getElem?_extract]
        rw[if_pos (by omega)]
        congr 1
        omega
      · rw[Array.getElem?_eq_none (by omega),Array.getElem?_eq_none (by simp;omega)]
  have hd:w'.drawn=w.drawn+(w'.drawn - w.drawn):=by have:=h.fwd;omega
  show w'={w with heap:=w.heap++_,drawn:=w.drawn+(w'.drawn - w.drawn)};rw[←hh,←hd,←h.os,←h.tape,←h.output]
abbrev Ix (L:List PN):={x:Int // 0≤x∧x<L.length}
abbrev rG (L:List PN):Ix L→Value:=fun a=>.int .i64 a.1
section
variable {L:List PN} [Inhabited (Ix L)] {w:World} {gb n:Nat} {d:Array (Ix L)} {os:Array Obj} {cur:Array Value} {t:TypeId}
theorem vo (k:Nat) (hk:k<w.heap.size) (hne:k≠gb):(sortWorld (rG L) w gb 0 n d os).heap[k]?=w.heap[k]?:=by
  unfold sortWorld;rw[heap_grow_old _ _ (by rw[size_putRow];exact hk)];show (w.heap.modify gb _)[k]?=_;rw[Array.getElem?_modify,if_neg (Ne.symm hne)]
theorem ET {b o:Nat} {v:Value} (hc:w.cell? ⟨b,o,none⟩=some v) (hne:b≠gb):(sortWorld (rG L) w gb 0 n d os).cell? ⟨b,o,none⟩=some v:=
  (World.cell?_of_block (vo b (lP hc) hne)).trans hc
theorem oe {b o:Nat} {us:List Value} (hc:aJ w b o us) (hne:b≠gb):aJ (sortWorld (rG L) w gb 0 n d os) b o us:=fun j u hj=>ET (hc j u hj) hne
theorem GP (hh:w.heap[gb]?=some (.cells cur t (0,0))):(sortWorld (rG L) w gb 0 n d os).heap[gb]?=some (.cells (putCells (rG L) 0 d cur) t (0,0)):=by
  have hlt:gb<w.heap.size:=(Array.getElem?_eq_some_iff.1 hh).1;unfold sortWorld;rw[heap_grow_old _ _ (by rw[size_putRow];exact hlt)];show (w.heap.modify gb _)[gb]?=_;rw[Array.getElem?_modify,if_pos rfl,hh];rfl
theorem Ir (hs:d.size≤cur.size):(putCells (rG L) 0 d cur).toList.take d.size=d.toList.map (rG L):=by
  apply List.ext_getElem?;intro k;rw[List.getElem?_take,List.getElem?_map]
  by_cases hk:k<d.size
  · rw [if_pos hk, Array.getElem?_toList, Array.getElem?_toList]
    unfold putCells;rw[Array.getElem?_mapIdx,Array.getElem?_eq_getElem (xs:=cur) (by omega),Array.getElem?_eq_getElem (xs:=d) hk,Option.map_some,if_pos ⟨Nat.zero_le _,by omega⟩,Nat.sub_zero,getElem!_pos d k hk,Option.map_some]
  · rw[if_neg hk,Array.getElem?_toList,Array.getElem?_eq_none (by omega)];rfl
end
theorem tV:∀{l m:List Int},l.Nodup→(∀x∈l,x∈m)→l.length≤m.length
  | [],_,_,_=>Nat.zero_le _
  | x :: l, m, hn, h => by
    rw[List.nodup_cons] at hn;have hx:=h x (by simp);have h1:=tV (l:=l) (m:=m.erase x) hn.2 fun y hy=>(List.mem_erase_of_ne (fun e=>hn.1 (by rw[←e];exact hy))).2 (h y (by simp[hy]));have h2:=List.length_erase_of_mem hx;have h3:=List.length_pos_of_mem hx;simp only[List.length_cons];omega
theorem D4 {L:List PN} {l:List Int} (hl:∀x∈l,0≤x∧x<L.length) (hn:l.Nodup):l.length≤L.length:=by
  have h1:=tV (l:=l) (m:=(List.range L.length).map fun i:Nat=>(i:Int)) hn fun x hx=>by
    have:=hl x hx;exact List.mem_map.2 ⟨x.toNat,List.mem_range.2 (by omega),by omega⟩
  simpa using h1
theorem Jz (gb cap:Nat) (A:Option Addr) (c:Nat) (L:List PN) (hL:L.length≤1000) (mb:Option Nat) (pb lb:Nat) (l:List Int) (hl:∀x∈l,0≤x∧x<L.length) (hn:l.Nodup) (h0:0<l.length):
    Ct Tryz.prog 128 #[.slice (some ⟨gb,0,none⟩) l.length cap,.func (.func 124) #[] #[.pointer (some ⟨pb,0,none⟩),.pointer (some ⟨lb,0,none⟩)]] [mn (some ⟨gb,0,none⟩) cap l]
      (fun w=>(T2 w A L∧aJ w pb 0 [.slice A L.length c,.map mb]∧aJ w lb 0 [.slice A L.length c])∧(∀b o,A=some ⟨b,o,none⟩→b≠gb)∧pb≠gb∧lb≠gb) (X:=Unit) (fun _=>.tuple #[]) (fun _=>True) (fun _=>[mn (some ⟨gb,0,none⟩) cap (DZ L l)]):=by
  intro w h1 _ ⟨⟨hz,hp,hlb⟩,hA,hpb,hlbn⟩;have hrow:w.ownsRow 0 3 1 (.slice (some ⟨gb,0,none⟩) l.length cap) l.length (l.map (Value.int .i64)):=h1 _ (List.mem_singleton_self _);obtain⟨hlen,h2⟩:=hrow
  rcases h2 with ⟨hv,_⟩ | ⟨g,cap',cur,hv,hb,hh,hnc,hm,hsz,htake⟩
  · cases hv
  injection hv with e1 e2 e3
  injection e1 with e1
  injection e1 with e1
  subst e1 e3;obtain⟨x0,hx0⟩:∃x0,x0∈l:=⟨l[0],List.getElem_mem h0⟩
  haveI:Inhabited (Ix L):=⟨⟨x0,hl x0 hx0⟩⟩
  let dl:List (Ix L):=l.attach.map fun x=>⟨x.1,hl x.1 x.2⟩
  have hdl:dl.map (·.1)=l:=by
    simp[dl,List.map_map,Function.comp_def]
  have hds:dl.toArray.size=l.length:=by simp[dl]
  have henc:dl.map (rG L)=l.map (Value.int .i64):=by
    have h:=congrArg (List.map (Value.int .i64)) hdl;rw[List.map_map] at h;exact h
  have hlt:gb<w.heap.size:=(Array.getElem?_eq_some_iff.1 hh).1;have hH:Holds (rG L) w gb 0 dl.toArray:=fun j hj=>by
    have hj':j<l.length:=by rw[←hds];exact hj
    refine⟨?_,by rw[Nat.zero_add];exact frozen_of_row w gb j cur _ hh⟩;rw[Nat.zero_add,cell_of_row w gb j cur _ (0,0) hh];have h3:=congrArg (·[j]?) htake;simp only[←henc,List.getElem?_map] at h3;rw[List.getElem?_take,if_pos (by omega),Array.getElem?_toList] at h3;rw[h3,List.getElem?_eq_getElem (by simpa using hj),getElem!_pos dl.toArray j hj];rfl
  have hcmp:CmpLays1 Tryz.prog 124 #[.pointer (some ⟨pb,0,none⟩),.pointer (some ⟨lb,0,none⟩)] (rG L) (fun a b=>D0 L a.1 b.1) gb 0 dl.toArray.size w:=fun m os dk _ x y=>by
    have hc := Q.cmp_ct A c L mb pb lb x.1 y.1 x.2.1 x.2.2 y.2.1 y.2.2 hL (sortWorld (rG L) w gb 0 m dk os) (by simp) List.Pairwise.nil ⟨fun k z hk => by
      obtain ⟨b, o, e, hc⟩ := hz k z hk
      exact ⟨b, o, e, oe hc (hA b o e)⟩, oe hp hpb, oe hlb hlbn⟩
    refine hc.mono ?_
    rintro e w' ⟨_,rfl,_,hs⟩
    exact⟨rfl,hs.grown⟩
  have hlt':∀a b:Ix L,ltOf (fun a b:Ix L=>D0 L a.1 b.1) a b=decide (p9 L a.1 b.1):=fun a b=>by
    unfold ltOf;exact decide_eq_decide.2 (Jb L a.1 b.1)
  have hO : SWO (ltOf (fun a b : Ix L => D0 L a.1 b.1)) := {
    irrefl := fun x => by rw [hlt']; simpa using CK x.1
    trans := fun x y z h1 h2 => by
      rw [hlt'] at *
      simp only [decide_eq_true_eq] at *
      exact nq h1 h2
    ntrans := fun x y z h1 h2 => by
      rw [hlt'] at *
      simp only [decide_eq_false_iff_not] at *
      intro h3
      rcases rY (L := L) x.1 y.1 with h | h | h
      · exact h1 h
      · rw [h] at h3; exact h2 h3
      · exact h2 (nq h h3) }
  have hcon:=Any.slices_SortFunc YK (rG L) (fun _=>rfl) (fun a b=>D0 L a.1 b.1) hO 124 #[.pointer (some ⟨pb,0,none⟩),.pointer (some ⟨lb,0,none⟩)] gb 0 cap dl.toArray w Tryz.call124 hcmp hH hlt (by have:=D4 hl hn;omega);rw[hds] at hcon
  change Calls Tryz.prog 128 _ _ _ at hcon
  refine hcon.mono ?_
  rintro e w' ⟨rfl,d',n,os,hperm,hsort,rfl⟩
  obtain⟨p1,_,p3⟩:=hperm;have hd's:d'.size=l.length:=by rw[p1,hds]
  have hpl:(d'.toList.map (·.1)).Perm l:=by
    have h4:(d'.extract 0 l.length).toList.Perm (dl.toArray.extract 0 l.length).toList:=p3;rw[show d'.extract 0 l.length=d' by rw[←hd's];simp,show dl.toArray.extract 0 l.length=dl.toArray by rw[←hds];simp] at h4;rw[←hdl];exact h4.map _
  have hres:d'.toList.map (·.1)=DZ L l:=by
    refine FQ hn hpl ?_;rw[List.pairwise_iff_getElem];intro i j hi hj hij;have hi':i<d'.size:=by simpa using hi
    have hj':j<d'.size:=by simpa using hj
    have h5:=hsort i j (Nat.zero_le _) hij (by omega);rw[hlt',getElem!_pos d' i hi',getElem!_pos d' j hj'] at h5;simp only[decide_eq_false_iff_not] at h5;rw[List.getElem_map,List.getElem_map,Array.getElem_toList,Array.getElem_toList]
    rcases rY (L:=L) d'[i].1 d'[j].1 with h | h | h
    · exact h
    · exfalso
      have h6:=(List.nodup_iff_pairwise_ne.1 (hpl.nodup_iff.2 hn));rw[List.pairwise_iff_getElem] at h6;exact h6 i j hi hj hij (by simpa using h)
    · exact absurd h h5
  refine⟨(),rfl,trivial,⟨rfl,rfl,rfl,by unfold sortWorld;rw[size_grow,size_putRow];exact Nat.le_add_right _ _,fun b hb hne=>vo b hb (fun e=>hne ⟨_,List.mem_singleton_self _,_,rfl,e⟩),?_,List.pairwise_singleton _ _,?_⟩⟩
  · intro i hi
    obtain rfl:i=_:=by simpa using hi
    have hl2:(DZ L l).length=l.length:=(iG l).length_eq;refine⟨by simp,.inr ⟨gb,cap,_,rfl,Nat.zero_le _,GP hh,by omega,hm,by unfold putCells;rw[Array.size_mapIdx];exact hsz,?_⟩⟩;rw[Nat.mul_one,hl2,←hd's,Ir (by omega),←hres,List.map_map];rfl
  · intro i hi b hb
    obtain rfl:i=_:=by simpa using hi
    exact .inr ⟨_,List.mem_singleton_self _,hb⟩
end Go.Proofs.YtbedndijejpcaaaGreat
namespace Go.Proofs.YtbedndijejpcaaaGreat
open Go.RowKit
structure KE where
  key:Int
  A:Option Addr
  c:Nat
  l:List Int
def KE.fA (e:KE):Int×Value:=(e.key,.slice e.A e.l.length e.c)
abbrev KE.row (e:KE):HI:=az e.A e.l.length e.c e.l
def cV:List KE→Int→Option KE
  | [],_=>none
  | e::es,k=>if e.key=k then some e else cV es k
def kf:List KE→KE→List KE
  | [],e=>[e]
  | a::es,e=>if a.key=e.key then e::es else a::kf es e
def rC:List KE→Int→List KE
  | [],_=>[]
  | a::es,k=>if a.key=k then es else a::rC es k
def dY (es:List KE) (k:Int):List Int:=match cV es k with | some e=>e.l | none=>[]
def Ft (es:List KE) (k:Int):Option Addr:=match cV es k with | some e=>e.A | none=>none
def KU (es:List KE) (k:Int):Nat:=match cV es k with | some e=>e.c | none=>0
abbrev j4 (es:List KE):HI:=cN (es.map KE.row)
abbrev GN (mb:Nat) (es:List KE):List HI:=aP mb (es.map KE.fA)::es.map KE.row
def ot (mb:Nat) (es:List KE):HI:=cN (GN mb es)
theorem wg:∀(es:List KE) (k:Int),(lookM (es.map KE.fA) k).getD (.slice none 0 0)=.slice (Ft es k) (dY es k).length (KU es k)
  | [],k=>rfl
  | e :: es, k => by
    have ih:=wg es k;unfold Ft dY KU at*;simp only[List.map_cons,lookM,cV,KE.fA]
    by_cases h:e.key=k
    · simp[h]
    · simp only[if_neg h];exact ih
theorem yq:∀(es:List KE) (e:KE),(kf es e).map KE.fA=putM (es.map KE.fA) e.key (.slice e.A e.l.length e.c)
  | [],e=>rfl
  | a :: es, e => by
    simp only[kf,List.map_cons,putM]
    by_cases h:a.key=e.key
    · rw[if_pos h,if_pos (show (KE.fA a).1=e.key from h)];rfl
    · rw[if_neg h,if_neg (show ¬(KE.fA a).1=e.key from h),List.map_cons,yq es e]
theorem vE:∀(es:List KE) (e:KE) (k:Int),cV (kf es e) k=if k=e.key then some e else cV es k
  | [], e, k => by
    by_cases h:k=e.key
    · simp[kf,cV,h]
    · simp[kf,cV,h,Ne.symm h]
  | a :: es, e, k => by
    unfold kf
    by_cases h:a.key=e.key
    · rw [if_pos h]
      by_cases h2:k=e.key
      · simp[cV,h2]
      · simp[cV,h2,Ne.symm h2,h]
    · rw [if_neg h]
      simp only[cV];rw[vE es e k]
      by_cases h2:k=e.key
      · subst h2;simp[h]
      · simp[h2]
theorem u4:∀(es:List KE) (e:KE),(kf es e).Perm (e::rC es e.key)
  | [],e=>List.Perm.refl _
  | a :: es, e => by
    unfold kf rC
    by_cases h:a.key=e.key
    · rw[if_pos h,if_pos h]
    · rw [if_neg h, if_neg h]
      exact(List.Perm.cons a (u4 es e)).trans (List.Perm.swap e a _)
theorem vt:∀{es:List KE} {k:Int} {e:KE},cV es k=some e→es.Perm (e::rC es k)
  | [],_,_,h=>by cases h
  | a :: es, k, e, h => by
    unfold cV at h;unfold rC
    by_cases hk:a.key=k
    · rw[if_pos hk] at h ⊢;cases h;exact List.Perm.refl _
    · rw [if_neg hk] at h ⊢
      exact(List.Perm.cons a (vt h)).trans (List.Perm.swap e a _)
theorem uW:∀{es:List KE} {k:Int},cV es k=none→rC es k=es
  | [],_,_=>rfl
  | a :: es, k, h => by
    unfold cV at h;unfold rC
    by_cases hk:a.key=k
    · rw[if_pos hk] at h;cases h
    · rw[if_neg hk] at h ⊢;rw[uW h]
theorem wv:∀(es:List KE) (e:KE),(es.map KE.key).Nodup→((kf es e).map KE.key).Nodup∧∀x,x∈(kf es e).map KE.key→x=e.key∨x∈es.map KE.key
  | [],e,_=>by simp[kf]
  | a :: es, e, h => by
    unfold kf;rw[List.map_cons,List.nodup_cons] at h
    by_cases hk:a.key=e.key
    · rw [if_pos hk, List.map_cons, List.nodup_cons]
      refine⟨⟨by rw[←hk];exact h.1,h.2⟩,fun x hx=>?_⟩
      rcases List.mem_cons.1 hx with h1 | h1
      · exact .inl h1
      · exact .inr (List.mem_cons_of_mem _ h1)
    · rw [if_neg hk, List.map_cons, List.nodup_cons]
      obtain⟨h1,h2⟩:=wv es e h.2;refine⟨⟨fun hm=>?_,h1⟩,fun x hx=>?_⟩
      · rcases h2 _ hm with h3 | h3
        · exact hk h3
        · exact h.1 h3
      · rcases List.mem_cons.1 hx with h3 | h3
        · exact .inr (by simp[h3])
        · rcases h2 x h3 with h4 | h4
          · exact .inl h4
          · exact .inr (List.mem_cons_of_mem _ h4)
theorem u3:∀{es:List KE} {e:KE},(es.map KE.key).Nodup→e∈es→cV es e.key=some e
  | a :: es, e, h, he => by
    rw[List.map_cons,List.nodup_cons] at h
    rcases List.mem_cons.1 he with rfl | he
    · simp[cV]
    · rw [cV, if_neg (fun h1 => h.1 (by rw [h1]; exact List.mem_map.2 ⟨e, he, rfl⟩))]
      exact u3 h.2 he
theorem so:∀{es:List KE} {k:Int} {e:KE},cV es k=some e→e∈es∧e.key=k
  | a :: es, k, e, h => by
    unfold cV at h
    by_cases hk:a.key=k
    · rw[if_pos hk] at h;cases h;exact⟨by simp,hk⟩
    · rw [if_neg hk] at h
      have:=so h;exact⟨List.mem_cons_of_mem _ this.1,this.2⟩
def jM (L:List PN) (e:KE):KE:=⟨e.key,e.A,e.c,DZ L e.l⟩
theorem E8 (L:List PN) (e:KE):(jM L e).fA=e.fA:=by
  show (e.key,Value.slice e.A (DZ L e.l).length e.c)=_;rw[(iG e.l).length_eq];rfl
def jG (L:List PN) (es:List KE) (done:List Nat):List KE:=es.mapIdx fun j e=>if j∈done then jM L e else e
theorem BU {L:List PN} {es:List KE} {done:List Nat} {j:Nat} {e:KE} (he:es[j]?=some e) (hj:j∉done):(jG L es done)[j]?=some e:=by
  unfold jG;rw[List.getElem?_mapIdx,he,Option.map_some,if_neg hj]
theorem yW {L:List PN} {es:List KE} {done:List Nat} {j:Nat} {e:KE} (he:es[j]?=some e):jG L es (done++[j])=(jG L es done).set j (jM L e):=by
  apply List.ext_getElem?;intro k;unfold jG;rw[List.getElem?_mapIdx,List.getElem?_set,List.getElem?_mapIdx,List.length_mapIdx]
  by_cases hk:j=k
  · subst hk
    rw[if_pos rfl,if_pos (List.getElem?_eq_some_iff.1 he).1,he,Option.map_some,if_pos (by simp)]
  · rw [if_neg hk]
    congr 1
    funext a
    have:(k∈done++[j])↔k∈done:=by simp[Ne.symm hk]
    simp only[this]
theorem AS {L:List PN} {es:List KE} {done:List Nat} (h:∀j<es.length,j∈done):jG L es done=es.map (jM L):=by
  apply List.ext_getElem?;intro k;unfold jG;rw[List.getElem?_mapIdx,List.getElem?_map]
  by_cases hk:k<es.length
  · rw[List.getElem?_eq_getElem hk,Option.map_some,Option.map_some,if_pos (h k hk)]
  · rw[List.getElem?_eq_none (by omega)];rfl
theorem r8 (L:List PN):∀(es:List KE) (k:Int),cV (es.map (jM L)) k=(cV es k).map (jM L)
  | [],_=>rfl
  | e :: es, k => by
    simp only[List.map_cons,cV]
    by_cases h:e.key=k
    · rw[if_pos (show (jM L e).key=k from h),if_pos h];rfl
    · rw[if_neg (show ¬(jM L e).key=k from h),if_neg h];exact r8 L es k
theorem I0 (L:List PN):DZ L []=[]:=List.Perm.eq_nil (iG [])
theorem Ei (L:List PN) (es:List KE) (k:Int):dY (es.map (jM L)) k=DZ L (dY es k):=by
  unfold dY;rw[r8];cases cV es k with
  | none=>exact(I0 L).symm
  | some e=>rfl
section
variable {w0 w:World} {M:Nat→Prop} {σ F:List HI} {i mb:Nat} {es:List KE}
theorem St.ad3 (h:St w0 M (j4 es::F) w) (k:Int):St w0 M (az (Ft es k) (dY es k).length (KU es k) (dY es k)::j4 (rC es k)::F) w:=by
  cases e:cV es k with
  | none =>
    rw[show Ft es k=none by simp[Ft,e],show dY es k=[] by simp[dY,e],show KU es k=0 by simp[KU,e],uW e];exact(h.bB 3 1).perm (List.perm_append_comm (l₂:=[HI.row 3 1 none 0 0 []]))
  | some a =>
    rw[show Ft es k=a.A by simp[Ft,e],show dY es k=a.l by simp[dY,e],show KU es k=a.c by simp[KU,e]];have h1:=h.unpack;have h2:St w0 M (((rC es k).map KE.row)++(a.row::F)) w:=by
      refine h1.perm ?_;exact(List.Perm.append_right F ((vt e).map KE.row)).trans List.perm_middle.symm
    exact h2.pack.perm (List.Perm.swap _ _ _)
theorem St.TQ (e:KE) (h:St w0 M (e.row::j4 (rC es e.key)::F) w):St w0 M (j4 (kf es e)::F) w:=by
  have h1:=(h.perm (List.Perm.swap _ _ _)).unpack;refine St.pack (h1.perm ?_);exact List.perm_middle.trans (List.Perm.append_right F ((u4 es e).map KE.row).symm)
theorem St.ad2 {j:Nat} {e:KE} (he:es[j]?=some e) (h:St w0 M (j4 es::F) w):St w0 M (e.row::j4 (es.eraseIdx j)::F) w:=by
  have h1:=h.unpack;have h2:St w0 M (((es.eraseIdx j).map KE.row)++(e.row::F)) w:=h1.perm ((List.Perm.append_right F ((jT he).map KE.row)).trans List.perm_middle.symm);exact h2.pack.perm (List.Perm.swap _ _ _)
theorem St.ad1 {j:Nat} {e':KE} (hj:j<es.length) (h:St w0 M (e'.row::j4 (es.eraseIdx j)::F) w):St w0 M (j4 (es.set j e')::F) w:=by
  have h1:=(h.perm (List.Perm.swap _ _ _)).unpack;refine St.pack (h1.perm ?_);exact List.perm_middle.trans (List.Perm.append_right F ((wD hj).map KE.row))
theorem St.ad8 (h:St w0 M (aP mb (es.map KE.fA)::j4 es::F) w):St w0 M (ot mb es::F) w:=by
  have h1:=(h.perm (List.Perm.swap _ _ _)).unpack;refine St.pack (τ:=GN mb es) (h1.perm ?_);exact List.perm_middle
theorem St.pic (h:St w0 M σ w) (hi:σ[i]?=some (ot mb es)):∀j∈GN mb es,j.holds w:=(h.all _ (List.mem_of_getElem? hi)).2.1
theorem St.TS (h:St w0 M σ w) (hi:σ[i]?=some (ot mb es)):sV mb (es.map KE.fA) w:=(h.pic hi (aP mb (es.map KE.fA)) (by simp[GN])).2
theorem St.K6 (h:St w0 M σ w) (hi:σ[i]?=some (ot mb es)) (k:Int):vd w (Ft es k) (dY es k):=by
  cases e:cV es k with
  | none =>
    rw[show dY es k=[] by simp[dY,e]];intro j y hy;simp at hy
  | some a =>
    rw[show Ft es k=a.A by simp[Ft,e],show dY es k=a.l by simp[dY,e]];have h1:a.row.holds w:=h.pic hi a.row (by simp only[GN,List.mem_cons,List.mem_map];exact .inr ⟨a,(so e).1,rfl⟩);have h2:St w (ay [a.row]) [a.row] w:=St.start (by simpa using h1) (List.pairwise_singleton _ _);exact h2.eO (i:=0) (f:=Value.int .i64) rfl
end
def T1 (o:Obj) (ao:Nat) (L:List PN):Prop:=∃cur t fr,o=.cells cur t fr∧∀i n,L[i]?=some n→∀j u,(tT n)[j]?=some u→cur[ao+i*3+j]?=some u
theorem Sb {w:World} {ab ao:Nat} {L:List PN} (h:T2 w (some ⟨ab,ao,none⟩) L) (hn:L≠[]):∃o,w.heap[ab]?=some o∧T1 o ao L:=by
  have hc:∀i n,L[i]?=some n→aJ w ab (ao+i*3) (tT n):=fun i n hi=>by
    obtain⟨b,o,e,hc⟩:=h i n hi;cases e;exact hc
  obtain⟨n0,hn0⟩:∃n0,L[0]?=some n0:=⟨_,List.getElem?_eq_getElem (List.length_pos_iff.2 hn)⟩;have h0:=hc 0 n0 hn0 0 _ rfl;unfold World.cell? at h0;cases e:w.heap[ab]? with
  | none=>rw[e] at h0;cases h0
  | some o =>
    cases o with
    | cells cur t fr =>
      refine⟨_,rfl,cur,t,fr,rfl,fun i n hi j u hu=>?_⟩;have h1:=hc i n hi j u hu;rw[cell_of_row w ab _ cur t fr e] at h1;exact h1
    | _=>rw[e] at h0;cases h0
theorem DX {w:World} {ab ao:Nat} {L:List PN} {o:Obj} (hh:w.heap[ab]?=some o) (h:T1 o ao L) {i:Nat} {n:PN} (hi:L[i]?=some n):aJ w ab (ao+i*3) (tT n):=fun j u hu=>by
  obtain⟨cur,t,fr,rfl,hc⟩:=h;rw[cell_of_row w ab _ cur t fr hh];exact hc i n hi j u hu
theorem St.ag9 {w0 w:World} {M:Nat→Prop} {σ:List HI} {i ab ao:Nat} {L:List PN} {o:Obj} (h:St w0 M σ w) (hi:σ[i]?=some (.ob ab o)) (ho:T1 o ao L) {k:Nat} {n:PN} (hk:L[k]?=some n):aJ w ab (ao+k*3) (tT n):=
  DX (h.all _ (List.mem_of_getElem? hi)) ho hk
theorem Ct.weaken {P:Program} {f:FuncId} {args:Array Value} {ab:Nat} {o:Obj} {pre:List HI} {X:Type} {v:X→Value} {facts:X→Prop} {post:X→List HI} (h:Ct P f args (.ob ab o::pre) (fun _=>True) v facts (fun x=>.ob ab o::post x)):
    Ct P f args pre (fun w=>w.heap[ab]?=some o∧¬ay pre ab) v facts post:=by
  intro w h1 h2 ⟨ho,hn⟩;refine(h w (fun i hi=>?_) (List.pairwise_cons.2 ⟨fun j hj b hb hjb=>?_,h2⟩) trivial).mono ?_
  · rcases List.mem_cons.1 hi with rfl | hi
    · exact ho
    · exact h1 i hi
  · obtain rfl : b = ab := hb
    exact hn ⟨j,hj,hjb⟩
  · rintro e w' ⟨x, rfl, hf, hs⟩
    refine⟨x,rfl,hf,hs.os,hs.tape,hs.output,hs.size,fun b hb hnb=>?_,fun i hi=>hs.all i (List.mem_cons_of_mem _ hi),(List.pairwise_cons.1 hs.disj).2,fun i hi b hb=>?_⟩
    · by_cases e : b = ab
      · subst e
        rw[ho];exact hs.all (.ob b o) (by simp)
      · refine hs.old b hb ?_
        rintro ⟨j,hj,hjb⟩
        rcases List.mem_cons.1 hj with rfl | hj
        · exact e hjb
        · exact hnb ⟨j,hj,hjb⟩
    · rcases hs.fresh i (List.mem_cons_of_mem _ hi) b hb with h3 | ⟨j, hj, hjb⟩
      · exact .inl h3
      · rcases List.mem_cons.1 hj with rfl | hj
        · exact absurd hb ((List.pairwise_cons.1 hs.disj).1 i hi b hjb)
        · exact .inr ⟨j,hj,hjb⟩
end Go.Proofs.YtbedndijejpcaaaGreat
