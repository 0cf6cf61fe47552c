/- RefIns RecRef TreeOpen TreeMut -/
import Derived.Test.YtbedndijejpcaaaGreatH8
set_option linter.unusedVariables false
set_option linter.unusedSimpArgs false
set_option linter.unusedSectionVars false
set_option maxRecDepth 100000
set_option maxHeartbeats 8000000
namespace Go.Proofs.YtbedndijejpcaaaGreat
open Go.RowKit
theorem JU {l:List Int} {k:Nat} {y n:Int} (h:l[k]?=some y) (hn:y≠n):bQ (l.take (k+1)) n=bQ (l.take k) n++[y]:=by
  rw[df h,bQ,List.filter_append];simp[bQ,hn]
theorem I1 {l:List Int} {k:Nat} {y n:Int} (h:l[k]?=some y) (hn:y=n):bQ (l.take (k+1)) n=bQ (l.take k) n:=by
  rw[df h,bQ,List.filter_append];simp[bQ,hn]
theorem Cp (l:List Int) (n:Int):(bQ l n).length≤l.length:=List.length_filter_le _ _
theorem Src.cut {w:World} {A:Option Addr} {l:List Int} (h:Src w A l.length (l.map (Value.int .i64))) (lo m q:Nat) (hm:m=lo→l.drop lo=[]) (hq:q≤l.length - lo):Src w (dZ A lo m 1) q (((l.drop lo).take q).map (Value.int .i64)):=by
  rcases h with ⟨rfl,h0⟩ | ⟨b,o,rfl,hc⟩
  · exact .inl ⟨by unfold dZ;split<;>rfl,by omega⟩
  · unfold dZ
    split
    · rename_i e
      rw[hm e];exact .inr ⟨b,o,rfl,fun j u hj=>by simp at hj⟩
    · refine .inr ⟨b, o + lo * 1, by simp [Addr.add], fun j u hj => ?_⟩
      rw[List.getElem?_map,List.getElem?_take] at hj
      split at hj
      · rw [List.getElem?_drop] at hj
        have h1:=hc (lo+j) u (by rw[List.getElem?_map,hj]);rw[show o+lo*1+j=o+(lo+j) by omega];exact h1
      · cases hj
theorem Src.rd {w:World} {A:Option Addr} {l:List Int} (h:Src w A l.length (l.map (Value.int .i64))):vd w A l:=fun k x hx=>by
  have hk:=(List.getElem?_eq_some_iff.1 hx).1
  rcases h with ⟨rfl,h0⟩ | ⟨b,o,rfl,hc⟩
  · omega
  · refine ⟨b, o, rfl, fun j u hj => ?_⟩
    match j,hj with
    | 0, hj =>
      cases hj;have:=hc k (.int .i64 x) (by rw[List.getElem?_map,hx];rfl);rw[Nat.mul_one];exact this
    | j+1,hj=>simp at hj
theorem nZ (A:Option Addr) (c:Nat) (l:List Int) (n:Int) (hl:l.length≤5000):Ct Tryz.prog 135 #[.slice A l.length c,.int .i64 n] [] (fun w=>Src w A l.length (l.map (Value.int .i64))) (X:=Option Addr×Nat) (fun p=>.slice p.1 (bQ l n).length p.2) (fun _=>True) (fun p=>[az p.1 (bQ l n).length p.2 (bQ l n)]):=by
  refine Ci fun w0 hz0=>?_;have hz:=hz0.rd;refine eh ?_;refine av ?_;refine nl (oo ?_);refine eh ?_;refine av ?_;refine nl (oo ?_)
  iterate 2 refine sq ?_
  refine WP.pre ?_ (fun w hw=>hw.bB 3 1);refine gg ?_;refine WP.bm (X:=Nat×Option Addr×Nat) [0,1] (fun p=>[(6,.int .i64 (p.1:Int)),(5,.slice p.2.1 (bQ (l.take p.1) n).length p.2.2)]) (fun p w=>p.1≤l.length∧St w0 (ay []) [az p.2.1 (bQ (l.take p.1) n).length p.2.2 (bQ (l.take p.1) n)] w) (fun p=>l.length - p.1) (0,none,0) ⟨rfl,rfl,trivial⟩ (fun w hw=>⟨Nat.zero_le _,hw⟩) (fun p ρ0=>?_);obtain⟨k,zA,zc⟩:=p;dsimp only;refine WP.fact (fun hkl=>?_);refine gg ?_;refine WP.aw rfl (fun h10=>?_) (fun h10=>?_)
  ·obtain⟨y,hy⟩:∃y,l[k]?=some y:=⟨_,List.getElem?_eq_getElem (by omega)⟩;obtain⟨ab,ao,rfl,hc⟩:=hz k y hy;have hcl:=Cp (l.take k) n;rw[List.length_take] at hcl;refine gg ?_;refine vl (vO hc) ?_;refine gg ?_;refine WP.aw rfl (fun h18=>?_) (fun h18=>?_)
   ·have hck:=JU hy h18;refine gg ?_;refine vl (vO hc) ?_;refine aj.ef (xN (L1 rfl)) fun g24=>?_;refine aj.ef (xP 0 1) fun⟨A25,c25⟩=>?_;refine iX ?_;exact nl fun w hw=>⟨rfl,(k+1,A25,c25),(by simp only;omega),⟨rfl,(by show Value.slice A25 ((bQ (l.take k) n).length+1) c25=Value.slice A25 (bQ (l.take (k+1)) n).length c25;rw[hck,List.length_append];rfl),jS,jI,trivial⟩,⟨by simp only;omega,by have h:=(hw.sel [0] (by decide));rw[show az A25 (bQ (l.take (k+1)) n).length c25 (bQ (l.take (k+1)) n)=.row 3 1 A25 ((bQ (l.take k) n).length+1) c25 ((bQ (l.take k) n).map (Value.int .i64)++[.int .i64 y]) by rw[az,hck,List.length_append,List.map_append];rfl];exact h⟩⟩
   ·have hck:=I1 hy (Decidable.not_not.1 h18);refine cR ?_;exact nl fun w hw=>⟨rfl,(k+1,zA,zc),(by simp only;omega),⟨rfl,(by show Value.slice zA (bQ (l.take k) n).length zc=Value.slice zA (bQ (l.take (k+1)) n).length zc;rw[hck]),jS,jI,trivial⟩,⟨by simp only;omega,by rw[hck];exact hw.pk⟩⟩
  ·obtain rfl:k=l.length:=by omega
   rw[List.take_of_length_le (Nat.le_refl _)];refine WP.exit (an ?_);refine gg ?_;exact aT fun w hw=>⟨(zA,zc),rfl,trivial,hw⟩
theorem Dc (A:Option Addr) (c:Nat) (l:List Int) (k:Nat) (hk:k≤l.length) (hlc:l.length≤c) (n:Int) (hl:l.length≤5000):Ct Tryz.prog 138 #[.slice A l.length c,.int .i64 k,.int .i64 n] [] (fun w=>Src w A l.length (l.map (Value.int .i64))) (X:=Option Addr×Nat) (fun p=>.slice p.1 (l.length+1) p.2) (fun _=>True) (fun p=>[az p.1 (l.length+1) p.2 (bN l k n)]):=by
  refine Ci fun w0 hz=>?_;refine eh ?_;refine av ?_;refine nl (oo ?_);refine eh ?_;refine av ?_;refine nl (oo ?_);refine sq ?_;refine WP.pre ?_ (fun w hw=>hw.bB 3 1);refine bS ?_;refine vl (cD (kl:=0) (l:=0) (h:=k) Tryz.underlying49 Tryz.sizeOf3 rfl rfl ⟨rfl,rfl⟩ (by omega) (by omega)) ?_;refine aj.ef (cm (sz:=1) (σ':=fun _=>[_]) Tryz.underlying49 cT rfl (by decide) rfl rfl (i:=0) rfl (fun w hw=>(hw.ki hz (fun _ _=>ax _)).cut 0 c (k - 0) (fun e=>by rw[List.drop_eq_nil_of_le];omega) (by omega)) (by simp;omega) (kI _) (by omega) (by omega) (fun _=>rfl)) (fun⟨A12,c12⟩=>?_);refine gg ?_;refine aj.ef (xN (L1 rfl)) fun g15=>?_;refine aj.ef (xP 0 1) fun⟨A16,c16⟩=>?_;refine iX ?_;refine vl (cD (kh:=0) (l:=k) (h:=l.length) Tryz.underlying49 Tryz.sizeOf3 rfl ⟨rfl,rfl⟩ rfl (by omega) (by omega)) ?_;refine aj.ef (cm (sz:=1) (σ':=fun _=>[_,_]) Tryz.underlying49 cT rfl (by decide) rfl rfl (i:=0) rfl (fun w hw=>(hw.ki hz (fun _ _=>ax _)).cut k c (l.length - k) (fun e=>List.drop_eq_nil_of_le (by omega)) (by omega)) (by simp) (kI _) (by omega) (by omega) (fun _=>rfl)) (fun⟨A21,c21⟩=>?_);refine gg ?_;exact WP.cP Tryz.results138 (fun _ h=>h) (fun w hw=>⟨(A21,c21),by show Value.slice A21 _ c21=Value.slice A21 _ c21;congr 1;omega,trivial,by have h:=(hw.sel [0] (by decide));rw[show 0+(k - 0)+1+(l.length - k)=l.length+1 by omega,show ([]:List Value)++((l.drop 0).take (k - 0)).map (Value.int .i64)++[.int .i64 n]++((l.drop k).take (l.length - k)).map (Value.int .i64)=(bN l k n).map (Value.int .i64) by rw[show (l.drop k).take (l.length - k)=l.drop k from List.take_of_length_le (by rw[List.length_drop];exact Nat.le_refl _)];simp[bN]] at h;exact h⟩)
def LS (F:ar (List Value)) (x:Int) (l:List Int) (k:Nat):List Int:=x::(l.take k).flatMap (sub F)
theorem Dm (F:ar (List Value)) (x:Int) {l:List Int} {k:Nat} {y:Int} (h:l[k]?=some y):LS F x l (k+1)=LS F x l k++sub F y:=by
  unfold LS;rw[df h,List.flatMap_append];simp
theorem Yq (F:ar (List Value)) (x:Int) (l:List Int) (k:Nat):(LS F x l k).length≤(x::l.flatMap (sub F)).length:=by
  have h:l.flatMap (sub F)=(l.take k).flatMap (sub F)++(l.drop k).flatMap (sub F):=by rw[←List.flatMap_append,List.take_append_drop]
  rw[h];simp only[LS,List.length_cons,List.length_append];omega
theorem oH (rp g bc:Nat) (bs:List RB) (hk:lg bs) {d:Int→Nat} (hF:WF (aD bs) d) (x:Int)
    (ih:∀kid∈aH (aD bs) x,Ct Tryz.prog 55 #[.pointer (some ⟨rp,0,none⟩),.int .i64 kid] [dI rp g bc bs] (fun _=>True) (X:=Option Addr×Nat) (fun p=>.slice p.1 (sub (aD bs) kid).length p.2) (fun _=>True) (fun p=>[dI rp g bc bs,az p.1 (sub (aD bs) kid).length p.2 (sub (aD bs) kid)])):
    Ct Tryz.prog 55 #[.pointer (some ⟨rp,0,none⟩),.int .i64 x] [dI rp g bc bs] (fun _=>True) (X:=Option Addr×Nat) (fun p=>.slice p.1 (sub (aD bs) x).length p.2) (fun _=>True) (fun p=>[dI rp g bc bs,az p.1 (sub (aD bs) x).length p.2 (sub (aD bs) x)]):=by
  refine Ci fun w0 _=>?_;refine gg ?_;refine eF (xC (j0 rp g bc bs hk x)) fun _ _=>?_;refine gg ?_;refine WP.cond rfl (fun h10=>?_) (fun h10=>?_)
  ·have hno:aK (aD bs) x=false:=by simpa using h10
   have hnil:sub (aD bs) x=[]:=mo (tQ hno);refine gg ?_;exact aT fun w hw=>⟨(none,0),by rw[hnil];rfl,trivial,by rw[hnil];exact hw.bB 3 1⟩
  ·obtain⟨i,b,rfl,hb,hl⟩:=fv (bs:=bs) (x:=x) (by simpa using h10);have hbb:=c8 hb hl;have hib:=(List.getElem?_eq_some_iff.1 hb).1;have hsub:=hF.sub_eq hbb;have hkb:b.kids.length≤4096:=hF.j5 hbb;have hsl:=hF.e6 (i:Int);refine gg ?_;refine aj.ef (xN (L1 rfl)) fun g12=>?_;refine gg ?_;refine WP.bm (X:=Nat×Option Addr×Nat) [0,1] (fun p=>[(6,.int .i64 (p.1:Int)),(5,.slice p.2.1 (LS (aD bs) i b.kids p.1).length p.2.2)]) (fun p w=>p.1≤b.kids.length∧St w0 (ay [dI rp g bc bs]) [dI rp g bc bs,az p.2.1 (LS (aD bs) i b.kids p.1).length p.2.2 (LS (aD bs) i b.kids p.1)] w) (fun p=>b.kids.length - p.1) (0,some ⟨g12,0,none⟩,1) ⟨rfl,rfl,trivial⟩ (fun w hw=>⟨Nat.zero_le _,(hw.sel [0,1] (by decide))⟩) (fun p ρ0=>?_);obtain⟨k,zA,zc⟩:=p;dsimp only;refine WP.fact (fun hkl=>?_);refine iX ?_;refine vl (ai (u:=.slice _ _ _) Tryz.isAgg153 rfl (fun w hw=>hw.lR (i:=0) rfl)) ?_;refine cK ?_;refine vl (ai (u:=.slice _ _ _) Tryz.isAgg49 rfl (fun w hw=>hw.wJ (i:=0) rfl hk hb 2 (us:=[.slice b.A b.kids.length b.c]) rfl)) ?_;refine gg ?_;refine WP.aw rfl (fun h23=>?_) (fun h23=>?_)
   ·obtain⟨kid,hkid⟩:∃kid,b.kids[k]?=some kid:=⟨_,List.getElem?_eq_getElem (by omega)⟩;have hl1:=Yq (aD bs) i b.kids k;simp only at hsub;rw[←hsub] at hl1;have hl2:=hF.e6 kid;refine WP.holds (p:=∃kb ko,b.A=some ⟨kb,ko,none⟩) (fun w hw=>by obtain⟨kb,ko,e1,_⟩:=(hw.x5 (i:=0) rfl hb).1 k kid hkid;exact⟨kb,ko,e1⟩) (fun⟨kb,ko,hbA⟩=>?_);refine JW ?_;refine vl (ai (u:=.slice _ _ _) Tryz.isAgg153 rfl (fun w hw=>hw.lR (i:=0) rfl)) ?_;refine cK ?_;refine vl (ai (u:=.slice _ _ _) Tryz.isAgg49 rfl (fun w hw=>hw.wJ (i:=0) rfl hk hb 2 (us:=[.slice b.A b.kids.length b.c]) rfl)) ?_;refine av ?_;rw[hbA];refine av ?_;refine vl (ai (u:=.int .i64 _) Tryz.isAgg3 rfl (fun w hw=>by obtain⟨b1,o1,e1,hc⟩:=(hw.x5 (i:=0) rfl hb).1 k kid hkid;rw[hbA] at e1;cases e1;exact hc)) ?_;refine eF (xC (ih kid (by rw[cj hbb];exact List.mem_of_getElem? hkid))) fun⟨A39,c39⟩ _=>?_;refine aj.ef (xP 0 2 (hl:=by simp) (h1:=kI _)) fun⟨A40,c40⟩=>?_;refine iX ?_;exact nl fun w hw=>⟨rfl,(k+1,A40,c40),(by simp only;omega),⟨rfl,(by show Value.slice A40 ((LS (aD bs) i b.kids k).length+(sub (aD bs) kid).length) c40=Value.slice A40 (LS (aD bs) i b.kids (k+1)).length c40;rw[Dm _ _ hkid,List.length_append]),jP,jI,trivial⟩,⟨by simp only;omega,by have h:=(hw.sel [1,0] (by decide));simp only;rw[show az A40 (LS (aD bs) i b.kids (k+1)).length c40 (LS (aD bs) i b.kids (k+1))=.row 3 1 A40 ((LS (aD bs) i b.kids k).length+(sub (aD bs) kid).length) c40 ((LS (aD bs) i b.kids k).map (Value.int .i64)++(sub (aD bs) kid).map (Value.int .i64)) by rw[az,Dm _ _ hkid,List.length_append,List.map_append]];exact h⟩⟩
   ·obtain rfl:k=b.kids.length:=by omega
    have hsub2:(sub (aD bs) i)=(LS (aD bs) i b.kids b.kids.length):=by rw[hsub,LS,List.take_of_length_le (Nat.le_refl _)]
    refine WP.exit (an ?_);refine gg ?_;exact aT fun w hw=>⟨(zA,zc),by rw[hsub2];rfl,trivial,by rw[hsub2];exact hw.pk⟩
theorem ra (rp g bc:Nat) (bs:List RB) (hk:lg bs) {d:Int→Nat} (hF:WF (aD bs) d):∀(n:Nat) (x:Int),64≤n+d x→
    Ct Tryz.prog 55 #[.pointer (some ⟨rp,0,none⟩),.int .i64 x] [dI rp g bc bs] (fun _=>True) (X:=Option Addr×Nat) (fun p=>.slice p.1 (sub (aD bs) x).length p.2) (fun _=>True) (fun p=>[dI rp g bc bs,az p.1 (sub (aD bs) x).length p.2 (sub (aD bs) x)])
  | 0, x, hn => oH rp g bc bs hk hF x fun kid hm => by
    cases e:aD bs x with
    | none=>simp[aH,e] at hm
    | some b=>have:=hF.deep x b e;omega
  | n + 1, x, hn => oH rp g bc bs hk hF x fun kid hm => by
    cases e:aD bs x with
    | none=>simp[aH,e] at hm
    | some b =>
      rw[cj e] at hm;have:=hF.gr e hm;exact ra rp g bc bs hk hF n kid (by omega)
theorem lC (rp g bc:Nat) (bs:List RB) (hk:lg bs) {d:Int→Nat} (hF:WF (aD bs) d) (x:Int):
    Ct Tryz.prog 55 #[.pointer (some ⟨rp,0,none⟩),.int .i64 x] [dI rp g bc bs] (fun _=>True) (X:=Option Addr×Nat) (fun p=>.slice p.1 (sub (aD bs) x).length p.2) (fun _=>True) (fun p=>[dI rp g bc bs,az p.1 (sub (aD bs) x).length p.2 (sub (aD bs) x)]):=
  ra rp g bc bs hk hF 64 x (by omega)
theorem JK (rp g bc:Nat) (bs:List RB) (hk:lg bs) {d:Int→Nat} (hF:WF (aD bs) d):
    Ct Tryz.prog 140 #[.pointer (some ⟨rp,0,none⟩)] [dI rp g bc bs] (fun _=>True) (X:=Unit) (fun _=>.int .i64 (jK (aD bs))) (fun _=>True) (fun _=>[dI rp g bc bs]):=by
  refine Ci fun w0 _=>?_;refine gg ?_;refine eF (xC (lC rp g bc bs hk hF 0)) fun⟨A4,c4⟩ _=>?_;refine gg ?_;exact aT fun w hw=>⟨(),rfl,trivial,hw.pk⟩
theorem aad {l:List Int} {k:Nat} {x:Int} (h:l[k]?=some x):(l.map (Value.int .i64))[k]?=some (.int .i64 x):=by rw[List.getElem?_map,h];rfl
theorem acm {cs:List Value} (hs:bZ cs):∀(n o:Nat),o+n≤55→(EI cs).take o++(List.range' o n).map (val cs)=(EI cs).take (o+n)
  | 0,o,_=>by simp
  | n + 1, o, h => by
    rw[List.range'_succ,List.map_cons,←List.singleton_append,←List.append_assoc,hs.step o (by omega),acm hs n (o+1) (by omega)]
    congr 1;omega
def xF:List Nat:=[3,5,7,9,11,13,41,15,23,17,25,19,27,21,29]
def wR:List Nat:=[46,53,54,31,35,32,36,33,37,34,38]
def lZ (cs:List Value):List (Int×Int):=xF.map fun j=>(val cs j,val cs (j+1))
def jx (cs:List Value):List Int:=wR.map (val cs)
def iS (cs:List Value):Bool:=within (val cs 0) 0 3&&within (val cs 1) 0 4&&within (val cs 2) 0 2&&within (val cs 43) 0 5&&within (val cs 44) 0 3&&within (val cs 49) 0 2&&within (val cs 50) 0 3
theorem lO (cs:List Value):bg cs=(iS cs&&(lZ cs).all (fun p=>jt p.1 p.2)&&(jx cs).all (fun n=>within n 0 1048576)&&within (val cs 39) 0 1000&&within (val cs 40) 0 1000&&within (val cs 48) (-1048576) 1048576):=by
  have h1:(lZ cs).all (fun p=>jt p.1 p.2)=lU cs:=by
    unfold lU lZ ou;rw[←rW (fun p:Int×Int=>jt p.1 p.2)];exact y5 (List.Perm.map _ (by decide))
  have h2:(jx cs).all (fun n=>within n 0 1048576)=iQ cs:=by
    unfold iQ jx lN;rw[←rW (fun n:Int=>within n 0 1048576)];exact y5 (List.Perm.map _ (by decide))
  rw[h1,h2];unfold bg iS j7 mC;simp only[Bool.and_assoc]
theorem pU {α:Type} {p:α→Bool} {l:List α} {k:Nat} {x:α} (hx:l[k]?=some x):(l.take (k+1)).all p=((l.take k).all p&&p x):=by
  rw[List.take_add_one,hx,List.all_append];simp
theorem EO (cs:List Value) (hs:bZ cs):Ct Tryz.prog 139 #[.agg cs.toArray] [] (fun _=>True) (X:=Unit) (fun _=>.bool (bg cs)) (fun _=>True) (fun _=>[]):=by
  refine Ci fun w0 _=>?_;refine gg ?_;refine aj.ef (xB (us:=cs)) fun sty=>?_;refine bW ?_;refine WP.uo [1] [(3,.bool (iS cs))] ?_ (fun ρ0=>?_)
  ·refine bW ?_;refine vl (ai (u:=.int .i64 _) Tryz.isAgg28 rfl (fun w hw=>hw.aq (i:=0) rfl 0 (cell_of (hs.int 0 (by decide) (by decide))))) ?_;refine vl (vC (eu _ _ _ _)) ?_;refine av ?_;refine aj.aY 12 rfl (fun h12=>?_) (fun h12=>?_)
   ·refine ag ?_;refine vg (ai (u:=.int .i64 _) Tryz.isAgg29 rfl (fun w hw=>hw.aq (i:=0) rfl 1 (cell_of (hs.int 1 (by decide) (by decide))))) ?_;refine vg (vC (eu _ _ _ _)) ?_;refine bW ?_;refine aj.aY 17 rfl (fun h17=>?_) (fun h17=>?_)
    ·refine ag ?_;refine vg (ai (u:=.int .i64 _) Tryz.isAgg30 rfl (fun w hw=>hw.aq (i:=0) rfl 2 (cell_of (hs.int 2 (by decide) (by decide))))) ?_;refine vg (vC (eu _ _ _ _)) ?_;refine bW ?_;refine aj.aY 22 rfl (fun h22=>?_) (fun h22=>?_)
     ·refine ag ?_;refine vg (ai (u:=.int .i64 _) Tryz.isAgg36 rfl (fun w hw=>hw.aq (i:=0) rfl 43 (cell_of (hs.int 43 (by decide) (by decide))))) ?_;refine vg (vC (eu _ _ _ _)) ?_;refine bW ?_;refine aj.aY 27 rfl (fun h27=>?_) (fun h27=>?_)
      ·refine ag ?_;refine vg (ai (u:=.int .i64 _) Tryz.isAgg37 rfl (fun w hw=>hw.aq (i:=0) rfl 44 (cell_of (hs.int 44 (by decide) (by decide))))) ?_;refine vg (vC (eu _ _ _ _)) ?_;refine bW ?_;refine aj.aY 32 rfl (fun h32=>?_) (fun h32=>?_)
       ·refine ag ?_;refine vg (ai (u:=.int .i64 _) Tryz.isAgg38 rfl (fun w hw=>hw.aq (i:=0) rfl 49 (cell_of (hs.int 49 (by decide) (by decide))))) ?_;refine vg (vC (eu _ _ _ _)) ?_;refine bW ?_;refine aj.aY 37 rfl (fun h37=>?_) (fun h37=>?_)
        ·refine ag ?_;refine vg (ai (u:=.int .i64 _) Tryz.isAgg39 rfl (fun w hw=>hw.aq (i:=0) rfl 50 (cell_of (hs.int 50 (by decide) (by decide))))) ?_;refine vg (vC (eu _ _ _ _)) ?_;refine bW ?_;exact nl fun w hw=>⟨rfl,⟨(congrArg Value.bool (by simp only[iS, *,Bool.and_true,Bool.and_false,Bool.true_and,Bool.false_and,Bool.not_true,Bool.not_false])),rfl,trivial⟩,hw⟩
        ·refine cR ?_;exact nl fun w hw=>⟨rfl,⟨(congrArg Value.bool (by simp only[iS, *,Bool.and_true,Bool.and_false,Bool.true_and,Bool.false_and,Bool.not_true,Bool.not_false])),rfl,trivial⟩,hw⟩
       ·refine Ja ?_;exact nl fun w hw=>⟨rfl,⟨(congrArg Value.bool (by simp only[iS, *,Bool.and_true,Bool.and_false,Bool.true_and,Bool.false_and,Bool.not_true,Bool.not_false])),rfl,trivial⟩,hw⟩
      ·refine Lx ?_;exact nl fun w hw=>⟨rfl,⟨(congrArg Value.bool (by simp only[iS, *,Bool.and_true,Bool.and_false,Bool.true_and,Bool.false_and,Bool.not_true,Bool.not_false])),rfl,trivial⟩,hw⟩
     ·iterate 3 refine sk ?_
      iterate 2 refine av ?_
      iterate 3 refine sk ?_
      iterate 2 refine av ?_
      iterate 3 refine sk ?_
      iterate 2 refine av ?_
      iterate 3 refine sk ?_
      iterate 2 refine av ?_
      exact nl fun w hw=>⟨rfl,⟨(congrArg Value.bool (by simp only[iS, *,Bool.and_true,Bool.and_false,Bool.true_and,Bool.false_and,Bool.not_true,Bool.not_false])),rfl,trivial⟩,hw⟩
    ·iterate 3 refine sk ?_
     iterate 2 refine av ?_
     iterate 3 refine sk ?_
     iterate 2 refine av ?_
     iterate 3 refine sk ?_
     iterate 2 refine av ?_
     iterate 3 refine sk ?_
     iterate 2 refine av ?_
     iterate 3 refine sk ?_
     iterate 2 refine av ?_
     exact nl fun w hw=>⟨rfl,⟨(congrArg Value.bool (by simp only[iS, *,Bool.and_true,Bool.and_false,Bool.true_and,Bool.false_and,Bool.not_true,Bool.not_false])),rfl,trivial⟩,hw⟩
   ·iterate 3 refine sk ?_
    iterate 2 refine av ?_
    iterate 3 refine sk ?_
    iterate 2 refine av ?_
    iterate 3 refine sk ?_
    iterate 2 refine av ?_
    iterate 3 refine sk ?_
    iterate 2 refine av ?_
    iterate 3 refine sk ?_
    iterate 2 refine av ?_
    iterate 3 refine sk ?_
    iterate 2 refine av ?_
    exact nl fun w hw=>⟨rfl,⟨(congrArg Value.bool (by simp only[iS, *,Bool.and_true,Bool.and_false,Bool.true_and,Bool.false_and,Bool.not_true,Bool.not_false])),rfl,trivial⟩,hw⟩
  ·refine bW ?_;refine vl (au (cs:=[.int .i64 _,.int .i64 _]) Tryz.isAgg33 Tryz.sizeOf33 rfl (fun w hw=>hw.aq (i:=0) rfl 3 (hs.gu 2 3 (by decide) (by decide) rfl rfl))) ?_;refine av ?_;refine vl (au (cs:=[.int .i64 _,.int .i64 _]) Tryz.isAgg33 Tryz.sizeOf33 rfl (fun w hw=>hw.aq (i:=0) rfl 5 (hs.gu 2 5 (by decide) (by decide) rfl rfl))) ?_;refine av ?_;refine vl (au (cs:=[.int .i64 _,.int .i64 _]) Tryz.isAgg33 Tryz.sizeOf33 rfl (fun w hw=>hw.aq (i:=0) rfl 7 (hs.gu 2 7 (by decide) (by decide) rfl rfl))) ?_;refine av ?_;refine vl (au (cs:=[.int .i64 _,.int .i64 _]) Tryz.isAgg33 Tryz.sizeOf33 rfl (fun w hw=>hw.aq (i:=0) rfl 9 (hs.gu 2 9 (by decide) (by decide) rfl rfl))) ?_;refine av ?_;refine vl (au (cs:=[.int .i64 _,.int .i64 _]) Tryz.isAgg33 Tryz.sizeOf33 rfl (fun w hw=>hw.aq (i:=0) rfl 11 (hs.gu 2 11 (by decide) (by decide) rfl rfl))) ?_;refine av ?_;refine vl (au (cs:=[.int .i64 _,.int .i64 _]) Tryz.isAgg33 Tryz.sizeOf33 rfl (fun w hw=>hw.aq (i:=0) rfl 13 (hs.gu 2 13 (by decide) (by decide) rfl rfl))) ?_;refine av ?_;refine vl (au (cs:=[.int .i64 _,.int .i64 _]) Tryz.isAgg33 Tryz.sizeOf33 rfl (fun w hw=>hw.aq (i:=0) rfl 41 (hs.gu 2 41 (by decide) (by decide) rfl rfl))) ?_;refine aj.ef (xN rfl (us:=[.int .i64 _,.int .i64 _,.int .i64 _,.int .i64 _,.int .i64 _,.int .i64 _,.int .i64 _,.int .i64 _,.int .i64 _,.int .i64 _,.int .i64 _,.int .i64 _,.int .i64 _,.int .i64 _])) fun g56=>?_;refine bS ?_;refine vl (ai (u:=.int .i64 _) Tryz.isAgg3 rfl (fun w hw=>hw.aq (i:=0) rfl 46 (cell_of (hs.int 46 (by decide) (by decide))))) ?_;refine bW ?_;refine vl (ai (u:=.int .i64 _) Tryz.isAgg3 rfl (fun w hw=>hw.aq (i:=0) rfl 53 (cell_of (hs.int 53 (by decide) (by decide))))) ?_;refine bW ?_;refine vl (ai (u:=.int .i64 _) Tryz.isAgg3 rfl (fun w hw=>hw.aq (i:=0) rfl 54 (cell_of (hs.int 54 (by decide) (by decide))))) ?_;refine aj.ef (xN rfl (us:=[.int .i64 _,.int .i64 _,.int .i64 _])) fun g65=>?_;refine gg ?_;refine WP.jH 5 ?_;refine fS.succ ?_;refine gg ?_;refine WP.aQ rfl ?_;refine gg ?_;refine wP none [0,2] [pT 0,pT 1,pT 2,pT 3,pT 4,pT 5,pT 6,pT 7,pT 8,pF 9,pF 10,pT 11] ?_;refine bS ?_;refine tE rfl (au (cs:=[.int .i64 _,.int .i64 _]) Tryz.isAgg33 Tryz.sizeOf33 rfl (fun w hw=>hw.aq (i:=0) rfl 15 (hs.gu 2 15 (by decide) (by decide) rfl rfl))) ?_;refine cK ?_;refine tE rfl (au (cs:=[.int .i64 _,.int .i64 _]) Tryz.isAgg33 Tryz.sizeOf33 rfl (fun w hw=>hw.aq (i:=0) rfl 23 (hs.gu 2 23 (by decide) (by decide) rfl rfl))) ?_;refine dE (xN rfl (us:=[.int .i64 _,.int .i64 _,.int .i64 _,.int .i64 _])) fun g79=>?_;refine aB.ef rfl (cm (sz:=2) (σ':=fun _=>[_,_,_,_]) Tryz.underlying156 mj rfl (by decide) rfl rfl (i:=1) rfl (fun w hw=>hw.fk (i:=3) rfl) rfl (by simp[Value.oneCell']) (by decide) (by decide) (fun _=>rfl)) (fun _ _ _ h=>h.sel [0,2] (by decide)) (fun⟨A80_0,c80_0⟩=>?_);refine gg ?_;refine wP none [0,1,3] [pT 0,pT 1,pT 2,pT 3,pT 4,pT 5,pT 6,pT 7,pT 8,pF 9,pF 10,pT 11] ?_
   refine bS ?_;refine tE rfl (ai (u:=.int .i64 _) Tryz.isAgg3 rfl (fun w hw=>hw.aq (i:=0) rfl 31 (cell_of (hs.int 31 (by decide) (by decide))))) ?_;refine cK ?_;refine tE rfl (ai (u:=.int .i64 _) Tryz.isAgg3 rfl (fun w hw=>hw.aq (i:=0) rfl 35 (cell_of (hs.int 35 (by decide) (by decide))))) ?_;refine dE (xN (L2 rfl)) fun g90=>?_;refine aB.ef rfl (cm (sz:=1) (σ':=fun _=>[_,_,_,_,_]) Tryz.underlying49 cT rfl (by decide) rfl rfl (i:=2) rfl (fun w hw=>hw.fk (i:=4) rfl) rfl (by simp[Value.oneCell']) (by decide) (by decide) (fun _=>rfl)) (fun _ _ _ h=>h.sel [0,1,3] (by decide)) (fun⟨A91_0,c91_0⟩=>?_);refine iX ?_;refine aj.nil (aI ?_);refine fS.succ ?_;refine gg ?_;refine WP.aQ rfl ?_;refine gg ?_;refine wP none [0,2,3,4] [pT 0,pT 1,pT 2,pT 3,pT 4,pT 5,pT 6,pT 7,pT 8,pF 9,pF 10,pT 11] ?_;refine bS ?_;refine tE rfl (au (cs:=[.int .i64 _,.int .i64 _]) Tryz.isAgg33 Tryz.sizeOf33 rfl (fun w hw=>hw.aq (i:=0) rfl 17 (hs.gu 2 17 (by decide) (by decide) rfl rfl))) ?_;refine cK ?_;refine tE rfl (au (cs:=[.int .i64 _,.int .i64 _]) Tryz.isAgg33 Tryz.sizeOf33 rfl (fun w hw=>hw.aq (i:=0) rfl 25 (hs.gu 2 25 (by decide) (by decide) rfl rfl))) ?_;refine dE (xN rfl (us:=[.int .i64 _,.int .i64 _,.int .i64 _,.int .i64 _])) fun g79=>?_;refine aB.ef rfl (cm (sz:=2) (σ':=fun _=>[_,_,_,_,_,_]) Tryz.underlying156 mj rfl (by decide) rfl rfl (i:=1) rfl (fun w hw=>hw.fk (i:=5) rfl) rfl (by simp[Value.oneCell']) (by decide) (by decide) (fun _=>rfl)) (fun _ _ _ h=>h.sel [0,2,3,4] (by decide)) (fun⟨A80_1,c80_1⟩=>?_);refine gg ?_;refine wP none [0,1,3,4,5] [pT 0,pT 1,pT 2,pT 3,pT 4,pT 5,pT 6,pT 7,pT 8,pF 9,pF 10,pT 11] ?_;refine bS ?_;refine tE rfl (ai (u:=.int .i64 _) Tryz.isAgg3 rfl (fun w hw=>hw.aq (i:=0) rfl 32 (cell_of (hs.int 32 (by decide) (by decide))))) ?_;refine cK ?_;refine tE rfl (ai (u:=.int .i64 _) Tryz.isAgg3 rfl (fun w hw=>hw.aq (i:=0) rfl 36 (cell_of (hs.int 36 (by decide) (by decide))))) ?_;refine dE (xN (L2 rfl)) fun g90=>?_;refine aB.ef rfl (cm (sz:=1) (σ':=fun _=>[_,_,_,_,_,_,_]) Tryz.underlying49 cT rfl (by decide) rfl rfl (i:=2) rfl (fun w hw=>hw.fk (i:=6) rfl) rfl (by simp[Value.oneCell']) (by decide) (by decide) (fun _=>rfl)) (fun _ _ _ h=>h.sel [0,1,3,4,5] (by decide)) (fun⟨A91_1,c91_1⟩=>?_);refine iX ?_;refine aj.nil (aI ?_);refine fS.succ ?_;refine gg ?_;refine WP.aQ rfl ?_;refine gg ?_;refine wP none [0,2,3,4,5,6] [pT 0,pT 1,pT 2,pT 3,pT 4,pT 5,pT 6,pT 7,pT 8,pF 9,pF 10,pT 11] ?_;refine bS ?_;refine tE rfl (au (cs:=[.int .i64 _,.int .i64 _]) Tryz.isAgg33 Tryz.sizeOf33 rfl (fun w hw=>hw.aq (i:=0) rfl 19 (hs.gu 2 19 (by decide) (by decide) rfl rfl))) ?_;refine cK ?_;refine tE rfl (au (cs:=[.int .i64 _,.int .i64 _]) Tryz.isAgg33 Tryz.sizeOf33 rfl (fun w hw=>hw.aq (i:=0) rfl 27 (hs.gu 2 27 (by decide) (by decide) rfl rfl))) ?_;refine dE (xN rfl (us:=[.int .i64 _,.int .i64 _,.int .i64 _,.int .i64 _])) fun g79=>?_
   refine aB.ef rfl (cm (sz:=2) (σ':=fun _=>[_,_,_,_,_,_,_,_]) Tryz.underlying156 mj rfl (by decide) rfl rfl (i:=1) rfl (fun w hw=>hw.fk (i:=7) rfl) rfl (by simp[Value.oneCell']) (by decide) (by decide) (fun _=>rfl)) (fun _ _ _ h=>h.sel [0,2,3,4,5,6] (by decide)) (fun⟨A80_2,c80_2⟩=>?_);refine gg ?_;refine wP none [0,1,3,4,5,6,7] [pT 0,pT 1,pT 2,pT 3,pT 4,pT 5,pT 6,pT 7,pT 8,pF 9,pF 10,pT 11] ?_;refine bS ?_;refine tE rfl (ai (u:=.int .i64 _) Tryz.isAgg3 rfl (fun w hw=>hw.aq (i:=0) rfl 33 (cell_of (hs.int 33 (by decide) (by decide))))) ?_;refine cK ?_;refine tE rfl (ai (u:=.int .i64 _) Tryz.isAgg3 rfl (fun w hw=>hw.aq (i:=0) rfl 37 (cell_of (hs.int 37 (by decide) (by decide))))) ?_;refine dE (xN (L2 rfl)) fun g90=>?_;refine aB.ef rfl (cm (sz:=1) (σ':=fun _=>[_,_,_,_,_,_,_,_,_]) Tryz.underlying49 cT rfl (by decide) rfl rfl (i:=2) rfl (fun w hw=>hw.fk (i:=8) rfl) rfl (by simp[Value.oneCell']) (by decide) (by decide) (fun _=>rfl)) (fun _ _ _ h=>h.sel [0,1,3,4,5,6,7] (by decide)) (fun⟨A91_2,c91_2⟩=>?_);refine iX ?_;refine aj.nil (aI ?_);refine fS.succ ?_;refine gg ?_;refine WP.aQ rfl ?_;refine gg ?_;refine wP none [0,2,3,4,5,6,7,8] [pT 0,pT 1,pT 2,pT 3,pT 4,pT 5,pT 6,pT 7,pT 8,pF 9,pF 10,pT 11] ?_;refine bS ?_;refine tE rfl (au (cs:=[.int .i64 _,.int .i64 _]) Tryz.isAgg33 Tryz.sizeOf33 rfl (fun w hw=>hw.aq (i:=0) rfl 21 (hs.gu 2 21 (by decide) (by decide) rfl rfl))) ?_;refine cK ?_;refine tE rfl (au (cs:=[.int .i64 _,.int .i64 _]) Tryz.isAgg33 Tryz.sizeOf33 rfl (fun w hw=>hw.aq (i:=0) rfl 29 (hs.gu 2 29 (by decide) (by decide) rfl rfl))) ?_;refine dE (xN rfl (us:=[.int .i64 _,.int .i64 _,.int .i64 _,.int .i64 _])) fun g79=>?_;refine aB.ef rfl (cm (sz:=2) (σ':=fun _=>[_,_,_,_,_,_,_,_,_,_]) Tryz.underlying156 mj rfl (by decide) rfl rfl (i:=1) rfl (fun w hw=>hw.fk (i:=9) rfl) rfl (by simp[Value.oneCell']) (by decide) (by decide) (fun _=>rfl)) (fun _ _ _ h=>h.sel [0,2,3,4,5,6,7,8] (by decide)) (fun⟨A80_3,c80_3⟩=>?_);refine gg ?_;refine wP none [0,1,3,4,5,6,7,8,9] [pT 0,pT 1,pT 2,pT 3,pT 4,pT 5,pT 6,pT 7,pT 8,pF 9,pF 10,pT 11] ?_;refine bS ?_;refine tE rfl (ai (u:=.int .i64 _) Tryz.isAgg3 rfl (fun w hw=>hw.aq (i:=0) rfl 34 (cell_of (hs.int 34 (by decide) (by decide))))) ?_;refine cK ?_;refine tE rfl (ai (u:=.int .i64 _) Tryz.isAgg3 rfl (fun w hw=>hw.aq (i:=0) rfl 38 (cell_of (hs.int 38 (by decide) (by decide))))) ?_;refine dE (xN (L2 rfl)) fun g90=>?_;refine aB.ef rfl (cm (sz:=1) (σ':=fun _=>[_,_,_,_,_,_,_,_,_,_,_]) Tryz.underlying49 cT rfl (by decide) rfl rfl (i:=2) rfl (fun w hw=>hw.fk (i:=10) rfl) rfl (by simp[Value.oneCell']) (by decide) (by decide) (fun _=>rfl)) (fun _ _ _ h=>h.sel [0,1,3,4,5,6,7,8,9] (by decide)) (fun⟨A91_3,c91_3⟩=>?_);refine iX ?_;refine aj.nil (aI ?_);refine fS.succ ?_;refine gg ?_;refine WP.br rfl ?_;refine WP.exit (an ?_)
   iterate 2 refine sq ?_
   refine WP.holds (fun w hw=>hw.aM (i:=1) rfl (by decide)) (fun⟨lb,hA⟩=>?_);subst hA;refine WP.holds (fun w hw=>hw.aM (i:=2) rfl (by decide)) (fun⟨nb,hA⟩=>?_);subst hA;refine gg ?_;refine WP.bm (X:=Nat) [1,4,5] (fun k=>[(3,.bool (iS cs&&((lZ cs).take k).all (fun p=>jt p.1 p.2))),(7,.int .i64 (k:Int))]) (fun k w=>k≤15∧St w0 (ay []) [.cl sty 42 cs,.row 33 2 (some ⟨lb,0,none⟩) (7+2+2+2+2) c80_3 ((lZ cs).flatMap RC),.row 3 1 (some ⟨nb,0,none⟩) (3+2+2+2+2) c91_3 ((jx cs).map (Value.int .i64))] w) (fun k=>15 - k) 0 ⟨congrArg Value.bool (by simp),rfl,trivial⟩ (fun w hw=>⟨by omega,(hw.sel [0,1,2] (by decide))⟩) (fun k ρ0=>?_);refine WP.fact (fun hk=>?_);refine gg ?_;refine WP.aw rfl (fun h95=>?_) (fun h95=>?_)
   ·have hk15:k<15:=by omega
    obtain⟨x,hx⟩:∃x,(lZ cs)[k]?=some x:=⟨_,List.getElem?_eq_getElem (by simp[lZ,xF];omega)⟩;refine iX ?_;refine aj.aY 99 rfl (fun h99=>?_) (fun h99=>?_)
    ·refine cK ?_;refine vg (au (cs:=[.int .i64 _,.int .i64 _]) Tryz.isAgg33 Tryz.sizeOf33 rfl (fun w hw=>hw.dH (i:=1) rfl _ (fun j u hj=>by rw[Nat.zero_add];exact(jZ (sz:=2) (fun _=>rfl) (lZ cs) k j x hx (by have:=(List.getElem?_eq_some_iff.1 hj).1;exact this)).trans hj))) ?_;refine aj.kn (xC (xQ x.1 x.2)) (fun _=>?_);refine aj.fact (fun _=>?_);refine qa ?_;exact nl fun w hw=>⟨rfl,k+1,(by omega),⟨(congrArg Value.bool (by rw[pU hx,←Bool.and_assoc,h99];first | rfl | exact(Bool.true_and _).symm)),rfl,rfl,jS,jS,trivial⟩,by omega,hw.pk⟩
    ·refine uE ?_;exact nl fun w hw=>⟨rfl,k+1,(by omega),⟨(congrArg Value.bool (by rw[pU hx,←Bool.and_assoc,h99];first | rfl | exact(Bool.true_and _).symm)),rfl,rfl,jS,jS,trivial⟩,by omega,hw.pk⟩
   ·obtain rfl:k=15:=by omega
    have hall:(lZ cs).take 15=lZ cs:=List.take_of_length_le (by simp[lZ,xF]);refine WP.exit (an ?_);refine gg ?_;refine WP.bm (X:=Nat) [1,5] (fun k=>[(3,.bool (iS cs&&(lZ cs).all (fun p=>jt p.1 p.2)&&((jx cs).take k).all (fun n=>within n 0 1048576))),(8,.int .i64 (k:Int))]) (fun k w=>k≤11∧St w0 (ay []) [.cl sty 42 cs,.row 3 1 (some ⟨nb,0,none⟩) (3+2+2+2+2) c91_3 ((jx cs).map (Value.int .i64))] w) (fun k=>11 - k) 0 ⟨congrArg Value.bool (by simp[hall]),rfl,trivial⟩ (fun w hw=>⟨by omega,(hw.sel [0,2] (by decide))⟩) (fun k ρ0=>?_);refine WP.fact (fun hk=>?_);refine gg ?_;refine WP.aw rfl (fun h109=>?_) (fun h109=>?_)
    ·have hk11:k<11:=by omega
     obtain⟨x,hx⟩:∃x,(jx cs)[k]?=some x:=⟨_,List.getElem?_eq_getElem (by simp[jx,wR];omega)⟩;refine iX ?_;refine aj.aY 113 rfl (fun h113=>?_) (fun h113=>?_)
     ·refine cK ?_;refine vg (ai (u:=.int .i64 _) Tryz.isAgg3 rfl (fun w hw=>hw.bh (i:=1) rfl (aad hx) (Nat.zero_add _ |>.trans (Nat.mul_one _)))) ?_;refine vg (vC (eu _ _ _ _)) ?_;refine qa ?_;exact nl fun w hw=>⟨rfl,k+1,(by omega),⟨(congrArg Value.bool (by rw[pU hx,←Bool.and_assoc,h113];first | rfl | exact(Bool.true_and _).symm)),rfl,rfl,jS,trivial⟩,by omega,hw.pk⟩
     ·refine uE ?_;exact nl fun w hw=>⟨rfl,k+1,(by omega),⟨(congrArg Value.bool (by rw[pU hx,←Bool.and_assoc,h113];first | rfl | exact(Bool.true_and _).symm)),rfl,rfl,jS,trivial⟩,by omega,hw.pk⟩
    ·obtain rfl:k=11:=by omega
     have hall2:(jx cs).take 11=jx cs:=List.take_of_length_le (by simp[jx,wR]);rw[hall2];refine WP.exit (an ?_);refine cK ?_;refine aj.aY 121 rfl (fun h121=>?_) (fun h121=>?_)
     ·refine ag ?_;refine vg (ai (u:=.int .i64 _) Tryz.isAgg3 rfl (fun w hw=>hw.aq (i:=0) rfl 39 (cell_of (hs.int 39 (by decide) (by decide))))) ?_;refine vg (vC (eu _ _ _ _)) ?_;refine bW ?_;refine aj.aY 126 rfl (fun h126=>?_) (fun h126=>?_)
      ·refine ag ?_;refine vg (ai (u:=.int .i64 _) Tryz.isAgg3 rfl (fun w hw=>hw.aq (i:=0) rfl 40 (cell_of (hs.int 40 (by decide) (by decide))))) ?_;refine vg (vC (eu _ _ _ _)) ?_;refine bW ?_;refine aj.aY 131 rfl (fun h131=>?_) (fun h131=>?_)
       ·refine ag ?_;refine vg (ai (u:=.int .i64 _) Tryz.isAgg3 rfl (fun w hw=>hw.aq (i:=0) rfl 48 (cell_of (hs.int 48 (by decide) (by decide))))) ?_;refine vg (vC (eu _ _ _ _)) ?_;refine gg ?_;exact aT fun w hw=>⟨(),congrArg Value.bool (by rw[lO];simp only[*,Bool.and_true,Bool.and_false,Bool.true_and,Bool.false_and]),trivial,hw.pk⟩
       ·refine gg ?_;exact aT fun w hw=>⟨(),congrArg Value.bool (by rw[lO];simp only[*,Bool.and_true,Bool.and_false,Bool.true_and,Bool.false_and]),trivial,hw.pk⟩
      ·refine gg ?_;exact aT fun w hw=>⟨(),congrArg Value.bool (by rw[lO];simp only[*,Bool.and_true,Bool.and_false,Bool.true_and,Bool.false_and]),trivial,hw.pk⟩
     ·refine gg ?_;exact aT fun w hw=>⟨(),congrArg Value.bool (by rw[lO];simp only[*,Bool.and_true,Bool.and_false,Bool.true_and,Bool.false_and]),trivial,hw.pk⟩
def delE:List PE→Int→List PE
  | [],_=>[]
  | e::es,x=>if e.id=x then es else e::delE es x
def setE:List PE→PE→List PE
  | [],_=>[]
  | e::es,e'=>if e.id=e'.id then e'::es else e::setE es e'
abbrev iy (es:List PE):HI:=cN (es.flatMap PE.items)
theorem CU:∀(es:List PE) (x:Int),(delE es x).map PE.fA=uI (es.map PE.fA) x
  | [],_=>rfl
  | e :: es, x => by
    simp only[delE,List.map_cons,uI,PE.fA]
    split
    · rfl
    · rw[List.map_cons,CU es x];rfl
theorem DD:∀(es:List PE) (e e':PE),lookE es e'.id=some e→e'.bb=e.bb→(setE es e').map PE.fA=es.map PE.fA
  | [],_,_,h,_=>by cases h
  | a :: es, e, e', h, hb => by
    unfold lookE at h;unfold setE
    split at h
    · rename_i hi
      cases h;rw[if_pos hi];simp[PE.fA,hi,hb]
    · rename_i hi
      rw[if_neg hi,List.map_cons,List.map_cons,DD es e e' h hb]
theorem pj:∀{es:List PE} {x:Int} {e:PE},lookE es x=some e→es.Perm (e::delE es x)
  | [],_,_,h=>by cases h
  | a :: es, x, e, h => by
    unfold lookE at h;unfold delE
    split at h
    · rename_i hi;cases h;rw[if_pos hi]
    · rename_i hi
      rw[if_neg hi];exact(List.Perm.cons a (pj h)).trans (List.Perm.swap e a _)
theorem set_perm:∀{es:List PE} {e e':PE},lookE es e'.id=some e→(setE es e').Perm (e'::delE es e'.id)
  | [],_,_,h=>by cases h
  | a :: es, e, e', h => by
    unfold lookE at h;unfold setE delE
    split at h
    · rename_i hi;rw[if_pos hi,if_pos hi]
    · rename_i hi
      rw[if_neg hi,if_neg hi];exact(List.Perm.cons a (set_perm h)).trans (List.Perm.swap e' a _)
theorem pZ:∀{es:List PE} {e e':PE},lookE es e'.id=some e→∀y,lookE (setE es e') y=if y=e'.id then some e' else lookE es y
  | [],_,_,h,_=>by cases h
  | a :: es, e, e', h, y => by
    unfold lookE at h;unfold setE
    split at h
    · rename_i hi
      rw[if_pos hi]
      by_cases hy:y=e'.id
      · rw[if_pos hy,lookE,if_pos hy.symm]
      · rw[if_neg hy,lookE,if_neg (fun e=>hy e.symm),lookE,if_neg (fun e=>hy (by rw[←e,hi]))]
    · rename_i hi
      rw[if_neg hi]
      by_cases ha:a.id=y
      · rw[lookE,if_pos ha,if_neg (fun e=>hi (by rw[ha,e])),lookE,if_pos ha]
      · rw[lookE,if_neg ha,pZ h y,lookE,if_neg ha]
theorem Gx {es:List PE} (hn:(es.map PE.id).Nodup) (x y:Int):lookE (delE es x) y=if y=x then none else lookE es y:=by
  induction es with
  | nil=>simp[delE,lookE]
  | cons a es ih =>
    rw[List.map_cons,List.nodup_cons] at hn;unfold delE
    by_cases ha:a.id=x
    · rw [if_pos ha]
      by_cases hy:y=x
      · rw [if_pos hy, hy, ← ha]
        cases h:lookE es a.id with
        | none=>rfl
        | some e=>exact absurd (List.mem_map.2 ⟨e,(bp h).1,(bp h).2⟩) hn.1
      · rw[if_neg hy,lookE,if_neg (fun e=>hy (by rw[←e,ha]))]
    · rw [if_neg ha]
      by_cases hay:a.id=y
      · rw[lookE,if_pos hay,if_neg (fun e=>ha (by rw[hay,e])),lookE,if_pos hay]
      · rw[lookE,if_neg hay,ih hn.2,lookE,if_neg hay]
theorem look_app (es:List PE) (e:PE) (y:Int):lookE (es++[e]) y=match lookE es y with | some a=>some a | none=>if e.id=y then some e else none:=by
  induction es with
  | nil=>simp[lookE]
  | cons a es ih =>
    simp only[List.cons_append,lookE]
    split
    · rfl
    · exact ih
theorem eG.set {es:List PE} (h:eG es) {e e':PE} (hl:lookE es e'.id=some e) (hs:bZ e'.sty):eG (setE es e'):=by
  have hp:=set_perm hl;have hq:=pj hl;refine⟨fun a ha=>?_,?_⟩
  · rcases List.mem_cons.1 (hp.mem_iff.1 ha) with rfl | ha
    · exact hs
    · exact h.sty a (hq.mem_iff.2 (List.mem_cons_of_mem _ ha))
  · have h1 := (hp.map PE.id).nodup_iff.2
    refine h1 ?_;have h2:=(hq.map PE.id).nodup_iff.1 h.nodup;rw[List.map_cons] at h2 ⊢;rw[(bp hl).2] at h2;exact h2
theorem eG.del {es:List PE} (h:eG es) (x:Int):eG (delE es x):=by
  cases hl:lookE es x with
  | none =>
    have:∀es:List PE,lookE es x=none→delE es x=es:=by
      intro es;induction es with
      | nil=>intro _;rfl
      | cons a es ih =>
        intro h;unfold lookE at h;unfold delE
        split at h
        · cases h
        · rename_i hi;rw[if_neg hi,ih h]
    rw[this es hl];exact h
  | some e =>
    have hq:=pj hl;refine⟨fun a ha=>h.sty a (hq.mem_iff.2 (List.mem_cons_of_mem _ ha)),?_⟩;have h2:=(hq.map PE.id).nodup_iff.1 h.nodup;rw[List.map_cons,List.nodup_cons] at h2;exact h2.2
section
variable {w0 w:World} {M:Nat→Prop} {tp mb:Nat} {es:List PE} {F:List HI}
theorem St.Iz (h:St w0 M (al tp mb es::F) w):St w0 M (.cl tp 107 [.map (some mb)]::aP mb (es.map PE.fA)::iy es::F) w:=by
  have h1:=h.unpack;have h2:St w0 M (es.flatMap PE.items++(.cl tp 107 [.map (some mb)]::aP mb (es.map PE.fA)::F)) w:=by
    refine h1.perm ?_;show ((.cl tp 107 [.map (some mb)]::aP mb (es.map PE.fA)::es.flatMap PE.items)++F).Perm _;have e1:((HI.cl tp 107 [.map (some mb)]::aP mb (es.map PE.fA)::es.flatMap PE.items)++F)=[HI.cl tp 107 [.map (some mb)],aP mb (es.map PE.fA)]++(es.flatMap PE.items++F):=rfl;have e2:(es.flatMap PE.items++(HI.cl tp 107 [.map (some mb)]::aP mb (es.map PE.fA)::F))=es.flatMap PE.items++([HI.cl tp 107 [.map (some mb)],aP mb (es.map PE.fA)]++F):=rfl;rw[e1,e2,←List.append_assoc,←List.append_assoc];exact List.Perm.append_right _ List.perm_append_comm
  exact h2.pack.perm ((List.Perm.swap _ _ _).trans (List.Perm.cons _ (List.Perm.swap _ _ _)))
theorem St.DN (h:St w0 M (.cl tp 107 [.map (some mb)]::aP mb (es.map PE.fA)::iy es::F) w):St w0 M (al tp mb es::F) w:=by
  have h1:=(h.perm ((List.Perm.cons _ (List.Perm.swap _ _ _)).trans (List.Perm.swap _ _ _))).unpack;have h2:St w0 M (zi tp mb es++F) w:=by
    refine h1.perm ?_;show (es.flatMap PE.items++([HI.cl tp 107 [.map (some mb)],aP mb (es.map PE.fA)]++F)).Perm ([HI.cl tp 107 [.map (some mb)],aP mb (es.map PE.fA)]++(es.flatMap PE.items++F));rw[←List.append_assoc,←List.append_assoc];exact List.Perm.append_right _ List.perm_append_comm
  exact h2.pack
theorem vV {a b:List PE} (h:a.Perm b):(a.flatMap PE.items).Perm (b.flatMap PE.items):=h.flatMap_right _
theorem St.K4 {e:PE} {x:Int} (hl:lookE es x=some e) (h:St w0 M (iy es::F) w):St w0 M (.cl e.bb 102 e.cells::az e.A e.kids.length e.c e.kids::iy (delE es x)::F) w:=by
  have h1:=h.unpack;have h2:St w0 M ((delE es x).flatMap PE.items++(.cl e.bb 102 e.cells::az e.A e.kids.length e.c e.kids::F)) w:=by
    refine h1.perm ?_;refine(List.Perm.append_right F (vV (pj hl))).trans ?_;show ([HI.cl e.bb 102 e.cells,az e.A e.kids.length e.c e.kids]++(delE es x).flatMap PE.items++F).Perm ((delE es x).flatMap PE.items++([HI.cl e.bb 102 e.cells,az e.A e.kids.length e.c e.kids]++F));rw[←List.append_assoc];exact List.Perm.append_right _ List.perm_append_comm
  exact h2.pack.perm ((List.Perm.swap _ _ _).trans (List.Perm.cons _ (List.Perm.swap _ _ _)))
theorem St.K8 {e:PE} {es':List PE} (hp:es'.Perm (e::es)) (h:St w0 M (.cl e.bb 102 e.cells::az e.A e.kids.length e.c e.kids::iy es::F) w):St w0 M (iy es'::F) w:=by
  have h1:=(h.perm ((List.Perm.cons _ (List.Perm.swap _ _ _)).trans (List.Perm.swap _ _ _))).unpack;have h2:St w0 M (es'.flatMap PE.items++F) w:=by
    refine h1.perm ?_;refine List.Perm.trans ?_ (List.Perm.append_right F (vV hp).symm);show ((es.flatMap PE.items)++([HI.cl e.bb 102 e.cells,az e.A e.kids.length e.c e.kids]++F)).Perm ([HI.cl e.bb 102 e.cells,az e.A e.kids.length e.c e.kids]++es.flatMap PE.items++F);rw[←List.append_assoc];exact List.Perm.append_right _ List.perm_append_comm
  exact h2.pack
theorem St.AI {e:PE} {x:Int} (hl:lookE es x=some e) (h:St w0 M (al tp mb es::F) w):
    St w0 M (.cl e.bb 102 e.cells::az e.A e.kids.length e.c e.kids::.cl tp 107 [.map (some mb)]::aP mb (es.map PE.fA)::iy (delE es x)::F) w:=by
  have h1:=h.Iz;have h2:=St.K4 hl (h1.perm (σ':=iy es::.cl tp 107 [.map (some mb)]::aP mb (es.map PE.fA)::F) ((List.Perm.cons _ (List.Perm.swap _ _ _)).trans (List.Perm.swap _ _ _)));refine h2.perm (List.Perm.cons _ (List.Perm.cons _ ?_));exact(List.Perm.swap _ _ _).trans (List.Perm.cons _ (List.Perm.swap _ _ _))
theorem St.ad7 {e e':PE} (hl:lookE es e'.id=some e) (hb:e'.bb=e.bb)
    (h:St w0 M (.cl e'.bb 102 e'.cells::az e'.A e'.kids.length e'.c e'.kids::.cl tp 107 [.map (some mb)]::aP mb (es.map PE.fA)::iy (delE es e'.id)::F) w):St w0 M (al tp mb (setE es e')::F) w:=by
  have h1:St w0 M (.cl e'.bb 102 e'.cells::az e'.A e'.kids.length e'.c e'.kids::iy (delE es e'.id)::.cl tp 107 [.map (some mb)]::aP mb (es.map PE.fA)::F) w:=by
    refine h.perm (List.Perm.cons _ (List.Perm.cons _ ?_));exact(List.Perm.cons _ (List.Perm.swap _ _ _)).trans (List.Perm.swap _ _ _)
  have h2:=St.K8 (set_perm hl) h1;refine St.DN ?_;rw[DD es e e' hl hb];exact h2.perm ((List.Perm.swap _ _ _).trans (List.Perm.cons _ (List.Perm.swap _ _ _)))
end
theorem Kj (es:List PE) (x:Int) (v:Value) (h:lookE es x=none):putM (es.map PE.fA) x v=es.map PE.fA++[(x,v)]:=by
  induction es with
  | nil=>rfl
  | cons a es ih =>
    unfold lookE at h
    split at h
    · cases h
    · rename_i hi
      simp only[List.map_cons,putM,PE.fA,hi,if_false,List.cons_append];rw[ih h]
theorem xa {es:List PE} {e e':PE} (hl:lookE es e'.id=some e) (y:Int):ae (setE es e') y=if y=e'.id then some ⟨e'.up,e'.kids,e'.sty⟩ else ae es y:=by
  unfold ae;rw[pZ hl]
  split<;>rfl
theorem dc {es:List PE} {x:Int} {e:PE} (h:lookE es x=some e):ae es x=some ⟨e.up,e.kids,e.sty⟩:=by simp[ae,h]
theorem nf {es:List PE} {x:Int} (h:aK (ae es) x=true):∃e,lookE es x=some e:=by
  unfold aK ae at h;cases e:lookE es x with
  | none=>rw[e] at h;cases h
  | some a=>exact⟨a,rfl⟩
theorem EJ {es:List PE} {x:Int} (h:aK (ae es) x=false):lookE es x=none:=by
  unfold aK ae at h;cases e:lookE es x with
  | none=>rfl
  | some a=>rw[e] at h;cases h
theorem pP {es:List PE} {x:Int} {e:PE} (h:lookE es x=some e):pL es x=some ⟨e.bb,0,none⟩:=by simp[pL,h]
def jo (pe:PE) (id:Int):PE:=⟨pe.id,pe.bb,pe.A,pe.c,pe.up,bQ pe.kids id,pe.sty⟩
theorem St.AH {w0 w:World} {M:Nat→Prop} {tp mb:Nat} {es:List PE} {F:List HI} {e:PE} {x:Int} (hl:lookE es x=some e) {A:Option Addr} {n c:Nat} {up:Int} {l:List Int} {sty:List Value} (hn:n=l.length)
    (h:St w0 M (.cl e.bb 102 (.int .i64 up::.slice A n c::sty)::az A n c l::.cl tp 107 [.map (some mb)]::aP mb (es.map PE.fA)::iy (delE es x)::F) w):St w0 M (al tp mb (setE es ⟨e.id,e.bb,A,c,up,l,sty⟩)::F) w:=by
  subst hn;have hi:=(bp hl).2;subst hi;exact St.ad7 (e':=⟨e.id,e.bb,A,c,up,l,sty⟩) hl rfl h
theorem WF.mU {es:List PE} {d:Int→Nat} (hF:WF (ae es) d) {x:Int} {e:PE} (h:lookE es x=some e):e.kids.length≤4096:=hF.j5 (dc h)
theorem Hk (tp mb:Nat) (es:List PE) (hk:eG es) (id:Int) {e pe:PE} (he:lookE es id=some e) (hp:lookE es e.up=some pe) (hm:id∈pe.kids) (hn:pe.kids.Nodup) (hl:pe.kids.length≤5000):
    Ct Tryz.prog 134 #[.pointer (some ⟨tp,0,none⟩),.int .i64 id] [al tp mb es] (fun _=>True) (X:=Unit) (fun _=>.tuple #[]) (fun _=>True) (fun _=>[al tp mb (setE es (jo pe id))]):=by
  obtain⟨k,hk1,_,hk3⟩:=z8 hm;have hkl:=(List.getElem?_eq_some_iff.1 hk1).1;have hup:pL es (upF (ae es) id)=some ⟨pe.bb,0,none⟩:=by rw[ch (dc he)];exact pP hp
  have hpid:pe.id=e.up:=(bp hp).2;have hlen:(bQ pe.kids id).length=pe.kids.length - 1:=by have:=o3 hn hm;omega
  refine Ci fun w0 _=>?_;refine gg ?_;refine wP none [0] [pT 0,pT 1,pT 2,pT 3,pT 4,pT 5,pF 6,pT 7,pT 8] ?_;refine cK ?_;refine tE rfl (ai (u:=.map _) Tryz.isAgg105 rfl (fun w hw=>hw.ld (i:=0) rfl)) ?_;refine gg ?_;refine dG (xC (mm tp mb es hk id)) fun _ _=>?_;refine tE rfl (oR (es:=es) (i:=0) rfl Tryz.underlying105 Tryz.underlying3 Tryz.zeroValue104 rfl rfl) ?_;refine ad ?_;refine aB.nil (an ?_);refine sq ?_;refine WP.pre ?_ (fun w hw=>St.AI hp (hw.sel [0] (by decide)));rw[hup];refine gg ?_;refine aj.ef (ck Tryz.call167 (As pe.A pe.c pe.kids id (by omega)) [1] [0,2,3,4] rfl (fun w hw=>trivial) (τ:=fun _=>[_,_,_,_,_]) (fun _=>rfl)) (fun _=>?_);refine aj.fact (fun _=>?_);refine bW ?_;rw[hk3];refine gg ?_;refine eF (xC (D9 pe.A pe.c pe.kids k hkl hl)) fun _ _=>?_;refine gg ?_;refine aj.aX (cz (u:=.slice _ _ _) (σ':=[_,_,_,_,_]) Tryz.sizeOf49 rfl rfl (i:=0) rfl (Nat.lt_of_lt_of_le (Nat.lt_succ_self _) (Nat.le_of_ble_eq_true rfl)) rfl) (fun _=>?_);exact nl fun w hw=>da.IG Tryz.results134 (.inr rfl) ⟨(),rfl,trivial,St.AH (l:=bQ pe.kids id) hp hlen.symm (by rw[←EE hn hk1];exact(hw.sel [0,4,1,2,3] (by decide)))⟩
def J8 (F:ar (List Value)) (l:List Int):Int:=l.foldl (fun n x=>max n (bz F x)) 0
theorem Ep (F:ar (List Value)) {l:List Int} {k:Nat} {x:Int} (h:l[k]?=some x):J8 F (l.take (k+1))=max (J8 F (l.take k)) (bz F x):=by
  rw[df h];simp[J8]
theorem J3 (tp mb:Nat) (es:List PE) (hk:eG es) {d:Int→Nat} (hF:WF (ae es) d) (id:Int):
    Ct Tryz.prog 137 #[.pointer (some ⟨tp,0,none⟩),.int .i64 id] [al tp mb es] (fun _=>True) (X:=Unit) (fun _=>.int .i64 (lX (ae es) id)) (fun _=>True) (fun _=>[al tp mb es]):=by
  refine Ci fun w0 _=>?_;refine gg ?_;refine aj.ef (eN (u:=.pointer _) (σ':=fun _=>[_,_]) rfl (fun _=>rfl)) (fun b2=>?_);refine gg ?_;refine aj.ef cg fun b5=>?_;refine aj.aX (xS rfl (jJ rfl)) fun _=>?_;refine gg ?_;refine eF (xC (kW tp id)) fun⟨m2,m3⟩ _=>?_;refine bW ?_;refine sl [0,3,4,2,1] ?_;refine WP.k9 (gf:=112) (first:=[]) (cap:=[.pointer (some ⟨m2,0,none⟩),.pointer (some ⟨m3,0,none⟩)]) rfl Tryz.call112 (mJ tp mb es hk hF 64 id m2 m3 (by omega)) (Z:=Unit) (own:=fun k _=>[.cl b5 3 [.int .i64 (J8 (ae es) ((sub (ae es) id).take k))],.cl b2 24 [.pointer (some ⟨tp,0,none⟩)]]) (Inv:=fun _ _=>True) () trivial (List.Perm.refl _) (fun _=>rfl) (by decide) (Y:=Unit) (fun _ _ _=>False) (fun _=>[]) ?_ ?_ ?_
  ·intro lk l2 D2 k x _z hx hz w1 M1;refine bW ?_;refine aj.nil (iL (i:=0) rfl ?_);refine gg ?_;refine WP.dj (some 5) [0,1,2,3,4,5,6,7] [(0,true),(1,true),(2,true),(3,false),(4,true),(5,false)] mixed (by kernel_rfl) (by decide) ?_
   iterate 3 refine ad ?_
   refine aB.ef rfl (ck Tryz.call84 (oS tp mb es hk hF x) [3] [0,1,2,4,5,6,7] rfl (fun w hw=>trivial) (τ:=fun _=>[_,_,_,_,_,_,_,_]) (fun _=>rfl)) (fun _ _ _ h=>h.2.sel [0,1,2,7,3,4,5,6] (by decide)) (fun _=>?_);refine aB.fact (fun _=>?_);refine aB.take rfl (Dv rfl rfl) ?_ (fun _ h=>h.sel [0,1,2,7,3,4,5,6] (by decide));refine aB.aX rfl (cz (u:=.int .i64 _) (σ':=[_,_,_,_,_,.cl _ _ [_],_,_]) Tryz.sizeOf3 rfl rfl (i:=5) rfl (Nat.lt_of_lt_of_le (Nat.lt_succ_self _) (Nat.le_of_ble_eq_true rfl)) rfl) (fun h=>absurd rfl h) (fun _=>?_);exact aB.nil (fun w hw=>fX.normal (i:=0) rfl hw (fun w2 hw2=>.inl ⟨(),rfl,trivial,by dsimp only;rw[Ep (ae es) hx];exact(hw2.sel [0,1,2,7,3,4,5,6] (by decide))⟩))
  ·intro D _z hz;rw[List.take_of_length_le (Nat.le_refl (sub (ae es) id).length)];refine sx (an ?_);refine gg ?_;exact WP.AE [D] (τ:=[al tp mb es]) (fun w hw=>(hw.sel [0,5] (by decide))) (fun _ h=>h) (fun w hw=>da.T3 Tryz.results137 (.inl rfl) ⟨(),rfl,trivial,hw⟩)
  ·intro D c k y hf;exact hf.elim
theorem DH {P:Program} {w0:World} {M:Nat→Prop} {σ:List HI} {ρ:Env} {dst:Option Tmp} {ty:TypeId} {pos:String} {af:Array Edge} {g:Option (Nat×Bool)} {x y:Operand} {t kt et:TypeId} {i mb:Nat} {es:List PE} {k:Int} {q:IntKind} {e:PE} (hl:lookE es k=some e) (hi:σ[i]?=some (aP mb (es.map PE.fA))) (ht:P.underlying t=some (.map kt et)) (hk:P.underlying kt=some (.int q)) (hz:∀w,(zeroValue et).run P w=.ok (.pointer none) w) (hx:evo ρ x=.map (some mb)) (hy:evo ρ y=.int .i64 k):
    cw P (St w0 M σ) ⟨dst,.lookup t x y false,ty,pos,af,g⟩ ρ (.pointer (some ⟨e.bb,0,none⟩)):=by
  have h:=fu (P:=P) (S:=St w0 M σ) (dst:=dst) (ty:=ty) (pos:=pos) (af:=af) (g:=g) (m:=es.map PE.fA) ht hk hz hx hy (fun w hw=>hw.fC hi)
  rwa [Ae,pP hl] at h
theorem Gb (a b:Value) (s s':List Value) (h:s'.length=s.length):setL (a::b::s) 2 s'=a::b::s':=by
  rw[rN _ _ _ (by simp only[List.length_cons];omega)];simp[h];omega
theorem Jj {es:List PE} {x:Int} {e:PE} (h:lookE es x=some e) {bb:Nat} {A:Option Addr} {c:Nat} {sty:List Value}:ae (setE es ⟨e.id,bb,A,c,e.up,e.kids,sty⟩)=setG (ae es) x sty:=by
  have hi:=(bp h).2
  funext y
  rw[xa (e:=e) (by show lookE es e.id=some e;rw[hi];exact h),setG,dc h,hi];rfl
theorem xp (tp mb:Nat) (es:List PE) (hk:eG es) (id:Int) (sty:List Value) (hs:bZ sty):
    Ct Tryz.prog 20 #[.pointer (some ⟨tp,0,none⟩),.int .i64 id,.agg sty.toArray] [al tp mb es] (fun _=>True) (X:=List PE) (fun _=>.int .i64 (setR bg (ae es) id sty).2) (fun es'=>ae es'=(setR bg (ae es) id sty).1∧eG es') (fun es'=>[al tp mb es']):=by
  refine Ci fun w0 _=>?_;refine gg ?_;refine aj.ef (xB (us:=sty)) fun b5=>?_;refine gg ?_;refine eF (xC (lE tp mb es id)) fun _ _=>?_;refine gg ?_;refine WP.cond rfl (fun h7=>?_) (fun h7=>?_)
  ·have hr:setR bg (ae es) id sty=(ae es,2):=by simp only[Bool.not_eq_true'] at h7;simp[setR,h7]
   refine gg ?_;exact aT fun w hw=>⟨es,congrArg (Value.int .i64) (by rw[hr]),⟨by rw[hr],hk⟩,hw.pk⟩
  ·refine gg ?_;refine vl (vW hs.len) ?_;refine eF (xC (GG sty hs)) fun _ _=>?_;refine gg ?_;refine WP.cond rfl (fun h12=>?_) (fun h12=>?_)
   ·have hr:setR bg (ae es) id sty=(ae es,1):=by simp only[Bool.not_eq_true',Bool.not_eq_false'] at h7 h12;simp[setR,h7,h12]
    refine gg ?_;exact aT fun w hw=>⟨es,congrArg (Value.int .i64) (by rw[hr]),⟨by rw[hr],hk⟩,hw.pk⟩
   ·simp only[Bool.not_eq_false'] at h7 h12;have hr:setR bg (ae es) id sty=(setG (ae es) id sty,0):=by simp[setR,h7,h12]
    obtain⟨e,he⟩:=nf h7;have hes:=(hk.sty e (bp he).1).len;refine bW ?_;refine WP.pre ?_ (fun w hw=>St.AI he (hw.sel [1,0] (by decide)));refine WP.fj (some 9) [(0,true),(1,true),(2,true),(3,true),(4,true),(5,true),(6,true),(7,false),(8,true),(9,false)] mixed (by kernel_rfl) (by decide) (fun _ h=>h.drawn) ?_;refine cK ?_;refine tE rfl (ai (u:=.map _) Tryz.isAgg105 rfl (fun w hw=>hw.aq (i:=2) rfl _ rfl)) ?_;refine ad ?_;refine tE rfl (DH (es:=es) he (i:=3) rfl Tryz.underlying105 Tryz.underlying3 Tryz.zeroValue104 rfl rfl) ?_;refine aB.take rfl (au (cs:=sty) Tryz.isAgg42 Tryz.sizeOf42 rfl (fun w hw=>hw.aq (i:=5) rfl 0 (whole _)) hs.len) ?_ (fun _ h=>h);refine aB.val rfl (jO rfl) (fun _ h=>h) ?_;refine gg ?_;refine aB.aX rfl (cy (us:=sty) (σ':=[.cl _ _ _,_,_,_,_,_]) Tryz.sizeOf42 rfl rfl (i:=0) rfl (by show 2+sty.length≤e.sty.length+1+1;rw[hs.len,hes];decide) (by rw[PE.cells,Gb _ _ _ _ (by rw[hs.len,hes])];rfl) hs.one hs.len) (fun h=>absurd rfl h) (fun _=>?_);refine gg ?_;exact aT fun w hw=>⟨setE es ⟨e.id,e.bb,e.A,e.c,e.up,e.kids,sty⟩,congrArg (Value.int .i64) (by rw[hr]),⟨by rw[hr];exact Jj he,hk.set (e:=e) (by show lookE es e.id=some e;rw[(bp he).2];exact he) hs⟩,St.AH he rfl hw.pk⟩
end Go.Proofs.YtbedndijejpcaaaGreat
