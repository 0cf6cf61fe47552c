/- RefMove RefNew RefAdd EqF RecLeaf TreeDo TreeBoth RecRow FlexPure FlexShare -/
import Derived.ChangeKeysEq
import Derived.Laws.StructEq
import Derived.Test.YtbedndijejpcaaaGreatH10
set_option linter.unusedVariables false
set_option linter.unusedSimpArgs false
set_option linter.unusedSectionVars false
set_option maxRecDepth 100000
set_option maxHeartbeats 8000000
namespace Go.Proofs.YtbedndijejpcaaaGreat
open Go.RowKit
theorem GZ (rp g bc:Nat) (bs:List RB) (hk:lg bs) {d:Int→Nat} (hF:WF (aD bs) d) (x up at_:Int):
    Ct Tryz.prog 91 #[.pointer (some ⟨rp,0,none⟩),.int .i64 x,.int .i64 up,.int .i64 at_] [dI rp g bc bs] (fun _=>True) (X:=List RB) (fun _=>.int .i64 (movR (aD bs) x up at_).2) (fun bs'=>aD bs'=(movR (aD bs) x up at_).1∧lg bs') (fun bs'=>[dI rp g bc bs']):=by
  have hsl:=hF.e6 x;refine Ci fun w0 _=>?_;refine gg ?_;refine eF (xC (j0 rp g bc bs hk x)) fun _ _=>?_;refine bW ?_;refine aj.aY 17 rfl (fun h17=>?_) (fun h17=>?_)
  ·refine gg ?_;have hr:movR (aD bs) x up at_=(aD bs,2):=by simp only[Bool.not_eq_true'] at h17;simp[movR,h17]
   refine WP.aQ rfl ?_;refine gg ?_;exact aT fun w hw=>⟨bs,congrArg (Value.int .i64) (by rw[hr]),⟨by rw[hr],hk⟩,hw.pk⟩
  ·refine gg ?_;refine aj.kn (xC (j0 rp g bc bs hk up)) (fun _=>?_);refine aj.fact (fun _=>?_);refine gg ?_;refine WP.cond rfl (fun h22=>?_) (fun h22=>?_)
   ·have hr:movR (aD bs) x up at_=(aD bs,2):=by simp only[Bool.not_eq_true'] at h22;simp[movR,h22]
    refine gg ?_;exact aT fun w hw=>⟨bs,congrArg (Value.int .i64) (by rw[hr]),⟨by rw[hr],hk⟩,hw.pk⟩
   ·simp only[Bool.not_eq_true',Bool.not_eq_false'] at h17 h22;have hid:=h17;have hup:=h22;obtain⟨v,q,huv,hv,hql⟩:=fv hup;subst huv;have hvb:=(List.getElem?_eq_some_iff.1 hv).1;have hvk:=cj (c8 hv hql);have hqk:q.kids.length≤4096:=hF.j5 (c8 hv hql);refine gg ?_;refine WP.aw rfl (fun h24=>?_) (fun h24=>?_)
    ·have hr:movR (aD bs) x (v:Int) at_=(aD bs,1):=by rw[movR,if_neg (by simp[hid,hup]),if_pos h24]
     refine gg ?_;exact aT fun w hw=>⟨bs,congrArg (Value.int .i64) (by rw[hr]),⟨by rw[hr],hk⟩,hw.pk⟩
    ·obtain⟨i,b,hxi,hb,hl⟩:=fv hid;subst hxi;have hib:=(List.getElem?_eq_some_iff.1 hb).1;have hmc:=hF.IQ hid h24 hup;rw[hvk] at hmc;simp only at hmc;have hdp:=hF.KH hid;have hd1:=iz (aD bs) (i:Int);have hd2:=iz (aD bs) (v:Int);refine gg ?_;refine eF (xC (lC rp g bc bs hk hF (i:Int))) fun⟨A9,c9⟩ _=>?_;refine gg ?_;refine WP.bm (X:=Nat) [0,1,2,3,9] (fun j=>[(11,.int .i64 (j:Int)),(10,.int .i64 (HE (aD bs) (i:Int) ((sub (aD bs) (i:Int)).take j)))]) (fun j w=>(j≤(sub (aD bs) (i:Int)).length∧(v:Int)∉(sub (aD bs) (i:Int)).take j)∧St w0 (ay [dI rp g bc bs]) [dI rp g bc bs,az A9 (sub (aD bs) (i:Int)).length c9 (sub (aD bs) (i:Int))] w) (fun j=>(sub (aD bs) (i:Int)).length - j) 0 ⟨rfl,rfl,trivial⟩ (fun w hw=>⟨⟨Nat.zero_le _,by simp⟩,(hw.sel [0,1] (by decide))⟩) (fun j ρ0=>?_);refine WP.fact (fun⟨hjl,hnj⟩=>?_);refine gg ?_;refine WP.aw rfl (fun h31=>?_) (fun h31=>?_)
     ·obtain⟨y,hy⟩:∃y,(sub (aD bs) (i:Int))[j]?=some y:=⟨_,List.getElem?_eq_getElem (by omega)⟩;have hby:=iz (aD bs) y;have hbj:=Ia (aD bs) (i:Int) ((sub (aD bs) (i:Int)).take j);refine WP.holds (fun w hw=>hw.aM (i:=1) rfl (by omega)) (fun⟨lb,hA⟩=>?_);subst hA;refine gg ?_;refine vl (vR 1 (by rw[List.getElem?_map,hy];rfl)) ?_;refine gg ?_;refine WP.aw rfl (fun h39=>?_) (fun h39=>?_)
      ·have hr:movR (aD bs) (i:Int) (v:Int) at_=(aD bs,3):=by rw[movR,if_neg (by simp[hid,hup]),if_neg h24,if_pos (by rw[←h39];exact List.mem_of_getElem? hy)]
       refine gg ?_;exact aT fun w hw=>⟨bs,congrArg (Value.int .i64) (by rw[hr]),⟨by rw[hr],hk⟩,hw.pk⟩
      ·refine gg ?_;refine vl (vR 1 (by rw[List.getElem?_map,hy];rfl)) ?_;refine eF (xC (ky rp g bc bs hk hF y)) fun _ _=>?_;refine gg ?_;refine eF (xC (ky rp g bc bs hk hF (i:Int))) fun _ _=>?_;refine uw ?_;exact nl fun w hw=>⟨rfl,j+1,(by omega),⟨rfl,(congrArg (Value.int .i64) (HC (aD bs) (i:Int) hy).symm),jP,jI,jI,jI,jS,trivial⟩,⟨⟨by omega,by rw[df hy];simp only[List.mem_append,List.mem_singleton,not_or];exact⟨hnj,fun e=>h39 e.symm⟩⟩,hw.pk⟩⟩
     ·obtain rfl:j=(sub (aD bs) (i:Int)).length:=by omega
      rw[List.take_of_length_le (Nat.le_refl _)] at*;have hcy:=hnj;have hdb:=Ia (aD bs) (i:Int) (sub (aD bs) (i:Int));refine WP.exit (an ?_);refine cR ?_;refine aj.split 54 rfl (fun h54=>?_) (fun h54=>?_)
      ·refine gg ?_;have hr:movR (aD bs) (i:Int) (v:Int) at_=(aD bs,1):=by rw[movR,if_neg (by simp[hid,hup]),if_neg h24,if_neg hcy,if_pos (by omega)]
       refine WP.aQ rfl ?_;refine gg ?_;exact aT fun w hw=>⟨bs,congrArg (Value.int .i64) (by rw[hr]),⟨by rw[hr],hk⟩,hw.pk⟩
      ·refine bS ?_;refine vg (ai (u:=.slice _ _ _) Tryz.isAgg153 rfl (fun w hw=>hw.lR (i:=0) rfl)) ?_;refine cK ?_;refine vg (ai (u:=.slice _ _ _) Tryz.isAgg49 rfl (fun w hw=>hw.wJ (i:=0) rfl hk hv 2 (us:=[.slice q.A q.kids.length q.c]) rfl)) ?_;refine gg ?_;refine aj.kn (xC (nZ q.A q.c q.kids (i:Int) (by omega)) (hF:=fun w hw=>(hw.x5 (i:=0) rfl hv).2.2)) (fun⟨A65,c65⟩=>?_);refine aj.fact (fun _=>?_);refine gg ?_;refine WP.aw rfl (fun h68=>?_) (fun h68=>?_)
       ·have hr:movR (aD bs) (i:Int) (v:Int) at_=(aD bs,1):=by rw[movR,if_neg (by simp[hid,hup]),if_neg h24,if_neg hcy,if_pos (by omega)]
        refine gg ?_;exact aT fun w hw=>⟨bs,congrArg (Value.int .i64) (by rw[hr]),⟨by rw[hr],hk⟩,hw.pk⟩
       ·refine gg ?_;refine eF (xC (ky rp g bc bs hk hF (v:Int))) fun _ _=>?_;refine gg ?_;refine WP.aw rfl (fun h75=>?_) (fun h75=>?_)
        ·have hr:movR (aD bs) (i:Int) (v:Int) at_=(aD bs,5):=by rw[movR,if_neg (by simp[hid,hup]),if_neg h24,if_neg hcy,if_neg (by omega),if_pos (by omega)]
         refine gg ?_;exact aT fun w hw=>⟨bs,congrArg (Value.int .i64) (by rw[hr]),⟨by rw[hr],hk⟩,hw.pk⟩
        ·obtain⟨u,p,hu,hp,hpl,hm,hn,hui⟩:=hF.DM hb hl h24;have hub:=(List.getElem?_eq_some_iff.1 hp).1;have hpk:p.kids.length≤4096:=hF.j5 (c8 hp hpl);have hvi:v≠i:=fun e=>hcy (by rw[e];exact hF.cH.2 (kg.refl hid));obtain⟨k,rfl⟩:∃k:Nat,at_=k:=⟨at_.toNat,by omega⟩;have hr:movR (aD bs) (i:Int) (v:Int) (k:Int)=(movG (aD bs) i v k,0):=by rw[movR,if_neg (by simp[hid,hup]),if_neg h24,if_neg hcy,if_neg (by omega),if_neg (by omega),Int.toNat_natCast]
         refine WP.skip (an ?_);refine sq ?_;refine WP.pre ?_ (fun w hw=>St.DQ (hw.sel [2,0,1] (by decide)));refine uw ?_;refine vl (ai (u:=.int .i64 _) Tryz.isAgg3 rfl (fun w hw=>hw.rowAt (i:=1) rfl hk hb 1 (us:=[.int .i64 b.up]) rfl)) ?_;rw[hu];refine gg ?_;refine WP.dj (some 17) [0,1,2,3,4] [(0,true),(1,true),(2,true),(3,true),(4,true),(5,true),(6,true),(7,true),(8,true),(9,true),(10,true),(11,true),(12,true),(13,true),(14,false),(15,false),(16,true),(17,false)] mixed (by kernel_rfl) (by decide) ?_;refine aB.take rfl (aC (v:=.pointer _) rfl) ?_ (fun _ h=>h.sel [0,1,2,3,4] (by decide));refine aB.take rfl (jO rfl) ?_ (fun _ h=>h.sel [0,1,2,3,4] (by decide));refine aB.take rfl (aS (o':=0) Tryz.underlying155 rfl Tryz.sizeOf153 rfl rfl) ?_ (fun _ h=>h.sel [0,1,2,3,4] (by decide));refine aB.take rfl (ai (u:=.slice _ _ _) Tryz.isAgg153 rfl (fun w hw=>hw.aq (i:=0) rfl _ rfl)) ?_ (fun _ h=>h.sel [0,1,2,3,4] (by decide));refine aB.take rfl (aC (v:=.int .i64 _) rfl) ?_ (fun _ h=>h.sel [0,1,2,3,4] (by decide));refine aB.take rfl (aC (v:=.pointer _) rfl) ?_ (fun _ h=>h.sel [0,1,2,3,4] (by decide));refine aB.take rfl (jO rfl) ?_ (fun _ h=>h.sel [0,1,2,3,4] (by decide));refine aB.take rfl (aS (o':=0) Tryz.underlying155 rfl Tryz.sizeOf153 rfl rfl) ?_ (fun _ h=>h.sel [0,1,2,3,4] (by decide));refine aB.take rfl (ai (u:=.slice _ _ _) Tryz.isAgg153 rfl (fun w hw=>hw.aq (i:=0) rfl _ rfl)) ?_ (fun _ h=>h.sel [0,1,2,3,4] (by decide));refine aB.take rfl (aC (v:=.int .i64 _) rfl) ?_ (fun _ h=>h.sel [0,1,2,3,4] (by decide));refine aB.take rfl (bG (j:=u) Tryz.underlying153 Tryz.sizeOf152 rfl rfl rfl (by omega)) ?_ (fun _ h=>h.sel [0,1,2,3,4] (by decide));refine aB.take rfl (e7 (off:=2) Tryz.underlying152 rfl Tryz.sizeOf49 rfl) ?_ (fun _ h=>h.sel [0,1,2,3,4] (by decide));refine tE rfl (ai (u:=.slice _ _ _) Tryz.isAgg49 rfl (fun w hw=>hw.rowAt (i:=1) rfl hk hp 2 (us:=[.slice p.A p.kids.length p.c]) rfl)) ?_;refine gg ?_;refine aB.ef rfl (ck Tryz.call135 (nZ p.A p.c p.kids (i:Int) (by omega)) [] [0,1,2,3,4] rfl (fun w hw=>(hw.qR (i:=2) rfl hp).2.2) (τ:=fun _=>[_,_,_,_,_,_]) (fun _=>rfl)) (fun _ _ _ h=>h.2.sel [0,1,2,3,4] (by decide)) (fun⟨A98,c98⟩=>?_);refine aB.fact (fun _=>?_);refine aB.val rfl (bG (j:=u) Tryz.underlying153 Tryz.sizeOf152 rfl rfl rfl (by omega)) (fun _ h=>h.sel [0,1,2,3,4] (by decide)) ?_;refine aB.take rfl (e7 (off:=2) Tryz.underlying152 rfl Tryz.sizeOf49 rfl) ?_ (fun _ h=>h.sel [0,1,2,3,4] (by decide));refine aB.aX rfl (bU (u:=.slice A98 (bQ p.kids i).length c98) (o:=0+u*58+2) (xs':=bV (bs.set u (iv p A98 c98 (i:Int)))) (σ':=[_,_,_,_,_,_]) Tryz.sizeOf49 rfl rfl (i:=1) rfl (by rw[eJ hk];(try simp only[List.length_set]);omega) (by rw[show 0+u*58+2=u*58+2 by omega];exact eI hk hp (o:=2) (us:=[.slice A98 (bQ p.kids i).length c98]) (by show 2+1≤58;decide) (by first | rfl | (show _=(_::_::Value.slice A116 (bN q1.kids k (i:Int)).length c116::_:List Value);rw[hZ hkl];rfl))) rfl) (fun h=>absurd rfl h) (fun _=>?_)
         refine bW ?_;refine WP.pre ?_ (fun w hw=>St.qT (b':=(iv p A98 c98 (i:Int))) hp (hw.sel [2,5,0,1] (by decide)));have hk1:lg (bs.set u (iv p A98 c98 (i:Int))):=hk.set u (show bZ p.sty from hk.get hp);obtain⟨q1,hq1⟩:∃q1,(bs.set u (iv p A98 c98 (i:Int)))[v]?=some q1:=⟨_,List.getElem?_eq_getElem (by rw[List.length_set];exact hvb)⟩;have hql1:q1.kids.length=(bQ q.kids (i:Int)).length:=by
           by_cases e:v=u
           · subst e
             rw[List.getElem?_set_self hvb] at hq1;rw[hv] at hp;cases hp;cases hq1;rfl
           · rw [List.getElem?_set_ne (fun h => e h.symm), hv] at hq1
             cases hq1;rw[jW (hF.DP (c8 hv hql) (by rw[ch (c8 hb hl)];show (v:Int)≠b.up;rw[hu];omega))]
         have hkl:k≤q1.kids.length:=by omega
         have hq1c:=Cp q.kids (i:Int);refine WP.holds (fun w hw=>(hw.qR (i:=0) rfl hq1).2.1) (fun hq1cap=>?_);refine WP.dj (some 18) [0,1,2] [(0,true),(1,true),(2,true),(3,true),(4,true),(5,true),(6,true),(7,true),(8,true),(9,true),(10,true),(11,true),(12,true),(13,true),(14,true),(15,false),(16,false),(17,true),(18,false)] mixed (by kernel_rfl) (by decide) ?_;refine aB.take rfl (aC (v:=.pointer _) rfl) ?_ (fun _ h=>h.sel [0,1,2] (by decide));refine aB.take rfl (jO rfl) ?_ (fun _ h=>h.sel [0,1,2] (by decide));refine aB.take rfl (aS (o':=0) Tryz.underlying155 rfl Tryz.sizeOf153 rfl rfl) ?_ (fun _ h=>h.sel [0,1,2] (by decide));refine aB.take rfl (ai (u:=.slice _ _ _) Tryz.isAgg153 rfl (fun w hw=>hw.aq (i:=1) rfl _ rfl)) ?_ (fun _ h=>h.sel [0,1,2] (by decide));refine aB.take rfl (aC (v:=.int .i64 _) rfl) ?_ (fun _ h=>h.sel [0,1,2] (by decide));refine aB.take rfl (aC (v:=.pointer _) rfl) ?_ (fun _ h=>h.sel [0,1,2] (by decide));refine aB.take rfl (jO rfl) ?_ (fun _ h=>h.sel [0,1,2] (by decide));refine aB.take rfl (aS (o':=0) Tryz.underlying155 rfl Tryz.sizeOf153 rfl rfl) ?_ (fun _ h=>h.sel [0,1,2] (by decide));refine aB.take rfl (ai (u:=.slice _ _ _) Tryz.isAgg153 rfl (fun w hw=>hw.aq (i:=1) rfl _ rfl)) ?_ (fun _ h=>h.sel [0,1,2] (by decide));refine aB.take rfl (aC (v:=.int .i64 _) rfl) ?_ (fun _ h=>h.sel [0,1,2] (by decide));refine aB.take rfl (bG (j:=v) Tryz.underlying153 Tryz.sizeOf152 rfl rfl rfl (by omega)) ?_ (fun _ h=>h.sel [0,1,2] (by decide));refine aB.take rfl (e7 (off:=2) Tryz.underlying152 rfl Tryz.sizeOf49 rfl) ?_ (fun _ h=>h.sel [0,1,2] (by decide));refine tE rfl (ai (u:=.slice _ _ _) Tryz.isAgg49 rfl (fun w hw=>hw.rowAt (i:=2) rfl hk1 hq1 2 (us:=[.slice q1.A q1.kids.length q1.c]) rfl)) ?_;refine gg ?_;refine aB.ef rfl (ck Tryz.call138 (Dc q1.A q1.c q1.kids k hkl hq1cap (i:Int) (by omega)) [] [0,1,2] rfl (fun w hw=>(hw.qR (i:=0) rfl hq1).2.2) (τ:=fun _=>[_,_,_,_]) (fun _=>rfl)) (fun _ _ _ h=>h.2.sel [0,1,2] (by decide)) (fun⟨A116,c116⟩=>?_);refine aB.fact (fun _=>?_);refine aB.val rfl (bG (j:=v) Tryz.underlying153 Tryz.sizeOf152 rfl rfl rfl (by omega)) (fun _ h=>h.sel [0,1,2] (by decide)) ?_;refine aB.take rfl (e7 (off:=2) Tryz.underlying152 rfl Tryz.sizeOf49 rfl) ?_ (fun _ h=>h.sel [0,1,2] (by decide));refine aB.aX rfl (bU (u:=.slice A116 (q1.kids.length+1) c116) (o:=0+v*58+2) (xs':=bV ((bs.set u (iv p A98 c98 (i:Int))).set v (n9 q1 A116 c116 k (i:Int)))) (σ':=[_,_,_,_]) Tryz.sizeOf49 rfl rfl (i:=2) rfl (by rw[eJ hk1];(try simp only[List.length_set]);omega) (by rw[show 0+v*58+2=v*58+2 by omega];exact eI hk1 hq1 (o:=2) (us:=[.slice A116 (q1.kids.length+1) c116]) (by show 2+1≤58;decide) (by first | rfl | (show _=(_::_::Value.slice A116 (bN q1.kids k (i:Int)).length c116::_:List Value);rw[hZ hkl];rfl))) rfl) (fun h=>absurd rfl h) (fun _=>?_);refine aB.nil (an ?_);refine sq ?_
         refine WP.pre ?_ (fun w hw=>St.qT (b':=(n9 q1 A116 c116 k (i:Int))) hq1 (by show St _ _ (_::az A116 (bN q1.kids k (i:Int)).length c116 (bN q1.kids k (i:Int))::_) w;rw[hZ hkl];exact(hw.sel [0,3,1,2] (by decide))));have hk2:lg ((bs.set u (iv p A98 c98 (i:Int))).set v (n9 q1 A116 c116 k (i:Int))):=hk1.set v (show bZ q1.sty from hk1.get hq1);have hmv:=Hw (A1:=A98) (A2:=A116) (c1:=c98) (c2:=c116) (k:=k) hb hl hu hp hpl hv hql hui hvi hq1;have hb2:=hmv.1;refine gg ?_;refine aj.aX (bU (u:=.int .i64 (v:Int)) (o:=0+i*58+1) (xs':=bV (((bs.set u (iv p A98 c98 (i:Int))).set v (n9 q1 A116 c116 k (i:Int))).set i (upB b (v:Int)))) (σ':=[_,_,_]) Tryz.sizeOf3 rfl rfl (i:=2) rfl (by rw[eJ hk2];(try simp only[List.length_set]);omega) (by rw[show 0+i*58+1=i*58+1 by omega];exact eI hk2 hb2 (o:=1) (us:=[.int .i64 (v:Int)]) (by show 1+1≤58;decide) rfl) rfl) (fun _=>?_);refine gg ?_;exact aT fun w hw=>⟨(((bs.set u (iv p A98 c98 (i:Int))).set v (n9 q1 A116 c116 k (i:Int))).set i (upB b (v:Int))),congrArg (Value.int .i64) (by rw[hr]),⟨by rw[hr];exact hmv.2,hk2.set i (show bZ b.sty from hk.get hb)⟩,St.x3 (by rw[wA (b':=(upB b (v:Int))) hb2 rfl];simp only[List.length_set];exact hw.pk)⟩
def dr (up:Int):RB:=⟨true,up,none,0,[],aR⟩
theorem AZ (up:Int):∀v∈(dr up).cells,v.oneCell'=true:=by
  intro v hv;simp only[RB.cells,dr,List.mem_cons] at hv
  rcases hv with rfl | rfl | rfl | hv
  · rfl
  · rfl
  · rfl
  · exact eQ.one v hv
theorem DG:aD [dr (-1)]=nz aR∧lg [dr (-1)]:=by
  refine⟨?_,fun b hb=>?_⟩
  · funext y
    unfold nz
    by_cases h:y=0
    · subst h;rfl
    · by_cases h1 : y < 0
      · rw[kE h1,if_neg h]
      · rw[kF (by simp;omega),if_neg h]
  · obtain rfl : b = _ := by simpa using hb
    exact eQ
theorem Kh:Ct Tryz.prog 52 #[] [] (fun _=>True) (X:=Nat×Nat) (fun p=>.pointer (some ⟨p.1,0,none⟩)) (fun _=>True) (fun p=>[dI p.1 p.2 1 [dr (-1)]]):=by
  refine Ct.intro Tryz.func52 rfl Tryz.ntmps52 (by simp) (fun w0 _=>?_);refine eh ?_;refine sg (v:=.pointer none) rfl ?_;refine nl (oo ?_);refine eh ?_;refine vl (aV (us:=(dr (-1)).cells) (pl:=[(0,1),(1,1),(2,1),(3,55)]) Tryz.underlying152 Tryz.zeroValue152 rfl (by kernel_rfl) rfl rfl (by kernel_rfl)) ?_;refine aj.ef (cu (us:=(dr (-1)).cells) (σ':=fun _=>[_]) Tryz.underlying153 Tryz.sizeOf152 Tryz.zeroValue152 rfl rfl rfl (by decide) (by decide) (fun _=>rfl)) (fun g2=>?_);refine vl (aV (us:=[.slice _ _ _]) (pl:=[(0,1)]) Tryz.underlying155 Tryz.zeroValue155 rfl (by kernel_rfl) rfl rfl (by kernel_rfl)) ?_;refine aj.ef (fw (us:=[.slice _ _ _]) (σ':=fun _=>[_,_]) rfl (fun _=>rfl)) (fun b4=>?_);refine sgP rfl ?_;refine nl (oo ?_);exact WP.cP Tryz.results52 (fun _ h=>h) (fun w hw=>⟨(b4,g2),rfl,trivial,St.IL (bs:=[dr (-1)]) (St.pack (τ:=[(dr (-1)).row]) (((hw.sel [0,1] (by decide)).bB 3 1).sel [2,0,1] (by decide)) |>.sel [2,1,0] (by decide))⟩)
theorem aeg:(Tryz.prog.info? 152).map (fun i=>(i.zero,i.size,i.bytes))=some (some (.agg #[.bool false,.int .i64 0,.slice none 0 0,.int .i64 0,.int .i64 0,.int .i64 0,.int .i64 0,.int .i64 0,.int .i64 0,.int .i64 0,.int .i64 0,.int .i64 0,.int .i64 0,.int .i64 0,.int .i64 0,.int .i64 0,.int .i64 0,.int .i64 0,.int .i64 0,.int .i64 0,.int .i64 0,.int .i64 0,.int .i64 0,.int .i64 0,.int .i64 0,.int .i64 0,.int .i64 0,.int .i64 0,.int .i64 0,.int .i64 0,.int .i64 0,.int .i64 0,.int .i64 0,.int .i64 0,.int .i64 0,.int .i64 0,.int .i64 0,.int .i64 0,.int .i64 0,.int .i64 0,.int .i64 0,.int .i64 0,.int .i64 0,.int .i64 0,.int .i64 0,.int .i64 0,.int .i64 0,.int .i64 0,.bool false,.int .i64 0,.bool false,.int .i64 0,.int .i64 0,.int .i64 0,.bool false,.bool false,.int .i64 0,.int .i64 0]),58,472):=by kernel_rfl
theorem St.TZ {w0 w:World} {M:Nat→Prop} {F:List HI} {bs:List RB} {b':RB} (h:St w0 M (kH bs::b'.row::F) w):St w0 M (kH (bs++[b'])::F) w:=by
  have h1:=h.unpack;refine St.pack (τ:=(bs++[b']).map RB.row) (h1.perm ?_);rw[List.map_append,List.append_assoc];exact List.Perm.refl _
theorem lg.app {bs:List RB} (h:lg bs):lg (bs++[dL]):=fun b hb=>by
  rcases List.mem_append.1 hb with hb | hb
  · exact h b hb
  · obtain rfl : b = _ := by simpa using hb
    exact eQ
theorem Cf (bs:List RB):bV (bs++[dL])=bV bs++dL.cells:=by simp[bV]
theorem BZ:∀v∈dL.cells,v.oneCell'=true:=by
  intro v hv;simp only[RB.cells,dL,List.mem_cons] at hv
  rcases hv with rfl | rfl | rfl | hv
  · rfl
  · rfl
  · rfl
  · exact eQ.one v hv
theorem zx {bs:List RB} {i k:Nat} {q:RB} (hq:bs[i]?=some q) (hl:q.live=true) (hk:k<bs.length) (hno:aK (aD bs) (k:Int)=false) {A:Option Addr} {c j:Nat}:(bs.set k (dr i))[i]?=some q∧aD ((bs.set k (dr i)).set i (n9 q A c j k))=addG (aD bs) i j k aR:=by
  have hne:k≠i:=fun e=>by rw[e,nm hq,hl] at hno;cases hno
  have hil:=(List.getElem?_eq_some_iff.1 hq).1;refine⟨by rw[List.getElem?_set_ne hne,hq],?_⟩
  funext y
  rw[jC (by simp[hil]),jC hk,addG,c8 hq hl]
  by_cases e1:y=i
  · simp[e1,n9,hl]
  · by_cases e2 : y = k
    · have e3 : ((k : Int) ≠ i) := by omega
      simp[e2,e3,dr]
    · simp[e1,e2]
theorem Jt (rp g bc:Nat) (bs:List RB) (hk:lg bs) {d:Int→Nat} (hF:WF (aD bs) d) (up at_:Int):
    Ct Tryz.prog 93 #[.pointer (some ⟨rp,0,none⟩),.int .i64 up,.int .i64 at_] [dI rp g bc bs] (fun _=>True) (X:=Nat×Nat×List RB) (fun _=>.tuple #[.int .i64 (addR aR (aD bs) up at_).2.1,.int .i64 (addR aR (aD bs) up at_).2.2]) (fun p=>aD p.2.2=(addR aR (aD bs) up at_).1∧lg p.2.2) (fun p=>[dI rp p.1 p.2.1 p.2.2]):=by
  have hll:=hF.e6 0;refine Ci fun w0 _=>?_;refine gg ?_;refine eF (xC (j0 rp g bc bs hk up)) fun _ _=>?_;refine gg ?_;refine WP.cond rfl (fun h12=>?_) (fun h12=>?_)
  ·have hr:addR aR (aD bs) up at_=(aD bs,-1,2):=by
     have hn:aK (aD bs) up=false:=by simpa using h12
     simp[addR,hn]
   refine gg ?_;exact rF fun w hw=>⟨(g,bc,bs),by rw[hr];rfl,⟨by rw[hr],hk⟩,hw.pk⟩
  ·have hup:aK (aD bs) up=true:=by simpa using h12
   obtain⟨i,q,hui,hq,hql⟩:=fv hup;subst hui;have hib:=(List.getElem?_eq_some_iff.1 hq).1;have hke:aH (aD bs) (i:Int)=q.kids:=cj (c8 hq hql);have hqk:q.kids.length≤4096:=hF.j5 (c8 hq hql);refine iX ?_;refine aj.split 15 rfl (fun h15=>?_) (fun h15=>?_)
   ·refine gg ?_;have hr:addR aR (aD bs) (i:Int) at_=(aD bs,-1,1):=by rw[addR,if_neg (by simp[hup]),if_pos (by left;omega)]
    refine WP.aQ rfl ?_;refine gg ?_;exact rF fun w hw=>⟨(g,bc,bs),by rw[hr];rfl,⟨by rw[hr],hk⟩,hw.pk⟩
   ·refine bS ?_;refine vg (ai (u:=.slice _ _ _) Tryz.isAgg153 rfl (fun w hw=>hw.lR (i:=0) rfl)) ?_;refine cK ?_;refine vg (ai (u:=.slice _ _ _) Tryz.isAgg49 rfl (fun w hw=>hw.wJ (i:=0) rfl hk hq 2 (us:=[.slice q.A q.kids.length q.c]) rfl)) ?_;refine gg ?_;refine WP.aw rfl (fun h27=>?_) (fun h27=>?_)
    ·have hr:addR aR (aD bs) (i:Int) at_=(aD bs,-1,1):=by rw[addR,if_neg (by simp[hup]),if_pos (by rw[hke];omega)]
     refine gg ?_;exact rF fun w hw=>⟨(g,bc,bs),by rw[hr];rfl,⟨by rw[hr],hk⟩,hw.pk⟩
    ·refine gg ?_;refine eF (xC (JK rp g bc bs hk hF)) fun _ _=>?_;refine gg ?_;refine WP.aw rfl (fun h30=>?_) (fun h30=>?_)
     ·have hr:addR aR (aD bs) (i:Int) at_=(aD bs,-1,4):=by rw[addR,if_neg (by simp[hup]),if_neg (by rw[hke];omega),if_pos (by omega)]
      refine gg ?_;exact rF fun w hw=>⟨(g,bc,bs),by rw[hr];rfl,⟨by rw[hr],hk⟩,hw.pk⟩
     ·refine gg ?_;refine eF (xC (ky rp g bc bs hk hF (i:Int))) fun _ _=>?_;refine gg ?_;refine WP.aw rfl (fun h34=>?_) (fun h34=>?_)
      ·have hr:addR aR (aD bs) (i:Int) at_=(aD bs,-1,5):=by rw[addR,if_neg (by simp[hup]),if_neg (by rw[hke];omega),if_neg (by omega),if_pos (by omega)]
       refine gg ?_;exact rF fun w hw=>⟨(g,bc,bs),by rw[hr];rfl,⟨by rw[hr],hk⟩,hw.pk⟩
      ·have hr0:addR aR (aD bs) (i:Int) at_=(addG (aD bs) i at_.toNat (least (aD bs)) aR,least (aD bs),0):=by rw[addR,if_neg (by simp[hup]),if_neg (by rw[hke];omega),if_neg (by omega),if_neg (by omega)]
       obtain⟨j,rfl⟩:∃j:Nat,at_=j:=⟨at_.toNat,by omega⟩;rw[Int.toNat_natCast] at hr0;have hjl:j≤q.kids.length:=by omega
       obtain⟨l1,l2,l3,l4⟩:=hF.k8;refine gg ?_;refine WP.bm (X:=Nat) [0,1,2] (fun k=>[(8,.int .i64 (k:Int))]) (fun k w=>((k:Int)≤least (aD bs)∧∀y:Int,0≤y→y<k→aK (aD bs) y=true)∧St w0 (ay [dI rp g bc bs]) [dI rp g bc bs] w) (fun k=>(least (aD bs)).toNat - k) 0 ⟨rfl,trivial⟩ (fun w hw=>⟨⟨l1,fun y h1 h2=>by omega⟩,(hw.sel [0] (by decide))⟩) (fun k ρ0=>?_);refine WP.fact (fun⟨hkl,hall⟩=>?_);refine gg ?_;refine eF (xC (j0 rp g bc bs hk (k:Int))) fun _ _=>?_;refine gg ?_;refine WP.cond rfl (fun h37=>?_) (fun h37=>?_)
       ·have hkn:(k:Int)≠least (aD bs):=fun e=>by rw[e,l3] at h37;cases h37
        refine iX ?_;exact nl fun w hw=>⟨rfl,k+1,(by omega),⟨rfl,jP,jI,jI,trivial⟩,⟨⟨by omega,fun y h1 h2=>by by_cases e:y=k;(rw[e];exact h37);exact hall y h1 (by omega)⟩,hw.pk⟩⟩
       ·have hfree:aK (aD bs) (k:Int)=false:=h37;have hls:=hF.Iy hall hfree;have hr:addR aR (aD bs) (i:Int) (j:Int)=(addG (aD bs) i j k aR,(k:Int),0):=by rw[hr0,hls]
        have hkb:k≤bs.length:=by
          by_cases e:k=0
          · omega
          · obtain ⟨m, b, e1, hb, _⟩ := fv (hall ((k : Int) - 1) (by omega) (by omega))
            have:=(List.getElem?_eq_some_iff.1 hb).1;omega
        refine WP.exit (an ?_);refine WP.iU [0,1,2,8] (X:=Nat×Nat×List RB) (fun p=>[]) (fun p=>fun w=>(lg p.2.2∧aD p.2.2=aD bs∧k<p.2.2.length∧∀(y:Nat) (b:RB),bs[y]?=some b→p.2.2[y]?=some b)∧St w0 (ay [dI rp g bc bs]) [.cl rp 155 [.slice (some ⟨p.1,0,none⟩) p.2.2.length p.2.1],.row 152 58 (some ⟨p.1,0,none⟩) p.2.2.length p.2.1 (bV p.2.2),kH p.2.2] w) ?_ (fun p ρ0=>?_)
        ·refine sq ?_;refine WP.pre ?_ (fun w hw=>St.DQ (hw.sel [0] (by decide)));refine gg ?_;refine WP.aw rfl (fun h46=>?_) (fun h46=>?_)
         ·have hkn:k=bs.length:=by omega
          refine iX ?_;refine vl (aV (parts:=[]) (us:=dL.cells) (pl:=[(0,1),(1,1),(2,1),(3,55)]) Tryz.underlying152 Tryz.zeroValue152 rfl (by kernel_rfl) rfl rfl (by kernel_rfl)) ?_;refine aj.ef (cu (us:=dL.cells) (σ':=fun _=>[_,_,_,_]) Tryz.underlying153 Tryz.sizeOf152 Tryz.zeroValue152 rfl rfl rfl (by decide) (by decide) (fun _=>rfl)) (fun g53=>?_);refine aj.ef (xP 1 3 (h1:=BZ)) fun⟨A54,c54⟩=>?_;refine gg ?_;refine aj.aX (xS rfl (Fv rfl)) fun _=>?_;refine aj.nil fun w hw=>?_;obtain⟨lb,hA⟩:=hw.aM (i:=1) rfl (by omega);subst hA;exact⟨rfl,(lb,c54,bs++[dL]),⟨jP,jI,jI,jI,trivial⟩,⟨hk.app,FZ bs,by simp only[List.length_append,List.length_singleton];omega,fun y b hb=>by rw[List.getElem?_append_left (List.getElem?_eq_some_iff.1 hb).1];exact hb⟩,by dsimp only;rw[Cf,List.length_append];exact(St.TZ (b':=dL) ((hw.bB 3 1).sel [2,4,0,1] (by decide))).sel [1,2,0] (by decide)⟩
         ·have hkn:k≠bs.length:=by omega
          exact WP.skip fun w hw=>⟨rfl,(g,bc,bs),⟨jP,jI,jI,jI,trivial⟩,⟨hk,rfl,by dsimp only;omega,fun _ _ h=>h⟩,hw.pk⟩
        ·obtain⟨g',bc',bs2⟩:=p;dsimp only;refine WP.fact (fun⟨hk2,habs,hkb2,hold⟩=>?_);obtain⟨z,hz⟩:∃z,bs2[k]?=some z:=⟨_,List.getElem?_eq_getElem hkb2⟩;have hib2:=(List.getElem?_eq_some_iff.1 (hold _ _ hq)).1;refine qa ?_;refine vl (aV (us:=(dr (i:Int)).cells) (pl:=[(0,1),(1,1),(2,1),(3,55)]) Tryz.underlying152 Tryz.zeroValue152 rfl (by kernel_rfl) rfl rfl (by kernel_rfl)) ?_;refine gg ?_;refine aj.aX (jX (us:=(dr (i:Int)).cells) (o:=0+k*58) (σ':=[_,_,_]) Tryz.sizeOf152 rfl rfl (i:=1) rfl (by rw[eJ hk2];show _+58≤_;omega) (by rw[show 0+k*58=k*58+0 by omega,eI hk2 hz (b':=(dr (i:Int))) (by rw[RB.il (b:=dr (i:Int)) eQ];decide) (pE _ _ (by rw[RB.il (hk2.get hz)];rfl))];rfl) (AZ _) rfl) (fun _=>?_);refine bW ?_;refine WP.pre ?_ (fun w hw=>St.qT (b':=(dr (i:Int))) hz ((hw.bB 3 1).sel [2,3,0,1] (by decide)));have hk3:lg (bs2.set k (dr (i:Int))):=hk2.set k (b':=(dr (i:Int))) eQ;have hadd:=zx (A:=none) (c:=0) (j:=j) (hold _ _ hq) hql hkb2 (by rw[habs];exact hfree);have hq3:=hadd.1;refine WP.holds (fun w hw=>(hw.qR (i:=0) rfl hq3).2.1) (fun hqcap=>?_);refine WP.dj (some 18) [0,1,2] [(0,true),(1,true),(2,true),(3,true),(4,true),(5,true),(6,true),(7,true),(8,true),(9,true),(10,true),(11,true),(12,true),(13,true),(14,true),(15,false),(16,false),(17,true),(18,false)] mixed (by kernel_rfl) (by decide) ?_;refine aB.take rfl (aC (v:=.pointer _) rfl) ?_ (fun _ h=>h.sel [0,1,2] (by decide));refine aB.take rfl (jO rfl) ?_ (fun _ h=>h.sel [0,1,2] (by decide));refine aB.take rfl (aS (o':=0) Tryz.underlying155 rfl Tryz.sizeOf153 rfl rfl) ?_ (fun _ h=>h.sel [0,1,2] (by decide));refine aB.take rfl (ai (u:=.slice _ _ _) Tryz.isAgg153 rfl (fun w hw=>hw.aq (i:=1) rfl _ rfl)) ?_ (fun _ h=>h.sel [0,1,2] (by decide));refine aB.take rfl (aC (v:=.int .i64 _) rfl) ?_ (fun _ h=>h.sel [0,1,2] (by decide));refine aB.take rfl (aC (v:=.pointer _) rfl) ?_ (fun _ h=>h.sel [0,1,2] (by decide));refine aB.take rfl (jO rfl) ?_ (fun _ h=>h.sel [0,1,2] (by decide));refine aB.take rfl (aS (o':=0) Tryz.underlying155 rfl Tryz.sizeOf153 rfl rfl) ?_ (fun _ h=>h.sel [0,1,2] (by decide));refine aB.take rfl (ai (u:=.slice _ _ _) Tryz.isAgg153 rfl (fun w hw=>hw.aq (i:=1) rfl _ rfl)) ?_ (fun _ h=>h.sel [0,1,2] (by decide));refine aB.take rfl (aC (v:=.int .i64 _) rfl) ?_ (fun _ h=>h.sel [0,1,2] (by decide));refine aB.take rfl (bG (j:=i) Tryz.underlying153 Tryz.sizeOf152 rfl rfl rfl (by omega)) ?_ (fun _ h=>h.sel [0,1,2] (by decide));refine aB.take rfl (e7 (off:=2) Tryz.underlying152 rfl Tryz.sizeOf49 rfl) ?_ (fun _ h=>h.sel [0,1,2] (by decide));refine tE rfl (ai (u:=.slice _ _ _) Tryz.isAgg49 rfl (fun w hw=>hw.rowAt (i:=2) rfl hk3 hq3 2 (us:=[.slice q.A q.kids.length q.c]) rfl)) ?_;refine gg ?_;refine aB.ef rfl (ck Tryz.call138 (Dc q.A q.c q.kids j hjl hqcap (k:Int) (by omega)) [] [0,1,2] rfl (fun w hw=>(hw.qR (i:=0) rfl hq3).2.2) (τ:=fun _=>[_,_,_,_]) (fun _=>rfl)) (fun _ _ _ h=>h.2.sel [0,1,2] (by decide)) (fun⟨A80,c80⟩=>?_)
         refine aB.fact (fun _=>?_);refine aB.val rfl (bG (j:=i) Tryz.underlying153 Tryz.sizeOf152 rfl rfl rfl (by omega)) (fun _ h=>h.sel [0,1,2] (by decide)) ?_;refine aB.take rfl (e7 (off:=2) Tryz.underlying152 rfl Tryz.sizeOf49 rfl) ?_ (fun _ h=>h.sel [0,1,2] (by decide));refine aB.aX rfl (bU (u:=.slice A80 (q.kids.length+1) c80) (o:=0+i*58+2) (xs':=bV ((bs2.set k (dr (i:Int))).set i (n9 q A80 c80 j (k:Int)))) (σ':=[_,_,_,_]) Tryz.sizeOf49 rfl rfl (i:=2) rfl (by rw[eJ hk3,List.length_set];omega) (by rw[show 0+i*58+2=i*58+2 by omega];exact eI hk3 hq3 (o:=2) (us:=[.slice A80 (q.kids.length+1) c80]) (by show 2+1≤58;decide) (by show _=(_::_::Value.slice A80 (bN q.kids j (k:Int)).length c80::_:List Value);rw[hZ hjl];rfl)) rfl) (fun h=>absurd rfl h) (fun _=>?_);refine aB.nil (an ?_);refine sq ?_;refine WP.pre ?_ (fun w hw=>St.qT (b':=(n9 q A80 c80 j (k:Int))) hq3 (by show St _ _ (_::az A80 (bN q.kids j (k:Int)).length c80 (bN q.kids j (k:Int))::_) w;rw[hZ hjl];exact(hw.sel [0,3,1,2] (by decide))));refine gg ?_;exact WP.IM Tryz.results93 (fun _ h=>h) (fun w hw=>⟨(g',bc',((bs2.set k (dr (i:Int))).set i (n9 q A80 c80 j (k:Int)))),by rw[hr];rfl,⟨by rw[hr,←habs];exact(zx (hold _ _ hq) hql hkb2 (by rw[habs];exact hfree)).2,hk3.set i (b':=(n9 q A80 c80 j (k:Int))) (show bZ q.sty from hk.get hq)⟩,St.x3 (by simp only[List.length_set];exact(hw.sel [1,2,0] (by decide)))⟩)
def leafF (sz:TypeId→Option Nat) (rec:TypeId→Option (List Bool)):Nat→List Field→Option (List Bool)
  | _,[]=>some []
  | o, f :: fs =>
    match rec f.type with
    | some ks => if f.name ≠ "_" ∧ f.offset = o ∧ sz f.type = some ks.length then (leafF sz rec (o + ks.length) fs).map (ks ++ ·) else none
    | none=>none
def leafK (P:Program):Nat→TypeId→Option (List Bool)
  | 0,_=>none
  | d + 1, t =>
    match P.underlying t with
    | some .bool=>some [false]
    | some (.int q)=>if q=.i64 then some [true] else none
    | some (.struct fs)=>if P.stoodInHeld t then none else leafF (fun t=>(P.info? t).map (·.size)) (leafK P d) 0 fs.toList
    | some (.array n e) =>
      match leafK P d e with
      | some ks=>if (P.info? e).map (·.size)=some ks.length then some (List.replicate n ks).flatten else none
      | none=>none
    | _=>none
def leafB:Bool→Value→Bool
  | true,.int .i64 _=>true
  | false,.bool _=>true
  | _,_=>false
def leavesB:List Bool→List Value→Bool
  | [],[]=>true
  | k::ks,v::vs=>leafB k v&&leavesB ks vs
  | _,_=>false
def rH (P:Program) (t:TypeId) (cs:List Value):Value:=
  match P.underlying t with
  | some (.struct _) | some (.array _ _)=>.agg cs.toArray
  | _=>cs.headD undef
theorem eE:∀{ks:List Bool} {cs:List Value},leavesB ks cs=true→cs.length=ks.length
  | [],[],_=>rfl
  | k :: ks, v :: vs, h => by
    simp only[leavesB,Bool.and_eq_true] at h;simp[eE h.2]
  | [],_::_,h=>by simp[leavesB] at h
  | _::_,[],h=>by simp[leavesB] at h
theorem gj:∀{ks ls:List Bool} {cs:List Value},leavesB (ks++ls) cs=true→leavesB ks (cs.take ks.length)=true∧leavesB ls (cs.drop ks.length)=true
  | [],ls,cs,h=>by simpa [leavesB] using h
  | k::ks,ls,[],h=>by simp[leavesB] at h
  | k :: ks, ls, v :: vs, h => by
    simp only[List.cons_append,leavesB,Bool.and_eq_true] at h;have:=gj h.2;simp only[List.length_cons,List.take_succ_cons,List.drop_succ_cons,leavesB,Bool.and_eq_true];exact⟨⟨h.1,this.1⟩,this.2⟩
theorem ER {P:Program} {t:TypeId} {n:Nat} (h:(P.info? t).map (·.size)=some n) (w:World):(sizeOf t).run P w=.ok n w:=by
  obtain⟨i,hi,rfl⟩:=Option.map_eq_some_iff.1 h;simp[sizeOf,typeInfo,hi]
theorem nh {P:Program} (w:World) {t:TypeId} {d:Nat} {ks:List Bool} {xs:List Value} {o:Nat} (hk:leafK P d t=some ks) (hs:(P.info? t).map (·.size)=some ks.length) (hl:leavesB ks ((xs.drop o).take ks.length)=true):
    (part t xs.toArray o).run P w=.ok (rH P t ((xs.drop o).take ks.length)) w:=by
  cases d with
  | zero=>simp[leafK] at hk
  | succ d =>
    unfold leafK at hk;unfold rH part isAgg;have hsz:=ER hs w;cases hu:P.underlying t with
    | none=>simp[hu] at hk
    | some k =>
      have one : ks.length = 1 → (match xs.toArray[o]? with | some v => (pure v : Sem Value) | none => stuck "part: no such cell").run P w = .ok (((xs.drop o).take ks.length).headD undef) w := by
        intro e;have h1:=eE hl;rw[e] at h1 ⊢;have h2:o<xs.length:=by
          rcases Nat.lt_or_ge o xs.length with h | h
          · exact h
          · rw[List.drop_eq_nil_of_le h] at h1;simp at h1
        rw[List.getElem?_toArray,List.getElem?_eq_getElem h2,List.drop_eq_getElem_cons h2];rfl
      cases k<;>simp only[hu] at hk<;>try (cases hk;done)
      case bool=>cases hk;simp only[Sem.run_bind,run_underlying hu,Result.andThen_ok,Sem.run_pure,Bool.false_eq_true,if_false];exact one rfl
      case int q=>split at hk<;>cases hk;simp only[Sem.run_bind,run_underlying hu,Result.andThen_ok,Sem.run_pure,Bool.false_eq_true,if_false];exact one rfl
      case struct fs=>
        simp only[Sem.run_bind,run_underlying hu,Result.andThen_ok,Sem.run_pure,if_true,hsz];simp
      case array n e=>
        simp only[Sem.run_bind,run_underlying hu,Result.andThen_ok,Sem.run_pure,if_true,hsz];simp
theorem nk {P:Program} {t:TypeId} {b:Bool} (hu:(P.underlying t=some .bool∧b=false)∨((∃q,P.underlying t=some (.int q))∧b=true)) {xs:List Value} (h:leavesB [b] xs=true):∃v,xs=[v]∧leafB b v=true∧rH P t xs=v:=by
  match xs,h with
  | [v], h =>
    refine⟨v,rfl,by simpa [leavesB] using h,?_⟩
    rcases hu with ⟨h1,_⟩ | ⟨⟨q,h1⟩,_⟩<;>simp[rH,h1]
  | [],h=>simp[leavesB] at h
  | _::_::_,h=>simp[leavesB] at h
noncomputable def eqv (xs ys:List Value):Bool:=@decide (xs=ys) (Classical.propDecidable _)
theorem mY {xs ys:List Value}:eqv xs ys=true↔xs=ys:=by unfold eqv;exact @decide_eq_true_iff _ (Classical.propDecidable _)
theorem kV (xs:List Value):eqv xs xs=true:=mY.2 rfl
theorem oa {xs ys:List Value} (h:xs≠ys):eqv xs ys=false:=by
  cases e:eqv xs ys with
  | false=>rfl
  | true=>exact absurd (mY.1 e) h
theorem vw {xs ys xs' ys':List Value} (h:xs=ys↔xs'=ys'):eqv xs ys=eqv xs' ys':=by
  cases e:eqv xs' ys' with
  | true=>exact mY.2 (h.2 (mY.1 e))
  | false=>exact oa fun e'=>by rw[mY.2 (h.1 e')] at e;cases e
def Sw (P:Program) (D:Nat) (t:TypeId) (ks:List Bool):Prop:=∀(w:World) xs ys,leavesB ks xs=true→leavesB ks ys=true→(Op.equalIn D t (rH P t xs) (rH P t ys)).run P w=.ok (eqv xs ys) w
theorem Io {xs ys:List Value} {n:Nat}:xs=ys↔xs.take n=ys.take n∧xs.drop n=ys.drop n:=by
  constructor
  · rintro rfl;exact⟨rfl,rfl⟩
  · rintro ⟨h1, h2⟩
    rw[←List.take_append_drop n xs,←List.take_append_drop n ys,h1,h2]
theorem wm {P:Program} (D d:Nat) (hD:∀t ks,leafK P d t=some ks→Sw P D t ks):∀(fs:List Field) (o:Nat) (ks:List Bool),leafF (fun t=>(P.info? t).map (·.size)) (leafK P d) o fs=some ks→
    ∀(w:World) (xs ys:List Value),leavesB ks (xs.drop o)=true→leavesB ks (ys.drop o)=true→(Op.eqFields D xs.toArray ys.toArray fs).run P w=.ok (eqv (xs.drop o) (ys.drop o)) w
  | [], o, ks, hk, w, xs, ys, hx, hy => by
    simp only[leafF,Option.some.injEq] at hk;subst hk;have h1:=List.eq_nil_of_length_eq_zero (eE hx);have h2:=List.eq_nil_of_length_eq_zero (eE hy);rw[h1,h2];simp[Op.eqFields,kV]
  | f :: fs, o, ks, hk, w, xs, ys, hx, hy => by
    unfold leafF at hk;cases hf:leafK P d f.type with
    | none=>simp[hf] at hk
    | some k1 =>
      simp only[hf] at hk
      split at hk
      · rename_i hc
        obtain⟨hn,ho,hs⟩:=hc;obtain⟨k2,hk2,rfl⟩:=Option.map_eq_some_iff.1 hk;obtain⟨hx1,hx2⟩:=gj hx;obtain⟨hy1,hy2⟩:=gj hy;rw[List.drop_drop] at hx2 hy2;have ih:=wm D d hD fs (o+k1.length) k2 hk2 w xs ys hx2 hy2;have hd:=hD _ _ hf w _ _ hx1 hy1;unfold Op.eqFields;rw[if_pos hn,ho];simp only[Sem.run_bind,nh w hf hs hx1,nh w hf hs hy1,Result.andThen_ok,hd];have he:(xs.drop o=ys.drop o)↔((xs.drop o).take k1.length=(ys.drop o).take k1.length∧xs.drop (o+k1.length)=ys.drop (o+k1.length)):=by
          rw[←List.drop_drop,←List.drop_drop];exact Io
        by_cases h1:(xs.drop o).take k1.length=(ys.drop o).take k1.length
        · simp only [h1, kV, Bool.not_true, Bool.false_eq_true, if_false, ih]
          congr 1
          exact vw (by rw[he];exact⟨fun h=>⟨h1,h⟩,fun h=>h.2⟩)
        · simp only [oa h1, Bool.not_false, if_true, Sem.run_pure]
          congr 1
          exact(oa fun h=>h1 (he.1 h).1).symm
      · cases hk
theorem yt {P:Program} (D:Nat) {e:TypeId} {ks:List Bool} {d:Nat} (hk:leafK P d e=some ks) (hs:(P.info? e).map (·.size)=some ks.length) (hD:Sw P D e ks):∀(n i:Nat) (w:World) (xs ys:List Value),
    leavesB (List.replicate n ks).flatten (xs.drop (i*ks.length))=true→leavesB (List.replicate n ks).flatten (ys.drop (i*ks.length))=true→
    (Op.eqItems D e ks.length xs.toArray ys.toArray (List.range' i n)).run P w=.ok (eqv (xs.drop (i*ks.length)) (ys.drop (i*ks.length))) w
  | 0, i, w, xs, ys, hx, hy => by
    have h1:=List.eq_nil_of_length_eq_zero (eE hx);have h2:=List.eq_nil_of_length_eq_zero (eE hy);rw[h1,h2];simp[Op.eqItems,kV]
  | n + 1, i, w, xs, ys, hx, hy => by
    rw[List.replicate_succ,List.flatten_cons] at hx hy;obtain⟨hx1,hx2⟩:=gj hx;obtain⟨hy1,hy2⟩:=gj hy;have e1:i*ks.length+ks.length=(i+1)*ks.length:=by rw[Nat.add_mul,Nat.one_mul]
    rw[List.drop_drop,e1] at hx2 hy2;have ih:=yt D hk hs hD n (i+1) w xs ys hx2 hy2;have hd:=hD w _ _ hx1 hy1;rw[List.range'_succ];unfold Op.eqItems;simp only[Sem.run_bind,nh w hk hs hx1,nh w hk hs hy1,Result.andThen_ok,hd];have he:(xs.drop (i*ks.length)=ys.drop (i*ks.length))↔((xs.drop (i*ks.length)).take ks.length=(ys.drop (i*ks.length)).take ks.length∧xs.drop ((i+1)*ks.length)=ys.drop ((i+1)*ks.length)):=by
      rw[←e1,←List.drop_drop,←List.drop_drop];exact Io
    by_cases h1:(xs.drop (i*ks.length)).take ks.length=(ys.drop (i*ks.length)).take ks.length
    · simp only [h1, kV, Bool.not_true, Bool.false_eq_true, if_false, ih]
      congr 1
      exact vw (by rw[he];exact⟨fun h=>⟨h1,h⟩,fun h=>h.2⟩)
    · simp only [oa h1, Bool.not_false, if_true, Sem.run_pure]
      congr 1
      exact(oa fun h=>h1 (he.1 h).1).symm
theorem eqF {P:Program}:∀(d e:Nat) (t:TypeId) (ks:List Bool),leafK P d t=some ks→Sw P (d+e) t ks
  | 0,_,t,ks,hk=>by simp[leafK] at hk
  | d + 1, e, t, ks, hk => by
    intro w xs ys hx hy;unfold leafK at hk;rw[show d+1+e=(d+e)+1 by omega];cases hu:P.underlying t with
    | none=>simp[hu] at hk
    | some k =>
      cases k<;>simp only[hu] at hk<;>try (cases hk;done)
      case bool=>
        cases hk;obtain⟨u,rfl,h1,e1⟩:=nk (.inl ⟨hu,rfl⟩) hx;obtain⟨v,rfl,h2,e2⟩:=nk (.inl ⟨hu,rfl⟩) hy;rw[e1,e2];cases u<;>simp only[leafB,Bool.false_eq_true] at h1
        cases v<;>simp only[leafB,Bool.false_eq_true] at h2
        rw[run_equalIn_bool' w _ _ _ _ hu]
        congr 1
        rename_i a b;cases a<;>cases b<;>first | exact(kV _).symm | exact(oa (by simp)).symm
      case int q=>
        split at hk<;>cases hk
        obtain⟨u,rfl,h1,e1⟩:=nk (.inr ⟨⟨q,hu⟩,rfl⟩) hx;obtain⟨v,rfl,h2,e2⟩:=nk (.inr ⟨⟨q,hu⟩,rfl⟩) hy;rw[e1,e2];unfold leafB at h1 h2
        split at h1<;>simp_all
        split at h2<;>simp_all
        rw[run_equalIn_int w _ _ _ _ _ _ hu]
        congr 1
        rename_i a b _;exact Bool.eq_iff_iff.2 (by rw[mY];simp)
      case struct fs=>
        split at hk
        · cases hk
        · rename_i hst
          have hfs:P.fieldsOf t=fs:=by simp[Program.fieldsOf,hu]
          have hv:∀zs,rH P t zs=.agg zs.toArray:=fun zs=>by simp[rH,hu]
          rw[hv,hv,run_equalIn_struct w (d+e) t _ _ (by rw[hfs];exact hu) (by simpa using hst),hfs];have:=wm (d+e) d (fun t ks h=>eqF d e t ks h) fs.toList 0 ks hk w xs ys (by simpa using hx) (by simpa using hy)
          simpa using this
      case array n el=>
        split at hk
        · rename_i k1 hk1
          split at hk
          · rename_i hs
            cases hk;obtain⟨i,hi,hsz⟩:=Option.map_eq_some_iff.1 hs;have hv:∀zs,rH P t zs=.agg zs.toArray:=fun zs=>by simp[rH,hu]
            have hco:P.cellsOf el=k1.length:=by simp[Program.cellsOf,hi,hsz]
            rw[hv,hv,run_equalIn_array w (d+e) _ _ hu hi,hco,List.range_eq_range'];have:=yt (d+e) hk1 hs (eqF d e el k1 hk1) n 0 w xs ys (by simpa using hx) (by simpa using hy)
            simpa using this
          · cases hk
        · cases hk
section
variable {P:Program} {r:Option Nat} {S:World→Prop} {ρ:Env} {dst:Option Tmp} {ty:TypeId} {pos:String} {af:Array Edge} {g:Option (Nat×Bool)} {t t2:TypeId} {x y:Operand}
end
def DF:List Bool:=List.replicate 45 true++[false,true,false,true,true,true,false,false,true,true]
theorem yD:∀j,j<55→DF[j]?=some (!kP j):=by decide
theorem bZ.wH {cs:List Value} (h:leavesB DF cs=true):bZ cs:=by
  have hl:=eE h;have hget:∀(ks:List Bool) (cs:List Value),leavesB ks cs=true→∀(i:Nat) (k:Bool),ks[i]?=some k→∃v,cs[i]?=some v∧leafB k v=true:=by
    intro ks;induction ks with
    | nil=>intro cs _ i k hk;simp at hk
    | cons k0 ks ih =>
      intro cs h i k hk;cases cs with
      | nil=>simp[leavesB] at h
      | cons v vs =>
        simp only[leavesB,Bool.and_eq_true] at h;cases i with
        | zero=>cases hk;exact⟨v,rfl,h.1⟩
        | succ i=>exact ih vs h.2 i k (by simpa using hk)
  refine⟨hl,fun j hj hb=>?_,fun j hj hb=>?_⟩
  · obtain ⟨v, hv, hv2⟩ := hget _ _ h j _ (yD j hj)
    rw[hb] at hv2;unfold leafB at hv2
    split at hv2<;>simp_all [val,num01,List.getD_eq_getElem?_getD]
  · obtain ⟨v, hv, hv2⟩ := hget _ _ h j _ (yD j hj)
    rw[hb] at hv2;unfold leafB at hv2
    split at hv2<;>simp_all [iJ,List.getD_eq_getElem?_getD]
abbrev Ko (a:Act (List Value)):List Value:=.int .i64 a.k::.int .i64 a.a::.int .i64 a.b::.int .i64 a.c::a.sty
theorem Ki (tp mb:Nat) (es:List PE) (hk:eG es) {d:Int→Nat} (hF:WF (ae es) d) (rp g bc:Nat) (bs:List RB) (hkr:lg bs) (hab:aD bs=ae es) (a:Act (List Value)) (hs:bZ a.sty):
    Ct Tryz.prog 54 #[.pointer (some ⟨tp,0,none⟩),.pointer (some ⟨rp,0,none⟩),.agg (Ko a).toArray] [al tp mb es,dI rp g bc bs] (fun _=>True) (X:=List PE×Nat×Nat×List RB) (fun _=>.bool true)
      (fun p=>ae p.1=kQ aR bg (ae es) a∧eG p.1∧aD p.2.2.2=ae p.1∧lg p.2.2.2) (fun p=>[al tp mb p.1,dI rp p.2.1 p.2.2.1 p.2.2.2]):=by
  obtain⟨ak,aa,ab,ac,sty⟩:=a;simp only at hs;have hFr:WF (aD bs) d:=by rw[hab];exact hF
  refine Ci fun w0 _=>?_;refine gg ?_;refine aj.ef (xB (us:=Ko ⟨ak,aa,ab,ac,sty⟩)) fun b5=>?_;refine iX ?_;refine vl (YA rfl rfl (by decide)) ?_;refine gg ?_;refine WP.aw rfl (fun h22=>?_) (fun h22=>?_)
  ·have hr:kQ aR bg (ae es) ⟨ak,aa,ab,ac,sty⟩=(remR (ae es) aa).1:=by rw[kQ,if_pos h22]
   refine gg ?_;refine eF (xC (Fg tp mb es hk hF aa)) fun es1 hf=>?_;refine mv rfl ?_;refine gg ?_;refine eF (xC (By rp g bc bs hkr hFr aa)) fun bs1 hf2=>?_;refine mv rfl ?_;refine uw ?_;refine vl (fL (b:=true) (dD rfl rfl) (decide_eq_true (by rw[hab]))) ?_;refine cK ?_;refine vg (fL (b:=true) (dD rfl rfl) (decide_eq_true (by rw[hab]))) ?_;refine gg ?_;exact aT fun w hw=>⟨(es1,g,bc,bs1),rfl,⟨by rw[hr];exact hf.1,hf.2,by dsimp only;rw[hf.1,hf2.1,hab],hf2.2⟩,hw.pk⟩
  ·refine gg ?_;refine WP.aw rfl (fun h46=>?_) (fun h46=>?_)
   ·have hr:kQ aR bg (ae es) ⟨ak,aa,ab,ac,sty⟩=(movR (ae es) aa ab ac).1:=by rw[kQ,if_neg h22,if_pos h46]
    refine gg ?_;refine eF (xC (Kq tp mb es hk hF aa ab ac)) fun es1 hf=>?_;refine gg ?_;refine eF (xC (GZ rp g bc bs hkr hFr aa ab ac)) fun bs1 hf2=>?_;refine cR ?_;refine vl (fL (b:=true) (dD rfl rfl) (decide_eq_true (by rw[hab]))) ?_;refine gg ?_;exact aT fun w hw=>⟨(es1,g,bc,bs1),rfl,⟨by rw[hr];exact hf.1,hf.2,by dsimp only;rw[hf.1,hf2.1,hab],hf2.2⟩,hw.pk⟩
   ·refine gg ?_;refine WP.aw rfl (fun h67=>?_) (fun h67=>?_)
    ·have hr:kQ aR bg (ae es) ⟨ak,aa,ab,ac,sty⟩=(setR bg (ae es) aa sty).1:=by rw[kQ,if_neg h22,if_neg h46,if_pos h67]
     refine cR ?_;refine vl (au (cs:=sty) Tryz.isAgg42 Tryz.sizeOf42 rfl (fun w hw=>hw.aq (i:=2) rfl 4 (by show List.take _ sty=_;exact List.take_of_length_le (Nat.le_refl _))) hs.len) ?_;refine eF (xC (xp tp mb es hk aa sty hs)) fun es1 hf=>?_;refine qa ?_;refine vl (au (cs:=sty) Tryz.isAgg42 Tryz.sizeOf42 rfl (fun w hw=>hw.aq (i:=1) rfl 4 (by show List.take _ sty=_;exact List.take_of_length_le (Nat.le_refl _))) hs.len) ?_;refine eF (xC (Jr rp g bc bs hkr aa sty hs)) fun bs1 hf2=>?_;refine cR ?_;refine vl (fL (b:=true) (dD rfl rfl) (decide_eq_true (by rw[hab]))) ?_;refine gg ?_;exact aT fun w hw=>⟨(es1,g,bc,bs1),rfl,⟨by rw[hr];exact hf.1,hf.2,by dsimp only;rw[hf.1,hf2.1,hab],hf2.2⟩,hw.pk⟩
    ·have hr:kQ aR bg (ae es) ⟨ak,aa,ab,ac,sty⟩=(addR aR (ae es) aa ab).1:=by rw[kQ,if_neg h22,if_neg h46,if_neg h67]
     refine gg ?_;refine eF (xC (BR tp mb es hk hF aa ab)) fun es1 hf=>?_;refine mv rfl ?_;refine gg ?_;refine eF (xC (Jt rp g bc bs hkr hFr aa ab)) fun⟨g',bc',bs1⟩ hf2=>?_;refine mv rfl ?_;refine uw ?_;refine vl (fL (b:=true) (dD rfl rfl) (decide_eq_true (by rw[hab]))) ?_;refine cK ?_;refine vg (fL (b:=true) (dD rfl rfl) (decide_eq_true (by rw[hab]))) ?_;refine gg ?_;exact aT fun w hw=>⟨(es1,g',bc',bs1),rfl,⟨by rw[hr];exact hf.1,hf.2,by dsimp only;rw[hf.1,hf2.1,hab],hf2.2⟩,hw.pk⟩
end Go.Proofs.YtbedndijejpcaaaGreat
namespace Go.Proofs.YtbedndijejpcaaaGreat
open Go.RowKit
def Rg (x:Int):Int:=max 0 (min x 1073741824)
def gU (w:List Int) (k:Nat):Int:=((w.take k).map Rg).sum
def lV (w:List Int) (k:Nat):List Int:=(List.range (w.length+1)).map fun j=>if j≤k then gU w j else 0
theorem EX (w:List Int):gU w 0=0:=by simp[gU]
theorem vI (w:List Int) (k:Nat) (x:Int) (h:w[k]?=some x):gU w (k+1)=gU w k+Rg x:=by
  have hk:k<w.length:=(List.getElem?_eq_some_iff.1 h).1;have e:w[k]=x:=by simpa [List.getElem?_eq_getElem hk] using h
  unfold gU;rw[List.take_succ_eq_append_getElem hk,e];simp
theorem AX (x:Int):0≤Rg x∧Rg x≤1073741824:=by unfold Rg;omega
theorem w8 (w:List Int) (k:Nat):0≤gU w k∧gU w k≤k*1073741824:=by
  unfold gU;induction w generalizing k with
  | nil=>simp;omega
  | cons x w ih =>
    cases k with
    | zero=>simp
    | succ k=>have:=ih k;have:=AX x;simp only[List.take_succ_cons,List.map_cons,List.sum_cons];omega
theorem gR (w:List Int) (k:Nat):(lV w k).length=w.length+1:=by simp[lV]
theorem ni (w:List Int) (k j:Nat) (hj:j≤w.length):(lV w k)[j]?=some (if j≤k then gU w j else 0):=by
  simp[lV,show j<w.length+1 by omega]
theorem Br (w:List Int):lV w 0=List.replicate (w.length+1) 0:=by
  apply List.ext_getElem?;intro j
  by_cases hj:j≤w.length
  · rw [ni w 0 j hj, List.getElem?_replicate, if_pos (show j < w.length + 1 by omega)]
    by_cases h0:j=0
    · subst h0;simp[EX]
    · rw[if_neg (by omega)]
  · rw[List.getElem?_eq_none (by rw[gR];omega),List.getElem?_eq_none (by simp;omega)]
theorem Cb (w:List Int) (k:Nat) (x:Int) (h:w[k]?=some x):(lV w k).set (k+1) (gU w k+Rg x)=lV w (k+1):=by
  have hk:k<w.length:=(List.getElem?_eq_some_iff.1 h).1;apply List.ext_getElem?;intro j;rw[List.getElem?_set]
  by_cases hj:j≤w.length
  · rw [ni w (k + 1) j hj, gR]
    by_cases e:k+1=j
    · subst e;rw[if_pos rfl,if_pos (by omega),if_pos (by omega),vI w k x h]
    · rw [if_neg e, ni w k j hj]
      by_cases h2:j≤k
      · rw[if_pos h2,if_pos (by omega)]
      · rw[if_neg h2,if_neg (by omega)]
  · have hn : ∀ q, (lV w q)[j]? = none := fun q => List.getElem?_eq_none (by rw [gR]; omega)
    rw[hn,hn,gR]
    by_cases e:k+1=j
    · rw[if_pos e,if_neg (by omega)]
    · rw[if_neg e]
def qm (n:Int):Int:=max 0 (min n 67108864)
theorem sY (n:Int):0≤qm n∧qm n≤67108864:=by unfold qm;omega
def gH (w:List Int):Int:=max (gU w w.length) 1
def iB (n:Int) (w:List Int) (k:Nat):Int:=qm n*gU w k / gH w
def share (n:Int) (w:List Int):List Int:=(List.range w.length).map fun k=>iB n w (k+1) - iB n w k
def shares (n:Int) (w:List Int) (k:Nat):List Int:=(List.range w.length).map fun j=>if j<k then iB n w (j+1) - iB n w j else 0
theorem oJ (w:List Int) (k j:Nat) (hj:j≤w.length) (hk:j≤k):((lV w k).map (Value.int .i64))[j]?=some (.int .i64 (gU w j)):=by
  rw[List.getElem?_map,ni w k j hj,if_pos hk];rfl
theorem wk (n:Int):jq n 0 67108864=qm n:=by rw[ml (by omega) (by omega) (by omega)];rfl
theorem EG (n:Int):jq n 0 1073741824=Rg n:=by rw[ml (by omega) (by omega) (by omega)];rfl
theorem uD (n:Int) (w:List Int) (k:Nat):(shares n w k).length=w.length:=by simp[shares]
theorem o0 (n:Int) (w:List Int):(share n w).length=w.length:=by simp[share]
theorem yK (n:Int) (w:List Int):shares n w 0=List.replicate w.length 0:=by
  apply List.ext_getElem?;intro j
  by_cases hj:j<w.length
  · simp[shares,hj]
  · simp[shares,hj]
theorem Cl (n:Int) (w:List Int):shares n w w.length=share n w:=by
  unfold shares share;apply List.map_congr_left;intro j hj;rw[if_pos (by simpa using hj)]
theorem y6 (n:Int) (w:List Int) (k:Nat) (h:k<w.length):(shares n w k).set k (iB n w (k+1) - iB n w k)=shares n w (k+1):=by
  apply List.ext_getElem?;intro j;rw[List.getElem?_set]
  by_cases hj:j<w.length
  · simp only [shares, List.length_map, List.length_range, List.getElem?_map, List.getElem?_range hj, Option.map_some]
    by_cases e:k=j
    · subst e;simp[h]
    · rw [if_neg e]
      by_cases h2:j<k
      · simp[h2,show j<k+1 by omega]
      · simp[h2,show ¬j<k+1 by omega]
  · simp [shares, hj]
    omega
theorem xw (n:Int) (w:List Int) (k:Nat) (hl:w.length≤64) (hk:k≤w.length):0≤qm n*gU w k∧qm n*gU w k≤4611686018427387904:=by
  have h1:=sY n;have h2:=w8 w k;have h3:gU w k≤68719476736:=by omega
  refine⟨Int.mul_nonneg h1.1 h2.1,?_⟩;have:=Int.mul_le_mul h1.2 h3 h2.1 (by omega);omega
theorem y7 (n:Int) (w:List Int) (k:Nat) (hl:w.length≤64) (hk:k≤w.length):0≤iB n w k∧iB n w k≤4611686018427387904:=by
  have h1:=xw n w k hl hk;have h2:0≤gH w:=by unfold gH;omega
  exact⟨Int.ediv_nonneg h1.1 h2,Int.le_trans (Int.ediv_le_self _ h1.1) h1.2⟩
theorem wj (w:List Int) (k:Nat):gU w k≤gU w (k+1):=by
  by_cases hk:k<w.length
  · rw[vI w k _ (List.getElem?_eq_getElem hk)];have:=AX w[k];omega
  · unfold gU;rw[List.take_of_length_le (by omega),List.take_of_length_le (by omega)];exact Int.le_refl _
theorem JH (w:List Int) (k d:Nat):gU w k≤gU w (k+d):=by
  induction d with
  | zero=>exact Int.le_refl _
  | succ d ih=>have:=wj w (k+d);rw[←Nat.add_assoc];omega
theorem G4 (w:List Int) (k:Nat):gU w k≤gU w w.length:=by
  by_cases hk:k≤w.length
  · have:=JH w k (w.length - k);rwa [show k+(w.length - k)=w.length by omega] at this
  · unfold gU;rw[List.take_of_length_le (by omega),List.take_of_length_le (Nat.le_refl _)];exact Int.le_refl _
theorem iE {n lo hi v:Int} (h:jq n lo hi=v) (w:World):Calls Tryz.prog 64 #[.int .i64 n,.int .i64 lo,.int .i64 hi] w fun e w'=>e=.returned (.int .i64 v)∧w=w':=by
  subst h;exact kN n lo hi w
theorem Gw (A:Option Addr) (c:Nat) (n:Int) (zs:List Int) (hl:zs.length≤64):
    Ct Tryz.prog 254 #[.int .i64 n,.slice A zs.length c] [] (fun w=>vd w A zs) (X:=Option Addr×Nat) (fun p=>.slice p.1 zs.length p.2) (fun _=>True)
      (fun p=>[.row 3 1 p.1 zs.length p.2 ((share n zs).map (Value.int .i64))]):=by
  refine Ci fun w0 hz=>?_;refine gg ?_;refine WP.aw rfl (fun h=>absurd h (by omega)) (fun h13=>?_);refine gg ?_;refine vl (vC (iE (wk n) _)) ?_;refine gg ?_;refine aj.ef (xy (n:=zs.length+1) (σ':=fun _=>[_]) Tryz.underlying49 cT rfl rfl rfl rfl rfl (by omega) (by omega) (fun _=>rfl)) (fun g19=>?_);refine gg ?_;refine WP.bm (X:=Nat) [0,1,5,20,21] (fun k=>[(22,.int .i64 (k:Int))]) (fun k w=>k≤zs.length∧St w0 (ay []) [.row 3 1 (some ⟨g19,0,none⟩) (zs.length+1) (zs.length+1) ((lV zs k).map (Value.int .i64))] w) (fun k=>zs.length - k) 0 ⟨rfl,trivial⟩ (fun w hw=>⟨by omega,by rw[Br];simpa using hw⟩) (fun k ρ0=>?_);refine WP.fact (fun hk=>?_);refine gg ?_;refine WP.aw rfl (fun h23=>?_) (fun h23=>?_)
  ·have hk':k<zs.length:=by omega
   obtain⟨x,hx⟩:∃x,zs[k]?=some x:=⟨_,List.getElem?_eq_getElem hk'⟩;obtain⟨b,o,rfl,hc⟩:=hz k x hx;have hb1:=w8 zs k;have hb2:=AX x;refine gg ?_;refine vl (vO hc) ?_;refine gg ?_;refine WP.fj (some 11) [(0,true),(1,true),(2,true),(3,true),(4,true),(5,true),(6,true),(7,true),(8,true),(9,true),(10,true),(11,false)] mixed (by kernel_rfl) (by decide) (fun _ h=>h.drawn) ?_;refine gg ?_;refine tD (vR 0 (oJ zs k k (by omega) (by omega))) ?_;refine gg ?_;refine tD (vC (iE (EG x) _)) ?_;refine ad ?_;refine tD (vX (k+1)) ?_;refine aB.aX rfl (bU (u:=.int .i64 _) (xs':=(lV zs (k+1)).map (Value.int .i64)) (σ':=[_]) Tryz.sizeOf3 rfl rfl (i:=0) rfl (by simp[gR];omega) (by rw[←Cb zs k x hx,List.map_set];congr 1;omega) rfl) (fun h=>absurd rfl h) (fun _=>?_);refine bS ?_;exact nl fun w hw=>⟨rfl,k+1,(by omega),⟨rfl,jI,jS,jS,jS,jI,trivial⟩,by omega,hw⟩
  ·obtain rfl:k=zs.length:=by omega
   refine WP.exit (an ?_);refine bS ?_;refine vl (vX (zs.length)) ?_;refine vl (vR 0 (oJ zs zs.length zs.length (by omega) (by omega))) ?_;refine gg ?_;refine aj.ef (xy (n:=zs.length) (σ':=fun _=>[_,_]) Tryz.underlying49 cT rfl rfl rfl rfl rfl (by omega) (by omega) (fun _=>rfl)) (fun g47=>?_);refine gg ?_;refine WP.bm (X:=Nat) [0,5,8,9,49] (fun k=>[(50,.int .i64 (k:Int))]) (fun k w=>k≤zs.length∧St w0 (ay []) [.row 3 1 (some ⟨g19,0,none⟩) (zs.length+1) (zs.length+1) ((lV zs zs.length).map (Value.int .i64)),.row 3 1 (some ⟨g47,0,none⟩) zs.length zs.length ((shares n zs k).map (Value.int .i64))] w) (fun k=>zs.length - k) 0 ⟨rfl,trivial⟩ (fun w hw=>⟨by omega,by rw[yK];simpa using hw⟩) (fun k ρ0=>?_);refine WP.fact (fun hk=>?_);refine gg ?_;refine WP.aw rfl (fun h51=>?_) (fun h51=>?_)
   ·have hm1:=xw n zs (k+1) hl (by omega);have hm2:=xw n zs k hl (by omega);have hp1:=y7 n zs (k+1) hl (by omega);have hp2:=y7 n zs k hl (by omega);unfold iB gH at hp1 hp2;refine gg ?_;refine WP.fj (some 21) [(0,true),(1,true),(2,true),(3,true),(4,true),(5,true),(6,true),(7,true),(8,true),(9,true),(10,true),(11,true),(12,true),(13,true),(14,true),(15,true),(16,true),(17,true),(18,true),(19,true),(20,true),(21,false)] mixed (by kernel_rfl) (by decide) (fun _ h=>h.drawn) ?_;refine iX ?_;refine tD (vX (k+1)) ?_;refine tD (vR 0 (oJ zs zs.length (k+1) (by omega) (by omega))) ?_;refine bW ?_;refine tE rfl (K2 rfl rfl (by omega) (by omega) (by omega)) ?_;refine gg ?_;refine tD (vR 0 (oJ zs zs.length k (by omega) (by omega))) ?_;refine bW ?_;refine tE rfl (K2 rfl rfl (by omega) (by omega) (by omega)) ?_;refine gg ?_;refine aB.aX rfl (bU (u:=.int .i64 _) (xs':=(shares n zs (k+1)).map (Value.int .i64)) (σ':=[_,_]) Tryz.sizeOf3 rfl rfl (i:=1) rfl (by simp[uD];omega) (by rw[←y6 n zs k (by omega),List.map_set];congr 1;omega) rfl) (fun h=>absurd rfl h) (fun _=>?_);refine bS ?_;exact nl fun w hw=>⟨rfl,k+1,(by omega),⟨rfl,jI,jS,jI,jS,jI,trivial⟩,by omega,hw⟩
   ·obtain rfl:k=zs.length:=by omega
    refine WP.exit (an ?_);refine gg ?_;exact WP.cP Tryz.results254 (fun _ h=>h) (fun w hw=>⟨(some ⟨g47,0,none⟩,zs.length),rfl,trivial,by have:=hw.sel [1] (by decide);rw[Cl] at this;exact this⟩)
end Go.Proofs.YtbedndijejpcaaaGreat
