/- The statement HitTop is true of every input: the Go function valancelaw18.HitTop answers true, and each argument reads behind the call as it did. No condition. -/
import Derived.Test.YtbedndijejpcaaaGreatH29
set_option linter.unusedVariables false
set_option linter.unusedSimpArgs false
set_option linter.unusedSectionVars false
set_option maxRecDepth 100000
set_option maxHeartbeats 8000000
namespace Go.Proofs.YtbedndijejpcaaaGreat
open Go.ChangeShapes Go.WideShapes Go.ChangeAt Go.RowKit Go.Deep
theorem HA (cs:List Value) (h:leavesB [true,true,true] cs=true) (_:∀u∈cs,Bd u):∃x:ahg,ahl x=cs:=by
  obtain⟨a,v1,rfl,h1⟩:=im h;obtain⟨b,v2,rfl,h2⟩:=im h1;obtain⟨c,v3,rfl,h3⟩:=im h2;cases v3 with
  | nil=>exact⟨(a,b,c),rfl⟩
  | cons _ _=>simp[leavesB] at h3
theorem ql {H:Type} {enc:TypeId×Value→H} {W:World} {base:Nat} {sp:Nat→Bool} {held:Bool} {v:Value} {x:DataW H} {p:List MemPlace} {b0:Nat} {r:Reach}
    (hv:Value.okWide Tryz.prog W r b0 76 v) (h:DataW.Trod enc Tryz.prog W base sp held 76 v x p):∃(A:Option Addr) (l:List ahg) (c:Nat),v=.slice A l.length c∧jL W A 3 ahl l:=by
  obtain⟨A,l,c,rfl,hrd,_,_,h3⟩:=nS Tryz.underlying76 (show leafK Tryz.prog 10 133=some [true,true,true] by kernel_rfl) (by kernel_rfl) (by decide) hv h;obtain⟨m,_,e2,hm⟩:=jL.typed (α:=ahg) (E:=ahl) HA h3 hrd;exact⟨A,m,c,by rw[e2],hm⟩
end Go.Proofs.YtbedndijejpcaaaGreat
namespace Go.Proofs.YtbedndijejpcaaaGreat
open Go.RowKit
theorem Kf {l:List Int} {m:Int→Bool} (hn:l.Nodup) (h0:∀x∈l,0≤x):(∀(k:Nat) (y:Int),l[k]?=some y→m y=true→¬(k:Int) > idxP l (dC l m))∧((dC l m= -1∧idxP l (dC l m)= -1)∨(dC l m≠-1∧0≤idxP l (dC l m)∧m (dC l m)=true)):=by
  rcases uh l m l.length (Nat.le_refl _) with ⟨h1,h2⟩ | ⟨j,h1,h2,h3,h4⟩
  · have e : dC l m = -1 := h1
    refine⟨fun k y hk hm=>?_,.inl ⟨e,by rw[e];exact nu fun h=>by have:=h0 _ h;omega⟩⟩;have h5:=h2 k (List.getElem?_eq_some_iff.1 hk).1;rw[gF hk,hm] at h5;cases h5
  · have e : dC l m = gI l j := h2
    have ei:=gL hn (j9 h1);have hj:=h0 _ (eo h1);refine⟨fun k y hk hm hgt=>?_,.inr ⟨by omega,by rw[e,ei];omega,by rw[e];exact h3⟩⟩;rw[e,ei] at hgt;have h5:=h4 k (by omega) (List.getElem?_eq_some_iff.1 hk).1;rw[gF hk,hm] at h5;cases h5
theorem Hh {a:Array Value} {I:List HI} {b:Bool} (h:Ct Tryz.prog 47 a I (fun _=>True) (X:=Unit) (fun _=>.bool b) (fun _=>True) (fun _=>I)) (hb:b=true):Ct Tryz.prog 47 a I (fun _=>True) (X:=Unit) (fun _=>.bool true) (fun _=>True) (fun _=>I):=by rw[hb] at h;exact h
theorem D6 (A B:Option Addr) (c c2:Nat) (l:List AC) (ol:List ahg) (wd ht px py:Int):Ct Tryz.prog 11 #[.slice A l.length c,.slice B ol.length c2,.int .i64 wd,.int .i64 ht,.int .i64 px,.int .i64 py] [] (fun w=>jL w A 59 s5 l∧jL w B 3 ahl ol) (X:=Unit) (fun _=>.bool true) (fun _=>True) (fun _=>[]):=by
  refine Ci fun w0 hz0=>?_;obtain⟨hz,hzb⟩:=hz0;refine gg ?_;refine eF (xC kK) fun _ _=>?_;refine gg ?_;refine WP.br rfl ?_;refine gg ?_;refine eF (xC (mq A c l) (hF:=fun w hw=>hw.rd hz pH)) fun⟨gb,tp,mb,es,rp,g,bc,bs⟩ hgr=>?_;dsimp only at hgr;refine mv rfl ?_;refine uE ?_;refine aj.aY 37 rfl (fun h37=>?_) (fun h37=>?_)
  ·refine gg ?_;refine WP.aQ rfl ?_;refine gg ?_;exact aT fun w hw=>⟨(),rfl,trivial,hw.pk⟩
  ·refine bS ?_;refine aj.split 41 rfl (fun h41=>?_) (fun h41=>?_)
   ·refine gg ?_;refine WP.aQ rfl ?_;refine gg ?_;exact aT fun w hw=>⟨(),rfl,trivial,hw.pk⟩
   ·refine bS ?_;refine aj.split 45 rfl (fun h45=>?_) (fun h45=>?_)
    ·refine gg ?_;refine WP.aQ rfl ?_;refine gg ?_;exact aT fun w hw=>⟨(),rfl,trivial,hw.pk⟩
    ·refine gg ?_;refine WP.aw rfl (fun h49=>?_) (fun h49=>?_)
     ·refine gg ?_;exact aT fun w hw=>⟨(),rfl,trivial,hw.pk⟩
     ·obtain⟨hl30,hFo,hk,hab,hkr⟩:=hgr (by simpa using h37);obtain⟨d,hF0⟩:=q8 l;have hF:WF (ae es) d:=by rw[hFo];exact hF0
      have hFr:WF (aD bs) d:=by rw[hab];exact hF
      have hgs:∀x,GS (ah (ae es) x):=by rw[hFo];exact(qg l).st
      have hgr2:∀x,GS (ah (aD bs) x):=by rw[hab];exact hgs
      have hlf:=ka l;have hK:∀x,(aH (ae es) x).length≤64:=fun x=>Nat.le_trans (kO (n:=31) hF (by rw[hFo];omega) x) (by decide);have hKr:∀x,(aH (aD bs) x).length≤64:=by rw[hab];exact hK
      have hol1:(order (ae es)).length≤1000:=by have h:=ka l;unfold jK at h;rw[hFo];omega
      have hup:=qq hF hgs wd ht;refine gg ?_;refine eF (xC (ahB B c2 ol (by omega)) (hF:=fun w hw=>hw.rd hzb pH)) fun⟨om,oA,oc⟩ _=>?_;refine mv rfl ?_;refine vl (bR (v:=.map _) rfl rfl) ?_;refine av ?_;refine sg (v:=.map _) rfl ?_;refine gg ?_;refine eF (xC (ig tp mb es hk hF hgs hK wd ht (by omega) (by omega))) fun⟨mp,ps⟩ hps=>?_;have hmo:=mapOf hps (jl hF hgs wd ht);have hrm:=zu hF hgs hmo;have hol:(order (ae es)).length≤4096:=hF.e6 0;refine sg (v:=.map _) rfl ?_;refine cK ?_;refine mv (v:=.map _) rfl ?_;refine mv (v:=.map _) rfl ?_;refine gg ?_;refine eF (xC (kx tp mb mp om es (bO ps) (omL ol) (gm (ae es) wd ht) (ofO ol) hk hF hgs hrm (ahr ol) wd ht)) fun sb1 _=>?_;refine sg (v:=.map _) rfl ?_;refine gg ?_;refine eF (xC (fa px py)) fun _ _=>?_;refine sg (v:=cJ _ _) rfl ?_;refine cK ?_;refine mv (v:=.map _) rfl ?_;refine mv (v:=.map _) rfl ?_;refine mv (v:=cJ _ _) rfl ?_;refine eF (xC (od tp mb mp es (bO ps) (gm (ae es) wd ht) hk hF hrm hup hol1 sb1 (ofO ol) (eH 0 0 wd ht) (cut px,cut py) ⟨cn px,cn py⟩)) fun _ _=>?_;refine bS ?_;refine mv (v:=.map _) rfl ?_;refine eF (xC (qu tp mb mp es (bO ps) (gm (ae es) wd ht) hk hF hrm hup hol1)) fun⟨oA,oc⟩ _=>?_;refine cK ?_;have hhl:(cS (ae es) (gm (ae es) wd ht)).length≤1000:=Nat.le_trans C4 (Nat.le_trans (List.length_filter_le _ _) hol1);obtain⟨htop,hend⟩:=Kf (l:=(cS (ae es) (gm (ae es) wd ht))) (m:=(dm (ae es) (gm (ae es) wd ht) (ofO ol) (eH 0 0 wd ht) (cut px,cut py))) (ahs hF) (fun x hx=>by obtain⟨b,hb⟩:=aL (hF.bw.1 (eR.1 (yL hx)).1);exact(hF.range x b hb).1);have hrk:=rK (cS (ae es) (gm (ae es) wd ht)) (dC (cS (ae es) (gm (ae es) wd ht)) (dm (ae es) (gm (ae es) wd ht) (ofO ol) (eH 0 0 wd ht) (cut px,cut py)));have hend2:=hend.imp id (fun h=>(⟨h.1,h.2.1⟩:_∧_));refine gg ?_;refine eF (xC (ahL oA oc (cS (ae es) (gm (ae es) wd ht)) (dC (cS (ae es) (gm (ae es) wd ht)) (dm (ae es) (gm (ae es) wd ht) (ofO ol) (eH 0 0 wd ht) (cut px,cut py))) (by omega)) (hF:=fun w hw=>hw.eO (i:=5) (f:=Value.int .i64) rfl)) fun _ _=>?_;refine gg ?_;refine WP.bm (X:=Nat) [13,14,19,20,21,22,23,24] (fun k=>[(25,.int .i64 (k:Int))]) (fun k w=>k≤(cS (ae es) (gm (ae es) wd ht)).length∧St w0 (ay []) [al tp mb es,aP mp (bO ps),aP sb1 (lS (ae es) (gm (ae es) wd ht) (ofO ol) (eH 0 0 wd ht) (order (ae es))),az oA (cS (ae es) (gm (ae es) wd ht)).length oc (cS (ae es) (gm (ae es) wd ht))] w) (fun k=>(cS (ae es) (gm (ae es) wd ht)).length - k) 0 ⟨rfl,trivial⟩ (fun w hw=>⟨Nat.zero_le _,(hw.sel [3,4,2,5] (by decide))⟩) (fun k ρ0=>?_);refine WP.fact (fun hkn=>?_);refine gg ?_;refine WP.aw rfl (fun h83=>?_) (fun h83=>?_)
      ·obtain⟨y,hy⟩:∃y,(cS (ae es) (gm (ae es) wd ht))[k]?=some y:=⟨_,List.getElem?_eq_getElem (by omega)⟩;refine WP.holds (fun w hw=>hw.aM (i:=3) rfl (by omega)) (fun⟨kb,hA⟩=>?_);subst hA;refine cR ?_;refine mv (v:=.map _) rfl ?_;refine gg ?_;refine vl (vR 3 (by rw[List.getElem?_map,hy];rfl)) ?_;refine mv (v:=cJ _ _) rfl ?_;refine eF (xC (nV tp mb es (bO ps) (gm (ae es) wd ht) hk hF hrm sb1 (ofO ol) (eH 0 0 wd ht) (cut px,cut py) ⟨cn px,cn py⟩ y)) fun _ _=>?_;refine av ?_;refine aj.aY 94 rfl (fun h94=>?_) (fun h94=>?_)
       ·refine bW ?_;refine vg (fL (b:=false) (GV rfl rfl) (decide_eq_false (htop k y hy h94))) ?_;refine gg ?_;refine WP.br rfl ?_;refine cR ?_;exact nl fun w hw=>⟨rfl,k+1,(by omega),⟨rfl,jB,jP,(via (.map _) rfl rfl),(via (.map _) rfl rfl),(via (cJ _ _) rfl rfl),jI,jS,jI,trivial⟩,⟨by omega,hw.pk⟩⟩
       ·refine gg ?_;refine WP.br rfl ?_;refine cR ?_;exact nl fun w hw=>⟨rfl,k+1,(by omega),⟨rfl,jB,jP,(via (.map _) rfl rfl),(via (.map _) rfl rfl),(via (cJ _ _) rfl rfl),jI,jS,jI,trivial⟩,⟨by omega,hw.pk⟩⟩
      ·refine WP.exit (an ?_);refine sq ?_;have hln:(((cS (ae es) (gm (ae es) wd ht)).length:Nat):Int)=(((bO ps).length:Nat):Int):=by rw[ahD hF hup,hmo.1,←ahO hF hgs wd ht];rfl
       refine iX ?_;refine aj.split 103 rfl (fun h103=>?_) (fun h103=>?_)
       ·refine ag ?_;refine vg (fL (b:=true) (dD rfl rfl) (decide_eq_true (by omega))) ?_;refine agy ?_;refine vg (aC (v:=.map _) rfl) ?_;refine vg (sH Tryz.underlying47 rfl (fun w hw=>hw.fC (i:=1) rfl)) ?_;refine vg (fL (b:=true) (dD rfl rfl) (decide_eq_true hln)) ?_;refine gg ?_;exact aT fun w hw=>⟨(),rfl,trivial,hw.pk⟩
       ·have hmt:(dm (ae es) (gm (ae es) wd ht) (ofO ol) (eH 0 0 wd ht) (cut px,cut py)) (dC (cS (ae es) (gm (ae es) wd ht)) (dm (ae es) (gm (ae es) wd ht) (ofO ol) (eH 0 0 wd ht) (cut px,cut py)))=true:=by
          rcases hend with h | h
          · exact absurd h.1 h103
          · exact h.2.2
        refine cR ?_;refine vg (fL (b:=true) (oV rfl rfl) (decide_eq_true (by omega))) ?_;refine bW ?_;refine vg (aC (v:=.map _) rfl) ?_;refine ag ?_;refine vg (aC (v:=cJ _ _) rfl) ?_;refine aj.kn (xC (Hh (nV tp mb es (bO ps) (gm (ae es) wd ht) hk hF hrm sb1 (ofO ol) (eH 0 0 wd ht) (cut px,cut py) ⟨cn px,cn py⟩ (dC (cS (ae es) (gm (ae es) wd ht)) (dm (ae es) (gm (ae es) wd ht) (ofO ol) (eH 0 0 wd ht) (cut px,cut py)))) hmt)) (fun _=>?_);refine aj.fact (fun _=>?_);refine iX ?_;refine vg (aC (v:=.map _) rfl) ?_;refine vg (sH Tryz.underlying47 rfl (fun w hw=>hw.fC (i:=0) rfl)) ?_;refine vg (fL (b:=true) (dD rfl rfl) (decide_eq_true hln)) ?_;refine gg ?_;exact aT fun w hw=>⟨(),rfl,trivial,hw.pk⟩
end Go.Proofs.YtbedndijejpcaaaGreat
namespace Go.Proofs.YtbedndijejpcaaaGreat
open Go.ChangeShapes Go.WideShapes Go.ChangeAt Go.RowKit Go.Deep
theorem hitTop_lifted (os:Os) (started:os.Started) (H:Type) (enc:TypeId×Value→H):
    ReturnsInHanded {} Tryz.checked os 11 .any (Rows.hitTopSpec.pre6 enc Tryz.prog Tryz.f11 Rows.hitTopRow.domain false) (Rows.hitTopSpec.post enc Tryz.prog Tryz.f11 false true false false):=by
  refine returnsInHanded_of_change (C:=Tryz.checked) own started (by kernel_rfl) Tryz.func11
    (ChangeSpec.witness6 (enc:=enc) (C:=Tryz.checked) false ⟨#[],#[.slice none 0 0,.slice none 0 0,.int .i64 0,.int .i64 0,.int .i64 0,.int .i64 0],[]⟩ 8 (by kernel_rfl) (by kernel_rfl) (by kernel_rfl) (by kernel_rfl)) ?_
  intro W base args ds gs before hval0 hW _ _;have hval:∀(j:Nat) t v,Tryz.f11.params[j]?=some t→args[j]?=some v→Value.okWide Tryz.prog W .any base t v:=hval0;have hW':=hW;obtain⟨p,q,hA0,hV,rfl,hfz,hnd⟩:=hW;have hA:DataW.TrodAll enc Tryz.prog W 0 (fun _=>true) true Tryz.f11.params.toList args.toList ds p:=hA0;rw[Tryz.params11] at hA hval;obtain⟨v0,vs0,d0,ds0,p0,q0,hargs,rfl,rfl,h0,r0⟩:=trodAll_cons hA;obtain⟨v1,vs1,d1,ds1,p1,q1,rfl,rfl,rfl,h1,r1⟩:=trodAll_cons r0;obtain⟨v2,vs2,d2,ds2,p2,q2,rfl,rfl,rfl,h2,r2⟩:=trodAll_cons r1;obtain⟨v3,vs3,d3,ds3,p3,q3,rfl,rfl,rfl,h3,r3⟩:=trodAll_cons r2;obtain⟨v4,vs4,d4,ds4,p4,q4,rfl,rfl,rfl,h4,r4⟩:=trodAll_cons r3;obtain⟨v5,vs5,d5,ds5,p5,q5,rfl,rfl,rfl,h5,r5⟩:=trodAll_cons r4;obtain⟨rfl,rfl,rfl⟩:=trodAll_nil r5;obtain⟨args⟩:=args;obtain rfl:args=_:=hargs;obtain⟨A,l,c,rfl,hrd⟩:=kU (hval 0 22 v0 rfl rfl) h0;obtain⟨B,ol,c2,rfl,hrb⟩:=ql (hval 1 76 v1 rfl rfl) h1;obtain⟨wd,rfl,-,-,-⟩:=open_int Tryz.underlying3 (hval 2 3 v2 rfl rfl) h2;obtain⟨ht,rfl,-,-,-⟩:=open_int Tryz.underlying3 (hval 3 3 v3 rfl rfl) h3;obtain⟨px,rfl,-,-,-⟩:=open_int Tryz.underlying3 (hval 4 3 v4 rfl rfl) h4;obtain⟨py,rfl,-,-,-⟩:=open_int Tryz.underlying3 (hval 5 3 v5 rfl rfl) h5;refine(Ct.IH (D6 A B c c2 l ol wd ht px py) ⟨hrd,hrb⟩).mono fun e W' ⟨he,hb⟩=>?_;subst he;exact⟨_,rfl,mz laidOut hW' rfl (by kernel_rfl) rfl Tryz.underlying4 (fun _=>rfl) hb⟩
theorem hitTop_ja:mapsRowed Tryz.pinned.checked.prog=true:=by kernel_rfl
theorem hitTop_jb:(Rows.hitTopRow.inPlace==Tryz.pinned.checked.prog.inPlace 11)=true:=by kernel_rfl
theorem hitTop_jc:(Rows.hitTopRow.unfollowed==Tryz.pinned.checked.prog.unfollowed 11)=true:=by kernel_rfl
theorem hitTop_jd:(Rows.hitTopRow.recurses==Tryz.pinned.checked.prog.recurses 11)=true:=by kernel_rfl
theorem hitTop_je:(Rows.hitTopRow.named==Tryz.pinned.checked.prog.varsNamed 11)=true:=by kernel_rfl
theorem hitTop_jl:laidOutB Tryz.pinned.checked.prog=true:=laidOut
theorem hitTop_said:Rows.HitTopSaid:=
  OpenClaim.holds_of_wide 11 Tryz.f11 rfl rfl rfl rfl rfl rfl rfl ⟨rfl,rfl,rfl,rfl,rfl⟩ rfl rfl rfl rfl rfl (by kernel_rfl) Tryz.func11 (by unfold joinedFacts;rw[hitTop_jl,hitTop_ja,hitTop_jb,hitTop_jc,hitTop_jd,hitTop_je];kernel_rfl)
    (of_decide_eq_true (by kernel_rfl)) (by unfold Func.isWrapper;rw[if_neg (by decide+kernel)];exact⟨rfl,rfl⟩)
    (fun os started H enc _=>hitTop_lifted os started H enc)
end Go.Proofs.YtbedndijejpcaaaGreat
