/- The statement HitSeen is true of every input: the Go function valancelaw18.HitSeen answers true, and each argument reads behind the call as it did. No condition. -/
import Derived.Test.YtbedndijejpcaaaGreatH29
set_option linter.unusedVariables false
set_option linter.unusedSimpArgs false
set_option linter.unusedSectionVars false
set_option maxRecDepth 100000
set_option maxHeartbeats 8000000
namespace Go.Proofs.YtbedndijejpcaaaGreat
open Go.ChangeShapes Go.WideShapes Go.ChangeAt Go.RowKit Go.Deep
theorem HA (cs:List Value) (h:leavesB [true,true,true] cs=true) (_:∀u∈cs,Bd u):∃x:ahg,ahl x=cs:=by
  obtain⟨a,v1,rfl,h1⟩:=im h;obtain⟨b,v2,rfl,h2⟩:=im h1;obtain⟨c,v3,rfl,h3⟩:=im h2;cases v3 with
  | nil=>exact⟨(a,b,c),rfl⟩
  | cons _ _=>simp[leavesB] at h3
theorem ql {H:Type} {enc:TypeId×Value→H} {W:World} {base:Nat} {sp:Nat→Bool} {held:Bool} {v:Value} {x:DataW H} {p:List MemPlace} {b0:Nat} {r:Reach}
    (hv:Value.okWide Tryz.prog W r b0 76 v) (h:DataW.Trod enc Tryz.prog W base sp held 76 v x p):∃(A:Option Addr) (l:List ahg) (c:Nat),v=.slice A l.length c∧jL W A 3 ahl l:=by
  obtain⟨A,l,c,rfl,hrd,_,_,h3⟩:=nS Tryz.underlying76 (show leafK Tryz.prog 10 133=some [true,true,true] by kernel_rfl) (by kernel_rfl) (by decide) hv h;obtain⟨m,_,e2,hm⟩:=jL.typed (α:=ahg) (E:=ahl) HA h3 hrd;exact⟨A,m,c,by rw[e2],hm⟩
end Go.Proofs.YtbedndijejpcaaaGreat
namespace Go.Proofs.YtbedndijejpcaaaGreat
open Go.RowKit
theorem yu (A B:Option Addr) (c c2:Nat) (l:List AC) (ol:List ahg) (wd ht px py:Int):Ct Tryz.prog 12 #[.slice A l.length c,.slice B ol.length c2,.int .i64 wd,.int .i64 ht,.int .i64 px,.int .i64 py] [] (fun w=>jL w A 59 s5 l∧jL w B 3 ahl ol) (X:=Unit) (fun _=>.bool true) (fun _=>True) (fun _=>[]):=by
  refine Ci fun w0 hz0=>?_;obtain⟨hz,hzb⟩:=hz0;refine gg ?_;refine eF (xC kK) fun _ _=>?_;refine gg ?_;refine WP.br rfl ?_;refine gg ?_;refine eF (xC (mq A c l) (hF:=fun w hw=>hw.rd hz pH)) fun⟨gb,tp,mb,es,rp,g,bc,bs⟩ hgr=>?_;dsimp only at hgr;refine mv rfl ?_;refine uE ?_;refine aj.aY 34 rfl (fun h34=>?_) (fun h34=>?_)
  ·refine gg ?_;refine WP.aQ rfl ?_;refine gg ?_;exact aT fun w hw=>⟨(),rfl,trivial,hw.pk⟩
  ·refine bS ?_;refine aj.split 38 rfl (fun h38=>?_) (fun h38=>?_)
   ·refine gg ?_;refine WP.aQ rfl ?_;refine gg ?_;exact aT fun w hw=>⟨(),rfl,trivial,hw.pk⟩
   ·refine bS ?_;refine aj.split 42 rfl (fun h42=>?_) (fun h42=>?_)
    ·refine gg ?_;refine WP.aQ rfl ?_;refine gg ?_;exact aT fun w hw=>⟨(),rfl,trivial,hw.pk⟩
    ·refine cR ?_;refine aj.split 47 rfl (fun h47=>?_) (fun h47=>?_)
     ·refine gg ?_;refine WP.aQ rfl ?_;refine gg ?_;exact aT fun w hw=>⟨(),rfl,trivial,hw.pk⟩
     ·refine bS ?_;refine aj.split 51 rfl (fun h51=>?_) (fun h51=>?_)
      ·refine gg ?_;refine WP.aQ rfl ?_;refine gg ?_;exact aT fun w hw=>⟨(),rfl,trivial,hw.pk⟩
      ·refine bS ?_;refine aj.split 55 rfl (fun h55=>?_) (fun h55=>?_)
       ·refine gg ?_;refine WP.aQ rfl ?_;refine gg ?_;exact aT fun w hw=>⟨(),rfl,trivial,hw.pk⟩
       ·refine bS ?_;refine aj.split 59 rfl (fun h59=>?_) (fun h59=>?_)
        ·refine gg ?_;refine WP.aQ rfl ?_;refine gg ?_;exact aT fun w hw=>⟨(),rfl,trivial,hw.pk⟩
        ·refine gg ?_;refine WP.aw rfl (fun h62=>?_) (fun h62=>?_)
         ·refine gg ?_;exact aT fun w hw=>⟨(),rfl,trivial,hw.pk⟩
         ·obtain⟨hl30,hFo,hk,hab,hkr⟩:=hgr (by simpa using h34);obtain⟨d,hF0⟩:=q8 l;have hF:WF (ae es) d:=by rw[hFo];exact hF0
          have hFr:WF (aD bs) d:=by rw[hab];exact hF
          have hgs:∀x,GS (ah (ae es) x):=by rw[hFo];exact(qg l).st
          have hgr2:∀x,GS (ah (aD bs) x):=by rw[hab];exact hgs
          have hlf:=ka l;have hK:∀x,(aH (ae es) x).length≤64:=fun x=>Nat.le_trans (kO (n:=31) hF (by rw[hFo];omega) x) (by decide);have hKr:∀x,(aH (aD bs) x).length≤64:=by rw[hab];exact hK
          have hol1:(order (ae es)).length≤1000:=by have h:=ka l;unfold jK at h;rw[hFo];omega
          have hup:=qq hF hgs wd ht;refine gg ?_;refine eF (xC (ahB B c2 ol (by omega)) (hF:=fun w hw=>hw.rd hzb pH)) fun⟨om,oA,oc⟩ _=>?_;refine mv rfl ?_;refine vl (bR (v:=.map _) rfl rfl) ?_;refine av ?_;refine sg (v:=.map _) rfl ?_;refine gg ?_;refine eF (xC (ig tp mb es hk hF hgs hK wd ht (by omega) (by omega))) fun⟨mp,ps⟩ hps=>?_;have hmo:=mapOf hps (jl hF hgs wd ht);have hrm:=zu hF hgs hmo;have hol:(order (ae es)).length≤4096:=hF.e6 0;refine sg (v:=.map _) rfl ?_;refine cK ?_;refine mv (v:=.map _) rfl ?_;refine mv (v:=.map _) rfl ?_;refine gg ?_;refine eF (xC (kx tp mb mp om es (bO ps) (omL ol) (gm (ae es) wd ht) (ofO ol) hk hF hgs hrm (ahr ol) wd ht)) fun sb1 _=>?_;refine sg (v:=.map _) rfl ?_;refine cK ?_;refine mv (v:=.map _) rfl ?_;refine mv (v:=.map _) rfl ?_;refine gg ?_;refine eF (xC (fa px py)) fun _ _=>?_;refine eF (xC (od tp mb mp es (bO ps) (gm (ae es) wd ht) hk hF hrm hup hol1 sb1 (ofO ol) (eH 0 0 wd ht) (cut px,cut py) ⟨cn px,cn py⟩)) fun _ _=>?_;refine gg ?_;refine WP.aw rfl (fun h87=>?_) (fun h87=>?_)
          ·refine gg ?_;exact aT fun w hw=>⟨(),rfl,trivial,hw.pk⟩
          ·obtain⟨hmem,hmay⟩:=zV h87;obtain⟨hin,hsn,hnh,hre,hbd⟩:=ahC hF hgs (by omega) (by omega) ⟨by omega,by omega⟩ ⟨by omega,by omega⟩ hmay;have hb1:=hbd.1;have hb2:=hbd.2.1;have hb3:=hbd.2.2.1;have hb4:=hbd.2.2.2;unfold Bn at hb1 hb2 hb3 hb4;refine bW ?_;refine mv (v:=.map _) rfl ?_;refine av ?_;refine vl (mO (fu (m:=lS (ae es) (gm (ae es) wd ht) (ofO ol) (eH 0 0 wd ht) (order (ae es))) (k:=(dC (cS (ae es) (gm (ae es) wd ht)) (dm (ae es) (gm (ae es) wd ht) (ofO ol) (eH 0 0 wd ht) (cut px,cut py)))) (z:=iD.v) Tryz.underlying59 Tryz.underlying3 Tryz.zeroValue63 rfl rfl (fun w hw=>hw.fC (i:=4) rfl)) (v':=(fz (ae es) (gm (ae es) wd ht) (ofO ol) (eH 0 0 wd ht) (dC (cS (ae es) (gm (ae es) wd ht)) (dm (ae es) (gm (ae es) wd ht) (ofO ol) (eH 0 0 wd ht) (cut px,cut py)))).v) (CE hF hrm.2 (dC (cS (ae es) (gm (ae es) wd ht)) (dm (ae es) (gm (ae es) wd ht) (ofO ol) (eH 0 0 wd ht) (cut px,cut py))))) ?_;refine vl (j3 (us:=#[_,_,_,_]) Tryz.underlying63 rfl Tryz.isAgg52 Tryz.sizeOf52 rfl rfl) ?_;refine aj.ef cg fun b22=>?_;refine aj.aX (xW rfl) fun _=>?_;refine cR ?_;refine vg (fL (b:=true) (oV rfl rfl) (decide_eq_true hin.1)) ?_;refine bS ?_;refine vg (fL (b:=true) (nG rfl rfl) (decide_eq_true hin.2.1)) ?_;refine cK ?_;refine vg (fL (b:=true) (oV rfl rfl) (decide_eq_true hin.2.2.1)) ?_;refine bS ?_;refine vg (fL (b:=true) (nG rfl rfl) (decide_eq_true hin.2.2.2)) ?_;refine gg ?_;refine aj.kn (ck Tryz.call48 (ahp hk hF hsn) [2] [0,1,3,4,5] rfl (fun w hw=>trivial) (τ:=fun _=>[_,_,_,_,_,_]) (fun _=>rfl)) (fun _=>?_);refine aj.fact (fun _=>?_);refine gg ?_;refine aj.kn (xC (a6 tp mb es hk (dC (cS (ae es) (gm (ae es) wd ht)) (dm (ae es) (gm (ae es) wd ht) (ofO ol) (eH 0 0 wd ht) (cut px,cut py))))) (fun _=>?_);refine aj.fact (fun _=>?_);refine vg (hR (u:=.bool (iJ (ah (ae es) ((dC (cS (ae es) (gm (ae es) wd ht)) (dm (ae es) (gm (ae es) wd ht) (ofO ol) (eH 0 0 wd ht) (cut px,cut py))))) 52)) Tryz.underlying42 rfl Tryz.isAgg4 rfl (oP (bZ.bit (hk.aE ((dC (cS (ae es) (gm (ae es) wd ht)) (dm (ae es) (gm (ae es) wd ht) (ofO ol) (eH 0 0 wd ht) (cut px,cut py))))) 52 (by decide) rfl))) ?_;refine vg (fL (b:=true) (GI rfl) (by rw[hnh];rfl)) ?_;refine cR ?_;refine vg (fL (b:=true) (oV rfl rfl) (decide_eq_true hre.1)) ?_;refine uw ?_;refine vg (fL (b:=true) (nG rfl rfl) (decide_eq_true hre.2.1)) ?_;refine cR ?_;refine vg (fL (b:=true) (oV rfl rfl) (decide_eq_true hre.2.2.1)) ?_;refine uw ?_;refine vg (fL (b:=true) (nG rfl rfl) (decide_eq_true hre.2.2.2)) ?_;refine gg ?_;exact aT fun w hw=>⟨(),rfl,trivial,hw.pk⟩
end Go.Proofs.YtbedndijejpcaaaGreat
namespace Go.Proofs.YtbedndijejpcaaaGreat
open Go.ChangeShapes Go.WideShapes Go.ChangeAt Go.RowKit Go.Deep
theorem hitSeen_lifted (os:Os) (started:os.Started) (H:Type) (enc:TypeId×Value→H):
    ReturnsInHanded {} Tryz.checked os 12 .any (Rows.hitSeenSpec.pre6 enc Tryz.prog Tryz.f12 Rows.hitSeenRow.domain false) (Rows.hitSeenSpec.post enc Tryz.prog Tryz.f12 false true false false):=by
  refine returnsInHanded_of_change (C:=Tryz.checked) own started (by kernel_rfl) Tryz.func12
    (ChangeSpec.witness6 (enc:=enc) (C:=Tryz.checked) false ⟨#[],#[.slice none 0 0,.slice none 0 0,.int .i64 0,.int .i64 0,.int .i64 0,.int .i64 0],[]⟩ 8 (by kernel_rfl) (by kernel_rfl) (by kernel_rfl) (by kernel_rfl)) ?_
  intro W base args ds gs before hval0 hW _ _;have hval:∀(j:Nat) t v,Tryz.f12.params[j]?=some t→args[j]?=some v→Value.okWide Tryz.prog W .any base t v:=hval0;have hW':=hW;obtain⟨p,q,hA0,hV,rfl,hfz,hnd⟩:=hW;have hA:DataW.TrodAll enc Tryz.prog W 0 (fun _=>true) true Tryz.f12.params.toList args.toList ds p:=hA0;rw[Tryz.params12] at hA hval;obtain⟨v0,vs0,d0,ds0,p0,q0,hargs,rfl,rfl,h0,r0⟩:=trodAll_cons hA;obtain⟨v1,vs1,d1,ds1,p1,q1,rfl,rfl,rfl,h1,r1⟩:=trodAll_cons r0;obtain⟨v2,vs2,d2,ds2,p2,q2,rfl,rfl,rfl,h2,r2⟩:=trodAll_cons r1;obtain⟨v3,vs3,d3,ds3,p3,q3,rfl,rfl,rfl,h3,r3⟩:=trodAll_cons r2;obtain⟨v4,vs4,d4,ds4,p4,q4,rfl,rfl,rfl,h4,r4⟩:=trodAll_cons r3;obtain⟨v5,vs5,d5,ds5,p5,q5,rfl,rfl,rfl,h5,r5⟩:=trodAll_cons r4;obtain⟨rfl,rfl,rfl⟩:=trodAll_nil r5;obtain⟨args⟩:=args;obtain rfl:args=_:=hargs;obtain⟨A,l,c,rfl,hrd⟩:=kU (hval 0 22 v0 rfl rfl) h0;obtain⟨B,ol,c2,rfl,hrb⟩:=ql (hval 1 76 v1 rfl rfl) h1;obtain⟨wd,rfl,-,-,-⟩:=open_int Tryz.underlying3 (hval 2 3 v2 rfl rfl) h2;obtain⟨ht,rfl,-,-,-⟩:=open_int Tryz.underlying3 (hval 3 3 v3 rfl rfl) h3;obtain⟨px,rfl,-,-,-⟩:=open_int Tryz.underlying3 (hval 4 3 v4 rfl rfl) h4;obtain⟨py,rfl,-,-,-⟩:=open_int Tryz.underlying3 (hval 5 3 v5 rfl rfl) h5;refine(Ct.IH (yu A B c c2 l ol wd ht px py) ⟨hrd,hrb⟩).mono fun e W' ⟨he,hb⟩=>?_;subst he;exact⟨_,rfl,mz laidOut hW' rfl (by kernel_rfl) rfl Tryz.underlying4 (fun _=>rfl) hb⟩
theorem hitSeen_ja:mapsRowed Tryz.pinned.checked.prog=true:=by kernel_rfl
theorem hitSeen_jb:(Rows.hitSeenRow.inPlace==Tryz.pinned.checked.prog.inPlace 12)=true:=by kernel_rfl
theorem hitSeen_jc:(Rows.hitSeenRow.unfollowed==Tryz.pinned.checked.prog.unfollowed 12)=true:=by kernel_rfl
theorem hitSeen_jd:(Rows.hitSeenRow.recurses==Tryz.pinned.checked.prog.recurses 12)=true:=by kernel_rfl
theorem hitSeen_je:(Rows.hitSeenRow.named==Tryz.pinned.checked.prog.varsNamed 12)=true:=by kernel_rfl
theorem hitSeen_jl:laidOutB Tryz.pinned.checked.prog=true:=laidOut
theorem hitSeen_said:Rows.HitSeenSaid:=
  OpenClaim.holds_of_wide 12 Tryz.f12 rfl rfl rfl rfl rfl rfl rfl ⟨rfl,rfl,rfl,rfl,rfl⟩ rfl rfl rfl rfl rfl (by kernel_rfl) Tryz.func12 (by unfold joinedFacts;rw[hitSeen_jl,hitSeen_ja,hitSeen_jb,hitSeen_jc,hitSeen_jd,hitSeen_je];kernel_rfl)
    (of_decide_eq_true (by kernel_rfl)) (by unfold Func.isWrapper;rw[if_neg (by decide+kernel)];exact⟨rfl,rfl⟩)
    (fun os started H enc _=>hitSeen_lifted os started H enc)
end Go.Proofs.YtbedndijejpcaaaGreat
