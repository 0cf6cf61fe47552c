/- The statement HitSame is true of every input: the Go function valancelaw18.HitSame answers true, and each argument reads behind the call as it did. No condition. -/
import Derived.Test.YtbedndijejpcaaaGreatH28
set_option linter.unusedVariables false
set_option linter.unusedSimpArgs false
set_option linter.unusedSectionVars false
set_option maxRecDepth 100000
set_option maxHeartbeats 8000000
namespace Go.Proofs.YtbedndijejpcaaaGreat
open Go.RowKit
theorem BW (A:Option Addr) (c:Nat) (l:List AC) (wd ht px py dx dy:Int):Ct Tryz.prog 15 #[.slice A l.length c,.int .i64 wd,.int .i64 ht,.int .i64 px,.int .i64 py,.int .i64 dx,.int .i64 dy] [] (fun w=>jL w A 59 s5 l) (X:=Unit) (fun _=>.bool true) (fun _=>True) (fun _=>[]):=by
  refine Ci fun w0 hz=>?_;refine gg ?_;refine eF (xC kK) fun _ _=>?_;refine gg ?_;refine WP.br rfl ?_;refine gg ?_;refine eF (xC (mq A c l) (hF:=fun w hw=>hw.rd hz pH)) fun⟨gb,tp,mb,es,rp,g,bc,bs⟩ hgr=>?_;dsimp only at hgr;refine mv rfl ?_;refine uE ?_;refine aj.aY 37 rfl (fun h37=>?_) (fun h37=>?_)
  ·refine gg ?_;refine WP.aQ rfl ?_;refine gg ?_;exact aT fun w hw=>⟨(),rfl,trivial,hw.pk⟩
  ·refine bS ?_;refine aj.split 41 rfl (fun h41=>?_) (fun h41=>?_)
   ·refine gg ?_;refine WP.aQ rfl ?_;refine gg ?_;exact aT fun w hw=>⟨(),rfl,trivial,hw.pk⟩
   ·refine gg ?_;refine WP.aw rfl (fun h44=>?_) (fun h44=>?_)
    ·refine gg ?_;exact aT fun w hw=>⟨(),rfl,trivial,hw.pk⟩
    ·obtain⟨hl30,hFo,hk,hab,hkr⟩:=hgr (by simpa using h37);obtain⟨d,hF0⟩:=q8 l;have hF:WF (ae es) d:=by rw[hFo];exact hF0
     have hFr:WF (aD bs) d:=by rw[hab];exact hF
     have hgs:∀x,GS (ah (ae es) x):=by rw[hFo];exact(qg l).st
     have hgr2:∀x,GS (ah (aD bs) x):=by rw[hab];exact hgs
     have hlf:=ka l;have hK:∀x,(aH (ae es) x).length≤64:=fun x=>Nat.le_trans (kO (n:=31) hF (by rw[hFo];omega) x) (by decide);have hKr:∀x,(aH (aD bs) x).length≤64:=by rw[hab];exact hK
     have hol1:(order (ae es)).length≤1000:=by have h:=ka l;unfold jK at h;rw[hFo];omega
     have hup:=qq hF hgs wd ht;refine gg ?_;refine eF (xC (ig tp mb es hk hF hgs hK wd ht (by omega) (by omega))) fun⟨mp,ps⟩ hps=>?_;have hmo:=mapOf hps (jl hF hgs wd ht);have hrm:=zu hF hgs hmo;have hol:(order (ae es)).length≤4096:=hF.e6 0;refine sg (v:=.map _) rfl ?_;refine cK ?_;refine mv (v:=.map _) rfl ?_;refine aj.ef (eV (σ':=fun _=>[_,_,_,_]) (fun _=>rfl)) (fun mp52=>?_);refine gg ?_;refine eF (xC (kx tp mb mp mp52 es (bO ps) [] (gm (ae es) wd ht) (fun _=>(0,0)) hk hF hgs hrm xq wd ht)) fun sb1 _=>?_;refine sg (v:=.map _) rfl ?_;refine gg ?_;refine eF (xC (fa px py)) fun _ _=>?_;refine sg (v:=cJ _ _) rfl ?_;refine gg ?_;refine eF (xC (fa dx dy)) fun _ _=>?_;refine sg (v:=cJ _ _) rfl ?_;refine cK ?_;refine mv (v:=.map _) rfl ?_;refine mv (v:=.map _) rfl ?_;refine mv (v:=cJ _ _) rfl ?_;refine eF (xC (od tp mb mp es (bO ps) (gm (ae es) wd ht) hk hF hrm hup hol1 sb1 (fun _=>(0,0)) (eH 0 0 wd ht) (cut px,cut py) ⟨cn px,cn py⟩)) fun _ _=>?_;refine gg ?_;refine eF (xC (mF tp mb es hk hF)) fun⟨A6,c6⟩ _=>?_;refine gg ?_;refine WP.bm (X:=Nat) [15,16,19,20,21,22,23,24] (fun k=>[(25,.int .i64 (k:Int))]) (fun k w=>(k≤(order (ae es)).length∧(∀(j:Nat) (z:Int),j<k→(order (ae es))[j]?=some z→(dm (ae es) (gm (ae es) wd ht) (fun _=>(0,0)) (eH 0 0 wd ht) (cut dx,cut dy)) z=(dm (ae es) (gm (ae es) wd ht) (fun _=>(0,0)) (eH 0 0 wd ht) (cut px,cut py)) z))∧St w0 (ay []) [al tp mb es,aP mp (bO ps),aP sb1 (lS (ae es) (gm (ae es) wd ht) (fun _=>(0,0)) (eH 0 0 wd ht) (order (ae es))),az A6 (order (ae es)).length c6 (order (ae es))] w) (fun k=>(order (ae es)).length - k) 0 ⟨rfl,trivial⟩ (fun w hw=>⟨⟨Nat.zero_le _,fun j z hj=>by omega⟩,(hw.sel [4,2,3,5] (by decide))⟩) (fun k ρ0=>?_);refine WP.fact (fun⟨hkn,hag⟩=>?_);refine gg ?_;refine WP.aw rfl (fun h72=>?_) (fun h72=>?_)
     ·obtain⟨y,hy⟩:∃y,(order (ae es))[k]?=some y:=⟨_,List.getElem?_eq_getElem (by omega)⟩;have hhas:=hF.bw.1 (List.mem_of_getElem? hy);refine WP.holds (fun w hw=>hw.aM (i:=3) rfl (by omega)) (fun⟨kb,hA⟩=>?_);subst hA;refine gg ?_;refine wP none [0,1,2,3] [pT 0,pT 1,pT 2,pT 3,pT 4,pT 5,pT 6,pT 8,pT 9,pT 10,pT 11,pT 12,pT 13,pT 14,pF 7,pF 15,pT 16] ?_;refine ad ?_;refine tE rfl (aC (v:=.map _) rfl) ?_;refine gg ?_;refine tD (vR 3 (by rw[List.getElem?_map,hy];rfl)) ?_;refine tE rfl (aC (v:=cJ _ _) rfl) ?_;refine ad ?_;refine tE rfl (aC (v:=.map _) rfl) ?_;refine gg ?_;refine tD (vR 3 (by rw[List.getElem?_map,hy];rfl)) ?_;refine tE rfl (aC (v:=cJ _ _) rfl) ?_;refine dG (xC (nV tp mb es (bO ps) (gm (ae es) wd ht) hk hF hrm sb1 (fun _=>(0,0)) (eH 0 0 wd ht) (cut dx,cut dy) ⟨cn dx,cn dy⟩ y)) fun _ _=>?_;refine dG (xC (nV tp mb es (bO ps) (gm (ae es) wd ht) hk hF hrm sb1 (fun _=>(0,0)) (eH 0 0 wd ht) (cut px,cut py) ⟨cn px,cn py⟩ y)) fun _ _=>?_;refine tE rfl (CZ Tryz.underlying4 rfl rfl) ?_;refine gg ?_;refine WP.cond rfl (fun h91=>?_) (fun h91=>?_)
      ·refine gg ?_;exact aT fun w hw=>⟨(),rfl,trivial,hw.pk⟩
      ·have hag2:(∀(j:Nat) (z:Int),j<(k+1)→(order (ae es))[j]?=some z→(dm (ae es) (gm (ae es) wd ht) (fun _=>(0,0)) (eH 0 0 wd ht) (cut dx,cut dy)) z=(dm (ae es) (gm (ae es) wd ht) (fun _=>(0,0)) (eH 0 0 wd ht) (cut px,cut py)) z):=fun j z hj hz=>by
         rcases Nat.lt_succ_iff_lt_or_eq.1 hj with hj | rfl
         · exact hag j z hj hz
         · rw[hy] at hz;cases hz;simpa using h91
       refine cR ?_;exact nl fun w hw=>⟨rfl,k+1,(by omega),⟨rfl,jB,jP,(via (.map _) rfl rfl),(via (.map _) rfl rfl),(via (cJ _ _) rfl rfl),(via (cJ _ _) rfl rfl),jI,jS,trivial⟩,⟨⟨by omega,hag2⟩,hw.pk⟩⟩
     ·obtain rfl:k=(order (ae es)).length:=by omega
      have hq : dC (cS (ae es) (gm (ae es) wd ht)) (dm (ae es) (gm (ae es) wd ht) (fun _ => (0, 0)) (eH 0 0 wd ht) (cut dx, cut dy)) = dC (cS (ae es) (gm (ae es) wd ht)) (dm (ae es) (gm (ae es) wd ht) (fun _ => (0, 0)) (eH 0 0 wd ht) (cut px, cut py)) := u9 (fun x hx => by
        obtain ⟨j, hj⟩ := List.getElem?_of_mem (eR.1 (yL hx)).1
        exact hag j x (List.getElem?_eq_some_iff.1 hj).1 hj) _ (Nat.le_refl _)
      refine WP.exit (an ?_);refine bS ?_;refine vg (aC (v:=.map _) rfl) ?_;refine vg (aC (v:=.map _) rfl) ?_;refine vg (aC (v:=cJ _ _) rfl) ?_;refine aj.kn (xC (od tp mb mp es (bO ps) (gm (ae es) wd ht) hk hF hrm hup hol1 sb1 (fun _=>(0,0)) (eH 0 0 wd ht) (cut dx,cut dy) ⟨cn dx,cn dy⟩)) (fun _=>?_);refine aj.fact (fun _=>?_);refine ag ?_;refine vg (fL (b:=true) (dD rfl rfl) (decide_eq_true hq)) ?_;refine gg ?_;exact aT fun w hw=>⟨(),rfl,trivial,hw.pk⟩
end Go.Proofs.YtbedndijejpcaaaGreat
namespace Go.Proofs.YtbedndijejpcaaaGreat
open Go.ChangeShapes Go.WideShapes Go.ChangeAt Go.RowKit Go.Deep
theorem hitSame_lifted (os:Os) (started:os.Started) (H:Type) (enc:TypeId×Value→H):
    ReturnsInHanded {} Tryz.checked os 15 .any (Rows.hitSameSpec.pre6 enc Tryz.prog Tryz.f15 Rows.hitSameRow.domain false) (Rows.hitSameSpec.post enc Tryz.prog Tryz.f15 false true false false):=by
  refine returnsInHanded_of_change (C:=Tryz.checked) own started (by kernel_rfl) Tryz.func15
    (ChangeSpec.witness6 (enc:=enc) (C:=Tryz.checked) false ⟨#[],#[.slice none 0 0,.int .i64 0,.int .i64 0,.int .i64 0,.int .i64 0,.int .i64 0,.int .i64 0],[]⟩ 8 (by kernel_rfl) (by kernel_rfl) (by kernel_rfl) (by kernel_rfl)) ?_
  intro W base args ds gs before hval0 hW _ _;have hval:∀(j:Nat) t v,Tryz.f15.params[j]?=some t→args[j]?=some v→Value.okWide Tryz.prog W .any base t v:=hval0;have hW':=hW;obtain⟨p,q,hA0,hV,rfl,hfz,hnd⟩:=hW;have hA:DataW.TrodAll enc Tryz.prog W 0 (fun _=>true) true Tryz.f15.params.toList args.toList ds p:=hA0;rw[Tryz.params15] at hA hval;obtain⟨v0,vs0,d0,ds0,p0,q0,hargs,rfl,rfl,h0,r0⟩:=trodAll_cons hA;obtain⟨v1,vs1,d1,ds1,p1,q1,rfl,rfl,rfl,h1,r1⟩:=trodAll_cons r0;obtain⟨v2,vs2,d2,ds2,p2,q2,rfl,rfl,rfl,h2,r2⟩:=trodAll_cons r1;obtain⟨v3,vs3,d3,ds3,p3,q3,rfl,rfl,rfl,h3,r3⟩:=trodAll_cons r2;obtain⟨v4,vs4,d4,ds4,p4,q4,rfl,rfl,rfl,h4,r4⟩:=trodAll_cons r3;obtain⟨v5,vs5,d5,ds5,p5,q5,rfl,rfl,rfl,h5,r5⟩:=trodAll_cons r4;obtain⟨v6,vs6,d6,ds6,p6,q6,rfl,rfl,rfl,h6,r6⟩:=trodAll_cons r5;obtain⟨rfl,rfl,rfl⟩:=trodAll_nil r6;obtain⟨args⟩:=args;obtain rfl:args=_:=hargs;obtain⟨A,l,c,rfl,hrd⟩:=kU (hval 0 22 v0 rfl rfl) h0;obtain⟨wd,rfl,-,-,-⟩:=open_int Tryz.underlying3 (hval 1 3 v1 rfl rfl) h1;obtain⟨ht,rfl,-,-,-⟩:=open_int Tryz.underlying3 (hval 2 3 v2 rfl rfl) h2;obtain⟨px,rfl,-,-,-⟩:=open_int Tryz.underlying3 (hval 3 3 v3 rfl rfl) h3;obtain⟨py,rfl,-,-,-⟩:=open_int Tryz.underlying3 (hval 4 3 v4 rfl rfl) h4;obtain⟨dx,rfl,-,-,-⟩:=open_int Tryz.underlying3 (hval 5 3 v5 rfl rfl) h5;obtain⟨dy,rfl,-,-,-⟩:=open_int Tryz.underlying3 (hval 6 3 v6 rfl rfl) h6;refine(Ct.IH (BW A c l wd ht px py dx dy) hrd).mono fun e W' ⟨he,hb⟩=>?_;subst he;exact⟨_,rfl,mz laidOut hW' rfl (by kernel_rfl) rfl Tryz.underlying4 (fun _=>rfl) hb⟩
theorem hitSame_ja:mapsRowed Tryz.pinned.checked.prog=true:=by kernel_rfl
theorem hitSame_jb:(Rows.hitSameRow.inPlace==Tryz.pinned.checked.prog.inPlace 15)=true:=by kernel_rfl
theorem hitSame_jc:(Rows.hitSameRow.unfollowed==Tryz.pinned.checked.prog.unfollowed 15)=true:=by kernel_rfl
theorem hitSame_jd:(Rows.hitSameRow.recurses==Tryz.pinned.checked.prog.recurses 15)=true:=by kernel_rfl
theorem hitSame_je:(Rows.hitSameRow.named==Tryz.pinned.checked.prog.varsNamed 15)=true:=by kernel_rfl
theorem hitSame_jl:laidOutB Tryz.pinned.checked.prog=true:=laidOut
theorem hitSame_said:Rows.HitSameSaid:=
  OpenClaim.holds_of_wide 15 Tryz.f15 rfl rfl rfl rfl rfl rfl rfl ⟨rfl,rfl,rfl,rfl,rfl⟩ rfl rfl rfl rfl rfl (by kernel_rfl) Tryz.func15 (by unfold joinedFacts;rw[hitSame_jl,hitSame_ja,hitSame_jb,hitSame_jc,hitSame_jd,hitSame_je];kernel_rfl)
    (of_decide_eq_true (by kernel_rfl)) (by unfold Func.isWrapper;rw[if_neg (by decide+kernel)];exact⟨rfl,rfl⟩)
    (fun os started H enc _=>hitSame_lifted os started H enc)
end Go.Proofs.YtbedndijejpcaaaGreat
