/- The statement HitLayers is true of every input: the Go function valancelaw18.HitLayers answers true, and each argument reads behind the call as it did. No condition. -/
import Derived.Test.YtbedndijejpcaaaGreatH28
set_option linter.unusedVariables false
set_option linter.unusedSimpArgs false
set_option linter.unusedSectionVars false
set_option maxRecDepth 100000
set_option maxHeartbeats 8000000
namespace Go.Proofs.YtbedndijejpcaaaGreat
open Go.RowKit
theorem Fz {l:List Int} {m:Int→Bool} {k:Nat} {y:Int} (hy:l[k]?=some y) (h:m y=true):y=hC l m (k+1):=by rw[hC,gF hy,if_pos h]
theorem Js {l:List Int} {m:Int→Bool} {k:Nat} {y:Int} (hy:l[k]?=some y) (h:¬m y=true):hC l m k=hC l m (k+1):=by
  have e:hC l m (k+1)=if m (gI l k)=true then gI l k else hC l m k:=rfl;rw[e,gF hy,if_neg h]
theorem uy (A:Option Addr) (c:Nat) (l:List AC) (wd ht px py:Int):Ct Tryz.prog 14 #[.slice A l.length c,.int .i64 wd,.int .i64 ht,.int .i64 px,.int .i64 py] [] (fun w=>jL w A 59 s5 l) (X:=Unit) (fun _=>.bool true) (fun _=>True) (fun _=>[]):=by
  refine Ci fun w0 hz=>?_;refine gg ?_;refine eF (xC kK) fun _ _=>?_;refine gg ?_;refine WP.br rfl ?_;refine gg ?_;refine eF (xC (mq A c l) (hF:=fun w hw=>hw.rd hz pH)) fun⟨gb,tp,mb,es,rp,g,bc,bs⟩ hgr=>?_;dsimp only at hgr;refine mv rfl ?_;refine uE ?_;refine aj.aY 34 rfl (fun h34=>?_) (fun h34=>?_)
  ·refine gg ?_;refine WP.aQ rfl ?_;refine gg ?_;exact aT fun w hw=>⟨(),rfl,trivial,hw.pk⟩
  ·refine bS ?_;refine aj.split 38 rfl (fun h38=>?_) (fun h38=>?_)
   ·refine gg ?_;refine WP.aQ rfl ?_;refine gg ?_;exact aT fun w hw=>⟨(),rfl,trivial,hw.pk⟩
   ·refine gg ?_;refine WP.aw rfl (fun h41=>?_) (fun h41=>?_)
    ·refine gg ?_;exact aT fun w hw=>⟨(),rfl,trivial,hw.pk⟩
    ·obtain⟨hl30,hFo,hk,hab,hkr⟩:=hgr (by simpa using h34);obtain⟨d,hF0⟩:=q8 l;have hF:WF (ae es) d:=by rw[hFo];exact hF0
     have hFr:WF (aD bs) d:=by rw[hab];exact hF
     have hgs:∀x,GS (ah (ae es) x):=by rw[hFo];exact(qg l).st
     have hgr2:∀x,GS (ah (aD bs) x):=by rw[hab];exact hgs
     have hlf:=ka l;have hK:∀x,(aH (ae es) x).length≤64:=fun x=>Nat.le_trans (kO (n:=31) hF (by rw[hFo];omega) x) (by decide);have hKr:∀x,(aH (aD bs) x).length≤64:=by rw[hab];exact hK
     have hol1:(order (ae es)).length≤1000:=by have h:=ka l;unfold jK at h;rw[hFo];omega
     have hup:=qq hF hgs wd ht;have hol:(order (ae es)).length≤4096:=hF.e6 0;refine gg ?_;refine eF (xC (mF tp mb es hk hF)) fun⟨A6,c6⟩ _=>?_;refine gg ?_;refine WP.bm (X:=Nat) [1,2,3,4,11,12,15] (fun k=>[(16,.int .i64 (k:Int))]) (fun k w=>(k≤(order (ae es)).length∧(∀(j:Nat) (z:Int),j<k→(order (ae es))[j]?=some z→AO (ah (ae es) z)=false))∧St w0 (ay []) [al tp mb es,az A6 (order (ae es)).length c6 (order (ae es))] w) (fun k=>(order (ae es)).length - k) 0 ⟨rfl,trivial⟩ (fun w hw=>⟨⟨Nat.zero_le _,fun j z hj=>by omega⟩,(hw.sel [1,2] (by decide))⟩) (fun k ρ0=>?_);refine WP.fact (fun⟨hkn,hag⟩=>?_);refine gg ?_;refine WP.aw rfl (fun h48=>?_) (fun h48=>?_)
     ·obtain⟨y,hy⟩:∃y,(order (ae es))[k]?=some y:=⟨_,List.getElem?_eq_getElem (by omega)⟩;have hhas:=hF.bw.1 (List.mem_of_getElem? hy);refine WP.holds (fun w hw=>hw.aM (i:=1) rfl (by omega)) (fun⟨kb,hA⟩=>?_);subst hA;refine gg ?_;refine vl (vR 1 (by rw[List.getElem?_map,hy];rfl)) ?_;refine eF (xC (a6 tp mb es hk y)) fun _ _=>?_;refine aj.ef cg fun b17=>?_;refine aj.aX (xZ (hk.aE (y)) rfl) fun _=>?_;refine cK ?_;refine vl (ai (u:=.bool (iJ (ah (ae es) (y)) 47)) Tryz.isAgg4 rfl (fun w hw=>hw.aq (i:=2) rfl 47 (cell_of (bZ.bit (hk.aE (y)) 47 (by decide) rfl)))) ?_;refine av ?_;refine aj.aY 59 rfl (fun h59=>?_) (fun h59=>?_)
      ·refine gg ?_;refine WP.aQ rfl ?_;refine gg ?_;exact aT fun w hw=>⟨(),rfl,trivial,hw.pk⟩
      ·refine ag ?_;refine vg (vS (hk.aE (y)) 1) ?_;refine cK ?_;refine aj.split 64 rfl (fun h64=>?_) (fun h64=>?_)
       ·refine gg ?_;refine WP.aQ rfl ?_;refine gg ?_;exact aT fun w hw=>⟨(),rfl,trivial,hw.pk⟩
       ·refine ag ?_;refine vg (vS (hk.aE (y)) 1) ?_;refine gg ?_;refine WP.aw rfl (fun h68=>?_) (fun h68=>?_)
        ·refine gg ?_;exact aT fun w hw=>⟨(),rfl,trivial,hw.pk⟩
        ·have hly:AO (ah (ae es) y)=false:=by unfold AO;simp_all
         have hag2:(∀(j:Nat) (z:Int),j<(k+1)→(order (ae es))[j]?=some z→AO (ah (ae es) z)=false):=fun j z hj hz=>by
           rcases Nat.lt_succ_iff_lt_or_eq.1 hj with hj | rfl
           · exact hag j z hj hz
           · rw[hy] at hz;cases hz;exact hly
         refine cR ?_;exact nl fun w hw=>⟨rfl,k+1,(by omega),⟨rfl,jI,jI,jI,jI,jB,jP,jS,trivial⟩,⟨⟨by omega,hag2⟩,hw.pk⟩⟩
     ·obtain rfl:k=(order (ae es)).length:=by omega
      refine WP.exit (an ?_);refine gg ?_;refine eF (xC (ig tp mb es hk hF hgs hK wd ht (by omega) (by omega))) fun⟨mp,ps⟩ hps=>?_;have hmo:=mapOf hps (jl hF hgs wd ht);have hrm:=zu hF hgs hmo;have hol:(order (ae es)).length≤4096:=hF.e6 0;refine sg (v:=.map _) rfl ?_;refine cK ?_;refine mv (v:=.map _) rfl ?_;refine aj.ef (eV (σ':=fun _=>[_,_,_,_]) (fun _=>rfl)) (fun mp76=>?_);refine gg ?_;refine eF (xC (kx tp mb mp mp76 es (bO ps) [] (gm (ae es) wd ht) (fun _=>(0,0)) hk hF hgs hrm xq wd ht)) fun sb1 _=>?_;refine sg (v:=.map _) rfl ?_;refine gg ?_;refine eF (xC (fa px py)) fun _ _=>?_;refine sg (v:=cJ _ _) rfl ?_;refine gg ?_;refine WP.bm (X:=Nat) [11,12,15,18,19,20] (fun k=>[(21,.int .i64 (hC (order (ae es)) (dm (ae es) (gm (ae es) wd ht) (fun _=>(0,0)) (eH 0 0 wd ht) (cut px,cut py)) k)),(22,.int .i64 (k:Int))]) (fun k w=>k≤(order (ae es)).length∧St w0 (ay []) [al tp mb es,aP mp (bO ps),aP sb1 (lS (ae es) (gm (ae es) wd ht) (fun _=>(0,0)) (eH 0 0 wd ht) (order (ae es))),az A6 (order (ae es)).length c6 (order (ae es))] w) (fun k=>(order (ae es)).length - k) 0 ⟨rfl,rfl,trivial⟩ (fun w hw=>⟨Nat.zero_le _,(hw.sel [1,2,4,0] (by decide))⟩) (fun k ρ0=>?_);refine WP.fact (fun hkn=>?_);refine gg ?_;refine WP.aw rfl (fun h86=>?_) (fun h86=>?_)
      ·obtain⟨y,hy⟩:∃y,(order (ae es))[k]?=some y:=⟨_,List.getElem?_eq_getElem (by omega)⟩;have hhas:=hF.bw.1 (List.mem_of_getElem? hy);refine WP.holds (fun w hw=>hw.aM (i:=3) rfl (by omega)) (fun⟨kb,hA⟩=>?_);subst hA;refine cR ?_;refine mv (v:=.map _) rfl ?_;refine gg ?_;refine vl (vR 3 (by rw[List.getElem?_map,hy];rfl)) ?_;refine mv (v:=cJ _ _) rfl ?_;refine eF (xC (nV tp mb es (bO ps) (gm (ae es) wd ht) hk hF hrm sb1 (fun _=>(0,0)) (eH 0 0 wd ht) (cut px,cut py) ⟨cn px,cn py⟩ y)) fun _ _=>?_;refine gg ?_;refine WP.cond rfl (fun h96=>?_) (fun h96=>?_)
       ·refine gg ?_;refine vl (vR 1 (by rw[List.getElem?_map,hy];rfl)) ?_;refine iX ?_;exact nl fun w hw=>⟨rfl,(k+1),(by omega),⟨(congrArg (Value.int .i64) (Fz hy (by simpa using h96))),rfl,jB,jP,jS,(via (.map _) rfl rfl),(via (.map _) rfl rfl),(via (cJ _ _) rfl rfl),trivial⟩,⟨by omega,hw.pk⟩⟩
       ·refine cR ?_;exact nl fun w hw=>⟨rfl,(k+1),(by omega),⟨(congrArg (Value.int .i64) (Js hy (by simpa using h96))),rfl,jB,jP,jS,(via (.map _) rfl rfl),(via (.map _) rfl rfl),(via (cJ _ _) rfl rfl),trivial⟩,⟨by omega,hw.pk⟩⟩
      ·obtain rfl:k=(order (ae es)).length:=by omega
       have hpl := tw (g := (gm (ae es) wd ht)) hF hup (fun y hy => by
         obtain ⟨j, hj⟩ := List.getElem?_of_mem hy
         exact hag j y (List.getElem?_eq_some_iff.1 hj).1 hj)
       have hq:(dC (cS (ae es) (gm (ae es) wd ht)) (dm (ae es) (gm (ae es) wd ht) (fun _=>(0,0)) (eH 0 0 wd ht) (cut px,cut py)))=hC (order (ae es)) (dm (ae es) (gm (ae es) wd ht) (fun _=>(0,0)) (eH 0 0 wd ht) (cut px,cut py)) (order (ae es)).length:=by
         rw[hpl];have h:=tH (l:=(order (ae es))) (q:=lf (gm (ae es) wd ht)) (m:=(dm (ae es) (gm (ae es) wd ht) (fun _=>(0,0)) (eH 0 0 wd ht) (cut px,cut py))) (fun x hx=>(Iq hx).1) _ (Nat.le_refl _);rw[List.take_of_length_le (Nat.le_refl _)] at h;exact h
       refine WP.exit (an ?_);refine bS ?_;refine vg (aC (v:=.map _) rfl) ?_;refine vg (aC (v:=.map _) rfl) ?_;refine vg (aC (v:=cJ _ _) rfl) ?_;refine aj.kn (xC (od tp mb mp es (bO ps) (gm (ae es) wd ht) hk hF hrm hup hol1 sb1 (fun _=>(0,0)) (eH 0 0 wd ht) (cut px,cut py) ⟨cn px,cn py⟩)) (fun _=>?_);refine aj.fact (fun _=>?_);refine ag ?_;refine vg (fL (b:=true) (dD rfl rfl) (decide_eq_true hq)) ?_;refine gg ?_;exact aT fun w hw=>⟨(),rfl,trivial,hw.pk⟩
end Go.Proofs.YtbedndijejpcaaaGreat
namespace Go.Proofs.YtbedndijejpcaaaGreat
open Go.ChangeShapes Go.WideShapes Go.ChangeAt Go.RowKit Go.Deep
theorem hitLayers_lifted (os:Os) (started:os.Started) (H:Type) (enc:TypeId×Value→H):
    ReturnsInHanded {} Tryz.checked os 14 .any (Rows.hitLayersSpec.pre6 enc Tryz.prog Tryz.f14 Rows.hitLayersRow.domain false) (Rows.hitLayersSpec.post enc Tryz.prog Tryz.f14 false true false false):=by
  refine returnsInHanded_of_change (C:=Tryz.checked) own started (by kernel_rfl) Tryz.func14
    (ChangeSpec.witness6 (enc:=enc) (C:=Tryz.checked) false ⟨#[],#[.slice none 0 0,.int .i64 0,.int .i64 0,.int .i64 0,.int .i64 0],[]⟩ 8 (by kernel_rfl) (by kernel_rfl) (by kernel_rfl) (by kernel_rfl)) ?_
  intro W base args ds gs before hval0 hW _ _;have hval:∀(j:Nat) t v,Tryz.f14.params[j]?=some t→args[j]?=some v→Value.okWide Tryz.prog W .any base t v:=hval0;have hW':=hW;obtain⟨p,q,hA0,hV,rfl,hfz,hnd⟩:=hW;have hA:DataW.TrodAll enc Tryz.prog W 0 (fun _=>true) true Tryz.f14.params.toList args.toList ds p:=hA0;rw[Tryz.params14] at hA hval;obtain⟨v0,vs0,d0,ds0,p0,q0,hargs,rfl,rfl,h0,r0⟩:=trodAll_cons hA;obtain⟨v1,vs1,d1,ds1,p1,q1,rfl,rfl,rfl,h1,r1⟩:=trodAll_cons r0;obtain⟨v2,vs2,d2,ds2,p2,q2,rfl,rfl,rfl,h2,r2⟩:=trodAll_cons r1;obtain⟨v3,vs3,d3,ds3,p3,q3,rfl,rfl,rfl,h3,r3⟩:=trodAll_cons r2;obtain⟨v4,vs4,d4,ds4,p4,q4,rfl,rfl,rfl,h4,r4⟩:=trodAll_cons r3;obtain⟨rfl,rfl,rfl⟩:=trodAll_nil r4;obtain⟨args⟩:=args;obtain rfl:args=_:=hargs;obtain⟨A,l,c,rfl,hrd⟩:=kU (hval 0 22 v0 rfl rfl) h0;obtain⟨wd,rfl,-,-,-⟩:=open_int Tryz.underlying3 (hval 1 3 v1 rfl rfl) h1;obtain⟨ht,rfl,-,-,-⟩:=open_int Tryz.underlying3 (hval 2 3 v2 rfl rfl) h2;obtain⟨px,rfl,-,-,-⟩:=open_int Tryz.underlying3 (hval 3 3 v3 rfl rfl) h3;obtain⟨py,rfl,-,-,-⟩:=open_int Tryz.underlying3 (hval 4 3 v4 rfl rfl) h4;refine(Ct.IH (uy A c l wd ht px py) hrd).mono fun e W' ⟨he,hb⟩=>?_;subst he;exact⟨_,rfl,mz laidOut hW' rfl (by kernel_rfl) rfl Tryz.underlying4 (fun _=>rfl) hb⟩
theorem hitLayers_ja:mapsRowed Tryz.pinned.checked.prog=true:=by kernel_rfl
theorem hitLayers_jb:(Rows.hitLayersRow.inPlace==Tryz.pinned.checked.prog.inPlace 14)=true:=by kernel_rfl
theorem hitLayers_jc:(Rows.hitLayersRow.unfollowed==Tryz.pinned.checked.prog.unfollowed 14)=true:=by kernel_rfl
theorem hitLayers_jd:(Rows.hitLayersRow.recurses==Tryz.pinned.checked.prog.recurses 14)=true:=by kernel_rfl
theorem hitLayers_je:(Rows.hitLayersRow.named==Tryz.pinned.checked.prog.varsNamed 14)=true:=by kernel_rfl
theorem hitLayers_jl:laidOutB Tryz.pinned.checked.prog=true:=laidOut
theorem hitLayers_said:Rows.HitLayersSaid:=
  OpenClaim.holds_of_wide 14 Tryz.f14 rfl rfl rfl rfl rfl rfl rfl ⟨rfl,rfl,rfl,rfl,rfl⟩ rfl rfl rfl rfl rfl (by kernel_rfl) Tryz.func14 (by unfold joinedFacts;rw[hitLayers_jl,hitLayers_ja,hitLayers_jb,hitLayers_jc,hitLayers_jd,hitLayers_je];kernel_rfl)
    (of_decide_eq_true (by kernel_rfl)) (by unfold Func.isWrapper;rw[if_neg (by decide+kernel)];exact⟨rfl,rfl⟩)
    (fun os started H enc _=>hitLayers_lifted os started H enc)
end Go.Proofs.YtbedndijejpcaaaGreat
