/- The statement HitNone is true of every input: the Go function valancelaw18.HitNone answers true, and each argument reads behind the call as it did. No condition. -/
import Derived.Test.YtbedndijejpcaaaGreatH28
set_option linter.unusedVariables false
set_option linter.unusedSimpArgs false
set_option linter.unusedSectionVars false
set_option maxRecDepth 100000
set_option maxHeartbeats 8000000
namespace Go.Proofs.YtbedndijejpcaaaGreat
open Go.RowKit
abbrev AP (s:List Value):List Value:=s.set 52 (.bool true)
theorem BK {s:List Value} (hs:bZ s):bZ (AP s):=by
  refine bZ.ID (f:=fun i=>val s i) (g:=fun i=>if i=52 then true else iJ s i) (by rw[List.length_set,hs.len]) fun i hi=>?_
  by_cases e:i=52
  · subst e
    have hj:kP 52=true:=rfl;rw[List.getElem?_set_self (by rw[hs.len];exact hi)];simp[hj]
  · rw [List.getElem?_set_ne (Ne.symm e)]
    cases hb:kP i with
    | false=>rw[hs.int i hi hb];simp
    | true=>rw[hs.bit i hi hb];simp[e]
theorem Ji (s:List Value) (i:Nat) (h:i≠52):val (AP s) i=val s i:=by
  unfold val;rw[List.getD_eq_getElem?_getD,List.getD_eq_getElem?_getD,List.getElem?_set_ne (Ne.symm h)]
theorem CJ {s:List Value} (hs:bZ s):iJ (AP s) 52=true:=by
  unfold iJ;rw[List.getD_eq_getElem?_getD,List.getElem?_set_self (by rw[hs.len];decide)];rfl
theorem vm {s:List Value} (hv:bg s=true):bg (AP s)=true:=by
  have v:=Ji s;have e1:j7 (AP s)=j7 s:=by unfold j7;rw[v 0 (by decide),v 1 (by decide),v 2 (by decide)]
  have e2:mC (AP s)=mC s:=by unfold mC;rw[v 43 (by decide),v 44 (by decide),v 49 (by decide),v 50 (by decide)]
  have e3:ou (AP s)=ou s:=List.map_congr_left fun j hj=>by
    have h:=(by decide:∀q∈w5,q≠52∧q+1≠52) j hj;rw[v j h.1,v (j+1) h.2]
  have e4:lN (AP s)=lN s:=List.map_congr_left fun j hj=>v j ((by decide:∀q∈xT,q≠52) j hj);unfold bg lU iQ at hv ⊢;rw[e1,e2,e3,e4,v 39 (by decide),v 40 (by decide),v 48 (by decide)];exact hv
def nW (F:ar (List Value)):Prop:=∀x b,F x=some b→bg b.sty=true
theorem nW.st {F:ar (List Value)} (h:nW F) {x:Int} (hx:aK F x=true):bg (ah F x)=true:=by
  obtain⟨b,hb⟩:=aL hx;unfold ah pt;rw[hb];exact h x b hb
theorem nW.setG {F:ar (List Value)} (h:nW F) (id:Int) {s:List Value} (hs:bg s=true):nW (setG F id s):=fun x b hb=>by
  unfold Go.Proofs.YtbedndijejpcaaaGreat.setG at hb
  split at hb
  · obtain ⟨c, hc, rfl⟩ := Option.map_eq_some_iff.1 hb
    exact hs
  · exact h x b hb
theorem nW.act {F:ar (List Value)} (h:nW F) (a:Act (List Value)):nW (kQ aR bg F a):=by
  unfold kQ
  split
  · unfold remR
    repeat' split
    all_goals first
      | exact h
      | exact fun x b hb=>by
          unfold remG at hb;dsimp only at hb
          split at hb
          · cases hb
          · obtain ⟨c, hc, rfl⟩ := Option.map_eq_some_iff.1 hb
            split<;>exact h x c hc
  · split
    · unfold movR
      repeat' split
      all_goals first
        | exact h
        | exact fun x b hb=>by
            unfold movG at hb;dsimp only at hb;obtain⟨c,hc,rfl⟩:=Option.map_eq_some_iff.1 hb;exact h x c hc
    · split
      · unfold setR
        split
        · exact h
        · split
          · exact h
          · rename_i hv
            exact h.setG _ (by simpa using hv)
      · unfold addR
        repeat' split
        all_goals first
          | exact h
          | exact fun x b hb=>by
              unfold addG at hb;dsimp only at hb
              split at hb
              · obtain ⟨c, hc, rfl⟩ := Option.map_eq_some_iff.1 hb
                exact h _ c hc
              · split at hb
                · cases hb;rfl
                · exact h x b hb
theorem z6 (l:List AC):∀k≤l.length,nW (AF (l.take k))
  | 0, _ => fun x b h => by
    have h':nz aR x=some b:=h;unfold nz at h'
    split at h'
    · cases h';rfl
    · cases h'
  | k + 1, hk => by
    obtain⟨x,hx⟩:∃x,l[k]?=some x:=⟨_,List.getElem?_eq_getElem (by omega)⟩;rw[rP hx];exact(z6 l k (by omega)).act x.1
theorem D3 (l:List AC):nW (AF l):=by
  have h:=z6 l l.length (Nat.le_refl _)
  rwa [List.take_of_length_le (Nat.le_refl _)] at h
section
variable {F:ar (List Value)} {d:Int→Nat} {i:Int} {s:List Value}
theorem C8 (h:aK F i=true) (x:Int):ah (setG F i s) x=if x=i then s else ah F x:=by
  unfold ah pt setG
  by_cases hx:x=i
  · subst hx
    obtain⟨b,hb⟩:=aL h;simp[hb]
  · simp[hx]
theorem D5 (x:Int):aH (setG F i s) x=aH F x:=by
  unfold aH setG
  by_cases hx:x=i
  · subst hx;rw[if_pos rfl];cases F x<;>rfl
  · rw[if_neg hx]
theorem Cy (hv:nW F) (h:aK F i=true):setR bg F i (AP (ah F i))=(setG F i (AP (ah F i)),0):=by
  unfold setR;rw[if_neg (by simp[h]),if_neg (by simp[vm (hv.st h)])]
def Bq (F:ar (List Value)):Nat:=((order F).filter (fun y=> !iJ (ah F y) 52)).length
theorem Jk:Bq F≤(order F).length:=List.length_filter_le _ _
theorem HZ (hF:WF F d) (h:aK F i=true) (hb:iJ (ah F i) 52=false) (hs:bZ (ah F i)):Bq (setG F i (AP (ah F i)))+1≤Bq F:=by
  unfold Bq;rw[vi];have e:(order F).filter (fun y=> !iJ (ah (setG F i (AP (ah F i))) y) 52)=((order F).filter (fun y=> !iJ (ah F y) 52)).filter (fun y=>decide (y≠i)):=by
    rw[List.filter_filter];refine List.filter_congr fun y _=>?_;rw[C8 h]
    by_cases hy:y=i
    · subst hy;simp[CJ hs]
    · simp[hy]
  rw[e];exact List.length_filter_lt_length_iff_exists.2 ⟨i,List.mem_filter.2 ⟨hF.bw.2 h,by rw[hb];rfl⟩,by simp⟩
end
theorem DW {es2 es3:List PE} {d:Int→Nat} {O:List Int} {k:Nat} {a:Int} (hF2:WF (ae es2) d) (hG2:di (ae es2)) (hV2:nW (ae es2)) (hK2:∀x,(aH (ae es2) x).length≤64) (hhas:aK (ae es2) a=true) (hnb:iJ (ah (ae es2) a) 52=false) (hs:bZ (ah (ae es2) a)) (ho2:order (ae es2)=O) (hkn:k+Bq (ae es2)≤O.length) (hf3:ae es3=(setR bg (ae es2) a (AP (ah (ae es2) a))).1∧eG es3):
    (k+1+Bq (ae es3)≤O.length∧eG es3∧WF (ae es3) d∧di (ae es3)∧nW (ae es3)∧order (ae es3)=O∧(∀x,(aH (ae es3) x).length≤64)∧(a= -2∨iJ (ah (ae es3) a) 52=true)):=by
  have hE3:ae es3=setG (ae es2) a (AP (ah (ae es2) a)):=by rw[hf3.1,Cy hV2 hhas]
  have hc:=HZ hF2 hhas hnb hs;refine⟨by rw[hE3];omega,hf3.2,by rw[hE3];exact hF2.set a _,by rw[hf3.1];exact hG2.setR _ (BK hs),by rw[hE3];exact hV2.setG _ (vm (hV2.st hhas)),by rw[hE3,vi];exact ho2,fun x=>by rw[hE3,D5];exact hK2 x,.inr ?_⟩;rw[hE3,C8 hhas,if_pos rfl];exact CJ hs
theorem zF (A:Option Addr) (c:Nat) (l:List AC) (wd ht px py:Int):Ct Tryz.prog 13 #[.slice A l.length c,.int .i64 wd,.int .i64 ht,.int .i64 px,.int .i64 py] [] (fun w=>jL w A 59 s5 l) (X:=Unit) (fun _=>.bool true) (fun _=>True) (fun _=>[]):=by
  refine Ci fun w0 hz=>?_;refine gg ?_;refine eF (xC kK) fun _ _=>?_;refine gg ?_;refine WP.br rfl ?_;refine gg ?_;refine eF (xC (mq A c l) (hF:=fun w hw=>hw.rd hz pH)) fun⟨gb,tp,mb,es,rp,g,bc,bs⟩ hgr=>?_;dsimp only at hgr;refine mv rfl ?_;refine uE ?_;refine aj.aY 34 rfl (fun h34=>?_) (fun h34=>?_)
  ·refine gg ?_;refine WP.aQ rfl ?_;refine gg ?_;exact aT fun w hw=>⟨(),rfl,trivial,hw.pk⟩
  ·refine bS ?_;refine aj.split 38 rfl (fun h38=>?_) (fun h38=>?_)
   ·refine gg ?_;refine WP.aQ rfl ?_;refine gg ?_;exact aT fun w hw=>⟨(),rfl,trivial,hw.pk⟩
   ·refine gg ?_;refine WP.aw rfl (fun h41=>?_) (fun h41=>?_)
    ·refine gg ?_;exact aT fun w hw=>⟨(),rfl,trivial,hw.pk⟩
    ·obtain⟨hl30,hFo,hk,hab,hkr⟩:=hgr (by simpa using h34);obtain⟨d,hF0⟩:=q8 l;have hF:WF (ae es) d:=by rw[hFo];exact hF0
     have hFr:WF (aD bs) d:=by rw[hab];exact hF
     have hgs:∀x,GS (ah (ae es) x):=by rw[hFo];exact(qg l).st
     have hgr2:∀x,GS (ah (aD bs) x):=by rw[hab];exact hgs
     have hlf:=ka l;have hK:∀x,(aH (ae es) x).length≤64:=fun x=>Nat.le_trans (kO (n:=31) hF (by rw[hFo];omega) x) (by decide);have hKr:∀x,(aH (aD bs) x).length≤64:=by rw[hab];exact hK
     have hol1:(order (ae es)).length≤1000:=by have h:=ka l;unfold jK at h;rw[hFo];omega
     have hup:=qq hF hgs wd ht;have hG:di (ae es):=by rw[hFo];exact qg l
     have hV:nW (ae es):=by rw[hFo];exact D3 l
     refine gg ?_;refine eF (xC (fa px py)) fun _ _=>?_;refine sg (v:=cJ _ _) rfl ?_;refine gg ?_;refine eF (xC (mF tp mb es hk hF)) fun⟨A6,c6⟩ _=>?_;refine gg ?_;refine WP.bm (X:=Nat×Int×List PE) [1,2,11,12,15,16] (fun p=>[(17,.int .i64 p.2.1),(18,.int .i64 (p.1:Int))]) (fun p w=>(p.1+Bq (ae p.2.2)≤(order (ae es)).length∧eG p.2.2∧WF (ae p.2.2) d∧di (ae p.2.2)∧nW (ae p.2.2)∧order (ae p.2.2)=(order (ae es))∧(∀x,(aH (ae p.2.2) x).length≤64)∧(p.2.1= -2∨iJ (ah (ae p.2.2) p.2.1) 52=true))∧St w0 (ay []) [al tp mb p.2.2,az A6 (order (ae es)).length c6 (order (ae es))] w) (fun p=>(order (ae es)).length+1 - p.1) (0,-2,es) ⟨rfl,rfl,trivial⟩ (fun w hw=>⟨⟨by have:=Jk (F:=ae es);simpa using this,hk,hF,hG,hV,rfl,hK,.inl rfl⟩,(hw.sel [1,2] (by decide))⟩) (fun p ρ0=>?_);obtain⟨k,la,es2⟩:=p;dsimp only;refine WP.fact (fun⟨hkn,hk2,hF2,hG2,hV2,ho2,hK2,hla⟩=>?_);have hgs2:=hG2.st;have hup2:=qq hF2 hgs2 wd ht;have hol12:(order (ae es2)).length≤1000:=by rw[ho2];exact hol1
     refine cR ?_;refine vl (fL (b:=true) (gn rfl rfl) (decide_eq_true (by omega))) ?_;refine gg ?_;refine WP.aQ rfl ?_;refine gg ?_;refine eF (xC (ig tp mb es2 hk2 hF2 hgs2 hK2 wd ht (by omega) (by omega))) fun⟨mp,ps⟩ hps2=>?_;have hmo2:=mapOf hps2 (jl hF2 hgs2 wd ht);have hrm2:=zu hF2 hgs2 hmo2;have hol2:(order (ae es2)).length≤4096:=hF2.e6 0;refine sg (v:=.map _) rfl ?_;refine cK ?_;refine mv (v:=.map _) rfl ?_;refine aj.ef (eV (σ':=fun _=>[_,_,_,_]) (fun _=>rfl)) (fun mp60=>?_);refine gg ?_;refine eF (xC (kx tp mb mp mp60 es2 (bO ps) [] (gm (ae es2) wd ht) (fun _=>(0,0)) hk2 hF2 hgs2 hrm2 xq wd ht)) fun sb1 _=>?_;refine sg (v:=.map _) rfl ?_;refine cK ?_;refine mv (v:=.map _) rfl ?_;refine mv (v:=.map _) rfl ?_;refine mv (v:=cJ _ _) rfl ?_;refine eF (xC (od tp mb mp es2 (bO ps) (gm (ae es2) wd ht) hk2 hF2 hrm2 hup2 hol12 sb1 (fun _=>(0,0)) (eH 0 0 wd ht) (cut px,cut py) ⟨cn px,cn py⟩)) fun _ _=>?_;refine gg ?_;refine WP.aw rfl (fun h70=>?_) (fun h70=>?_)
     ·refine gg ?_;exact aT fun w hw=>⟨(),rfl,trivial,hw.pk⟩
     ·obtain⟨hmem,hmay⟩:=zV h70;obtain⟨hgy,hhas,hnb,_,_⟩:=Iq hmay;have hat0:0≤(dC (cS (ae es2) (gm (ae es2) wd ht)) (dm (ae es2) (gm (ae es2) wd ht) (fun _=>(0,0)) (eH 0 0 wd ht) (cut px,cut py))):=by obtain⟨b,hb⟩:=aL hhas;exact(hF2.range _ b hb).1
      have hne:¬(dC (cS (ae es2) (gm (ae es2) wd ht)) (dm (ae es2) (gm (ae es2) wd ht) (fun _=>(0,0)) (eH 0 0 wd ht) (cut px,cut py)))=la:=fun e=>by
        rcases hla with h | h
        · omega
        · rw[←e,hnb] at h;cases h
      have hset:=Cy hV2 hhas;refine cR ?_;refine vl (fL (b:=false) (dD rfl rfl) (decide_eq_false hne)) ?_;refine gg ?_;refine WP.br rfl ?_;refine gg ?_;refine eF (xC (a6 tp mb es2 hk2 (dC (cS (ae es2) (gm (ae es2) wd ht)) (dm (ae es2) (gm (ae es2) wd ht) (fun _=>(0,0)) (eH 0 0 wd ht) (cut px,cut py))))) fun _ _=>?_;refine aj.ef cg fun b22=>?_;refine aj.aX (xZ (hk2.aE (dC (cS (ae es2) (gm (ae es2) wd ht)) (dm (ae es2) (gm (ae es2) wd ht) (fun _=>(0,0)) (eH 0 0 wd ht) (cut px,cut py)))) rfl) fun _=>?_;refine gg ?_;refine aj.aX (cz (u:=.bool true) (σ':=[_,_,_,_,_,_]) Tryz.sizeOf4 rfl rfl (i:=5) rfl (by simp[(hk2.aE (dC (cS (ae es2) (gm (ae es2) wd ht)) (dm (ae es2) (gm (ae es2) wd ht) (fun _=>(0,0)) (eH 0 0 wd ht) (cut px,cut py)))).len]) rfl) (fun _=>?_);refine gg ?_;refine vl (vW (bZ.len (BK (hk2.aE (dC (cS (ae es2) (gm (ae es2) wd ht)) (dm (ae es2) (gm (ae es2) wd ht) (fun _=>(0,0)) (eH 0 0 wd ht) (cut px,cut py))))))) ?_;refine eF (xC (xp tp mb es2 hk2 (dC (cS (ae es2) (gm (ae es2) wd ht)) (dm (ae es2) (gm (ae es2) wd ht) (fun _=>(0,0)) (eH 0 0 wd ht) (cut px,cut py))) (AP (ah (ae es2) (dC (cS (ae es2) (gm (ae es2) wd ht)) (dm (ae es2) (gm (ae es2) wd ht) (fun _=>(0,0)) (eH 0 0 wd ht) (cut px,cut py))))) (BK (hk2.aE (dC (cS (ae es2) (gm (ae es2) wd ht)) (dm (ae es2) (gm (ae es2) wd ht) (fun _=>(0,0)) (eH 0 0 wd ht) (cut px,cut py))))))) fun es3 hf3=>?_;refine vl (fL (b:=false) (vr rfl rfl) (by simp[hset])) ?_;refine gg ?_;refine WP.br rfl ?_;refine cR ?_;exact nl fun w hw=>⟨rfl,(k+1,(dC (cS (ae es2) (gm (ae es2) wd ht)) (dm (ae es2) (gm (ae es2) wd ht) (fun _=>(0,0)) (eH 0 0 wd ht) (cut px,cut py))),es3),(by simp only;omega),⟨rfl,rfl,jI,jI,jB,jP,(via (cJ _ _) rfl rfl),jS,trivial⟩,⟨DW hF2 hG2 hV2 hK2 hhas hnb (hk2.aE _) ho2 hkn hf3,hw.pk⟩⟩
end Go.Proofs.YtbedndijejpcaaaGreat
namespace Go.Proofs.YtbedndijejpcaaaGreat
open Go.ChangeShapes Go.WideShapes Go.ChangeAt Go.RowKit Go.Deep
theorem hitNone_lifted (os:Os) (started:os.Started) (H:Type) (enc:TypeId×Value→H):
    ReturnsInHanded {} Tryz.checked os 13 .any (Rows.hitNoneSpec.pre6 enc Tryz.prog Tryz.f13 Rows.hitNoneRow.domain false) (Rows.hitNoneSpec.post enc Tryz.prog Tryz.f13 false true false false):=by
  refine returnsInHanded_of_change (C:=Tryz.checked) own started (by kernel_rfl) Tryz.func13
    (ChangeSpec.witness6 (enc:=enc) (C:=Tryz.checked) false ⟨#[],#[.slice none 0 0,.int .i64 0,.int .i64 0,.int .i64 0,.int .i64 0],[]⟩ 8 (by kernel_rfl) (by kernel_rfl) (by kernel_rfl) (by kernel_rfl)) ?_
  intro W base args ds gs before hval0 hW _ _;have hval:∀(j:Nat) t v,Tryz.f13.params[j]?=some t→args[j]?=some v→Value.okWide Tryz.prog W .any base t v:=hval0;have hW':=hW;obtain⟨p,q,hA0,hV,rfl,hfz,hnd⟩:=hW;have hA:DataW.TrodAll enc Tryz.prog W 0 (fun _=>true) true Tryz.f13.params.toList args.toList ds p:=hA0;rw[Tryz.params13] at hA hval;obtain⟨v0,vs0,d0,ds0,p0,q0,hargs,rfl,rfl,h0,r0⟩:=trodAll_cons hA;obtain⟨v1,vs1,d1,ds1,p1,q1,rfl,rfl,rfl,h1,r1⟩:=trodAll_cons r0;obtain⟨v2,vs2,d2,ds2,p2,q2,rfl,rfl,rfl,h2,r2⟩:=trodAll_cons r1;obtain⟨v3,vs3,d3,ds3,p3,q3,rfl,rfl,rfl,h3,r3⟩:=trodAll_cons r2;obtain⟨v4,vs4,d4,ds4,p4,q4,rfl,rfl,rfl,h4,r4⟩:=trodAll_cons r3;obtain⟨rfl,rfl,rfl⟩:=trodAll_nil r4;obtain⟨args⟩:=args;obtain rfl:args=_:=hargs;obtain⟨A,l,c,rfl,hrd⟩:=kU (hval 0 22 v0 rfl rfl) h0;obtain⟨wd,rfl,-,-,-⟩:=open_int Tryz.underlying3 (hval 1 3 v1 rfl rfl) h1;obtain⟨ht,rfl,-,-,-⟩:=open_int Tryz.underlying3 (hval 2 3 v2 rfl rfl) h2;obtain⟨px,rfl,-,-,-⟩:=open_int Tryz.underlying3 (hval 3 3 v3 rfl rfl) h3;obtain⟨py,rfl,-,-,-⟩:=open_int Tryz.underlying3 (hval 4 3 v4 rfl rfl) h4;refine(Ct.IH (zF A c l wd ht px py) hrd).mono fun e W' ⟨he,hb⟩=>?_;subst he;exact⟨_,rfl,mz laidOut hW' rfl (by kernel_rfl) rfl Tryz.underlying4 (fun _=>rfl) hb⟩
theorem hitNone_ja:mapsRowed Tryz.pinned.checked.prog=true:=by kernel_rfl
theorem hitNone_jb:(Rows.hitNoneRow.inPlace==Tryz.pinned.checked.prog.inPlace 13)=true:=by kernel_rfl
theorem hitNone_jc:(Rows.hitNoneRow.unfollowed==Tryz.pinned.checked.prog.unfollowed 13)=true:=by kernel_rfl
theorem hitNone_jd:(Rows.hitNoneRow.recurses==Tryz.pinned.checked.prog.recurses 13)=true:=by kernel_rfl
theorem hitNone_je:(Rows.hitNoneRow.named==Tryz.pinned.checked.prog.varsNamed 13)=true:=by kernel_rfl
theorem hitNone_jl:laidOutB Tryz.pinned.checked.prog=true:=laidOut
theorem hitNone_said:Rows.HitNoneSaid:=
  OpenClaim.holds_of_wide 13 Tryz.f13 rfl rfl rfl rfl rfl rfl rfl ⟨rfl,rfl,rfl,rfl,rfl⟩ rfl rfl rfl rfl rfl (by kernel_rfl) Tryz.func13 (by unfold joinedFacts;rw[hitNone_jl,hitNone_ja,hitNone_jb,hitNone_jc,hitNone_jd,hitNone_je];kernel_rfl)
    (of_decide_eq_true (by kernel_rfl)) (by unfold Func.isWrapper;rw[if_neg (by decide+kernel)];exact⟨rfl,rfl⟩)
    (fun os started H enc _=>hitNone_lifted os started H enc)
end Go.Proofs.YtbedndijejpcaaaGreat
