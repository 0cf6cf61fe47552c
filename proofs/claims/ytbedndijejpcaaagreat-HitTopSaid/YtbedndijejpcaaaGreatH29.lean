/- HitW HitL POf -/
import Derived.Test.YtbedndijejpcaaaGreatH28
set_option linter.unusedVariables false
set_option linter.unusedSimpArgs false
set_option linter.unusedSectionVars false
set_option maxRecDepth 100000
set_option maxHeartbeats 8000000
namespace Go.Proofs.YtbedndijejpcaaaGreat
open Go.RowKit
def Fw:List Value:=[.int .i64 0,.int .i64 2,.int .i64 0,.int .i64 0,.int .i64 0,.int .i64 0,.int .i64 0,.int .i64 0,.int .i64 0,.int .i64 0,.int .i64 0,.int .i64 0,.int .i64 0,.int .i64 0,.int .i64 0,.int .i64 0,.int .i64 0,.int .i64 0,.int .i64 0,.int .i64 0,.int .i64 0,.int .i64 0,.int .i64 0,.int .i64 0,.int .i64 0,.int .i64 0,.int .i64 0,.int .i64 0,.int .i64 0,.int .i64 0,.int .i64 0,.int .i64 0,.int .i64 0,.int .i64 0,.int .i64 0,.int .i64 0,.int .i64 0,.int .i64 0,.int .i64 0,.int .i64 0,.int .i64 0,.int .i64 0,.int .i64 0,.int .i64 0,.int .i64 0,.bool false,.int .i64 0,.bool false,.int .i64 0,.int .i64 0,.int .i64 0,.bool false,.bool false,.int .i64 10,.int .i64 10]
theorem oB:bZ Fw:=bZ.wH rfl
abbrev W0:ar (List Value):=nz aR
abbrev W1:ar (List Value):=(addR aR W0 0 0).1
abbrev W2:ar (List Value):=(addR aR W1 0 1).1
abbrev W3:ar (List Value):=(setR bg W2 1 Fw).1
abbrev W4:ar (List Value):=(setR bg W3 2 Fw).1
def L8:List ew:=[⟨0,0,0,100,0,[⟨1,0,0,10,10,[]⟩,⟨2,0,0,10,10,[]⟩]⟩,⟨1,0,0,10,10,[]⟩,⟨2,0,0,10,10,[]⟩]
abbrev G8:Int→Option Rc:=J2 L8
abbrev N8:List PN:=[⟨-1,false,0⟩,⟨0,false,0⟩,⟨0,false,0⟩]
theorem we1:(addR aR W0 0 0).2=(1,0):=by kernel_rfl
theorem we2:(addR aR W1 0 1).2=(2,0):=by kernel_rfl
theorem we3:(setR bg W2 1 Fw).2=0:=by kernel_rfl
theorem we4:(setR bg W3 2 Fw).2=0:=by kernel_rfl
theorem we5:jK W4=3:=by kernel_rfl
theorem we6:nB W4 100 50=L8:=by kernel_rfl
theorem we7:order W4=[0,1,2]:=by kernel_rfl
theorem we8:cO W4 G8=[0,1,2]:=by kernel_rfl
theorem we9:bY W4 G8=N8:=by kernel_rfl
theorem wex:dm W4 G8 (fun _=>(0,0)) (eH 0 0 100 50) (0,0) 1=true:=by kernel_rfl
theorem wey:dC [0,1,2] (dm W4 G8 (fun _=>(0,0)) (eH 0 0 100 50) (9,9))=2:=by kernel_rfl
theorem wez:dC [0,1,2] (dm W4 G8 (fun _=>(0,0)) (eH 0 0 100 50) (10,9))= -1:=by kernel_rfl
theorem ww0:∃d,WF W0 d:=⟨_,WF.new aR⟩
theorem ww1:∃d,WF W1 d:=by obtain⟨d,h⟩:=ww0;exact h.addR aR 0 0
theorem ww2:∃d,WF W2 d:=by obtain⟨d,h⟩:=ww1;exact h.addR aR 0 1
theorem ww3:∃d,WF W3 d:=by obtain⟨d,h⟩:=ww2;exact h.setR bg 1 Fw
theorem Mf:∃d,WF W4 d:=by obtain⟨d,h⟩:=ww3;exact h.setR bg 2 Fw
theorem wgs:di W4:=(((di.new.addR 0 0).addR 0 1).setR 1 oB).setR 2 oB
theorem yU {m:List (Int×Value)} (h:uT m L8):RM W4 m G8:=Dd h fun f hf=>by
  simp only[L8,List.mem_cons,List.not_mem_nil,or_false] at hf
  rcases hf with rfl | rfl | rfl<;>kernel_rfl
theorem Cu:F6 W4 G8:=fun y hy=>by
  unfold G8 J2 at hy;rw[Option.isSome_map] at hy;obtain⟨f,hf⟩:=Option.isSome_iff_exists.1 hy;have h5:=List.find?_some hf;have h6:f.id=y:=by simpa using h5
  have hm:=List.mem_of_find?_eq_some hf;simp only[L8,List.mem_cons,List.not_mem_nil,or_false] at hm
  rcases hm with rfl | rfl | rfl<;>subst h6<;>refine⟨by kernel_rfl,fun h=>?_⟩
  · exact absurd rfl h
  · kernel_rfl
  · kernel_rfl
theorem Vy:cS W4 G8=[0,1,2]:=by
  obtain⟨d,hd⟩:=Mf;rw[tw hd Cu,we8];rw[we7];intro y hy;simp only[List.mem_cons,List.not_mem_nil,or_false] at hy
  rcases hy with rfl | rfl | rfl<;>kernel_rfl
section
variable (tp mb:Nat) (es:List PE) (hk:eG es)
include hk
theorem wkA (h:ae es=W0):Ct Tryz.prog 50 #[.pointer (some ⟨tp,0,none⟩),.int .i64 0,.int .i64 0] [al tp mb es] (fun _=>True) (X:=List PE) (fun _=>.tuple #[.int .i64 1,.int .i64 0]) (fun es'=>ae es'=W1∧eG es') (fun es'=>[al tp mb es']):=by
  obtain⟨d,hd⟩:=ww0;have h1:=BR tp mb es hk (h▸hd) 0 0;rw[h,we1] at h1;exact h1
theorem wkB (h:ae es=W1):Ct Tryz.prog 50 #[.pointer (some ⟨tp,0,none⟩),.int .i64 0,.int .i64 1] [al tp mb es] (fun _=>True) (X:=List PE) (fun _=>.tuple #[.int .i64 2,.int .i64 0]) (fun es'=>ae es'=W2∧eG es') (fun es'=>[al tp mb es']):=by
  obtain⟨d,hd⟩:=ww1;have h1:=BR tp mb es hk (h▸hd) 0 1;rw[h,we2] at h1;exact h1
theorem wkC (h:ae es=W2):Ct Tryz.prog 20 #[.pointer (some ⟨tp,0,none⟩),.int .i64 1,.agg Fw.toArray] [al tp mb es] (fun _=>True) (X:=List PE) (fun _=>.int .i64 0) (fun es'=>ae es'=W3∧eG es') (fun es'=>[al tp mb es']):=by
  have h1:=xp tp mb es hk 1 Fw oB;rw[h,we3] at h1;exact h1
theorem wkD (h:ae es=W3):Ct Tryz.prog 20 #[.pointer (some ⟨tp,0,none⟩),.int .i64 2,.agg Fw.toArray] [al tp mb es] (fun _=>True) (X:=List PE) (fun _=>.int .i64 0) (fun es'=>ae es'=W4∧eG es') (fun es'=>[al tp mb es']):=by
  have h1:=xp tp mb es hk 2 Fw oB;rw[h,we4] at h1;exact h1
theorem wkL (h:ae es=W4):Ct Tryz.prog 21 #[.pointer (some ⟨tp,0,none⟩),.int .i64 100,.int .i64 50] [al tp mb es] (fun _=>True) (X:=Nat×List ew) (fun p=>.map (some p.1)) (fun p=>uT (bO p.2) L8) (fun p=>[al tp mb es,aP p.1 (bO p.2)]):=by
  obtain⟨d,hd⟩:=Mf;have h1:=ig tp mb es hk (h▸hd) (by rw[h];exact wgs.st) (by rw[h];exact fun x=>Nat.le_trans (kO (n:=3) hd (by rw[we5];decide) x) (by decide)) 100 50 (by decide) (by decide);refine h1.to (fun p=>p) (fun _=>rfl) (fun p hp=>?_) (fun _=>rfl);have h2:=mapOf hp (by rw[h];exact jl hd wgs.st 100 50);rw[h,we6] at h2;exact h2
variable (mp:Nat) (m:List (Int×Value)) (hm:uT m L8)
include hm
theorem wkS (om:Nat) (h:ae es=W4):Ct Tryz.prog 27 #[.pointer (some ⟨tp,0,none⟩),.map (some mp),.map (some om),.int .i64 100,.int .i64 50] [al tp mb es,aP mp m,aP om []] (fun _=>True) (X:=Nat) (fun b=>.map (some b)) (fun _=>True) (fun b=>[al tp mb es,aP mp m,aP om [],aP b (lS W4 G8 (fun _=>(0,0)) (eH 0 0 100 50) (order W4))]):=by
  obtain⟨d,hd⟩:=Mf;have h1:=kx tp mb mp om es m [] G8 (fun _=>(0,0)) hk (h▸hd) (by rw[h];exact wgs.st) (by rw[h];exact yU hm) xq 100 50;rw[h] at h1;exact h1
theorem wkN (h:ae es=W4):Ct Tryz.prog 80 #[.pointer (some ⟨tp,0,none⟩),.map (some mp)] [al tp mb es,aP mp m] (fun _=>True) (X:=(Option Addr×Nat)×Option Addr×Nat) (fun p=>.tuple #[.slice p.1.1 3 p.1.2,.slice p.2.1 3 p.2.2]) (fun _=>True) (fun p=>[al tp mb es,aP mp m,qh p.1.1 p.1.2 N8,az p.2.1 3 p.2.2 [0,1,2]]):=by
  obtain⟨d,hd⟩:=Mf;have h1:=vu tp mb mp es m G8 hk (h▸hd) (by rw[h];exact yU hm) (by rw[h];exact Cu);rw[h,we8,we9] at h1;exact h1
theorem wkO (h:ae es=W4):Ct Tryz.prog 45 #[.pointer (some ⟨tp,0,none⟩),.map (some mp)] [al tp mb es,aP mp m] (fun _=>True) (X:=Option Addr×Nat) (fun p=>.slice p.1 3 p.2) (fun _=>True) (fun p=>[al tp mb es,aP mp m,az p.1 3 p.2 [0,1,2]]):=by
  obtain⟨d,hd⟩:=Mf;have h1:=qu tp mb mp es m G8 hk (h▸hd) (by rw[h];exact yU hm) (by rw[h];exact Cu) (by rw[h,we7];decide);rw[h,Vy] at h1;exact h1
variable (sb:Nat)
theorem wkH (h:ae es=W4) (p:Pt) (hp:PB p) (r:Int) (hr:dC [0,1,2] (dm W4 G8 (fun _=>(0,0)) (eH 0 0 100 50) p)=r):Ct Tryz.prog 44 #[.pointer (some ⟨tp,0,none⟩),.map (some mp),.map (some sb),cJ p.1 p.2] [al tp mb es,aP mp m,aP sb (lS W4 G8 (fun _=>(0,0)) (eH 0 0 100 50) (order W4))] (fun _=>True) (X:=Unit) (fun _=>.int .i64 r) (fun _=>True) (fun _=>[al tp mb es,aP mp m,aP sb (lS W4 G8 (fun _=>(0,0)) (eH 0 0 100 50) (order W4))]):=by
  obtain⟨d,hd⟩:=Mf;have h1:=od tp mb mp es m G8 hk (h▸hd) (by rw[h];exact yU hm) (by rw[h];exact Cu) (by rw[h,we7];decide) sb (fun _=>(0,0)) (eH 0 0 100 50) p hp;rw[h,Vy,hr] at h1;exact h1
theorem wkM (h:ae es=W4):Ct Tryz.prog 47 #[.pointer (some ⟨tp,0,none⟩),.map (some sb),.int .i64 1,cJ 0 0] [al tp mb es,aP sb (lS W4 G8 (fun _=>(0,0)) (eH 0 0 100 50) (order W4))] (fun _=>True) (X:=Unit) (fun _=>.bool true) (fun _=>True) (fun _=>[al tp mb es,aP sb (lS W4 G8 (fun _=>(0,0)) (eH 0 0 100 50) (order W4))]):=by
  obtain⟨d,hd⟩:=Mf;have h1:=nV tp mb es m G8 hk (h▸hd) (by rw[h];exact yU hm) sb (fun _=>(0,0)) (eH 0 0 100 50) (0,0) rI 1;rw[h,wex] at h1;exact h1
end
theorem kK:Ct Tryz.prog 43 #[] [] (fun _=>True) (X:=Unit) (fun _=>.bool true) (fun _=>True) (fun _=>[]):=by
  refine Ci fun w0 _=>?_;refine gg ?_;refine eF (xC Gl) fun⟨tp,mb,nb⟩ _=>?_;refine cR ?_;refine vl (xJ Tryz.underlying24 rfl rfl) ?_;refine gg ?_;refine WP.br rfl ?_;refine bW ?_;refine vl (cB (us:=[.int .i64 _,.int .i64 _]) Tryz.underlying40 Tryz.zeroValue40 Tryz.sizeOf3 rfl rfl rfl) ?_;refine vl (aV (us:=Fw) (pl:=[(0,1),(1,1),(2,1),(3,2),(5,2),(7,2),(9,2),(11,2),(13,2),(15,8),(23,8),(31,4),(35,4),(39,1),(40,1),(41,2),(43,1),(44,1),(45,1),(46,1),(47,1),(48,1),(49,1),(50,1),(51,1),(52,1),(53,2)]) Tryz.underlying42 Tryz.zeroValue42 rfl (by kernel_rfl) rfl rfl (by kernel_rfl)) ?_;refine aj.ef cg fun b2=>?_;refine aj.aX (xZ oB rfl) fun _=>?_;refine gg ?_;refine eF (xC (wkA tp mb _ (pK nb).2 (pK nb).1)) fun es1 hf1=>?_;refine gg ?_;refine eF (xC (wkB tp mb es1 hf1.2 hf1.1)) fun es2 hf2=>?_;refine gg ?_;refine vl (vW (bZ.len oB)) ?_;refine eF (xC (wkC tp mb es2 hf2.2 hf2.1)) fun es3 hf3=>?_;refine gg ?_;refine vl (vW (bZ.len oB)) ?_;refine eF (xC (wkD tp mb es3 hf3.2 hf3.1)) fun es4 hf4=>?_;refine gg ?_;refine eF (xC (wkL tp mb es4 hf4.2 hf4.1)) fun⟨mp,ps⟩ hml=>?_;dsimp only at hml;refine sg (v:=.map _) rfl ?_;refine cK ?_;refine mv (v:=.map _) rfl ?_;refine aj.ef (eV (σ':=fun _=>[_,_,_,_]) (fun _=>rfl)) (fun mp27=>?_);refine eF (xC (wkS tp mb es4 hf4.2 mp (bO ps) hml mp27 hf4.1)) fun sb _=>?_;refine sg (v:=.map _) rfl ?_;refine cK ?_;refine mv (v:=.map _) rfl ?_;refine eF (xC (wkN tp mb es4 hf4.2 mp (bO ps) hml hf4.1)) fun⟨⟨nA,nc⟩,iA,ic⟩ _=>?_;refine mv rfl ?_;refine qa ?_;refine mv (v:=.map _) rfl ?_;refine eF (xC (wkO tp mb es4 hf4.2 mp (bO ps) hml hf4.1)) fun⟨oA,oc⟩ _=>?_;refine av ?_;refine nl (oo ?_);refine sq ?_;refine WP.holds (fun w hw=>hw.aM (i:=4) rfl (by omega)) (fun⟨kb,hA⟩=>?_);subst hA;refine WP.holds (fun w hw=>hw.aM (i:=7) rfl (by omega)) (fun⟨lb,hB⟩=>?_);subst hB;refine bW ?_;refine mv (v:=.map _) rfl ?_;refine mv (v:=.map _) rfl ?_;refine eF (xC (show Ct Tryz.prog 25 #[.int .i64 9,.int .i64 9] [] (fun _=>True) (X:=Unit) (fun _=>cJ 9 9) (fun _=>True) (fun _=>[]) from fa 9 9)) fun _ _=>?_;refine eF (xC (wkH tp mb es4 hf4.2 mp (bO ps) hml sb hf4.1 (9,9) ⟨⟨by decide,by decide⟩,by decide,by decide⟩ 2 wey)) fun _ _=>?_;refine vl (fL (b:=true) (dD rfl rfl) (by decide)) ?_;refine bW ?_;refine vg (aC (v:=.map _) rfl) ?_;refine vg (aC (v:=.map _) rfl) ?_;refine aj.kn (xC (show Ct Tryz.prog 25 #[.int .i64 10,.int .i64 9] [] (fun _=>True) (X:=Unit) (fun _=>cJ 10 9) (fun _=>True) (fun _=>[]) from fa 10 9)) (fun _=>?_);refine aj.fact (fun _=>?_);refine aj.kn (xC (wkH tp mb es4 hf4.2 mp (bO ps) hml sb hf4.1 (10,9) ⟨⟨by decide,by decide⟩,by decide,by decide⟩ (-1) wez)) (fun _=>?_);refine aj.fact (fun _=>?_);refine vg (fL (b:=true) (dD rfl rfl) (by decide)) ?_;refine cK ?_;refine vg (aC (v:=.map _) rfl) ?_;refine aj.kn (xC (wkM tp mb es4 hf4.2 (bO ps) hml sb hf4.1)) (fun _=>?_);refine aj.fact (fun _=>?_);refine bS ?_
  refine vg (fL (b:=true) (dD rfl rfl) (by decide)) ?_;refine bS ?_;refine vg (fL (b:=true) (dD rfl rfl) (by decide)) ?_;refine bW ?_;refine vg (aC (v:=.slice _ _ _) rfl) ?_;refine vg (bG (j:=2) Tryz.underlying49 Tryz.sizeOf3 rfl rfl rfl (by omega)) ?_;refine vg (ai (u:=.int .i64 2) Tryz.isAgg3 rfl (fun w hw=>hw.bh (i:=3) (k:=2) rfl rfl (by decide))) ?_;refine vg (fL (b:=true) (dD rfl rfl) (by decide)) ?_;refine bS ?_;refine vg (fL (b:=true) (dD rfl rfl) (by decide)) ?_;refine bS ?_;refine vg (ai (u:=.int .i64 0) Tryz.isAgg3 rfl (fun w hw=>hw.bh (i:=4) (k:=0) rfl rfl (by decide))) ?_;refine vg (fL (b:=true) (dD rfl rfl) (by decide)) ?_;refine gg ?_;exact aT fun w hw=>⟨(),rfl,trivial,hw.pk⟩
theorem zV {l:List Int} {m:Int→Bool} (h:dC l m≠-1):dC l m∈l∧m (dC l m)=true:=by
  rcases uh l m l.length (Nat.le_refl _) with ⟨h1,_⟩ | ⟨j,h1,h2,h3,_⟩
  · exact absurd h1 h
  · unfold dC;rw[h2];exact⟨eo h1,h3⟩
section
variable {F:ar (List Value)} {d:Int→Nat} {g:Int→Option Rc} {o:Int→Pt} {win:Rc}
theorem qq (hF:WF F d) (hg:∀x,GS (ah F x)) (w h:Int):F6 F (gm F w h):=fun y hy=>by
  refine⟨?_,fun h0=>Yw hF hg hy h0⟩;unfold gm J2 at hy;rw[Option.isSome_map] at hy;obtain⟨f,hf⟩:=Option.isSome_iff_exists.1 hy;have h6:f.id=y:=by simpa using List.find?_some hf
  rw[←h6];exact(ua hF hg w h f (List.mem_of_find?_eq_some hf)).1
theorem ahp {tp mb:Nat} {es:List PE} (hk:eG es) {d:Int→Nat} (hF:WF (ae es) d) {x:Int} (h:cM (ae es) x=true):Ct Tryz.prog 48 #[.pointer (some ⟨tp,0,none⟩),.int .i64 x] [al tp mb es] (fun _=>True) (X:=Unit) (fun _=>.bool true) (fun _=>True) (fun _=>[al tp mb es]):=by
  have h1:=v8 tp mb es hk hF x;rw[h] at h1;exact h1
theorem ahG (s:Sp) (n:Int):HQ s n=true↔s.lo≤n∧n<s.hi:=by simp only[HQ,Bool.and_eq_true,decide_eq_true_eq]
theorem ahn (r:Rc) (p:Pt):Bl r p=true↔((bC r).lo≤p.1∧p.1<(bC r).hi)∧(dh r).lo≤p.2∧p.2<(dh r).hi:=by simp only[Bl,Bool.and_eq_true,ahG]
theorem ahI {a b:Rc} {p:Pt} (h:inR a b=true) (hp:Bl a p=true):Bl b p=true:=by
  rw[ahn] at*;rw[ahf] at h;have e1:a.w≤0→(bC a).hi=(bC a).lo:=ahi _ _;have e2:a.h≤0→(dh a).hi=(dh a).lo:=ahi _ _;omega
theorem ahJ (hF:WF F d) (hg:∀x,GS (ah F x)) {w h:Int} {y:Int} (hs:(gm F w h y).isSome=true) (hh:aK F y=true):Bn (fz F (gm F w h) o win y).r.x∧Bn (fz F (gm F w h) o win y).r.y∧Bn (fz F (gm F w h) o win y).r.w∧Bn (fz F (gm F w h) o win y).r.h:=by
  have hm:∃f,(gm F w h y).getD zR=frR f:=by
    unfold gm J2 at hs ⊢;rw[Option.isSome_map] at hs;obtain⟨f,hf⟩:=Option.isSome_iff_exists.1 hs;exact⟨f,by rw[hf];rfl⟩
  obtain⟨f,hf⟩:=hm;have hz:=ahy (o:=o) (win:=win) hF hs hh;rw[hf] at hz
  by_cases h1:y=0∨val (ah F y) 1=3
  · rw [ahj hF hs hh h1, hf]
    exact⟨cn _,cn _,cn _,cn _⟩
  · rw [hz.1, hz.2, ahm hF hs hh (fun e => h1 (.inl e)) (fun e => h1 (.inr e))]
    refine⟨?_,?_,cn _,cn _⟩
    · dsimp only;split<;>exact cn _
    · dsimp only;split<;>exact cn _
theorem Iq {p:Pt} {x:Int} (h:dm F g o win p x=true):(g x).isSome=true∧aK F x=true∧iJ (ah F x) 52=false∧Bl (fz F g o win x).r p=true∧Bl (fz F g o win x).c p=true:=by
  unfold dm at h;simp only[Bool.and_eq_true,Bool.not_eq_true'] at h;exact h
theorem ahC (hF:WF F d) (hg:∀x,GS (ah F x)) {w h px py:Int} (hw:w≤1048576) (hh:h≤1048576) (hx:-1073741824≤px∧px≤1073741824) (hy:-1073741824≤py∧py≤1073741824) {y:Int} (hm:dm F (gm F w h) o (eH 0 0 w h) (cut px,cut py) y=true):
    (0≤px∧px<w∧0≤py∧py<h)∧cM F y=true∧iJ (ah F y) 52=false∧
    ((fz F (gm F w h) o (eH 0 0 w h) y).r.x≤px∧px<(fz F (gm F w h) o (eH 0 0 w h) y).r.x+(fz F (gm F w h) o (eH 0 0 w h) y).r.w∧(fz F (gm F w h) o (eH 0 0 w h) y).r.y≤py∧py<(fz F (gm F w h) o (eH 0 0 w h) y).r.y+(fz F (gm F w h) o (eH 0 0 w h) y).r.h)∧
    (Bn (fz F (gm F w h) o (eH 0 0 w h) y).r.x∧Bn (fz F (gm F w h) o (eH 0 0 w h) y).r.y∧Bn (fz F (gm F w h) o (eH 0 0 w h) y).r.w∧Bn (fz F (gm F w h) o (eH 0 0 w h) y).r.h):=by
  obtain⟨h1,h2,h3,h4,h5⟩:=Iq hm;have h6:=ahI (ahE hF (ahP w h) h2) h5;have hb:=ahJ (o:=o) (win:=eH 0 0 w h) hF hg h1 h2;have ex:cut px=px:=w7 (by omega) (by omega);have ahU:cut py=py:=w7 (by omega) (by omega);rw[ahn,ex,ahU] at h4 h6;refine⟨?_,by rw[←KO hF hg w h (hF.bw.2 h2)];exact h1,h3,?_,hb⟩
  · have e1 : (bC (eH 0 0 w h)).lo = cut (cut 0) ∧ (bC (eH 0 0 w h)).hi = db (cut 0) (max (max (cut w) 0) 0) := ⟨rfl, rfl⟩
    have e2:(dh (eH 0 0 w h)).lo=cut (cut 0)∧(dh (eH 0 0 w h)).hi=db (cut 0) (max (max (cut h) 0) 0):=⟨rfl,rfl⟩;rw[e1.1,e1.2,e2.1,e2.2] at h6;unfold db cut at h6;dsimp only at h6;omega
  · generalize fz F (gm F w h) o (eH 0 0 w h) y = S at *
    have e1:(bC S.r).lo=cut S.r.x∧(bC S.r).hi=db S.r.x (max S.r.w 0):=⟨rfl,rfl⟩;have e2:(dh S.r).lo=cut S.r.y∧(dh S.r).hi=db S.r.y (max S.r.h 0):=⟨rfl,rfl⟩;rw[e1.1,e1.2,e2.1,e2.2] at h4;unfold Bn at hb;unfold db cut at h4;omega
end
theorem ahN:(Tryz.prog.info? 135).map (fun i=>(i.zero,i.size,i.bytes))=some (some (.agg #[.int .i64 0,.complex .f64 0 0]),2,24):=by kernel_rfl
abbrev ahg:=Int×Int×Int
abbrev ahl (x:ahg):List Value:=[.int .i64 x.1,.int .i64 x.2.1,.int .i64 x.2.2]
abbrev ahQ (x:ahg):List Value:=[.int .i64 x.1,cJ (cut x.2.1) (cut x.2.2)]
def omL (l:List ahg):List (Int×Value):=l.foldr (fun x m=>putM m x.1 (cJ (cut x.2.1) (cut x.2.2))) []
def ofO (l:List ahg):Int→Pt
  :=fun k=>match l.find? (fun x=>x.1==k) with | some x=>(cut x.2.1,cut x.2.2) | none=>(0,0)
theorem ahr:∀(l:List ahg),OM (omL l) (ofO l)
  | []=>fun k=>⟨rfl,rI⟩
  | x :: l => fun k => by
    obtain⟨h1,h2⟩:=ahr l k;have e:omL (x::l)=putM (omL l) x.1 (cJ (cut x.2.1) (cut x.2.2)):=rfl;rw[e,kJ];unfold ofO at*;rw[List.find?_cons]
    by_cases hx:x.1=k
    · rw [if_pos hx]
      simp only[hx,beq_self_eq_true];exact⟨rfl,cn _,cn _⟩
    · rw [if_neg hx]
      have hb:(x.1==k)=false:=by simpa using hx
      simp only[hb];exact⟨h1,h2⟩
theorem ahz {l:List ahg} {i:Nat} {x:ahg} (h:l[i]?=some x):omL (l.drop i)=putM (omL (l.drop (i+1))) x.1 (cJ (cut x.2.1) (cut x.2.2)):=by
  obtain⟨hi,he⟩:=List.getElem?_eq_some_iff.1 h;rw[List.drop_eq_getElem_cons hi,he];rfl
theorem ahB (B:Option Addr) (c:Nat) (l:List ahg) (hl:l.length≤60):Ct Tryz.prog 38 #[.slice B l.length c] [] (fun w=>jL w B 3 ahl l) (X:=Nat×Option Addr×Nat) (fun p=>.tuple #[.map (some p.1),.slice p.2.1 l.length p.2.2]) (fun _=>True) (fun p=>[aP p.1 (omL l)]):=by
  refine Ct.intro Tryz.func38 rfl Tryz.ntmps38 (by simp) (fun w0 hz=>?_);refine eh ?_;refine sg rfl ?_;refine sg (v:=.slice none 0 0) rfl ?_;refine nl (oo ?_);refine eh ?_;refine aj.ef (eV (σ':=fun _=>[_]) (fun _=>rfl)) (fun mp8=>?_);refine sg (v:=.map _) rfl ?_;refine nl (oo ?_);refine eh ?_;refine sg (v:=.slice none 0 0) rfl ?_;refine nl (oo ?_);refine sq ?_;refine eh ?_;refine mvS rfl ?_;refine vl (acz Tryz.underlying76 rfl) ?_;refine vl (jD rfl rfl (by omega)) ?_;refine IV rfl ?_;refine nl (oo ?_);refine WP.block ?_;refine WP.bm (X:=Nat) [0,4,5] (fun j=>[(6,.int .i64 ((j:Int) - 1))]) (fun j w=>j≤l.length∧St w0 (ay []) [aP mp8 (omL (l.drop j))] w) (fun j=>j) l.length ⟨rfl,trivial⟩ (fun w hw=>⟨Nat.le_refl _,by rw[List.drop_length];exact(hw.sel [0] (by decide))⟩) (fun j ρ0=>?_);refine WP.fact (fun hjl=>?_);refine sq ?_;refine eh ?_;refine lj rfl ?_;refine vl (oV rfl rfl) ?_;refine nl (oo ?_);refine WP.aw rfl (fun h13=>?_) (fun h13=>?_)
  ·obtain⟨i,rfl⟩:∃i,j=i+1:=⟨j - 1,by omega⟩;have e:(((i+1:Nat):Int) - 1)=(i:Int):=by omega
   rw[e];obtain⟨x,hx⟩:∃x,l[i]?=some x:=⟨_,List.getElem?_eq_getElem (by omega)⟩;obtain⟨ab,ao,rfl,hc⟩:=hz i x hx;refine WP.skip (an ?_);refine sq ?_;refine WP.block ?_;refine WP.dj (some 17) [0] [(0,true),(1,true),(2,true),(3,true),(4,true),(5,true),(6,true),(7,true),(8,true),(9,true),(10,true),(11,true),(12,true),(13,true),(14,true),(15,true),(16,false),(17,false)] mixed (by kernel_rfl) (by decide) ?_;refine aB.take rfl (aC (v:=.map _) rfl) ?_ (fun _ h=>h.sel [0] (by decide));refine aB.take rfl (aC (v:=.slice _ _ _) rfl) ?_ (fun _ h=>h.sel [0] (by decide));refine aB.take rfl (aC (v:=.int .i64 _) rfl) ?_ (fun _ h=>h.sel [0] (by decide));refine aB.take rfl (bG (j:=i) Tryz.underlying76 Tryz.sizeOf133 rfl rfl rfl (by omega)) ?_ (fun _ h=>h.sel [0] (by decide));refine aB.take rfl (e7 (off:=0) Tryz.underlying133 rfl Tryz.sizeOf3 rfl) ?_ (fun _ h=>h.sel [0] (by decide));refine aB.take rfl (ai (u:=.int .i64 _) Tryz.isAgg3 rfl (fun w hw=>hw.cW (hc.part 0 rfl) (pH _))) ?_ (fun _ h=>h.sel [0] (by decide));refine aB.take rfl (aC (v:=.slice _ _ _) rfl) ?_ (fun _ h=>h.sel [0] (by decide));refine aB.take rfl (aC (v:=.int .i64 _) rfl) ?_ (fun _ h=>h.sel [0] (by decide));refine aB.take rfl (bG (j:=i) Tryz.underlying76 Tryz.sizeOf133 rfl rfl rfl (by omega)) ?_ (fun _ h=>h.sel [0] (by decide));refine aB.take rfl (e7 (off:=1) Tryz.underlying133 rfl Tryz.sizeOf3 rfl) ?_ (fun _ h=>h.sel [0] (by decide));refine aB.take rfl (ai (u:=.int .i64 _) Tryz.isAgg3 rfl (fun w hw=>hw.cW (hc.part 1 rfl) (pH _))) ?_ (fun _ h=>h.sel [0] (by decide));refine aB.take rfl (aC (v:=.slice _ _ _) rfl) ?_ (fun _ h=>h.sel [0] (by decide));refine aB.take rfl (aC (v:=.int .i64 _) rfl) ?_ (fun _ h=>h.sel [0] (by decide));refine aB.take rfl (bG (j:=i) Tryz.underlying76 Tryz.sizeOf133 rfl rfl rfl (by omega)) ?_ (fun _ h=>h.sel [0] (by decide));refine aB.take rfl (e7 (off:=2) Tryz.underlying133 rfl Tryz.sizeOf3 rfl) ?_ (fun _ h=>h.sel [0] (by decide));refine aB.take rfl (ai (u:=.int .i64 _) Tryz.isAgg3 rfl (fun w hw=>hw.cW (hc.part 2 rfl) (pH _))) ?_ (fun _ h=>h.sel [0] (by decide));refine aB.ef rfl (ck Tryz.call25 (fa x.2.1 x.2.2) [] [0] rfl (fun w hw=>trivial) (τ:=fun _=>[_]) (fun _=>rfl)) (fun _ _ _ h=>h.2.sel [0] (by decide)) (fun _=>?_);refine aB.fact (fun _=>?_);refine aB.aX rfl (mK (m:=omL (l.drop (i+1))) (k:=x.1) (u:=cJ (cut x.2.1) (cut x.2.2)) (σ':=[_]) Tryz.underlying61 Tryz.underlying3 rfl rfl rfl (i:=0) rfl rfl) (fun h=>absurd rfl h) (fun _=>?_);refine aB.nil (an ?_);refine WP.region ?_;refine lj rfl ?_;refine vl (jD rfl rfl (by omega)) ?_;refine IV rfl ?_;exact nl fun w hw=>⟨rfl,i,(by omega),⟨rfl,(via (.slice _ _ _) rfl rfl),(via (.map _) rfl rfl),(via (.slice _ _ _) rfl rfl),trivial⟩,⟨by omega,by rw[ahz hx];exact(hw.sel [0] (by decide))⟩⟩
  ·obtain rfl:j=0:=by omega
   rw[List.drop_zero];refine WP.exit (an ?_);refine sq ?_;refine eh ?_;refine sg (v:=.int .i64 (0)) rfl ?_;refine nl (oo ?_);refine WP.block ?_;refine WP.bm (X:=Nat×Option Addr×Nat) [0,4] (fun p=>[(5,.slice p.2.1 p.1 p.2.2),(7,.int .i64 (p.1:Int))]) (fun p w=>p.1≤l.length∧St w0 (ay []) [aP mp8 (omL l),.row 135 2 p.2.1 p.1 p.2.2 ((l.take p.1).flatMap ahQ)] w) (fun p=>l.length - p.1) (0,none,0) ⟨rfl,rfl,trivial⟩ (fun w hw=>⟨Nat.zero_le _,hw.bB 135 2⟩) (fun p ρ0=>?_);obtain⟨k,oA,oc⟩:=p;dsimp only;refine WP.fact (fun hkl=>?_);refine sq ?_;refine eh ?_;refine lj rfl ?_;refine mvS rfl ?_;refine vl (acz Tryz.underlying76 rfl) ?_;refine vl (nG rfl rfl) ?_;refine nl (oo ?_);refine WP.aw rfl (fun h36=>?_) (fun h36=>?_)
   ·obtain⟨x,hx⟩:∃x,l[k]?=some x:=⟨_,List.getElem?_eq_getElem (by omega)⟩;obtain⟨ab,ao,rfl,hc⟩:=hz k x hx;refine WP.skip (an ?_);refine sq ?_;refine WP.block ?_;refine WP.dj none [0] [(0,true),(1,true),(2,true),(3,true),(4,true),(5,true),(6,true),(7,true),(8,true),(9,true),(10,true),(11,true),(12,true),(13,true),(14,true),(15,true),(16,false),(17,true),(18,false),(19,false),(20,true)] mixed (by kernel_rfl) (by decide) ?_;refine aB.take rfl (aC (v:=.slice _ _ _) rfl) ?_ (fun _ h=>h.sel [0] (by decide));refine aB.take rfl (aC (v:=.slice _ _ _) rfl) ?_ (fun _ h=>h.sel [0] (by decide));refine aB.take rfl (aC (v:=.int .i64 _) rfl) ?_ (fun _ h=>h.sel [0] (by decide));refine aB.take rfl (bG (j:=k) Tryz.underlying76 Tryz.sizeOf133 rfl rfl rfl (by omega)) ?_ (fun _ h=>h.sel [0] (by decide));refine aB.take rfl (e7 (off:=0) Tryz.underlying133 rfl Tryz.sizeOf3 rfl) ?_ (fun _ h=>h.sel [0] (by decide));refine aB.take rfl (ai (u:=.int .i64 _) Tryz.isAgg3 rfl (fun w hw=>hw.cW (hc.part 0 rfl) (pH _))) ?_ (fun _ h=>h.sel [0] (by decide));refine aB.take rfl (aC (v:=.slice _ _ _) rfl) ?_ (fun _ h=>h.sel [0] (by decide));refine aB.take rfl (aC (v:=.int .i64 _) rfl) ?_ (fun _ h=>h.sel [0] (by decide));refine aB.take rfl (bG (j:=k) Tryz.underlying76 Tryz.sizeOf133 rfl rfl rfl (by omega)) ?_ (fun _ h=>h.sel [0] (by decide));refine aB.take rfl (e7 (off:=1) Tryz.underlying133 rfl Tryz.sizeOf3 rfl) ?_ (fun _ h=>h.sel [0] (by decide));refine aB.take rfl (ai (u:=.int .i64 _) Tryz.isAgg3 rfl (fun w hw=>hw.cW (hc.part 1 rfl) (pH _))) ?_ (fun _ h=>h.sel [0] (by decide));refine aB.take rfl (aC (v:=.slice _ _ _) rfl) ?_ (fun _ h=>h.sel [0] (by decide));refine aB.take rfl (aC (v:=.int .i64 _) rfl) ?_ (fun _ h=>h.sel [0] (by decide));refine aB.take rfl (bG (j:=k) Tryz.underlying76 Tryz.sizeOf133 rfl rfl rfl (by omega)) ?_ (fun _ h=>h.sel [0] (by decide));refine aB.take rfl (e7 (off:=2) Tryz.underlying133 rfl Tryz.sizeOf3 rfl) ?_ (fun _ h=>h.sel [0] (by decide));refine aB.take rfl (ai (u:=.int .i64 _) Tryz.isAgg3 rfl (fun w hw=>hw.cW (hc.part 2 rfl) (pH _))) ?_ (fun _ h=>h.sel [0] (by decide));refine aB.ef rfl (ck Tryz.call25 (fa x.2.1 x.2.2) [] [0,1] rfl (fun w hw=>trivial) (τ:=fun _=>[_,_]) (fun _=>rfl)) (fun _ _ _ h=>h.2.sel [0] (by decide)) (fun _=>?_);refine aB.fact (fun _=>?_);refine aB.take rfl (aV (us:=[.int .i64 _,cJ _ _]) (pl:=[(0,1),(1,1)]) Tryz.underlying135 Tryz.zeroValue135 rfl (by kernel_rfl) rfl rfl (by kernel_rfl)) ?_ (fun _ h=>h.sel [0] (by decide));refine aB.ef rfl (cu (us:=[.int .i64 _,cJ _ _]) (σ':=fun _=>[_,_,_]) Tryz.underlying77 Tryz.sizeOf135 Tryz.zeroValue135 rfl rfl rfl (by decide) (by decide) (fun _=>rfl)) (fun _ _ _ h=>h.sel [0] (by decide)) (fun g57=>?_);refine aB.ef rfl (cm (sz:=2) (σ':=fun _=>[_,_,_]) Tryz.underlying77 ahN rfl (by decide) rfl rfl (i:=1) rfl (fun w hw=>hw.fk (i:=2) rfl) rfl (by intro u hu;simp only[List.mem_cons,List.not_mem_nil,or_false] at hu;rcases hu with rfl | rfl<;>rfl) (by omega) (by omega) (fun _=>rfl)) (fun _ _ _ h=>h.sel [0] (by decide)) (fun⟨A58,c58⟩=>?_)
    refine aB.take rfl (dB (v:=.slice _ _ _) rfl) ?_ (fun _ h=>h.sel [0] (by decide));refine aB.nil (an ?_);refine WP.region ?_;refine lj rfl ?_;refine vl (zI rfl rfl (by omega)) ?_;refine IV rfl ?_;exact nl fun w hw=>⟨rfl,(k+1,A58,c58),(by simp only;omega),⟨rfl,rfl,(via (.slice _ _ _) rfl rfl),(via (.map _) rfl rfl),trivial⟩,⟨by simp only;omega,by simp only;rw[l6 hx,List.flatMap_append,List.flatMap_singleton];exact(hw.sel [0,1] (by decide))⟩⟩
   ·obtain rfl:k=l.length:=by omega
    refine WP.exit (an ?_);refine eh ?_;refine mv (v:=.map _) rfl ?_;refine mvS rfl ?_;refine sg (v:=.map _) rfl ?_;refine sgS rfl ?_;refine nl (oo ?_);exact WP.IM Tryz.results38 (fun _ h=>h) (fun w hw=>⟨(mp8,oA,oc),rfl,trivial,(hw.sel [0] (by decide))⟩)
end Go.Proofs.YtbedndijejpcaaaGreat
