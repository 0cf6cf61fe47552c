/- FlexSizes FlexRefSizes Num FixPure FlowNum Nums Lens FlowNum2 -/
import Derived.Test.YtbedndijejpcaaaGreatH12
set_option linter.unusedVariables false
set_option linter.unusedSimpArgs false
set_option linter.unusedSectionVars false
set_option maxRecDepth 100000
set_option maxHeartbeats 8000000
namespace Go.Proofs.YtbedndijejpcaaaGreat
open Go.RowKit
theorem aeh:(Tryz.prog.info? 302).map (fun i=>(i.zero,i.size,i.bytes))=some (some (.agg #[.int .i64 0,.int .i64 0,.int .i64 0,.int .i64 0,.int .i64 0,.int .i64 0,.bool false]),7,56):=by kernel_rfl
def raw (x:bt):FE:=⟨x.sound,basic x,false⟩
def gZ (l:List bt) (k:Nat):List FE:=(l.take k).map raw
theorem gk (l:List bt) (k:Nat) (h:k≤l.length):(gZ l k).length=k:=by simp[gZ];omega
theorem zh (l:List bt) (k:Nat) {x:bt} (h:l[k]?=some x):gZ l (k+1)=gZ l k++[raw x]:=by simp[gZ,uQ h]
theorem Jm (x:bt):x.fit x.sound.base=basic x:=rfl
theorem DY (A:Option Addr) (n c:Nat) (es:List FE) (e:FE):hY A n c (es++[e])=.row 302 7 A n c (es.flatMap FE.enc++e.enc):=by simp[hY]
def xR (g:Bool) (_:Nat) (e:FE):FE:={e with fr:=if g then (decide (e.it.grow=0)||decide (e.it.base > e.size)) else (decide (e.it.shrink=0)||decide (e.it.base<e.size))}
theorem G1 (g:Bool) (l:List bt):fW (xR g) (gZ l l.length) l.length=l.map (start g):=by
  rw[tL _ _ (by rw[gk l _ (Nat.le_refl _)];omega)];apply List.ext_getElem?;intro i;simp only[gZ,List.getElem?_mapIdx,List.getElem?_map,List.take_length];cases l[i]? with
  | none=>rfl
  | some x=>rfl
theorem uZ {g:Bool} {e:FE} {c:Bool} {i:Nat} (hc:c=true↔(g=true∧(e.it.grow=0∨e.size<e.it.base))∨(g=false∧(e.it.shrink=0∨e.it.base<e.size))):e.enc.set 6 (.bool c)=(xR g i e).enc:=by
  have h2:(if g then (decide (e.it.grow=0)||decide (e.it.base > e.size)) else (decide (e.it.shrink=0)||decide (e.it.base<e.size)))=c:=by
    rw[Bool.eq_iff_iff,hc];cases g<;>simp
  simp[xR,h2]
theorem FV (A:Option Addr) (c:Nat) (l:List bt) (room:Int) (hl:l.length≤64):
    Ct Tryz.prog 241 #[.slice A l.length c,.int .i64 room] [] (fun w=>jL w A 5 bt.enc l) (X:=Nat×Option Addr×Nat) (fun p=>.pointer (some ⟨p.1,0,none⟩)) (fun _=>True)
      (fun p=>[ik p.1 p.2.1 l.length p.2.2 (qm room) (dX l room),hY p.2.1 l.length p.2.2 (l.map (start (dX l room)))]):=by
  refine Ci fun w0 hz=>?_;refine gg ?_;refine vl (vC (iE (wk room) _)) ?_;refine vl (aV (us:=[.slice _ _ _,.int .i64 _,.bool _]) (pl:=[(0,1),(1,1),(2,1)]) Tryz.underlying300 Tryz.zeroValue300 rfl (by kernel_rfl) rfl rfl (by kernel_rfl)) ?_;refine aj.ef xB fun b16=>?_;refine av ?_;refine nl (oo ?_);refine sq ?_;refine WP.pre ?_ (fun w hw=>hw.bB 302 7);refine gg ?_;refine WP.bm (X:=Nat) [5,17,18] (fun k=>[(6,.int .i64 (Hf l k)),(19,.int .i64 (k:Int))]) (fun k w=>k≤l.length∧∃p:Option Addr×Nat,St w0 (ay []) [ik b16 p.1 k p.2 (qm room) false,hY p.1 k p.2 (gZ l k)] w) (fun k=>l.length - k) 0 ⟨by rw[GJ];rfl,rfl,trivial⟩ (fun w hw=>⟨by omega,(none,0),hw⟩) (fun k ρ0=>?_);refine WP.fact (fun hk=>?_);refine WP.ex (fun⟨A1,c1⟩=>?_);dsimp only;refine gg ?_;refine WP.aw rfl (fun h20=>?_) (fun h20=>?_)
  ·have hk':k<l.length:=by omega
   obtain⟨x,hx⟩:∃x,l[k]?=some x:=⟨_,List.getElem?_eq_getElem hk'⟩;obtain⟨b,o,rfl,hc⟩:=hz k x hx;have hb1:=SN l k;have hb2:=ud x;have hbl:=gk l k hk;refine cR ?_;refine vl (au (cs:=[.int .i64 _,.int .i64 _,.int .i64 _,.int .i64 _,.int .i64 _]) Tryz.isAgg264 Tryz.sizeOf264 rfl (fun w hw=>hw.cW hc (ax _))) ?_;refine aj.ef cg fun b8=>?_;refine aj.aX (xW rfl) fun _=>?_;refine gg ?_;refine eF (xC (yY x)) fun _ _=>?_;refine vl (aV (us:=[.int .i64 _,.int .i64 _,.int .i64 _,.int .i64 _,.int .i64 _,.int .i64 _,.bool _]) (pl:=[(0,5),(5,1),(6,1)]) Tryz.underlying302 Tryz.zeroValue302 rfl (by kernel_rfl) rfl rfl (by kernel_rfl)) ?_;refine aj.ef cg fun b9=>?_;refine aj.aX (xW rfl) fun _=>?_;refine gg ?_;refine eF (xC (BS x x.sound.base)) fun _ _=>?_;rw[Jm x];refine gg ?_;refine aj.aX (xS rfl (jJ rfl)) fun _=>?_;refine qa ?_;rw[←zL l k x hx];refine gg ?_;refine wP (some 10) [0,2,3] [pT 0,pT 1,pT 2,pT 3,pT 4,pT 5,pF 6,pF 7,pF 8,pT 9,pF 10] ?_;refine aB.take rfl (aC (v:=.pointer _) rfl) ?_ (fun _ h=>h.sel [0,2,3] (by decide));refine aB.take rfl (aC (v:=.pointer _) rfl) ?_ (fun _ h=>h.sel [0,2,3] (by decide));refine aB.take rfl (jO rfl) ?_ (fun _ h=>h.sel [0,2,3] (by decide));refine aB.take rfl (aS (o':=0) Tryz.underlying300 rfl Tryz.sizeOf298 rfl rfl) ?_ (fun _ h=>h.sel [0,2,3] (by decide));refine aB.take rfl (ai (u:=.slice _ _ _) Tryz.isAgg298 rfl (fun w hw=>hw.aq (i:=0) rfl _ rfl)) ?_ (fun _ h=>h.sel [0,2,3] (by decide));refine aB.take rfl (au (cs:=[.int .i64 _,.int .i64 _,.int .i64 _,.int .i64 _,.int .i64 _,.int .i64 _,.bool _]) Tryz.isAgg302 Tryz.sizeOf302 rfl (fun w hw=>hw.aq (i:=2) rfl _ rfl)) ?_ (fun _ h=>h.sel [0,2,3] (by decide));refine aB.ef rfl (cu (us:=[.int .i64 _,.int .i64 _,.int .i64 _,.int .i64 _,.int .i64 _,.int .i64 _,.bool _]) (σ':=fun _=>[_,_,_,_,_]) Tryz.underlying298 Tryz.sizeOf302 Tryz.zeroValue302 rfl rfl rfl (by decide) (by decide) (fun _=>rfl)) (fun _ _ _ h=>h.sel [0,2,3] (by decide)) (fun g42=>?_);refine dE (xP 1 4) fun⟨A43,c43⟩=>?_;refine aB.val rfl (jO rfl) (fun _ h=>h.sel [0,2,3] (by decide)) ?_;refine gg ?_;refine uz (xS rfl (Fv rfl)) fun _=>?_;refine bS ?_;exact nl fun w hw=>⟨rfl,k+1,(by omega),⟨rfl,rfl,jP,jS,jI,trivial⟩,by omega,(A43,c43),by rw[zh l k hx,DY];exact hw.sel [0,1] (by decide)⟩
  ·obtain rfl:k=l.length:=by omega
   refine WP.exit (an ?_);refine gg ?_;refine aj.aX (xS rfl (T0 rfl)) fun _=>?_;refine gg ?_;refine WP.bm (X:=Nat) [5,60] (fun k=>[(61,.int .i64 (k:Int))]) (fun k w=>k≤l.length∧St w0 (ay []) [ik b16 A1 l.length c1 (qm room) (dX l room),hY A1 l.length c1 (fW (xR (dX l room)) (gZ l l.length) k)] w) (fun k=>l.length - k) 0 ⟨rfl,trivial⟩ (fun w hw=>⟨by omega,by rw[qK];exact hw⟩) (fun k ρ0=>?_);refine WP.fact (fun hk=>?_);refine gg ?_;refine WP.aw rfl (fun h62=>?_) (fun h62=>?_)
   ·have hk':k<l.length:=by omega
    obtain⟨x,hx⟩:∃x,l[k]?=some x:=⟨_,List.getElem?_eq_getElem hk'⟩;obtain⟨e,he⟩:∃e,(gZ l l.length)[k]?=some e:=⟨_,List.getElem?_eq_getElem (by rw[gk l _ (Nat.le_refl _)];exact hk')⟩;have he1:=(pX (xR (dX l room)) (gZ l l.length) k).trans he;refine WP.holds (fun w hw=>hw.aM (i:=1) rfl (by omega)) (fun⟨b,hA⟩=>?_);subst hA;refine gg ?_;refine WP.fj none [(0,true),(1,true),(2,true),(3,true),(4,true),(5,true),(6,true),(7,true),(8,true),(9,true),(10,true)] mixed (by kernel_rfl) (by decide) (fun _ h=>h.drawn) ?_;refine gg ?_;refine tD (vR 1 (bT FE.enc 7 (fun _=>rfl) _ k 0 e _ he1 rfl)) ?_;refine gg ?_;refine tD (vR 1 (bT FE.enc 7 (fun _=>rfl) _ k 5 e _ he1 rfl)) ?_;refine gg ?_;refine WP.cond rfl (fun h84=>?_) (fun h84=>?_)
    case' _=>
     have hgf:dX l room=false:=by simpa using h84
     refine WP.fj none [(0,true),(1,true),(2,true),(3,true),(4,true),(5,true),(6,true),(7,true),(8,true),(9,true),(10,true)] mixed (by kernel_rfl) (by decide) (fun _ h=>h.drawn) ?_;refine gg ?_;refine tD (vR 1 (bT FE.enc 7 (fun _=>rfl) _ k 0 e _ he1 rfl)) ?_;refine gg ?_;refine tD (vR 1 (bT FE.enc 7 (fun _=>rfl) _ k 5 e _ he1 rfl)) ?_;refine qa ?_
    rotate_left
    case' _=>
     have hgt:dX l room=true:=by simpa using h84
     refine cR ?_
    all_goals
     refine aj.split 97 rfl (fun h97=>?_) (fun h97=>?_)
     ·refine gg ?_;refine aj.aX (bU (u:=.bool _) (xs':=(fW (xR (dX l room)) (gZ l l.length) (k+1)).flatMap FE.enc) (σ':=[_,_]) Tryz.sizeOf4 rfl rfl (i:=1) rfl (by rw[oT,gk l _ (Nat.le_refl _)];omega) (by rw[Nat.zero_add,kD FE.enc 7 (fun _=>rfl) _ k 6 e (xR (dX l room) k e) _ he1 (by decide) (uZ (by first | (rw[hgf];simp;omega) | (rw[hgf];simp[Ew];omega) | (rw[hgt];simp;omega) | (rw[hgt];simp[Ew];omega))),kR _ _ _ he]) rfl) (fun _=>?_);refine bS ?_;exact nl fun w hw=>⟨rfl,k+1,(by omega),⟨rfl,jP,jI,trivial⟩,by omega,hw.pk⟩
     ·refine cK ?_;refine vg (au (cs:=[.int .i64 _,.int .i64 _,.int .i64 _,.int .i64 _,.int .i64 _,.int .i64 _,.bool _]) Tryz.isAgg302 Tryz.sizeOf302 rfl (fun w hw=>hw.dH (i:=1) rfl _ (fun j u hu=>by rw[Nat.zero_add];exact bT FE.enc 7 (fun _=>rfl) _ k j e u he1 hu))) ?_;refine aj.kn (ck Tryz.call252 (vP b16 _ l.length c1 (qm room) (dX l room) e) [0] [1] rfl (fun w hw=>trivial) (τ:=fun _=>[_,_]) (fun _=>rfl)) (fun _=>?_);refine aj.fact (fun _=>?_);refine gg ?_;refine aj.aX (bU (u:=.bool _) (xs':=(fW (xR (dX l room)) (gZ l l.length) (k+1)).flatMap FE.enc) (σ':=[_,_]) Tryz.sizeOf4 rfl rfl (i:=0) rfl (by rw[oT,gk l _ (Nat.le_refl _)];omega) (by rw[Nat.zero_add,kD FE.enc 7 (fun _=>rfl) _ k 6 e (xR (dX l room) k e) _ he1 (by decide) (uZ (by first | (rw[hgf];simp;omega) | (rw[hgf];simp[Ew];omega) | (rw[hgt];simp;omega) | (rw[hgt];simp[Ew];omega))),kR _ _ _ he]) rfl) (fun _=>?_);refine bS ?_;exact nl fun w hw=>⟨rfl,k+1,(by omega),⟨rfl,jP,jI,trivial⟩,by omega,hw.pk⟩
   ·obtain rfl:k=l.length:=by omega
    refine WP.exit (an ?_);refine gg ?_;exact WP.cP Tryz.results241 (fun _ h=>h) (fun w hw=>⟨(b16,A1,c1),rfl,trivial,by have h:=hw.sel [0,1] (by decide);rw[G1] at h;exact h⟩)
def gQ (vs:List Int) (k:Nat):List Int:=(List.range vs.length).map fun j=>if j<k then vs.getD j 0 else 0
theorem uN (vs:List Int) (k:Nat):(gQ vs k).length=vs.length:=by simp[gQ]
theorem Au (vs:List Int):gQ vs 0=List.replicate vs.length 0:=by
  apply List.ext_getElem?;intro i
  by_cases h:i<vs.length<;>simp[gQ,h]
theorem AU (vs:List Int):gQ vs vs.length=vs:=by
  apply List.ext_getElem?;intro i
  by_cases h:i<vs.length
  · simp[gQ,h]
  · simp[gQ,h]
theorem zn (vs:List Int) (k:Nat) {v:Int} (h:vs[k]?=some v):(gQ vs k).set k v=gQ vs (k+1):=by
  have hk:=(List.getElem?_eq_some_iff.1 h).1;apply List.ext_getElem?;intro i
  by_cases hi:i=k
  · subst hi
    have hv:vs[i]=v:=(List.getElem?_eq_some_iff.1 h).2;simp[gQ,hk,hv]
  · rw [List.getElem?_set_ne (Ne.symm hi)]
    by_cases hl:i<vs.length
    · simp only [gQ, List.getElem?_map, List.getElem?_range hl, Option.map_some]
      congr 1
      by_cases h1:i<k<;>by_cases h2:i<k+1<;>simp[h1,h2]<;>omega
    · simp[gQ,hl]
structure abB where
  t:Nat
  A:Option Addr
  cap:Nat
  es:List FE
theorem HH (A:Option Addr) (c:Nat) (l:List bt) (room:Int) (hl:l.length≤64):
    Ct Tryz.prog 233 #[.slice A l.length c,.int .i64 room] [] (fun w=>jL w A 5 bt.enc l) (X:=Option Addr×Nat) (fun p=>.slice p.1 l.length p.2) (fun _=>True)
      (fun p=>[.row 3 1 p.1 l.length p.2 ((sizes l room).map (Value.int .i64))]):=by
  refine Ci fun w0 hz=>?_;refine cK ?_;refine WP.IJ (X:=abB) 0 rfl [0] (fun x=>[(5,.pointer (some ⟨x.t,0,none⟩))]) (fun x w=>(x.es.length=l.length∧Fa x.es∧(final (dX l room) (qm room) x.es).map FE.size=sizes l room)∧St w0 (ay []) [ik x.t x.A x.es.length x.cap (qm room) (dX l room),hY x.A x.es.length x.cap x.es] w) (fun x=>fy x.es x.es.length) (fun hL=>?_) (fun x ρ0=>?_)
  ·refine gg ?_;refine WP.aw rfl (fun h=>absurd h (by omega)) (fun h11=>?_);refine gg ?_;refine eF (xC (FV A c l room hl) (hF:=fun w hw=>hw.rd hz ax)) fun⟨t,A1,c1⟩ _=>?_;refine bW ?_;exact hL ⟨t,A1,c1,l.map (start (dX l room))⟩ _ _ ⟨rfl,rfl,trivial⟩ (fun w hw=>⟨⟨by simp,vD _ _,rfl⟩,by simp only[List.length_map];exact hw⟩)
  ·obtain⟨xt,xA,xc,xes⟩:=x;dsimp only;refine WP.fact (fun⟨hlen,hok,hfin⟩=>?_);refine gg ?_;refine eF (xC (H7 xt xA xc (qm room) (dX l room) xes hok (by omega) (sY room))) fun _ _=>?_;refine gg ?_;refine WP.aw rfl (fun h16=>?_) (fun h16=>?_)
   ·have hkw:=lD (dX l room) xes xes.length;exact WP.goto (fun w hw=>⟨rfl,rfl,⟨xt,xA,xc,round (dX l room) (qm room) xes⟩,(oy (by omega)),⟨rfl,jS,trivial⟩,⟨⟨by rw[gO];exact hlen,we hok,by rw[BV (by omega)];exact hfin⟩,by simp only[gO];exact hw⟩⟩)
   ·have hkw:=lD (dX l room) xes xes.length;have hk0:fy xes xes.length=0:=by omega
    rw[Ce hk0] at hfin;have hrd:round (dX l room) (qm room) xes=xes:=by
      apply List.ext_getElem?;intro i;simp only[round,List.getElem?_mapIdx];cases he:xes[i]? with
      | none=>rfl
      | some e =>
        cases hf:e.fr with
        | true=>simp[froze,hf]
        | false=>have:=xe he hf;omega
    rw[hrd];have hsl:(sizes l room).length=l.length:=jh l room;have hso:∀(k:Nat) (e:FE),xes[k]?=some e→(sizes l room)[k]?=some e.size:=fun k e he=>by rw[←hfin,List.getElem?_map,he];rfl
    refine gg ?_;refine aj.ef (xy (n:=l.length) (σ':=fun _=>[_,_,_]) Tryz.underlying49 cT rfl rfl rfl rfl rfl (by omega) (by omega) (fun _=>rfl)) (fun g19=>?_);refine gg ?_;refine WP.bm (X:=Nat) [6,23,24] (fun k=>[(25,.int .i64 (k:Int))]) (fun k w=>k≤l.length∧St w0 (ay []) [ik xt xA xes.length xc (qm room) (dX l room),hY xA xes.length xc xes,.row 3 1 (some ⟨g19,0,none⟩) l.length l.length ((gQ (sizes l room) k).map (Value.int .i64))] w) (fun k=>l.length - k) 0 ⟨rfl,trivial⟩ (fun w hw=>⟨by omega,by rw[Au,hsl];simpa using hw⟩) (fun k ρ0=>?_);refine WP.fact (fun hk=>?_);refine gg ?_;refine WP.aw rfl (fun h26=>?_) (fun h26=>?_)
    ·have hk':k<xes.length:=by omega
     obtain⟨e,he⟩:∃e,xes[k]?=some e:=⟨_,List.getElem?_eq_getElem hk'⟩;have hse:=hso k e he;refine WP.holds (fun w hw=>hw.aM (i:=1) rfl (by omega)) (fun⟨b,hA⟩=>?_);subst hA;refine iX ?_;refine vl (au (cs:=[.int .i64 _,.int .i64 _,.int .i64 _,.int .i64 _,.int .i64 _,.int .i64 _,.bool _]) Tryz.isAgg302 Tryz.sizeOf302 rfl (fun w hw=>hw.dH (i:=1) rfl _ (fun j u hu=>by rw[Nat.zero_add];exact bT FE.enc 7 (fun _=>rfl) xes k j e u he hu))) ?_;refine aj.ef cg fun b8=>?_;refine gg ?_;refine aj.aX (xW rfl) fun _=>?_;refine gg ?_;refine aj.aX (bU (u:=.int .i64 _) (xs':=(gQ (sizes l room) (k+1)).map (Value.int .i64)) (σ':=[_,_,_,_]) Tryz.sizeOf3 rfl rfl (i:=2) rfl (by simp[uN];omega) (by rw[←zn _ k hse,List.map_set,Nat.zero_add,Nat.mul_one]) rfl) (fun _=>?_);refine bS ?_;exact nl fun w hw=>⟨rfl,k+1,(by omega),⟨rfl,jS,jS,jI,trivial⟩,by omega,hw.pk⟩
    ·have hkn:k=(sizes l room).length:=by omega
     refine WP.exit (an ?_);refine gg ?_;exact WP.cP Tryz.results233 (fun _ h=>h) (fun w hw=>⟨(some ⟨g19,0,none⟩,l.length),rfl,trivial,by have h:=(hw.sel [2] (by decide));rw[hkn,AU] at h;exact h⟩)
end Go.Proofs.YtbedndijejpcaaaGreat
namespace Go.Proofs.YtbedndijejpcaaaGreat
open Go.RowKit
section
variable {P:Program} {S:World→Prop} {ρ:Env} {dst:Option Tmp} {ty:TypeId} {pos:String} {af:Array Edge} {g:Option (Nat×Bool)} {t t2:TypeId} {x y:Operand} {q q':IntKind} {m n:Int}
theorem gl (op:BinOp) (t2:TypeId) (hx:evo ρ x=.int q m) (hy:evo ρ y=.int q' n) (w:World) (v:Value) (h:(binOp op t (.int q m) (.int q' n)).run P w=.ok v w):
    (execOp (evo ρ) ⟨dst,.binOp op t x y t2,ty,pos,af,g⟩).run P w=.ok (.value v) w:=by
  have e:(eqGuard op t x y (.int q m) (.int q' n)).run P w=.ok () w:=by cases op<;>rfl
  simp[execOp,hx,hy,e,h,Result.andThen]
theorem Sr (hx:evo ρ x=.int .i64 m) (hy:evo ρ y=.int .i64 n) (h0:-9223372036854775808≤m∧m≤9223372036854775807) (h2:1≤n):cw P S ⟨dst,.binOp .quo t x y t2,ty,pos,af,g⟩ ρ (.int .i64 (m.tdiv n)):=
  ba fun w _ => gl .quo t2 hx hy w _ (by
    have h3 : n ≠ 0 := by omega
    have h4 := IntWalk.i64_quo' m n ⟨h0.1, h0.2, h2⟩
    simp [binOp, Op.intDiv, h3, h4])
theorem Tz (hx:evo ρ x=.int .i64 m) (hy:evo ρ y=.int q' 1):cw P S ⟨dst,.binOp .shr t x y t2,ty,pos,af,g⟩ ρ (.int .i64 (m / 2)):=
  ba fun w _ => gl .shr t2 hx hy w _ (by
    have h1 : min (Int.toNat 1) IntKind.i64.bits = 1 := rfl
    have h2 : m.fdiv (2 ^ 1) = m / 2 := by rw [Int.fdiv_eq_ediv_of_nonneg _ (by decide)]; rfl
    simp [binOp, Op.shift, h1, h2]
    exact Int.fdiv_eq_ediv_of_nonneg _ (by decide))
theorem Sf (hx:evo ρ x=.int .u64 m) (hy:evo ρ y=.int .u64 n) (h:0≤m+n∧m+n≤18446744073709551615):cw P S ⟨dst,.binOp .add t x y t2,ty,pos,af,g⟩ ρ (.int .u64 (m+n)):=
  ba fun w _=>gl .add t2 hx hy w _ (by simp[binOp,Op.intArith,IntWalk.u64_in _ h])
theorem xi (hx:evo ρ x=.int .u64 m) (hy:evo ρ y=.int .u64 n) (h:0≤m*n∧m*n≤18446744073709551615):cw P S ⟨dst,.binOp .mul t x y t2,ty,pos,af,g⟩ ρ (.int .u64 (m*n)):=
  ba fun w _=>gl .mul t2 hx hy w _ (by simp[binOp,Op.intArith,IntWalk.u64_in _ h])
theorem wrap_u64 (z:Int):IntKind.u64.wrap z=z % 18446744073709551616:=by
  simp[IntKind.wrap,IntKind.bits,IntKind.signed]
theorem JP (hx:evo ρ x=.int .u64 m) (hy:evo ρ y=.int .u64 n):cw P S ⟨dst,.binOp .add t x y t2,ty,pos,af,g⟩ ρ (.int .u64 ((m+n) % 18446744073709551616)):=
  ba fun w _=>gl .add t2 hx hy w _ (by simp[binOp,Op.intArith,wrap_u64])
theorem Om (hx:evo ρ x=.int .u64 m) (hy:evo ρ y=.int .u64 n):cw P S ⟨dst,.binOp .lss t x y t2,ty,pos,af,g⟩ ρ (.bool (decide (m<n))):=ba fun w _=>gl .lss t2 hx hy w _ rfl
theorem AW (hx:evo ρ x=.int .u64 m) (hy:evo ρ y=.int .u64 n):cw P S ⟨dst,.binOp .gtr t x y t2,ty,pos,af,g⟩ ρ (.bool (decide (n<m))):=ba fun w _=>gl .gtr t2 hx hy w _ rfl
theorem BE (hx:evo ρ x=.int .u64 m) (hy:evo ρ y=.int q' 32):cw P S ⟨dst,.binOp .shr t x y t2,ty,pos,af,g⟩ ρ (.int .u64 (m / 4294967296)):=
  ba fun w _ => gl .shr t2 hx hy w _ (by
    have h1 : min (Int.toNat 32) IntKind.u64.bits = 32 := rfl
    have h2 : m.fdiv (2 ^ 32) = m / 4294967296 := by rw [Int.fdiv_eq_ediv_of_nonneg _ (by decide)]; rfl
    simp only [binOp, Op.shift, h1, h2]
    rfl)
theorem SH (hx:evo ρ x=.int .u64 m) (hy:evo ρ y=.int q' 32) (h:0≤m∧m*4294967296≤18446744073709551615):cw P S ⟨dst,.binOp .shl t x y t2,ty,pos,af,g⟩ ρ (.int .u64 (m*4294967296)):=
  ba fun w _ => gl .shl t2 hx hy w _ (by
    have h1 : min (Int.toNat 32) IntKind.u64.bits = 32 := rfl
    have h2 := IntWalk.u64_in (m * 4294967296) (by omega)
    have h3 : (2 : Int) ^ 32 = 4294967296 := rfl
    simp only [binOp, Op.shift, h1, h3, h2]
    rfl)
theorem Ij (hx:evo ρ x=.int .u64 m) (hy:evo ρ y=.int .u64 4294967295) (h:0≤m∧m≤18446744073709551615):cw P S ⟨dst,.binOp .and t x y t2,ty,pos,af,g⟩ ρ (.int .u64 (m % 4294967296)):=
  ba fun w _ => gl .and t2 hx hy w _ (by
    obtain ⟨k, rfl⟩ : ∃ k : Nat, m = k := ⟨m.toNat, by omega⟩
    have h1 : (BitVec.ofInt IntKind.u64.bits (k : Int) &&& BitVec.ofInt IntKind.u64.bits 4294967295).toNat = k % 4294967296 := by
      show (BitVec.ofInt 64 (k : Int) &&& BitVec.ofInt 64 ((4294967295 : Nat) : Int)).toNat = _
      rw [BitVec.ofInt_natCast, BitVec.ofInt_natCast, BitVec.toNat_and, BitVec.toNat_ofNat, BitVec.toNat_ofNat, Nat.mod_eq_of_lt (by omega : k < 2 ^ 64), Nat.mod_eq_of_lt (by decide : 4294967295 < 2 ^ 64)]
      exact Nat.and_two_pow_sub_one_eq_mod k 32
    have h2 : IntKind.u64.wrap ((k % 4294967296 : Nat) : Int) = (k : Int) % 4294967296 := by
      rw [IntWalk.u64_in _ (by omega)]; omega
    simp only [binOp, Op.intBits, h1, h2]
    rfl)
theorem iO {e:TypeId} {N j k:Nat} {z:Int} {cs us:Array Value} (ht:P.underlying t=some (.array N e)) (ha:∀w,(isAgg e).run P w=.ok true w) (hz:∀w,(sizeOf e).run P w=.ok k w) (hx:evo ρ x=.agg cs) (hy:evo ρ y=.int .i64 z) (hj:z=(j:Int)) (hlt:j<N) (hu:cs.extract (j*k) (j*k+k)=us):
    cw P S ⟨dst,.index t x y,ty,pos,af,g⟩ ρ (.agg us):=ba fun w _=>by
  subst hj;have h1:((j:Int)<(N:Int)):=by omega
  simp[execOp,Instr.index,run_underlying ht,hx,hy,asIntOf,h1,hz,part,ha,hu];exact fun h=>absurd h (by omega)
theorem lI {e:TypeId} {N j:Nat} {z:Int} {cs:Array Value} {u:Value} (ht:P.underlying t=some (.array N e)) (ha:∀w,(isAgg e).run P w=.ok false w) (hz:∀w,(sizeOf e).run P w=.ok 1 w) (hx:evo ρ x=.agg cs) (hy:evo ρ y=.int .i64 z) (hj:z=(j:Int)) (hlt:j<N) (hu:cs[j]?=some u):
    cw P S ⟨dst,.index t x y,ty,pos,af,g⟩ ρ u:=ba fun w _=>by
  subst hj;have h1:((j:Int)<(N:Int)):=by omega
  simp[execOp,Instr.index,run_underlying ht,hx,hy,asIntOf,h1,hz,part,ha,hu];exact fun h=>absurd h (by omega)
theorem A8 {src tgt:TypeId} {qs qd:IntKind} {m':Int} (hs:P.underlying src=some (.int qs)) (hd:P.underlying tgt=some (.int qd)) (hx:evo ρ x=.int q m) (hw:qd.wrap m=m'):cw P S ⟨dst,.convert src tgt x,ty,pos,af,g⟩ ρ (.int qd m'):=ba fun w _=>by
  subst hw;have h:(convert src tgt (.int q m)).run P w=.ok (.int qd (qd.wrap m)) w:=by simp[convert,run_underlying hs,run_underlying hd,Conv.intToInt,Result.andThen]
  simp[execOp,hx,h,Result.andThen]
end
end Go.Proofs.YtbedndijejpcaaaGreat
namespace Go.Proofs.YtbedndijejpcaaaGreat
def db (a b:Int):Int:=cut (cut a+cut b)
def cr (a b:Int):Int:=cut (cut a - cut b)
def EW (a b:Int):Int:=cut (cut a*cut b)
def l8 (a b:Int):Int:=if b≤0 then 0 else cut a / cut b
def yX (a n:Int):Int:=cut (cut a*min (max n 0) 1000000 / 10000)
theorem lK (a b:Int):-1099511627776≤db a b∧db a b≤1099511627776:=dT _
theorem na (a b:Int):-1099511627776≤cr a b∧cr a b≤1099511627776:=dT _
theorem GW (a n:Int):-1099511627776≤yX a n∧yX a n≤1099511627776:=dT _
theorem Jy {a b M:Int} (h:-M≤a∧a≤M) (hM:0≤M) (hb:0<b):-M≤a / b∧a / b≤M:=by
  have h1:a / b≤M:=by
    have h2:=Int.ediv_le_self b hM;exact Int.le_trans (Int.ediv_le_ediv hb h.2) h2
  refine⟨?_,h1⟩;refine Int.le_ediv_of_mul_le hb ?_;have:M*1≤M*b:=Int.mul_le_mul_of_nonneg_left (by omega) hM;rw[Int.neg_mul];omega
theorem Db (a b:Int):-1099511627776≤l8 a b∧l8 a b≤1099511627776:=by
  unfold l8
  split
  · omega
  · exact Jy (dT a) (by omega) (by unfold cut;omega)
theorem Dh (a b:Int):cut (a*b)=if (a<0)↔(b<0) then min ((a.natAbs*b.natAbs:Nat):Int) 1099511627776 else -min ((a.natAbs*b.natAbs:Nat):Int) 1099511627776:=by
  have h1:((a.natAbs*b.natAbs:Nat):Int)=(a*b).natAbs:=by rw[Int.natAbs_mul]
  rw[h1]
  by_cases hs:(a<0)↔(b<0)
  · rw [if_pos hs]
    have:0≤a*b:=by
      by_cases ha:a<0
      · exact Int.mul_nonneg_of_nonpos_of_nonpos (by omega) (by have:=hs.1 ha;omega)
      · have hb : ¬ b < 0 := fun h => ha (hs.2 h)
        exact Int.mul_nonneg (by omega) (by omega)
    unfold cut;omega
  · rw [if_neg hs]
    have:a*b≤0:=by
      by_cases ha:a<0
      · have hb : ¬ b < 0 := fun h => hs ⟨fun _ => h, fun _ => ha⟩
        exact Int.mul_nonpos_of_nonpos_of_nonneg (by omega) (by omega)
      · have hb:b<0:=by
          by_cases h:b<0
          · exact h
          · exact absurd ⟨fun h2=>absurd h2 ha,fun h2=>absurd h2 h⟩ hs
        exact Int.mul_nonpos_of_nonneg_of_nonpos (by omega) (by omega)
    unfold cut;omega
theorem Ku (a:Int) {b:Int} (hb:0<b):(if a<a.tdiv b*b then a.tdiv b - 1 else a.tdiv b)=a / b:=by
  have h1:=Int.tdiv_eq_ediv (a:=a) (b:=b);have h2:=Int.mul_ediv_add_emod a b;have h3:=Int.emod_nonneg a (by omega:b≠0);have h4:=Int.emod_lt_of_pos a hb;have h5:b.sign=1:=Int.sign_eq_one_of_pos hb
  by_cases h:0≤a∨b∣a
  · rw [if_pos h, Int.add_zero] at h1
    rw[h1,if_neg];have:a / b*b=b*(a / b):=Int.mul_comm _ _;omega
  · rw [if_neg h, h5] at h1
    have h6:a % b≠0:=fun e=>h (.inr (Int.dvd_of_emod_eq_zero e));rw[h1,if_pos]
    · omega
    · have : (a / b + 1) * b = b * (a / b) + b := by rw [Int.add_mul, Int.one_mul, Int.mul_comm]
      omega
theorem FD (a b:Int):a*b=(a / 4294967296*(b / 4294967296))*18446744073709551616+(a % 4294967296*(b / 4294967296)+a / 4294967296*(b % 4294967296))*4294967296+a % 4294967296*(b % 4294967296):=by
  have h1:=Int.mul_ediv_add_emod a 4294967296;have h2:=Int.mul_ediv_add_emod b 4294967296
  generalize a / 4294967296=x at*
  generalize a % 4294967296=y at*
  generalize b / 4294967296=z at*
  generalize b % 4294967296=u at*
  subst h1;subst h2
  grind
end Go.Proofs.YtbedndijejpcaaaGreat
namespace Go.Proofs.YtbedndijejpcaaaGreat
def gI (l:List Int) (i:Nat):Int:=l.getD i 0
theorem gF {l:List Int} {i:Nat} {x:Int} (h:l[i]?=some x):gI l i=x:=by unfold gI;rw[List.getD_eq_getElem?_getD,h];rfl
def bE (k base:Int):Bool:=decide (k=1∨(k=2∧0≤base))
def cC (k n base none:Int):Int:=if bE k base=false then cut none else if k=1 then cut n else yX base n
def qj (n lk ln hk hn base:Int):Int:=max (jq n (cC lk ln base (-1099511627776)) (cC hk hn base 1099511627776)) 0
theorem js (k n base none:Int):-1099511627776≤cC k n base none∧cC k n base none≤1099511627776:=by
  unfold cC
  split
  · exact dT _
  · split
    · exact dT _
    · exact GW _ _
theorem v7 (n lk ln hk hn base:Int):0≤qj n lk ln hk hn base∧qj n lk ln hk hn base≤1099511627776:=by
  have h1:=js lk ln base (-1099511627776);have h2:=js hk hn base 1099511627776;have h3:=dT n;unfold qj jq;rw[w7 h1.1 h1.2,w7 h2.1 h2.2];omega
def KS (l:List Int):Int:=l.foldl (fun m x=>max m (cut x)) 0
def KV (l:List Int):Int:=l.foldl (fun m x=>min m (cut x)) 0
def oX (l:List Int):Int:=KS l+KV l
theorem Bm (l:List Int):∀m:Int,0≤m→m≤1099511627776→0≤l.foldl (fun m x=>max m (cut x)) m∧l.foldl (fun m x=>max m (cut x)) m≤1099511627776:=by
  induction l with
  | nil=>intro m h1 h2;exact⟨h1,h2⟩
  | cons x l ih =>
    intro m h1 h2;have:=dT x;exact ih (max m (cut x)) (by omega) (by omega)
theorem BY (l:List Int):∀m:Int,m≤0→-1099511627776≤m→l.foldl (fun m x=>min m (cut x)) m≤0∧-1099511627776≤l.foldl (fun m x=>min m (cut x)) m:=by
  induction l with
  | nil=>intro m h1 h2;exact⟨h1,h2⟩
  | cons x l ih =>
    intro m h1 h2;have:=dT x;exact ih (min m (cut x)) (by omega) (by omega)
theorem Bb (l:List Int):0≤KS l∧KS l≤1099511627776:=Bm l 0 (by omega) (by omega)
theorem B7 (l:List Int):KV l≤0∧-1099511627776≤KV l:=BY l 0 (by omega) (by omega)
theorem ma (l:List Int):-1099511627776≤oX l∧oX l≤1099511627776:=by
  have h1:=Bb l;have h2:=B7 l;unfold oX;omega
theorem FY {l:List Int} {k:Nat} {x:Int} (h:l[k]?=some x):KS (l.take (k+1))=max (KS (l.take k)) (cut x):=by
  unfold KS;rw[List.take_add_one,h];simp
theorem FG {l:List Int} {k:Nat} {x:Int} (h:l[k]?=some x):KV (l.take (k+1))=min (KV (l.take k)) (cut x):=by
  unfold KV;rw[List.take_add_one,h];simp
def eP (room size a b:Int):Int:=cr (cr (cr room size) a) b
def ja (room size bk bn ek en base:Int):Int×Int:=
  let a:=cC bk bn base 0
  let b:=cC ek en base 0
  let left:=eP room size a b
  if left≤0 then (a,b) else if bE bk base=false∧bE ek base=false then (left / 2,left - left / 2) else if bE bk base=false then (left,b) else if bE ek base=false then (a,left) else (a,b)
mutual
def stkAt (sizes tops bottoms:List Int):Nat→Int
  | 0=>0
  | k+1=>db (cx sizes tops bottoms k) (gI sizes k)
def cx (sizes tops bottoms:List Int):Nat→Int
  | 0=>0
  | k+1=>db (db (cx sizes tops bottoms k) (gI sizes k)) (oX [gI bottoms k,gI tops (k+1)])
end
def dM (sizes tops bottoms:List Int):List Int:=(List.range sizes.length).map (cx sizes tops bottoms)
def iZ (l:List Int) (gap:Int):Nat→Int
  | 0=>0
  | k+1=>db (if k=0 then iZ l gap k else db (iZ l gap k) gap) (gI l k)
def fV (l:List Int) (gap:Int):Int:=iZ l gap l.length
def fT (kind left n:Int):Int:=if (kind=4∨kind=5)∧left≤0 then 2 else if kind=3∧(left≤0∨n<2) then 0 else kind
def mw (left k n:Int):Int:=l8 (EW left k) n
def cY (kind left n k:Int):Int:=
  if fT kind left n=1 then left else if fT kind left n=2 then l8 left 2 else if fT kind left n=3 then mw left k (n - 1) else if fT kind left n=4 then mw left (2*k+1) (2*n) else if fT kind left n=5 then mw left (k+1) (n+1) else 0
def C5 (kind left gap:Int) (l:List Int):Nat→Int
  | 0=>0
  | k+1=>db (db (if k=0 then C5 kind left gap l k else db (C5 kind left gap l k) gap) (cY kind left l.length k - (if k=0 then 0 else cY kind left l.length ((k:Int) - 1)))) (gI l k)
def qx (kind left gap:Int) (l:List Int) (k:Nat):Int:=db (if k=0 then C5 kind left gap l k else db (C5 kind left gap l k) gap) (cY kind left l.length k - (if k=0 then 0 else cY kind left l.length ((k:Int) - 1)))
def dO (kind:Int) (l:List Int) (room gap:Int):List Int:=(List.range l.length).map (qx kind (cr room (fV l gap)) gap l)
def dv (kind size room:Int):Int:=if kind=2 then l8 (cr room size) 2 else if kind=3 then cr room size else 0
theorem fc (a b:Int) (w:World):Calls Tryz.prog 68 #[.int .i64 a,.int .i64 b] w fun e w'=>e=.returned (.int .i64 (db a b))∧w=w':=by
  have h1:=dT a;have h2:=dT b;refine bK Tryz.func68 rfl Tryz.ntmps68 (by simp) ?_;refine gg ?_;refine vl (vC (bI _ _)) ?_;refine gg ?_;refine vl (vC (bI _ _)) ?_;refine gg ?_;refine vl (vC (bI _ _)) ?_;refine gg ?_;exact aT fun w hw=>⟨rfl,hw.symm⟩
theorem fI (a b:Int) (w:World):Calls Tryz.prog 67 #[.int .i64 a,.int .i64 b] w fun e w'=>e=.returned (.int .i64 (cr a b))∧w=w':=by
  have h1:=dT a;have h2:=dT b;refine bK Tryz.func67 rfl Tryz.ntmps67 (by simp) ?_;refine gg ?_;refine vl (vC (bI _ _)) ?_;refine gg ?_;refine vl (vC (bI _ _)) ?_;refine gg ?_;refine vl (vC (bI _ _)) ?_;refine gg ?_;exact aT fun w hw=>⟨rfl,hw.symm⟩
theorem zj (a:Int) (h:-1099511627776≤a∧a≤1099511627776) (w:World):Calls Tryz.prog 258 #[.int .i64 a] w fun e w'=>e=.returned (.int .u64 (a.natAbs:Int))∧w=w':=by
  refine bK Tryz.func258 rfl Tryz.ntmps258 (by simp) ?_;refine gv ?_;refine sg (v:=.int .u64 (0)) rfl ?_;refine gg ?_;refine WP.aw rfl (fun h4=>?_) (fun h4=>?_)
  ·have hr:(a.natAbs:Int)= -a:=by omega
   refine bW ?_;refine vl (pO rfl (by omega)) ?_;refine vl (A8 (m':=-a) Tryz.underlying3 Tryz.underlying253 rfl (IntWalk.u64_in _ (by omega))) ?_;refine sg (v:=.int .u64 _) rfl ?_;refine gg ?_;exact aT fun w hw=>⟨by rw[hr];rfl,hw.symm⟩
  ·have hr:(a.natAbs:Int)=a:=by omega
   refine cK ?_;refine vl (A8 (m':=a) Tryz.underlying3 Tryz.underlying253 rfl (IntWalk.u64_in _ (by omega))) ?_;refine sg (v:=.int .u64 _) rfl ?_;refine gg ?_;exact aT fun w hw=>⟨by rw[hr];rfl,hw.symm⟩
theorem Fl (a b:Int) (ha:0≤a∧a≤1099511627776) (hb:0≤b∧b≤1099511627776) (w:World):Calls Tryz.prog 257 #[.int .u64 a,.int .u64 b] w fun e w'=>e=.returned (.int .i64 (min (a*b) 1099511627776))∧w=w':=by
  have hid:=FD a b;have hb1:0≤a / 4294967296∧a / 4294967296≤256:=by omega
  have hb2:0≤b / 4294967296∧b / 4294967296≤256:=by omega
  have hb3:0≤a % 4294967296∧a % 4294967296≤4294967295:=by omega
  have hb4:0≤b % 4294967296∧b % 4294967296≤4294967295:=by omega
  have h22:0≤a % 4294967296*(b / 4294967296)∧a % 4294967296*(b / 4294967296)≤18446744073709551615:=⟨Int.mul_nonneg hb3.1 hb2.1,Int.le_trans (Int.mul_le_mul hb3.2 hb2.2 hb2.1 (by decide)) (by decide)⟩;have h25:0≤a / 4294967296*(b % 4294967296)∧a / 4294967296*(b % 4294967296)≤18446744073709551615:=⟨Int.mul_nonneg hb1.1 hb4.1,Int.le_trans (Int.mul_le_mul hb1.2 hb4.2 hb4.1 (by decide)) (by decide)⟩;have h22':a % 4294967296*(b / 4294967296)≤1099511627776:=Int.le_trans (Int.mul_le_mul hb3.2 hb2.2 hb2.1 (by decide)) (by decide);have h25':a / 4294967296*(b % 4294967296)≤1099511627776:=Int.le_trans (Int.mul_le_mul hb1.2 hb4.2 hb4.1 (by decide)) (by decide);have h29:0≤a / 4294967296*(b / 4294967296)∧a / 4294967296*(b / 4294967296)≤18446744073709551615:=⟨Int.mul_nonneg hb1.1 hb2.1,Int.le_trans (Int.mul_le_mul hb1.2 hb2.2 hb2.1 (by decide)) (by decide)⟩;have h38:0≤a % 4294967296*(b % 4294967296)∧a % 4294967296*(b % 4294967296)≤18446744073709551615:=⟨Int.mul_nonneg hb3.1 hb4.1,Int.le_trans (Int.mul_le_mul hb3.2 hb4.2 hb4.1 (by decide)) (by decide)⟩;refine bK Tryz.func257 rfl Tryz.ntmps257 (by simp) ?_;refine bS ?_;refine mv (v:=.int .u64 _) rfl ?_;refine vl (Ij rfl rfl (by omega)) ?_;refine mv (v:=.int .u64 _) rfl ?_;refine vl (BE rfl rfl) ?_;refine sg (v:=.int .u64 _) rfl ?_;refine sg (v:=.int .u64 _) rfl ?_;refine bW ?_;refine mv (v:=.int .u64 _) rfl ?_;refine vl (Ij rfl rfl (by omega)) ?_;refine mv (v:=.int .u64 _) rfl ?_;refine vl (BE rfl rfl) ?_;refine sg (v:=.int .u64 _) rfl ?_;refine sg (v:=.int .u64 _) rfl ?_;refine bW ?_;refine mv (v:=.int .u64 _) rfl ?_;refine mv (v:=.int .u64 _) rfl ?_;refine vl (xi rfl rfl h22) ?_;refine mv (v:=.int .u64 _) rfl ?_;refine mv (v:=.int .u64 _) rfl ?_;refine vl (xi rfl rfl h25) ?_;refine vl (Sf rfl rfl (by omega)) ?_;refine sg (v:=.int .u64 _) rfl ?_;refine cK ?_;refine mv (v:=.int .u64 _) rfl ?_;refine mv (v:=.int .u64 _) rfl ?_;refine vl (xi rfl rfl h29) ?_;refine vl (AW rfl rfl) ?_;refine av ?_;refine aj.split 31 rfl (fun h31=>?_) (fun h31=>?_)
  ·refine gg ?_;have hr:min (a*b) 1099511627776=1099511627776:=by omega
   refine WP.aQ rfl ?_;refine gg ?_;exact aT fun w hw=>⟨by rw[hr];rfl,hw.symm⟩
  ·refine vg (aC (v:=.int .u64 _) rfl) ?_;refine vg (BE rfl rfl) ?_;refine vg (AW rfl rfl) ?_;refine gg ?_;refine WP.aw rfl (fun h35=>?_) (fun h35=>?_)
   ·have hr:min (a*b) 1099511627776=1099511627776:=by omega
    refine gg ?_;exact aT fun w hw=>⟨by rw[hr];rfl,hw.symm⟩
   ·refine bW ?_;refine mv (v:=.int .u64 _) rfl ?_;refine mv (v:=.int .u64 _) rfl ?_;refine vl (xi rfl rfl h38) ?_;refine sg (v:=.int .u64 _) rfl ?_;refine bW ?_;refine mv (v:=.int .u64 _) rfl ?_;refine vl (SH rfl rfl (by omega)) ?_;refine mv (v:=.int .u64 _) rfl ?_;refine vl (JP rfl rfl) ?_;refine sg (v:=.int .u64 _) rfl ?_;refine cK ?_;refine mv (v:=.int .u64 _) rfl ?_;refine mv (v:=.int .u64 _) rfl ?_;refine vl (Om rfl rfl) ?_;refine av ?_;refine aj.split 46 rfl (fun h46=>?_) (fun h46=>?_)
    ·refine gg ?_;have hr:min (a*b) 1099511627776=1099511627776:=by omega
     refine WP.aQ rfl ?_;refine gg ?_;exact aT fun w hw=>⟨by rw[hr];rfl,hw.symm⟩
    ·refine vg (aC (v:=.int .u64 _) rfl) ?_;refine vg (AW rfl rfl) ?_;refine gg ?_;refine WP.aw rfl (fun h49=>?_) (fun h49=>?_)
     ·have hr:min (a*b) 1099511627776=1099511627776:=by omega
      refine gg ?_;exact aT fun w hw=>⟨by rw[hr];rfl,hw.symm⟩
     ·have hr:min (a*b) 1099511627776=a*b:=by omega
      refine bW ?_;refine mv (v:=.int .u64 _) rfl ?_;refine vl (A8 (m':=a*b) Tryz.underlying253 Tryz.underlying3 rfl (by rw[IntWalk.i64_in _ (by omega)];omega)) ?_;refine gg ?_;exact aT fun w hw=>⟨by rw[hr];rfl,hw.symm⟩
theorem JR (a b:Int) (w:World):Calls Tryz.prog 244 #[.int .i64 a,.int .i64 b] w fun e w'=>e=.returned (.int .i64 (EW a b))∧w=w':=by
  have h1:=dT a;have h2:=dT b;have hm:0≤((cut a).natAbs:Int)*((cut b).natAbs:Int):=Int.mul_nonneg (by omega) (by omega);refine bK Tryz.func244 rfl Tryz.ntmps244 (by simp) ?_;refine gg ?_;refine vl (vC (bI _ _)) ?_;refine gg ?_;refine vl (vC (bI _ _)) ?_;refine gg ?_;refine vl (vC (zj _ (dT a) _)) ?_;refine gg ?_;refine vl (vC (zj _ (dT b) _)) ?_;refine vl (vC (Fl ((cut a).natAbs:Int) ((cut b).natAbs:Int) (by omega) (by omega) _)) ?_;refine uw ?_;refine vl (CZ Tryz.underlying4 rfl rfl) ?_;refine gg ?_;refine WP.cond rfl (fun h19=>?_) (fun h19=>?_)
  ·have hr:EW a b= -min (((cut a).natAbs:Int)*((cut b).natAbs:Int)) 1099511627776:=by
     rw[EW,Dh,if_neg (fun e=>by simp[e] at h19)];rw[Int.natCast_mul]
   refine bW ?_;refine vl (pO rfl (by omega)) ?_;refine gg ?_;exact aT fun w hw=>⟨by rw[hr];rfl,hw.symm⟩
  ·have hr:EW a b=min (((cut a).natAbs:Int)*((cut b).natAbs:Int)) 1099511627776:=by
     rw[EW,Dh,if_pos (by simpa using h19)];rw[Int.natCast_mul]
   refine gg ?_;exact aT fun w hw=>⟨by rw[hr];rfl,hw.symm⟩
theorem JT {a b:Int} (ha:-1099511627776000000≤a∧a≤1099511627776000000) (hb:0<b):(-1099511627776000000≤a.tdiv b∧a.tdiv b≤1099511627776000000)∧(-1099511627776000000≤a.tdiv b*b∧a.tdiv b*b≤1099511627776000000):=by
  have h1:=Int.natAbs_tdiv_le_natAbs a b;have h2:=Int.mul_tdiv_add_tmod a b;have h3:a.tdiv b*b=b*a.tdiv b:=Int.mul_comm _ _;have h4:(0≤a→0≤a.tmod b)∧(a≤0→a.tmod b≤0):=⟨fun h=>Int.tmod_nonneg b h,fun h=>by have:=Int.tmod_nonneg (a:=-a) b (by omega);rw[Int.neg_tmod] at this;omega⟩
  have h5 : (0 ≤ a → 0 ≤ b * a.tdiv b) ∧ (a ≤ 0 → b * a.tdiv b ≤ 0) := ⟨fun h => Int.mul_nonneg (by omega) (Int.tdiv_nonneg h (by omega)), fun h => by
    have h6 := Int.tdiv_nonneg (a := -a) (b := b) (by omega) (by omega)
    rw [Int.neg_tdiv] at h6
    exact Int.mul_nonpos_of_nonneg_of_nonpos (by omega) (by omega)⟩
  rw[h3];omega
theorem Ab (a b:Int) (ha:-1099511627776000000≤a∧a≤1099511627776000000) (hb:0<b) (w:World):Calls Tryz.prog 227 #[.int .i64 a,.int .i64 b] w fun e w'=>e=.returned (.int .i64 (a / b))∧w=w':=by
  have hd:=Ku a hb;have hq:=Int.mul_tdiv_add_tmod a b;have hl:=JT ha hb;refine bK Tryz.func227 rfl Tryz.ntmps227 (by simp) ?_;refine iX ?_;refine vl (Sr rfl rfl (by omega) (by omega)) ?_;refine gg ?_;refine WP.aw rfl (fun h13=>?_) (fun h13=>?_)
  ·rw[if_pos h13] at hd;refine gg ?_;exact aT fun w hw=>⟨by rw[←hd];rfl,hw.symm⟩
  ·rw[if_neg h13] at hd;refine gg ?_;exact aT fun w hw=>⟨by rw[←hd];rfl,hw.symm⟩
theorem wL (a b:Int) (w:World):Calls Tryz.prog 234 #[.int .i64 a,.int .i64 b] w fun e w'=>e=.returned (.int .i64 (l8 a b))∧w=w':=by
  have h1:=dT a;have h2:=dT b;refine bK Tryz.func234 rfl Tryz.ntmps234 (by simp) ?_;refine gg ?_;refine WP.aw rfl (fun h6=>?_) (fun h6=>?_)
  ·have hr:l8 a b=0:=by rw[l8,if_pos h6]
   refine gg ?_;exact aT fun w hw=>⟨by rw[hr];rfl,hw.symm⟩
  ·have hr:l8 a b=cut a / cut b:=by rw[l8,if_neg h6]
   refine gg ?_;refine vl (vC (bI _ _)) ?_;refine gg ?_;refine vl (vC (bI _ _)) ?_;refine vl (vC (Ab (cut a) (cut b) (by omega) (by unfold cut;omega) _)) ?_;refine gg ?_;exact aT fun w hw=>⟨by rw[hr];rfl,hw.symm⟩
theorem JX {a m:Int} (ha:-1099511627776≤a∧a≤1099511627776) (hm:0≤m∧m≤1000000):-1099511627776000000≤a*m∧a*m≤1099511627776000000:=by
  have h1:a*m≤1099511627776*m:=Int.mul_le_mul_of_nonneg_right ha.2 hm.1;have h2:-1099511627776*m≤a*m:=Int.mul_le_mul_of_nonneg_right ha.1 hm.1;omega
theorem Hy (a n:Int) (w:World):Calls Tryz.prog 200 #[.int .i64 a,.int .i64 n] w fun e w'=>e=.returned (.int .i64 (yX a n))∧w=w':=by
  have h1:=dT a;have h2:0≤min (max n 0) 1000000∧min (max n 0) 1000000≤1000000:=by omega
  have h3:=JX h1 h2;refine bK Tryz.func200 rfl Tryz.ntmps200 (by simp) ?_;refine gg ?_;refine vl (vC (bI _ _)) ?_;refine gg ?_;refine vl (vC (Ab (cut a*min (max n 0) 1000000) 10000 h3 (by decide) _)) ?_;refine vl (vC (bI _ _)) ?_;refine gg ?_;exact aT fun w hw=>⟨rfl,hw.symm⟩
theorem cp (k n base:Int):Ct Tryz.prog 175 #[.agg #[.int .i64 k,.int .i64 n],.int .i64 base] [] (fun _=>True) (X:=Unit) (fun _=>.bool (bE k base)) (fun _=>True) (fun _=>[]):=by
  refine Ci fun w0 _=>?_;refine gg ?_;refine aj.ef xB fun b2=>?_;refine gg ?_;refine WP.aw rfl (fun h7=>?_) (fun h7=>?_)
  ·have hr:bE k base=true:=by unfold bE;first | exact decide_eq_true (by omega) | exact decide_eq_false (by omega)
   refine gg ?_;exact aT fun w hw=>⟨(),congrArg Value.bool (by rw[hr]),trivial,hw.pk⟩
  ·refine gg ?_;refine WP.aw rfl (fun h9=>?_) (fun h9=>?_)
   ·have hr:bE k base=decide (0≤base):=by unfold bE;exact decide_eq_decide.2 (by omega)
    refine gg ?_;exact aT fun w hw=>⟨(),congrArg Value.bool (by rw[hr]),trivial,hw.pk⟩
   ·have hr:bE k base=false:=by unfold bE;first | exact decide_eq_true (by omega) | exact decide_eq_false (by omega)
    refine gg ?_;exact aT fun w hw=>⟨(),congrArg Value.bool (by rw[hr]),trivial,hw.pk⟩
theorem a7 (k n base d0:Int):Ct Tryz.prog 174 #[.agg #[.int .i64 k,.int .i64 n],.int .i64 base,.int .i64 d0] [] (fun _=>True) (X:=Unit) (fun _=>.int .i64 (cC k n base d0)) (fun _=>True) (fun _=>[]):=by
  refine Ci fun w0 _=>?_;refine gg ?_;refine aj.ef xB fun b3=>?_;refine gg ?_;refine eF (xC (cp k n base)) fun _ _=>?_;refine gg ?_;refine WP.cond rfl (fun h7=>?_) (fun h7=>?_)
  ·have hf:bE k base=false:=by simpa using h7
   have hr:cC k n base d0=cut d0:=(by unfold cC;rw[if_pos hf]);refine gg ?_;refine vl (vC (bI _ _)) ?_;refine gg ?_;exact aT fun w hw=>⟨(),congrArg (Value.int .i64) (by rw[hr]),trivial,hw.pk⟩
  ·refine gg ?_;refine WP.aw rfl (fun h14=>?_) (fun h14=>?_)
   ·have hr:cC k n base d0=cut n:=by unfold cC;rw[if_neg (by simp[show bE k base=true by simpa using h7]),if_pos h14]
    refine gg ?_;refine vl (vC (bI _ _)) ?_;refine gg ?_;exact aT fun w hw=>⟨(),congrArg (Value.int .i64) (by rw[hr]),trivial,hw.pk⟩
   ·have hr:cC k n base d0=yX base n:=by unfold cC;rw[if_neg (by simp[show bE k base=true by simpa using h7]),if_neg h14]
    refine gg ?_;refine vl (vC (Hy _ _ _)) ?_;refine gg ?_;exact aT fun w hw=>⟨(),congrArg (Value.int .i64) (by rw[hr]),trivial,hw.pk⟩
theorem wi (k n base d0:Int) (bb:Nat):Ct Tryz.prog 199 #[.agg #[.int .i64 k,.int .i64 n],.int .i64 d0,.pointer (some ⟨bb,0,none⟩)] [] (fun w=>aJ w bb 0 [.int .i64 base]) (X:=Unit) (fun _=>.int .i64 (cC k n base d0)) (fun _=>True) (fun _=>[]):=by
  refine Ci fun w0 hb=>?_;refine gg ?_;refine aj.ef xB fun b3=>?_;refine gg ?_;refine vl (vO hb) ?_;refine gg ?_;refine eF (xC (a7 k n base d0)) fun _ _=>?_;refine gg ?_;exact aT fun w hw=>⟨(),rfl,trivial,hw.pk⟩
theorem pN (n lk ln hk hn base:Int):Ct Tryz.prog 173 #[.int .i64 n,.agg #[.int .i64 lk,.int .i64 ln],.agg #[.int .i64 hk,.int .i64 hn],.int .i64 base] [] (fun _=>True) (X:=Unit) (fun _=>.int .i64 (qj n lk ln hk hn base)) (fun _=>True) (fun _=>[]):=by
  refine Ci fun w0 _=>?_;refine gg ?_;refine aj.ef xB fun b5=>?_;refine aj.ef xB fun b6=>?_;refine aj.ef (eN (u:=.int .i64 _) (σ':=fun _=>[_,_,_]) rfl (fun _=>rfl)) (fun b7=>?_);refine cK ?_;refine vl (eW) ?_;refine sg rfl ?_;refine gg ?_;refine wP none [0,1,2] [pT 0,pT 1,pT 2,pT 4,pT 5,pF 3,pF 6,pT 7,pT 8,pT 9] ?_;refine aB.take rfl (aC (v:=.int .i64 _) rfl) ?_ (fun _ h=>h.sel [0,1,2] (by decide));refine aB.take rfl (aC rfl) ?_ (fun _ h=>h.sel [0,1,2] (by decide));refine aB.take rfl (au (cs:=[.int .i64 _,.int .i64 _]) Tryz.isAgg33 Tryz.sizeOf33 rfl (fun w hw=>hw.aq (i:=0) rfl _ rfl)) ?_ (fun _ h=>h.sel [0,1,2] (by decide));refine aB.take rfl (aC rfl) ?_ (fun _ h=>h.sel [0,1,2] (by decide));refine aB.take rfl (au (cs:=[.int .i64 _,.int .i64 _]) Tryz.isAgg33 Tryz.sizeOf33 rfl (fun w hw=>hw.aq (i:=1) rfl _ rfl)) ?_ (fun _ h=>h.sel [0,1,2] (by decide));refine aB.ef rfl (iq Tryz.call199 (wi lk ln base (-1099511627776) b7) [] [0,1,2] rfl (fun w hw=>hw.aq (i:=2) rfl 0 rfl) (τ:=fun _=>[_,_,_]) (fun _=>rfl)) (fun _ _ _ h=>h.2.sel [0,1,2] (by decide)) (fun _=>?_);refine aB.fact (fun _=>?_);refine dG (xV (wi hk hn base (1099511627776) b7) Tryz.call199 (hF:=fun w hw=>hw.aq (i:=2) rfl 0 rfl)) fun _ _=>?_;refine tD (vC (kN _ _ _ _)) ?_;refine gg ?_;exact aT fun w hw=>⟨(),rfl,trivial,hw.pk⟩
theorem Gr (k0 n0 k1 n1 k2 n2 k3 n3 base:Int):Ct Tryz.prog 198 #[.agg #[.int .i64 k0,.int .i64 n0,.int .i64 k1,.int .i64 n1,.int .i64 k2,.int .i64 n2,.int .i64 k3,.int .i64 n3],.int .i64 base] [] (fun _=>True) (X:=Unit) (fun _=>.agg #[.int .i64 (cC k0 n0 base 0),.int .i64 (cC k1 n1 base 0),.int .i64 (cC k2 n2 base 0),.int .i64 (cC k3 n3 base 0)]) (fun _=>True) (fun _=>[]):=by
  refine Ci fun w0 _=>?_;refine gg ?_;refine aj.ef xB fun b2=>?_;refine aj.ef cg fun b4=>?_;refine gg ?_;refine aj.ef cg fun b5=>?_;refine nl (oo ?_);refine sq ?_;refine eh ?_;refine vl (au (cs:=[.int .i64 _,.int .i64 _,.int .i64 _,.int .i64 _,.int .i64 _,.int .i64 _,.int .i64 _,.int .i64 _]) Tryz.isAgg34 Tryz.sizeOf34 rfl (fun w hw=>hw.aq (i:=0) rfl _ rfl)) ?_;refine mv (v:=.int .i64 (0)) rfl ?_;refine gg ?_;refine WP.jH 5 ?_;refine fS.succ ?_;refine gg ?_;refine WP.aQ rfl ?_;refine cR ?_;refine vl (iO (j:=0) (us:=#[.int .i64 _,.int .i64 _]) Tryz.underlying34 Tryz.isAgg33 Tryz.sizeOf33 rfl rfl rfl (by decide) rfl) ?_;refine aj.ef cg fun b7=>?_;refine gg ?_;refine aj.aX (xW rfl) fun _=>?_;refine gg ?_;refine eF (xC (a7 _ _ base 0)) fun _ _=>?_;refine gg ?_;refine aj.aX (xS rfl (jJ rfl)) fun _=>?_;refine bS ?_;refine aj.nil (aI ?_);refine fS.succ ?_;refine gg ?_;refine WP.aQ rfl ?_;refine cR ?_;refine vl (iO (j:=1) (us:=#[.int .i64 _,.int .i64 _]) Tryz.underlying34 Tryz.isAgg33 Tryz.sizeOf33 rfl rfl rfl (by decide) rfl) ?_;refine aj.ef cg fun b7=>?_;refine gg ?_;refine aj.aX (xW rfl) fun _=>?_;refine gg ?_;refine eF (xC (a7 _ _ base 0)) fun _ _=>?_;refine gg ?_;refine aj.aX (xS rfl (jJ rfl)) fun _=>?_;refine bS ?_;refine aj.nil (aI ?_);refine fS.succ ?_;refine gg ?_;refine WP.aQ rfl ?_;refine cR ?_;refine vl (iO (j:=2) (us:=#[.int .i64 _,.int .i64 _]) Tryz.underlying34 Tryz.isAgg33 Tryz.sizeOf33 rfl rfl rfl (by decide) rfl) ?_;refine aj.ef cg fun b7=>?_;refine gg ?_;refine aj.aX (xW rfl) fun _=>?_;refine gg ?_;refine eF (xC (a7 _ _ base 0)) fun _ _=>?_;refine gg ?_;refine aj.aX (xS rfl (jJ rfl)) fun _=>?_;refine bS ?_;refine aj.nil (aI ?_);refine fS.succ ?_;refine gg ?_;refine WP.aQ rfl ?_;refine cR ?_;refine vl (iO (j:=3) (us:=#[.int .i64 _,.int .i64 _]) Tryz.underlying34 Tryz.isAgg33 Tryz.sizeOf33 rfl rfl rfl (by decide) rfl) ?_;refine aj.ef cg fun b7=>?_;refine gg ?_;refine aj.aX (xW rfl) fun _=>?_;refine gg ?_;refine eF (xC (a7 _ _ base 0)) fun _ _=>?_;refine gg ?_;refine aj.aX (xS rfl (jJ rfl)) fun _=>?_;refine bS ?_;refine aj.nil (aI ?_);refine fS.succ ?_;refine gg ?_;refine WP.br rfl ?_;refine WP.exit (an ?_);refine gg ?_;refine aj.aX (xW rfl) fun _=>?_;refine gg ?_;exact jf rfl fun w hw=>⟨(),rfl,trivial,hw.pk⟩
end Go.Proofs.YtbedndijejpcaaaGreat
namespace Go.Proofs.YtbedndijejpcaaaGreat
theorem l6 {α:Type} {l:List α} {i:Nat} {e:α} (h:l[i]?=some e):l.take (i+1)=l.take i++[e]:=by
  rw[List.take_add_one,h];rfl
section
variable {room size bk bn ek en base:Int}
theorem Kk (h:eP room size (cC bk bn base 0) (cC ek en base 0)≤0):ja room size bk bn ek en base=(cC bk bn base 0,cC ek en base 0):=by
  simp only[ja];rw[if_pos h]
theorem El (h:¬eP room size (cC bk bn base 0) (cC ek en base 0)≤0) (h1:bE bk base=false) (h2:bE ek base=false):ja room size bk bn ek en base=(eP room size (cC bk bn base 0) (cC ek en base 0) / 2,eP room size (cC bk bn base 0) (cC ek en base 0) - eP room size (cC bk bn base 0) (cC ek en base 0) / 2):=by
  simp only[ja];rw[if_neg h,if_pos ⟨h1,h2⟩]
theorem tt (h:¬eP room size (cC bk bn base 0) (cC ek en base 0)≤0) (h1:bE bk base=false) (h2:bE ek base=true):ja room size bk bn ek en base=(eP room size (cC bk bn base 0) (cC ek en base 0),cC ek en base 0):=by
  simp only[ja];rw[if_neg h,if_neg (by simp[h2]),if_pos h1]
theorem ve (h:¬eP room size (cC bk bn base 0) (cC ek en base 0)≤0) (h1:bE bk base=true) (h2:bE ek base=false):ja room size bk bn ek en base=(cC bk bn base 0,eP room size (cC bk bn base 0) (cC ek en base 0)):=by
  simp only[ja];rw[if_neg h,if_neg (by simp[h1]),if_neg (by simp[h1]),if_pos h2]
theorem vT (h1:bE bk base=true) (h2:bE ek base=true):ja room size bk bn ek en base=(cC bk bn base 0,cC ek en base 0):=by
  simp only[ja]
  split
  · rfl
  · rw[if_neg (by simp[h1]),if_neg (by simp[h1]),if_neg (by simp[h2])]
end
section
variable {sizes tops bottoms:List Int} {k:Nat} {x y z:Int}
theorem JF:(dM sizes tops bottoms).length=sizes.length:=by simp[dM]
theorem CI (h:k<sizes.length):(dM sizes tops bottoms)[k]?=some (cx sizes tops bottoms k):=by
  simp[dM,h]
theorem GB (h:k<sizes.length):(dM sizes tops bottoms).take (k+1)=(dM sizes tops bottoms).take k++[cx sizes tops bottoms k]:=l6 (CI h)
theorem BQ (hx:sizes[k]?=some x):db (cx sizes tops bottoms k) x=stkAt sizes tops bottoms (k+1):=by rw[stkAt,gF hx]
theorem uH (hy:bottoms[k]?=some y) (hz:tops[k+1]?=some z):db (stkAt sizes tops bottoms (k+1)) (oX [y,z])=cx sizes tops bottoms (k+1):=by rw[stkAt,cx,gF hy,gF hz]
theorem uK:stkAt sizes tops bottoms 0=cx sizes tops bottoms 0:=by rw[stkAt,cx]
theorem tI (sizes tops bottoms:List Int) (k:Nat):-1099511627776≤stkAt sizes tops bottoms k∧stkAt sizes tops bottoms k≤1099511627776:=by
  cases k with
  | zero=>rw[stkAt];omega
  | succ k=>rw[stkAt];exact lK _ _
theorem rf (sizes tops bottoms:List Int) (k:Nat):-1099511627776≤cx sizes tops bottoms k∧cx sizes tops bottoms k≤1099511627776:=by
  cases k with
  | zero=>rw[cx];omega
  | succ k=>rw[cx];exact lK _ _
end
theorem Ht {l:List Int} {gap x:Int} {k:Nat} (h:k≠0) (hx:l[k]?=some x):db (db (iZ l gap k) gap) x=iZ l gap (k+1):=by rw[iZ,if_neg h,gF hx]
theorem BT {l:List Int} {gap x:Int} (hx:l[0]?=some x):db (iZ l gap 0) x=iZ l gap (0+1):=by rw[iZ.eq_2,if_pos rfl,gF hx]
theorem HO (l:List Int) (gap:Int) (k:Nat):-1099511627776≤iZ l gap k∧iZ l gap k≤1099511627776:=by
  cases k with
  | zero=>rw[iZ];omega
  | succ k=>rw[iZ];exact lK _ _
section
variable (l:List Int) (room gap:Int) (wrap:Bool)
def brkS:Nat→List (Nat×Nat)×Nat×Int
  | 0=>([],0,0)
  | i + 1 =>
    if i=(brkS i).2.1 then ((brkS i).1,(brkS i).2.1,cut (gI l i))
    else if i<(brkS i).2.1+64∧(wrap=false∨db (db (brkS i).2.2 gap) (gI l i)≤room) then ((brkS i).1,(brkS i).2.1,db (db (brkS i).2.2 gap) (gI l i))
    else ((brkS i).1++[((brkS i).2.1,i)],i,cut (gI l i))
def bL:List (Nat×Nat):=if (brkS l room gap wrap l.length).2.1<l.length then (brkS l room gap wrap l.length).1++[((brkS l room gap wrap l.length).2.1,l.length)] else (brkS l room gap wrap l.length).1
variable {l room gap wrap} {i f:Nat} {o:List (Nat×Nat)} {n x:Int}
theorem Hm (h:brkS l room gap wrap i=(o,f,n)) (hx:l[i]?=some x) (he:i=f):brkS l room gap wrap (i+1)=(o,f,cut x):=by
  rw[brkS,h,gF hx];simp[he]
theorem zO (h:brkS l room gap wrap i=(o,f,n)) (hx:l[i]?=some x) (he:i≠f) (h1:i<f+64) (h2:wrap=false∨db (db n gap) x≤room):brkS l room gap wrap (i+1)=(o,f,db (db n gap) x):=by
  rw[brkS,h,gF hx];simp only;rw[if_neg he,if_pos ⟨h1,h2⟩]
theorem yd (h:brkS l room gap wrap i=(o,f,n)) (hx:l[i]?=some x) (he:i≠f) (h2:¬(i<f+64∧(wrap=false∨db (db n gap) x≤room))):brkS l room gap wrap (i+1)=(o++[(f,i)],i,cut x):=by
  rw[brkS,h,gF hx];simp only;rw[if_neg he,if_neg h2]
theorem oq:∀i,(brkS l room gap wrap i).2.1≤i
  | 0=>Nat.le_refl _
  | i + 1 => by
    have h:=oq i;rw[brkS]
    repeat' split
    all_goals simp only;omega
theorem Rv:∀i,(brkS l room gap wrap (i+1)).2.1≤i:=fun i=>by
  have h:=oq (l:=l) (room:=room) (gap:=gap) (wrap:=wrap) i;rw[brkS]
  repeat' split
  all_goals simp only;omega
theorem Cj (h:brkS l room gap wrap l.length=(o,f,n)) (hf:f<l.length):bL l room gap wrap=o++[(f,l.length)]:=by
  unfold bL;rw[h];simp[hf]
theorem F1:∀(i:Nat) (m:Nat),m≤(brkS l room gap wrap i).1.length→∀j,i≤j→(brkS l room gap wrap j).1.take m=(brkS l room gap wrap i).1.take m∧(brkS l room gap wrap i).1.length≤(brkS l room gap wrap j).1.length:=by
  intro i m hm j hj;induction j with
  | zero => obtain rfl : i = 0 := by omega
            exact⟨rfl,Nat.le_refl _⟩
  | succ j ih =>
    by_cases e:i=j+1
    · subst e;exact⟨rfl,Nat.le_refl _⟩
    · obtain ⟨h1, h2⟩ := ih (by omega)
      rw[brkS]
      split
      · exact⟨h1,h2⟩
      · split
        · exact⟨h1,h2⟩
        · simp only
          refine⟨?_,by rw[List.length_append];omega⟩;rw[List.take_append_of_le_length (by omega)];exact h1
theorem s0 (h:brkS l room gap wrap (i+1)=(o++[(f,i)],i,n)) (hi:i<l.length):(bL l room gap wrap)[o.length]?=some (f,i):=by
  have h1:=F1 (l:=l) (room:=room) (gap:=gap) (wrap:=wrap) (i+1) (o.length+1) (by rw[h];simp) l.length (by omega);rw[h] at h1;simp only[List.length_append,List.length_singleton] at h1;have h2:(brkS l room gap wrap l.length).1[o.length]?=some (f,i):=by
    have h3:((brkS l room gap wrap l.length).1.take (o.length+1))[o.length]?=some (f,i):=by
      rw[h1.1,List.take_of_length_le (by simp),List.getElem?_append_right (Nat.le_refl _)];simp
    rw[List.getElem?_take,if_pos (by omega)] at h3;exact h3
  unfold bL
  split
  · rw[List.getElem?_append_left (List.getElem?_eq_some_iff.1 h2).1];exact h2
  · exact h2
theorem Av (h:brkS l room gap wrap l.length=(o,f,n)) (hf:f<l.length):(bL l room gap wrap)[o.length]?=some (f,l.length)∧(bL l room gap wrap).length=o.length+1:=by
  rw[Cj h hf];constructor
  · rw[List.getElem?_append_right (Nat.le_refl _)];simp
  · simp
theorem vB:∀i,(brkS l room gap wrap i).1.length≤(brkS l room gap wrap i).2.1
  | 0=>Nat.le_refl _
  | i + 1 => by
    have h:=vB i;have h2:=oq (l:=l) (room:=room) (gap:=gap) (wrap:=wrap) i;rw[brkS]
    split
    · exact h
    · split
      · exact h
      · simp only[List.length_append,List.length_singleton];omega
theorem xz:(bL l room gap wrap).length≤l.length:=by
  have h:=vB (l:=l) (room:=room) (gap:=gap) (wrap:=wrap) l.length;have h2:=oq (l:=l) (room:=room) (gap:=gap) (wrap:=wrap) l.length;unfold bL
  split
  · simp only[List.length_append,List.length_singleton];omega
  · omega
end
def qW (p:Nat×Nat):List Value:=[.int .i64 (p.1:Int),.int .i64 (p.2:Int)]
section
variable {kind left n:Int}
theorem tx {k:Int} (h:-1099511627776≤left∧left≤1099511627776):-1099511627776≤cY kind left n k∧cY kind left n k≤1099511627776:=by
  unfold cY mw
  repeat' split
  all_goals first | exact h | exact Db _ _ | omega
theorem afo (k:Int) (h:fT kind left n=1):cY kind left n k=left:=by unfold cY;rw[if_pos h]
theorem agc (k:Int) (h:fT kind left n=2):cY kind left n k=l8 left 2:=by unfold cY;rw[if_neg (by omega),if_pos h]
theorem agD (k:Int) (h:fT kind left n=3):cY kind left n k=mw left k (n - 1):=by unfold cY;rw[if_neg (by omega),if_neg (by omega),if_pos h]
theorem aeW (k:Int) (h:fT kind left n=4):cY kind left n k=mw left (2*k+1) (2*n):=by unfold cY;rw[if_neg (by omega),if_neg (by omega),if_neg (by omega),if_pos h]
theorem afx (k:Int) (h:fT kind left n=5):cY kind left n k=mw left (k+1) (n+1):=by unfold cY;rw[if_neg (by omega),if_neg (by omega),if_neg (by omega),if_neg (by omega),if_pos h]
theorem afy (k:Int) (h1:fT kind left n≠1) (h2:fT kind left n≠2) (h3:fT kind left n≠3) (h4:fT kind left n≠4) (h5:fT kind left n≠5):cY kind left n k=0:=by unfold cY;rw[if_neg h1,if_neg h2,if_neg h3,if_neg h4,if_neg h5]
end
section
variable {kind left gap:Int} {l:List Int} {k:Nat} {x:Int}
theorem BA (kind:Int) (l:List Int) (room gap:Int):(dO kind l room gap).length=l.length:=by simp[dO]
theorem Ga (hx:l[k]?=some x):db (qx kind left gap l k) x=C5 kind left gap l (k+1):=by rw[C5,gF hx];rfl
theorem sL {kind:Int} {l:List Int} {room gap:Int} {k:Nat} (h:k<l.length):(dO kind l room gap)[k]?=some (qx kind (cr room (fV l gap)) gap l k):=by simp[dO,h]
theorem zw (kind:Int) (l:List Int) (room gap:Int) {k:Nat} (h:k<l.length):(dO kind l room gap).take (k+1)=(dO kind l room gap).take k++[qx kind (cr room (fV l gap)) gap l k]:=l6 (by simp[dO,h])
end
end Go.Proofs.YtbedndijejpcaaaGreat
