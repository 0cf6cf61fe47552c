/- Grown Law Open FActs PaintPure PaintLaw MapR TreeNew -/
import Derived.Test.YtbedndijejpcaaaGreatRows
import Derived.Deep.Fields
import Derived.Deep.Slices
import Derived.Maps.RangeRun
import Derived.OpenShut
import Derived.ProofKit
import Derived.Test.YtbedndijejpcaaaGreatH21
set_option linter.unusedVariables false
set_option linter.unusedSimpArgs false
set_option linter.unusedSectionVars false
set_option maxRecDepth 100000
set_option maxHeartbeats 8000000
namespace Go.Proofs.YtbedndijejpcaaaGreat
open Go.RowKit
abbrev AC:={a:Act (List Value) // bZ a.sty}
abbrev s5:AC→List Value:=fun a=>Ko a.1
def AF (l:List AC):ar (List Value):=u7 aR bg (nz aR) (l.map (·.1))
theorem q8 (l:List AC):∃d,WF (AF l) d:=FF aR bg _
theorem rP {l:List AC} {k:Nat} {x:AC} (h:l[k]?=some x):AF (l.take (k+1))=kQ aR bg (AF (l.take k)) x.1:=by
  rw[df h,AF,List.map_append];exact DU aR bg _ _ _
theorem Ig (x:AC):(s5 x).length=59:=by simp[Ko,x.2.len]
section
variable {F:ar (List Value)} {d d':Int→Nat} {G:ar (List Value)}
theorem WF.KC (h:WF F d) (hG:WF G d') (i:Int) (hs:∀x,aK G x=true→x=i∨aK F x=true):jK G≤jK F+1:=by
  have := gG (l := order G) (m := i :: order F) hG.fB (fun x hx => by
    rcases hs x (hG.bw.1 hx) with rfl | h1
    · simp
    · exact List.mem_cons_of_mem _ (h.bw.2 h1))
  simp only[List.length_cons] at this;unfold jK;omega
theorem FI {up id:Int} {k:Nat} {z:List Value} {x:Int} (h:aK (addG F up k id z) x=true):x=id∨aK F x=true:=by
  unfold aK addG at h
  split at h
  · rename_i e;right;subst e;simpa [aK] using h
  · split at h
    · left;assumption
    · right;exact h
theorem Hu (id up:Int) (k:Nat) (x:Int):aK (movG F id up k) x=aK F x:=by simp[aK,movG]
theorem H8 (id:Int) (s:List Value) (x:Int):aK (setG F id s) x=aK F x:=by
  unfold aK setG
  split
  · rename_i e;subst e;simp
  · rfl
theorem Hj {id x:Int} (h:aK (remG F id) x=true):aK F x=true:=by
  unfold aK remG at h
  split at h
  · cases h
  · simpa [aK] using h
theorem WF.KG (h:WF F d) (a:Act (List Value)):jK (kQ aR bg F a)≤jK F+1:=by
  obtain⟨d',h'⟩:=h.act aR bg a;refine h.KC h' (least F) (fun x hx=>?_);unfold kQ at hx
  split at hx
  · right
    unfold Go.Proofs.YtbedndijejpcaaaGreat.remR at hx
    split at hx
    · exact hx
    · split at hx
      · exact hx
      · exact Hj hx
  · split at hx
    · right
      unfold Go.Proofs.YtbedndijejpcaaaGreat.movR at hx
      repeat' split at hx
      all_goals first | exact hx | (rw[Hu] at hx;exact hx)
    · split at hx
      · right
        unfold Go.Proofs.YtbedndijejpcaaaGreat.setR at hx
        repeat' split at hx
        all_goals first | exact hx | (rw[H8] at hx;exact hx)
      · unfold Go.Proofs.YtbedndijejpcaaaGreat.addR at hx
        repeat' split at hx
        all_goals first | exact .inr hx | exact FI hx
end
theorem FU (l:List AC):∀k≤l.length,jK (AF (l.take k))≤1+k
  | 0, _ => by
    show jK (nz aR)≤_;have h:jK (nz aR)=1:=by kernel_rfl
    omega
  | k + 1, hk => by
    obtain⟨x,hx⟩:∃x,l[k]?=some x:=⟨_,List.getElem?_eq_getElem (by omega)⟩;obtain⟨d,hd⟩:=q8 (l.take k);have h1:=hd.KG x.1;have h2:=FU l k (by omega);rw[rP hx];push_cast at*;omega
def di (F:ar (List Value)):Prop:=∀x b,F x=some b→GS b.sty
theorem di.st {F:ar (List Value)} (h:di F) (x:Int):GS (ah F x):=by
  unfold ah pt
  split
  · rename_i b hb;exact h x b hb
  · exact GS.zero
theorem di.new:di (nz aR):=fun x b h=>by
  unfold nz at h
  split at h
  · cases h;exact GS.zero
  · cases h
theorem di.addG {F:ar (List Value)} (h:di F) (up:Int) (k:Nat) (id:Int) {z:List Value} (hz:GS z):di (addG F up k id z):=fun x b hb=>by
  unfold Go.Proofs.YtbedndijejpcaaaGreat.addG at hb
  split at hb
  · obtain ⟨c, hc, rfl⟩ := Option.map_eq_some_iff.1 hb
    exact h _ c hc
  · split at hb
    · cases hb;exact hz
    · exact h x b hb
theorem di.remG {F:ar (List Value)} (h:di F) (id:Int):di (remG F id):=fun x b hb=>by
  unfold Go.Proofs.YtbedndijejpcaaaGreat.remG at hb
  split at hb
  · cases hb
  · obtain ⟨c, hc, rfl⟩ := Option.map_eq_some_iff.1 hb
    split<;>exact h x c hc
theorem di.movG {F:ar (List Value)} (h:di F) (id up:Int) (k:Nat):di (movG F id up k):=fun x b hb=>by
  unfold Go.Proofs.YtbedndijejpcaaaGreat.movG at hb;obtain⟨c,hc,rfl⟩:=Option.map_eq_some_iff.1 hb;exact h x c hc
theorem di.setG {F:ar (List Value)} (h:di F) (id:Int) {s:List Value} (hs:GS s):di (setG F id s):=fun x b hb=>by
  unfold Go.Proofs.YtbedndijejpcaaaGreat.setG at hb
  split at hb
  · obtain ⟨c, hc, rfl⟩ := Option.map_eq_some_iff.1 hb
    exact hs
  · exact h x b hb
theorem di.addR {F:ar (List Value)} (h:di F) (up at_:Int):di (addR aR F up at_).1:=by
  unfold Go.Proofs.YtbedndijejpcaaaGreat.addR
  repeat' split
  all_goals first | exact h | exact h.addG _ _ _ GS.zero
theorem di.setR {F:ar (List Value)} (h:di F) (id:Int) {s:List Value} (hs:bZ s):di (setR bg F id s).1:=by
  unfold Go.Proofs.YtbedndijejpcaaaGreat.setR
  split
  · exact h
  · split
    · exact h
    · rename_i hv
      exact h.setG id (GS.of hs (by simpa using hv))
theorem di.act {F:ar (List Value)} (h:di F) (a:Act (List Value)) (hs:bZ a.sty):di (kQ aR bg F a):=by
  unfold kQ
  split
  · unfold Go.Proofs.YtbedndijejpcaaaGreat.remR
    repeat' split
    all_goals first | exact h | exact h.remG _
  · split
    · unfold Go.Proofs.YtbedndijejpcaaaGreat.movR
      repeat' split
      all_goals first | exact h | exact h.movG _ _ _
    · split
      · exact h.setR _ hs
      · exact h.addR _ _
theorem CP (l:List AC):∀k≤l.length,di (AF (l.take k))
  | 0,_=>di.new
  | k + 1, hk => by
    obtain⟨x,hx⟩:∃x,l[k]?=some x:=⟨_,List.getElem?_eq_getElem (by omega)⟩;rw[rP hx];exact(CP l k (by omega)).act x.1 x.2
theorem qg (l:List AC):di (AF l):=by
  have h:=CP l l.length (Nat.le_refl _)
  rwa [List.take_of_length_le (Nat.le_refl _)] at h
theorem kO {F:ar (List Value)} {d:Int→Nat} (hF:WF F d) {n:Nat} (h:jK F≤n) (x:Int):(aH F x).length≤n:=by
  cases e:F x with
  | none=>simp[aH,e]
  | some b =>
    rw[cj e];have h1:=gG (l:=b.kids) (m:=order F) (hF.nodup x b e) fun k hk=>by
      obtain⟨_,c,hc,_⟩:=hF.kid x b e k hk;exact hF.bw.2 (cG hc)
    unfold jK at h;omega
theorem ka (l:List AC):jK (AF l)≤1+l.length:=by
  have h:=FU l l.length (Nat.le_refl _)
  rwa [List.take_of_length_le (Nat.le_refl _)] at h
def iu (p:Int×Int):Prop:=(p.1=1→-1048576≤p.2∧p.2≤1048576)∧(p.1=2→p.2≤10000)
def Dq (s:List Value):List (Int×Int):=[(val s 3,val s 4),(val s 5,val s 6),(val s 7,val s 8),(val s 9,val s 10),(val s 11,val s 12),(val s 13,val s 14),(val s 41,val s 42),(val s 15,val s 16),(val s 23,val s 24),(val s 17,val s 18),(val s 25,val s 26),(val s 19,val s 20),(val s 27,val s 28),(val s 21,val s 22),(val s 29,val s 30)]
def UH (s:List Value):Prop:=∀p∈Dq s,iu p
abbrev rv (p:Int×Int):List Value:=[.int .i64 p.1,.int .i64 p.2]
theorem JG (s:List Value) (hs:bZ s):Ct Tryz.prog 53 #[.agg s.toArray] [] (fun _=>True) (X:=Bool) (fun b=>.bool b) (fun b=>b=true→UH s) (fun _=>[]):=by
  refine Ci fun w0 _=>?_;refine gg ?_;refine aj.ef (xB (us:=s)) fun b1=>?_;refine gg ?_;refine vl (gC hs 3 4) ?_;refine gg ?_;refine vl (gC hs 5 6) ?_;refine gg ?_;refine vl (gC hs 7 8) ?_;refine gg ?_;refine vl (gC hs 9 10) ?_;refine gg ?_;refine vl (gC hs 11 12) ?_;refine gg ?_;refine vl (gC hs 13 14) ?_;refine gg ?_;refine vl (gC hs 41 42) ?_;refine aj.ef (xN rfl (us:=[.int .i64 _,.int .i64 _,.int .i64 _,.int .i64 _,.int .i64 _,.int .i64 _,.int .i64 _,.int .i64 _,.int .i64 _,.int .i64 _,.int .i64 _,.int .i64 _,.int .i64 _,.int .i64 _])) fun g20=>?_;refine gg ?_;refine WP.jH 5 ?_;refine fS.succ ?_;refine gg ?_;refine WP.aQ rfl ?_;refine gg ?_;refine wP none [0] [pT 0,pT 1,pT 2,pT 3,pT 4,pT 5,pT 6,pT 7,pT 8,pF 9,pF 10,pT 11] ?_;refine gg ?_;refine tD (gC hs 15 16) ?_;refine gg ?_;refine tD (gC hs 23 24) ?_;refine dE (xN rfl (us:=[.int .i64 _,.int .i64 _,.int .i64 _,.int .i64 _])) fun g34=>?_;refine dE (xP 1 2) fun⟨A35,c35⟩=>?_;refine iX ?_;refine aj.nil (aI ?_);refine fS.succ ?_;refine gg ?_;refine WP.aQ rfl ?_;refine gg ?_;refine wP none [0,2] [pT 0,pT 1,pT 2,pT 3,pT 4,pT 5,pT 6,pT 7,pT 8,pF 9,pF 10,pT 11] ?_;refine gg ?_;refine tD (gC hs 17 18) ?_;refine gg ?_;refine tD (gC hs 25 26) ?_;refine dE (xN rfl (us:=[.int .i64 _,.int .i64 _,.int .i64 _,.int .i64 _])) fun g34=>?_;refine dE (xP 1 3) fun⟨A35,c35⟩=>?_;refine iX ?_;refine aj.nil (aI ?_);refine fS.succ ?_;refine gg ?_;refine WP.aQ rfl ?_;refine gg ?_;refine wP none [0,2,3] [pT 0,pT 1,pT 2,pT 3,pT 4,pT 5,pT 6,pT 7,pT 8,pF 9,pF 10,pT 11] ?_;refine gg ?_;refine tD (gC hs 19 20) ?_;refine gg ?_;refine tD (gC hs 27 28) ?_;refine dE (xN rfl (us:=[.int .i64 _,.int .i64 _,.int .i64 _,.int .i64 _])) fun g34=>?_;refine dE (xP 1 4) fun⟨A35,c35⟩=>?_;refine iX ?_;refine aj.nil (aI ?_);refine fS.succ ?_;refine gg ?_;refine WP.aQ rfl ?_;refine gg ?_;refine wP none [0,2,3,4] [pT 0,pT 1,pT 2,pT 3,pT 4,pT 5,pT 6,pT 7,pT 8,pF 9,pF 10,pT 11] ?_;refine gg ?_;refine tD (gC hs 21 22) ?_;refine gg ?_;refine tD (gC hs 29 30) ?_;refine dE (xN rfl (us:=[.int .i64 _,.int .i64 _,.int .i64 _,.int .i64 _])) fun g34=>?_;refine dE (xP 1 5) fun⟨A35,c35⟩=>?_;refine iX ?_;refine aj.nil (aI ?_);refine fS.succ ?_;refine gg ?_;refine WP.br rfl ?_;refine WP.exit (an ?_);refine gg ?_;refine WP.bm (X:=Nat) [3] (fun k=>[(5,.int .i64 (k:Int))]) (fun k w=>(k≤15∧∀j p,j<k→(Dq s)[j]?=some p→iu p)∧St w0 (ay []) [.cl b1 42 s,.row 33 2 A35 15 c35 ((Dq s).flatMap rv)] w) (fun k=>15 - k) 0 ⟨rfl,trivial⟩ (fun w hw=>⟨⟨Nat.zero_le _,fun j p h=>by omega⟩,(hw.sel [0,1] (by decide))⟩) (fun k ρ0=>?_);refine WP.fact (fun⟨hkn,hall⟩=>?_);refine gg ?_;refine WP.aw rfl (fun h39=>?_) (fun h39=>?_)
  ·obtain⟨q,hq⟩:∃q,(Dq s)[k]?=some q:=⟨_,List.getElem?_eq_getElem (by show k<15;omega)⟩;refine WP.holds (fun w hw=>hw.aM (i:=1) rfl (by omega)) (fun⟨pb,hA⟩=>?_);subst hA;refine uw ?_;refine vl (ai (u:=.int .i64 q.1) Tryz.isAgg31 rfl (fun w hw=>hw.bh (i:=1) (k:=k*2+0) rfl (bT rv 2 (fun _=>rfl) _ k 0 q _ hq rfl) (by omega))) ?_;refine bW ?_;refine aj.split 48 rfl (fun h48=>?_) (fun h48=>?_)
   ·refine bS ?_;refine vg (ai (u:=.int .i64 q.2) Tryz.isAgg3 rfl (fun w hw=>hw.bh (i:=1) (k:=k*2+1) rfl (bT rv 2 (fun _=>rfl) _ k 1 q _ hq rfl) (by omega))) ?_;refine bW ?_;refine aj.split 55 rfl (fun h55=>?_) (fun h55=>?_)
    ·refine gg ?_;refine WP.aQ rfl ?_;refine gg ?_;exact aT fun w hw=>by first | exact⟨false,rfl,(fun h=>by cases h),hw.pk⟩ | exact⟨true,rfl,(fun _ p hp=>by obtain⟨j,hj⟩:=List.getElem?_of_mem hp;exact hall j p (List.getElem?_eq_some_iff.1 hj).1 hj),hw.pk⟩
    ·refine bS ?_;refine vg (ai (u:=.int .i64 q.2) Tryz.isAgg3 rfl (fun w hw=>hw.bh (i:=1) (k:=k*2+1) rfl (bT rv 2 (fun _=>rfl) _ k 1 q _ hq rfl) (by omega))) ?_;refine bS ?_;refine aj.split 64 rfl (fun h64=>?_) (fun h64=>?_)
     ·refine gg ?_;refine WP.aQ rfl ?_;refine gg ?_;exact aT fun w hw=>by first | exact⟨false,rfl,(fun h=>by cases h),hw.pk⟩ | exact⟨true,rfl,(fun _ p hp=>by obtain⟨j,hj⟩:=List.getElem?_of_mem hp;exact hall j p (List.getElem?_eq_some_iff.1 hj).1 hj),hw.pk⟩
     ·refine bS ?_;refine vg (ai (u:=.int .i64 q.1) Tryz.isAgg31 rfl (fun w hw=>hw.bh (i:=1) (k:=k*2+0) rfl (bT rv 2 (fun _=>rfl) _ k 0 q _ hq rfl) (by omega))) ?_;refine bW ?_;refine aj.split 71 rfl (fun h71=>?_) (fun h71=>?_)
      ·refine bS ?_;refine vg (ai (u:=.int .i64 q.2) Tryz.isAgg3 rfl (fun w hw=>hw.bh (i:=1) (k:=k*2+1) rfl (bT rv 2 (fun _=>rfl) _ k 1 q _ hq rfl) (by omega))) ?_;refine gg ?_;refine WP.cond rfl (fun h79=>?_) (fun h79=>?_)
       ·refine gg ?_;exact aT fun w hw=>by first | exact⟨false,rfl,(fun h=>by cases h),hw.pk⟩ | exact⟨true,rfl,(fun _ p hp=>by obtain⟨j,hj⟩:=List.getElem?_of_mem hp;exact hall j p (List.getElem?_eq_some_iff.1 hj).1 hj),hw.pk⟩
       ·have h79n:=of_decide_eq_false h79;have hok:iu q:=by unfold iu;omega
        refine cR ?_;exact nl fun w hw=>⟨rfl,k+1,(by omega),⟨rfl,jS,trivial⟩,⟨⟨by omega,fun j p h hp=>by rcases Nat.lt_succ_iff_lt_or_eq.1 h with h | rfl;exact hall j p h hp;rw[hq] at hp;cases hp;exact hok⟩,hw.pk⟩⟩
      ·refine gg ?_;have hok:iu q:=by unfold iu;omega
       refine WP.br rfl ?_;refine cR ?_;exact nl fun w hw=>⟨rfl,k+1,(by omega),⟨rfl,jS,trivial⟩,⟨⟨by omega,fun j p h hp=>by rcases Nat.lt_succ_iff_lt_or_eq.1 h with h | rfl;exact hall j p h hp;rw[hq] at hp;cases hp;exact hok⟩,hw.pk⟩⟩
   ·iterate 14 refine sk ?_
    iterate 2 refine av ?_
    iterate 4 refine ag ?_
    refine vg (ai (u:=.int .i64 q.1) Tryz.isAgg31 rfl (fun w hw=>hw.bh (i:=1) (k:=k*2+0) rfl (bT rv 2 (fun _=>rfl) _ k 0 q _ hq rfl) (by omega))) ?_;refine bW ?_;refine aj.split 71 rfl (fun h71=>?_) (fun h71=>?_)
    ·refine bS ?_;refine vg (ai (u:=.int .i64 q.2) Tryz.isAgg3 rfl (fun w hw=>hw.bh (i:=1) (k:=k*2+1) rfl (bT rv 2 (fun _=>rfl) _ k 1 q _ hq rfl) (by omega))) ?_;refine gg ?_;refine WP.cond rfl (fun h79=>?_) (fun h79=>?_)
     ·refine gg ?_;exact aT fun w hw=>by first | exact⟨false,rfl,(fun h=>by cases h),hw.pk⟩ | exact⟨true,rfl,(fun _ p hp=>by obtain⟨j,hj⟩:=List.getElem?_of_mem hp;exact hall j p (List.getElem?_eq_some_iff.1 hj).1 hj),hw.pk⟩
     ·have h79n:=of_decide_eq_false h79;have hok:iu q:=by unfold iu;omega
      refine cR ?_;exact nl fun w hw=>⟨rfl,k+1,(by omega),⟨rfl,jS,trivial⟩,⟨⟨by omega,fun j p h hp=>by rcases Nat.lt_succ_iff_lt_or_eq.1 h with h | rfl;exact hall j p h hp;rw[hq] at hp;cases hp;exact hok⟩,hw.pk⟩⟩
    ·refine gg ?_;have hok:iu q:=by unfold iu;omega
     refine WP.br rfl ?_;refine cR ?_;exact nl fun w hw=>⟨rfl,k+1,(by omega),⟨rfl,jS,trivial⟩,⟨⟨by omega,fun j p h hp=>by rcases Nat.lt_succ_iff_lt_or_eq.1 h with h | rfl;exact hall j p h hp;rw[hq] at hp;cases hp;exact hok⟩,hw.pk⟩⟩
  ·obtain rfl:k=15:=by omega
   refine WP.exit (an ?_);refine gg ?_;exact aT fun w hw=>by first | exact⟨false,rfl,(fun h=>by cases h),hw.pk⟩ | exact⟨true,rfl,(fun _ p hp=>by obtain⟨j,hj⟩:=List.getElem?_of_mem hp;exact hall j p (List.getElem?_eq_some_iff.1 hj).1 hj),hw.pk⟩
end Go.Proofs.YtbedndijejpcaaaGreat
namespace Go.Proofs.YtbedndijejpcaaaGreat
open Go.ChangeShapes Go.WideShapes Go.ChangeAt Go.RowKit Go.Deep
theorem own:ownKnob Tryz.prog.godebug=none:=by kernel_rfl
theorem laidOut:laidOutB Tryz.prog=true:=by kernel_rfl
theorem yQ {H:Type} {enc:TypeId×Value→H} {P:Program} {W W':World} (hl:laidOutB P=true) (hb:Below W.heap.size W W'):∀{ts:List TypeId} {vs:List Value} {ds:List (DataW H)} {ps:List MemPlace},
    ts.all (fun t=>P.readableRec t&&decide (t<P.types.size))=true→DataW.TrodAll enc P W 0 (fun _=>true) true ts vs ds ps→(∀x∈ps,x.block<W.heap.size)→DataW.TrodAll enc P W' 0 (fun b=>decide (b<W.heap.size)) true ts vs ds ps
  | [], _, _, _, _, h, _ => by
    obtain⟨rfl,rfl,rfl⟩:=trodAll_nil h;exact trodAll_mk0
  | t :: ts, _, _, _, ht, h, hp => by
    obtain⟨v,vs,d,ds,p,q,rfl,rfl,rfl,h1,h2⟩:=trodAll_cons h;simp only[List.all_cons,Bool.and_eq_true,decide_eq_true_eq] at ht;exact⟨p,q,Below.trod hl ht.1.1 ht.1.2 h1 hb (fun x hx=>hp x (List.mem_append_left _ hx)),yQ hl hb (by simpa using ht.2) h2 (fun x hx=>hp x (List.mem_append_right _ hx)),rfl⟩
theorem mz {H:Type} {enc:TypeId×Value→H} {P:Program} {f:Func} {s:ChangeSpec} {W W':World} {args:Array Value} {ds gs:List (DataW H)} {before:List MemPlace} {tb:TypeId} (hl:laidOutB P=true)
    (hW:DataW.Whole enc P f.params.toList s.vars false W args.toList ds gs before) (hvars:s.vars=[]) (hty:f.params.toList.all (fun t=>P.readableRec t&&decide (t<P.types.size))=true) (hres:f.resultTypes=#[tb]) (htb:P.underlying tb=some .bool)
    (hs:gs=[]→s.fn H ds={results:=[.lit (.bool true)],args:=ds}) (hb:Below W.heap.size W W'):s.post enc P f false true false false W args (.bool true) W':=by
  have hW':=hW;have hlt:∀x∈before,x.block<W.heap.size:=fun x hx=>by simpa using hW.lt x hx
  obtain⟨p,q,hA,hV,rfl,hfz,hnd⟩:=hW;rw[hvars] at hV;obtain⟨rfl,rfl⟩:=trodVars_none hV;have e:=hs rfl;refine⟨ds,[],p++[],[],p,[],hW',?_,?_,?_,hb.frame _,fun h=>by cases h⟩
  · rw [List.append_nil, e, hres]
    exact trodAll_mk1 (shut_bool htb true)
  · rw [List.append_nil, e]
    exact yQ hl hb hty hA (fun x hx=>hlt x (List.mem_append_left _ hx))
  · rw [List.append_nil, e, hvars]
    exact rfl
theorem PU {α:Type} {enc:α→List Value} {sz:Nat} {w:World} {a:Addr} (h0:∀x:α,∃u,(enc x)[0]?=some u) (len:Nat)
    (h:∀i,i<len→∃x:α,∀j u,(enc x)[j]?=some u→w.cell? (a.add (i*sz+j))=some u):∃l:List α,l.length=len∧jL w (some a) sz enc l:=by
  have key:∀n,n≤len→∃l:List α,l.length=n∧∀k x,l[k]?=some x→∀j u,(enc x)[j]?=some u→w.cell? (a.add (k*sz+j))=some u:=by
    intro n;induction n with
    | zero=>exact fun _=>⟨[],rfl,by simp⟩
    | succ n ih =>
      intro hn;obtain⟨l,hl,hc⟩:=ih (by omega);obtain⟨x,hx⟩:=h n (by omega);refine⟨l++[x],by simp[hl],fun k y hy j u hu=>?_⟩
      by_cases hk:k<n
      · rw [List.getElem?_append_left (by omega)] at hy
        exact hc k y hy j u hu
      · have hkl := (List.getElem?_eq_some_iff.1 hy).1
        simp at hkl;obtain rfl:k=n:=by omega
        rw[List.getElem?_append_right (by omega),hl,Nat.sub_self] at hy;cases hy;exact hx j u hu
  obtain⟨l,hl,hc⟩:=key len (Nat.le_refl _);refine⟨l,hl,fun k x hx=>?_⟩;have hpos:0<l.length:=by have:=(List.getElem?_eq_some_iff.1 hx).1;omega
  obtain⟨u0,hu0⟩:=h0 l[0];have h1:=hc 0 l[0] (List.getElem?_eq_getElem hpos) 0 u0 hu0;obtain⟨b,o,s⟩:=a;have hs:s=none:=by
    cases s with
    | none=>rfl
    | some k =>
      simp only[Nat.zero_mul,Nat.add_zero,Addr.add,if_true,World.cell?] at h1
      split at h1<;>simp at h1
  subst hs;refine⟨b,o,rfl,fun j u hu=>?_⟩;have h2:=hc k x hx j u hu;rw[Addr.add_lit] at h2;rw[Nat.add_assoc];exact h2
section
variable {H:Type} {enc:TypeId×Value→H} {P:Program} {W:World} {base b0:Nat} {sp:Nat→Bool} {held:Bool} {t e:TypeId} {v:Value} {d:DataW H} {p:List MemPlace} {r:Reach}
end
def Bd (v:Value):Prop:=∀z,v=.int .i64 z→-9223372036854775808≤z∧z≤9223372036854775807
theorem mB:∀{ks ls:List Bool} {xs ys:List Value},leavesB ks xs=true→leavesB ls ys=true→leavesB (ks++ls) (xs++ys)=true
  | [],ls,[],ys,_,h=>by simpa using h
  | k :: ks, ls, v :: vs, ys, h1, h2 => by
    simp only[leavesB,Bool.and_eq_true] at h1;simp only[List.cons_append,leavesB,Bool.and_eq_true];exact⟨h1.1,mB h1.2 h2⟩
  | [],_,_::_,_,h,_=>by simp[leavesB] at h
  | _::_,_,[],_,h,_=>by simp[leavesB] at h
theorem ju {P:Program} {t:TypeId} {n:Nat} (h:(P.info? t).map (·.size)=some n):P.cellsOf t=n:=by
  obtain⟨i,hi,rfl⟩:=Option.map_eq_some_iff.1 h;simp[Program.cellsOf,hi]
theorem tU {α:Type} (l:List α) (o a b:Nat):(l.drop o).take (a+b)=(l.drop o).take a++(l.drop (o+a)).take b:=by
  rw[List.take_add,List.drop_drop]
section
variable {H:Type} {enc:TypeId×Value→H} {P:Program} {W:World} {base:Nat} {sp:Nat→Bool} {held:Bool}
theorem tn (d n:Nat) (cs:List Value) (hrec:∀(t:TypeId) (ks:List Bool) (us:List Value) (x:DataW H×List MemPlace),leafK P d t=some ks→(P.info? t).map (·.size)=some ks.length→DataW.trod enc P W base sp held n t us=some x→leavesB ks us=true∧∀v∈us,Bd v):
    ∀ (fs : List Field) (o : Nat) (ks : List Bool), leafF (fun t => (P.info? t).map (·.size)) (leafK P d) o fs = some ks → (∀ f ∈ fs, ∃ x, DataW.trod enc P W base sp held n f.type ((cs.drop f.offset).take (P.cellsOf f.type)) = some x) →
      leavesB ks ((cs.drop o).take ks.length)=true∧∀v∈(cs.drop o).take ks.length,Bd v
  | [], o, ks, hk, _ => by
    simp only[leafF,Option.some.injEq] at hk;subst hk;simp[leavesB]
  | f :: fs, o, ks, hk, hx => by
    unfold leafF at hk;cases hf:leafK P d f.type with
    | none=>simp[hf] at hk
    | some k1 =>
      simp only[hf] at hk
      split at hk
      · rename_i hc
        obtain⟨hn,ho,hs⟩:=hc;obtain⟨k2,hk2,rfl⟩:=Option.map_eq_some_iff.1 hk;obtain⟨x,h1⟩:=hx f (by simp);rw[ho,ju hs] at h1;obtain⟨a1,a2⟩:=hrec _ _ _ _ hf hs h1;obtain⟨b1,b2⟩:=tn d n cs hrec fs (o+k1.length) k2 hk2 (fun g hg=>hx g (by simp[hg]));rw[List.length_append,tU];refine⟨mB a1 b1,fun v hv=>?_⟩
        rcases List.mem_append.1 hv with h | h
        · exact a2 v h
        · exact b2 v h
      · cases hk
theorem qG:∀(d:Nat) (t:TypeId) (ks:List Bool) (fuel:Nat) (cs:List Value) (x:DataW H×List MemPlace),leafK P d t=some ks→(P.info? t).map (·.size)=some ks.length→DataW.trod enc P W base sp held fuel t cs=some x→
    leavesB ks cs=true∧∀v∈cs,Bd v
  | 0,t,ks,_,_,_,hk,_,_=>by simp[leafK] at hk
  | d + 1, t, ks, fuel, cs, x, hk, hs, hx => by
    unfold leafK at hk;cases hu:P.underlying t with
    | none=>simp[hu] at hk
    | some k =>
      cases k<;>simp only[hu] at hk<;>try (cases hk;done)
      case bool=>
        cases hk;obtain⟨b,rfl,_⟩:=DataW.trod_bool hu hx;exact⟨rfl,fun v hv z hz=>by simp at hv;rw[hv] at hz;cases hz⟩
      case int q=>
        split at hk<;>cases hk
        rename_i hq;subst hq;obtain⟨z,rfl,_,hw⟩:=DataW.trod_int hu hx;refine⟨rfl,fun v hv y hy=>?_⟩;simp at hv;rw[hv] at hy;cases hy
        simpa [Lit.wf,IntKind.min,IntKind.max,IntKind.signed,IntKind.bits] using hw
      case struct fs=>
        split at hk
        · cases hk
        · obtain ⟨ys, n, rfl, _, hl, hyl, hf⟩ := DataW.trod_struct hu hx
          have h := tn d n cs (fun t ks us x h1 h2 h3 => qG d t ks n us x h1 h2 h3) fs.toList 0 ks hk (fun f hf' => by
            obtain ⟨i, hi⟩ := List.getElem?_of_mem hf'
            have hi' : fs[i]? = some f := by simpa using hi
            have hlt := (Array.getElem?_eq_some_iff.1 hi').1
            have h1 := hf i f hi'
            rw [List.getElem?_eq_getElem (by omega)] at h1
            exact ⟨_, h1⟩)
          rw[ju hs] at hl;rw[List.drop_zero,List.take_of_length_le (by omega)] at h;exact h
      case array n el=>
        split at hk
        · rename_i k1 hk1
          split at hk
          · rename_i hsz
            cases hk;obtain⟨ys,m,rfl,_,hl,hyl,hf⟩:=DataW.trod_array hu hx;rw[ju hs] at hl;have key:∀(j i:Nat),i+j=n→leavesB (List.replicate j k1).flatten ((cs.drop (i*k1.length)).take (j*k1.length))=true∧∀v∈(cs.drop (i*k1.length)).take (j*k1.length),Bd v:=by
              intro j;induction j with
              | zero=>intro i _;simp[leavesB]
              | succ j ih =>
                intro i hij;have h1:=hf i (by omega);rw[List.getElem?_eq_getElem (by omega),ju hsz] at h1;obtain⟨a1,a2⟩:=qG d el k1 m _ _ hk1 hsz h1;obtain⟨b1,b2⟩:=ih (i+1) (by omega);have e1:(j+1)*k1.length=k1.length+j*k1.length:=by rw[Nat.add_mul,Nat.one_mul,Nat.add_comm]
                have e2:i*k1.length+k1.length=(i+1)*k1.length:=by rw[Nat.add_mul,Nat.one_mul]
                rw[e1,tU,e2,List.replicate_succ,List.flatten_cons];refine⟨mB a1 b1,fun v hv=>?_⟩
                rcases List.mem_append.1 hv with h | h
                · exact a2 v h
                · exact b2 v h
            have h:=key n 0 (by omega);have e:(List.replicate n k1).flatten.length=n*k1.length:=by simp
            rw[Nat.zero_mul,List.drop_zero,List.take_of_length_le (by omega)] at h;exact h
          · cases hk
        · cases hk
theorem nS {t e:TypeId} {ks:List Bool} {v:Value} {x:DataW H} {p:List MemPlace} {b0:Nat} {r:Reach} {d:Nat} (ht:P.underlying t=some (.slice e)) (hk:leafK P d e=some ks) (hs:(P.info? e).map (·.size)=some ks.length) (h0:0<ks.length)
    (hv:Value.okWide P W r b0 t v) (h:DataW.Trod enc P W base sp held t v x p):∃(A:Option Addr) (l:List (List Value)) (c:Nat),v=.slice A l.length c∧jL W A ks.length (fun x=>x) l∧l.length≤c∧c≤9223372036854775807∧∀cs∈l,leavesB ks cs=true∧∀u∈cs,Bd u:=by
  obtain⟨A,len,cap,rfl⟩:=okWide_slice ht hv;obtain⟨fuel,hf⟩:=h
  rcases open_slice ht hf with ⟨hcs,_⟩ | ⟨a,len',cap',m,n,D,Pl,hcs,_,hl,hm,hmm,_,hi⟩
  · simp [Value.cells] at hcs
    obtain⟨rfl,rfl,rfl⟩:=hcs;exact⟨none,[],0,rfl,jL.nil _ _ _ _,by simp,by omega,by simp⟩
  · simp [Value.cells] at hcs
    obtain⟨rfl,rfl,rfl⟩:=hcs;have hlm:len≤m:=by rw[hmm];split<;>omega
    let α:={cs:List Value // leavesB ks cs=true∧∀u∈cs,Bd u}
    obtain ⟨l, hll, hrd⟩ := PU (α := α) (enc := fun x => x.1) (sz := ks.length) (w := W) (a := a) (fun x => by
      have := eE x.2.1
      exact ⟨_, List.getElem?_eq_getElem (by omega)⟩) len (fun i him => by
      obtain ⟨cs', hc, ht'⟩ := hi i (by omega)
      rw [ju hs] at hc
      obtain ⟨_, hcl, hat⟩ := World.cells?_some hc
      refine ⟨⟨cs', qG d e ks n cs' _ hk hs ht'⟩, fun j u hu => ?_⟩
      have hj := (List.getElem?_eq_some_iff.1 hu).1
      have h1 := hat j (by simp only at hj; omega)
      rw [← Go.Deep.add_add, h1]
      exact hu)
    refine⟨some a,l.map (·.1),cap,by simp[hll],fun k y hy=>?_,by simp;omega,by unfold maxLen at hm;omega,fun cs hcs=>?_⟩
    · rw [List.getElem?_map] at hy
      cases hx:l[k]? with
      | none=>rw[hx] at hy;cases hy
      | some z =>
        rw[hx] at hy;cases hy;exact hrd k z hx
    · obtain ⟨z, _, rfl⟩ := List.mem_map.1 hcs
      exact z.2
end
theorem jL.typed {α:Type} {ks:List Bool} {E:α→List Value} (hE:∀cs,leavesB ks cs=true→(∀u∈cs,Bd u)→∃x:α,E x=cs) {w:World} {A:Option Addr} {l:List (List Value)} (hl:∀cs∈l,leavesB ks cs=true∧∀u∈cs,Bd u) {sz:Nat} (h:jL w A sz (fun x=>x) l):
    ∃m:List α,m.map E=l∧m.length=l.length∧jL w A sz E m:=by
  have key:∀l:List (List Value),(∀cs∈l,leavesB ks cs=true∧∀u∈cs,Bd u)→∃m:List α,m.map E=l:=by
    intro l;induction l with
    | nil=>exact fun _=>⟨[],rfl⟩
    | cons c l ih =>
      intro hl;obtain⟨m,rfl⟩:=ih fun cs hcs=>hl cs (by simp[hcs]);obtain⟨x,rfl⟩:=hE c (hl c (by simp)).1 (hl c (by simp)).2;exact⟨x::m,rfl⟩
  obtain⟨m,rfl⟩:=key l hl;refine⟨m,rfl,by simp,fun k x hx=>?_⟩;exact h k (E x) (by rw[List.getElem?_map,hx];rfl)
theorem Km {cs:List Value} (h:leavesB [true] cs=true):∃z:Int,cs=[.int .i64 z]:=by
  match cs,h with
  | [v], h =>
    simp only[leavesB,Bool.and_true] at h;unfold leafB at h
    split at h<;>simp_all
  | [],h=>simp[leavesB] at h
  | _::_::_,h=>simp[leavesB] at h
theorem Ct.IH {f:FuncId} {args:Array Value} {Fact:World→Prop} (h:Ct Tryz.prog f args [] Fact (X:=Unit) (fun _=>.bool true) (fun _=>True) (fun _=>[])) {W:World} (hF:Fact W):
    Calls Tryz.prog f args W fun e W'=>e=.returned (.bool true)∧Below W.heap.size W W':=by
  refine(h W (by simp) (by simp) hF).mono ?_
  rintro e W' ⟨_,rfl,_,hs⟩
  rw[qt] at hs;exact⟨rfl,hs.below⟩
theorem im {ks:List Bool} {cs:List Value} (h:leavesB (true::ks) cs=true):∃(z:Int) (vs:List Value),cs=.int .i64 z::vs∧leavesB ks vs=true:=by
  match cs,h with
  | v :: vs, h =>
    simp only[leavesB,Bool.and_eq_true] at h;obtain⟨z,hz⟩:=Km (cs:=[v]) (by simpa [leavesB] using h.1);cases hz;exact⟨z,vs,rfl,h.2⟩
  | [],h=>simp[leavesB] at h
theorem ab9 (cs:List Value) (h:leavesB (true::true::true::true::DF) cs=true) (_:∀u∈cs,Bd u):∃x:AC,s5 x=cs:=by
  obtain⟨a,v1,rfl,h1⟩:=im h;obtain⟨b,v2,rfl,h2⟩:=im h1;obtain⟨c,v3,rfl,h3⟩:=im h2;obtain⟨d,v4,rfl,h4⟩:=im h3;exact⟨⟨⟨a,b,c,d,v4⟩,bZ.wH h4⟩,rfl⟩
theorem kU {H:Type} {enc:TypeId×Value→H} {W:World} {base:Nat} {sp:Nat→Bool} {held:Bool} {v:Value} {x:DataW H} {p:List MemPlace} {b0:Nat} {r:Reach}
    (hv:Value.okWide Tryz.prog W r b0 22 v) (h:DataW.Trod enc Tryz.prog W base sp held 22 v x p):∃(A:Option Addr) (l:List AC) (c:Nat),v=.slice A l.length c∧jL W A 59 s5 l:=by
  obtain⟨A,l,c,rfl,hrd,_,_,h3⟩:=nS Tryz.underlying22 (show leafK Tryz.prog 10 99=some (true::true::true::true::DF) by kernel_rfl) (by kernel_rfl) (by decide) hv h;obtain⟨m,_,e2,hm⟩:=jL.typed (α:=AC) (E:=s5) ab9 h3 hrd;exact⟨A,m,c,by rw[e2],hm⟩
end Go.Proofs.YtbedndijejpcaaaGreat
namespace Go.Proofs.YtbedndijejpcaaaGreat
structure PN where
  up:Int
  lay:Bool
  z:Int
def ns (L:List PN) (x:Int):Int:=if x<0 then -1 else match L[x.toNat]? with | some n=>n.up | none=>-1
def oD (L:List PN) (x:Int):Bool:=if x<0 then false else match L[x.toNat]? with | some n=>n.lay | none=>false
def zP (L:List PN) (x:Int):Int:=if x<0 then 0 else match L[x.toNat]? with | some n=>n.z | none=>0
theorem sy {L:List PN} {i:Nat} {n:PN} (h:L[i]?=some n):ns L i=n.up∧oD L i=n.lay∧zP L i=n.z:=by
  unfold ns oD zP;rw[if_neg (by omega),if_neg (by omega),if_neg (by omega),Int.toNat_natCast,h];exact⟨rfl,rfl,rfl⟩
def Ch (L:List PN):Int→List Int→Prop
  | x,[]=>x= -1
  | x,y::st=>x=y∧0≤y∧Ch L (ns L y) st
def pop (u:Int) (st:List Int):List Int:=st.dropWhile (fun y=>decide (y≠u))
theorem ry (u:Int) (st:List Int):pop u (u::st)=u::st:=by simp[pop]
theorem qX {u y:Int} (h:y≠u) (st:List Int):pop u (y::st)=pop u st:=by simp[pop,h]
theorem xn {L:List PN} {u:Int}:∀{st:List Int} {x:Int},Ch L x st→(pop u st=[]∧u∉st)∨(∃t,pop u st=u::t∧Ch L u (u::t)∧∀y∈u::t,y∈st)
  | [],_,_=>.inl ⟨rfl,by simp⟩
  | y :: st, x, h => by
    by_cases e:y=u
    · subst e
      refine .inr ⟨st,ry _ _,⟨rfl,h.2.1,h.2.2⟩,fun _ hy=>hy⟩
    · rw [qX e]
      rcases xn (u:=u) h.2.2 with ⟨h1,h2⟩ | ⟨t,h1,h2,h3⟩
      · exact .inl ⟨h1,by simp[h2,Ne.symm e]⟩
      · exact .inr ⟨t,h1,h2,fun z hz=>List.mem_cons_of_mem _ (h3 z hz)⟩
def stk (L:List PN):Nat→Option (List Int)
  | 0=>some []
  | i + 1 => match stk L i with
    | none=>none
    | some st=>if i=0 then (if ns L 0= -1 then some [0] else none) else if pop (ns L i) st=[] then none else some ((i:Int)::pop (ns L i) st)
def uv (L:List PN):Bool:=(stk L L.length).isSome
theorem sM {L:List PN}:∀{i:Nat} {st:List Int},stk L i=some st→Ch L ((i:Int) - 1) st∧∀y∈st,0≤y∧y<i
  | 0, st, h => by
    obtain rfl:[]=st:=by simpa [stk] using h
    exact⟨rfl,by simp⟩
  | i + 1, st, h => by
    rw[stk] at h;cases e:stk L i with
    | none=>rw[e] at h;cases h
    | some s =>
      rw[e] at h;simp only at h;obtain⟨h1,h2⟩:=sM e
      by_cases h0:i=0
      · subst h0
        rw[if_pos rfl] at h
        split at h
        · rename_i hu
          obtain rfl:[0]=st:=by simpa using h
          exact⟨⟨rfl,by omega,hu⟩,by simp⟩
        · cases h
      · rw [if_neg h0] at h
        rcases xn (u:=ns L i) h1 with ⟨p1,_⟩ | ⟨t,p1,p2,p3⟩
        · rw[p1,if_pos rfl] at h;cases h
        · rw [p1, if_neg (by simp)] at h
          obtain rfl:=Option.some.inj h;refine⟨⟨by omega,by omega,p2⟩,fun y hy=>?_⟩
          rcases List.mem_cons.1 hy with rfl | hy
          · omega
          · have:=h2 y (p3 y hy);omega
theorem tX {L:List PN} {i:Nat} {st:List Int} (h:stk L i=some st):(∃st',stk L (i+1)=some st')↔(if i=0 then ns L 0= -1 else ns L i∈st):=by
  obtain⟨h1,h2⟩:=sM h;rw[stk,h];simp only
  by_cases h0:i=0
  · subst h0
    by_cases hu:ns L 0= -1<;>simp[hu]
  · rw [if_neg h0, if_neg h0]
    rcases xn (u:=ns L i) h1 with ⟨p1,p2⟩ | ⟨t,p1,p2,p3⟩
    · rw[p1,if_pos rfl];simp[p2]
    · rw [p1, if_neg (by simp)]
      exact⟨fun _=>p3 _ (by simp),fun _=>⟨_,rfl⟩⟩
theorem tq {L:List PN}:∀{k i:Nat},i≤k→stk L i=none→stk L k=none
  | 0, i, h, hn => by obtain rfl : i = 0 := by omega
                      exact hn
  | k + 1, i, h, hn => by
    by_cases e:i=k+1
    · subst e;exact hn
    · rw[stk,tq (by omega:i≤k) hn]
theorem Cd {L:List PN} (h:uv L=true) {i:Nat} (hi:i≤L.length):∃st,stk L i=some st:=by
  cases e:stk L i with
  | some st=>exact⟨st,rfl⟩
  | none=>rw[uv,tq hi e] at h;cases h
theorem xM {L:List PN} {i:Nat} (hi:i≤L.length) (h:stk L i=none):uv L=false:=by rw[uv,tq hi h];rfl
structure PV (L:List PN):Prop where
  root:L≠[]→ns L 0= -1
  up:∀x:Int,0<x→x<L.length→0≤ns L x∧ns L x<x
theorem wO {L:List PN} (h:uv L=true):PV L where
  root hn:=by
    have hl:0<L.length:=List.length_pos_iff.2 hn;obtain⟨s1,e1⟩:=Cd h (i:=1) (by omega);have:=(tX (L:=L) (i:=0) (st:=[]) rfl).1 ⟨s1,e1⟩
    simpa using this
  up x h1 h2:=by
    obtain⟨i,rfl⟩:∃i:Nat,x=i:=⟨x.toNat,by omega⟩;obtain⟨st,e⟩:=Cd h (i:=i) (by omega);obtain⟨s1,e1⟩:=Cd h (i:=i+1) (by omega);have h3:=(tX e).1 ⟨s1,e1⟩;rw[if_neg (by omega)] at h3;exact(sM e).2 _ h3
def layS (L:List PN):Nat→Int→Int
  | 0,x=>x
  | k+1,x=>if 0<x∧oD L x=false then layS L k (ns L x) else x
def tJ (L:List PN) (x:Int):Int:=layS L x.toNat x
def gV (L:List PN) (x:Int):Int:=tJ L (ns L x)
section
variable {L:List PN}
theorem Cx (h:PV L):∀(k j:Nat) (x:Int),x<L.length→x.toNat≤k→x.toNat≤j→layS L k x=layS L j x
  | 0, j, x, hx, h1, h2 => by
    cases j with
    | zero=>rfl
    | succ j=>rw[layS,layS,if_neg (by omega)]
  | k+1,0,x,hx,h1,h2=>by rw[layS,layS,if_neg (by omega)]
  | k + 1, j + 1, x, hx, h1, h2 => by
    rw[layS,layS]
    split
    · rename_i hp
      have:=h.up x hp.1 hx;exact Cx h k j _ (by omega) (by omega) (by omega)
    · rfl
theorem pV (h:PV L) {x:Int} (hx:x<L.length):tJ L x=if 0<x∧oD L x=false then tJ L (ns L x) else x:=by
  unfold tJ;cases e:x.toNat with
  | zero=>rw[layS,if_neg (by omega)]
  | succ k =>
    rw[layS]
    split
    · rename_i hp
      have:=h.up x hp.1 hx;exact Cx h k _ _ (by omega) (by omega) (by omega)
    · rfl
theorem CD (h:PV L):∀(k:Nat) (x:Int),x.toNat≤k→0≤x→x<L.length→0≤tJ L x∧tJ L x≤x∧(tJ L x=0∨oD L (tJ L x)=true)
  | 0, x, hk, h0, hx => by
    rw[pV h hx,if_neg (by omega)];exact⟨h0,Int.le_refl _,.inl (by omega)⟩
  | k + 1, x, hk, h0, hx => by
    rw[pV h hx]
    split
    · rename_i hp
      have h1:=h.up x hp.1 hx;have:=CD h k (ns L x) (by omega) h1.1 (by omega);exact⟨this.1,by omega,this.2.2⟩
    · rename_i hp
      refine⟨h0,Int.le_refl _,?_⟩
      by_cases hz:x=0
      · exact .inl hz
      · refine .inr ?_
        cases e:oD L x with
        | true=>rfl
        | false=>exact absurd ⟨by omega,e⟩ hp
theorem pD (h:PV L) {x:Int} (h0:0<x) (hx:x<L.length):0≤gV L x∧gV L x<x∧(gV L x=0∨oD L (gV L x)=true):=by
  have h1:=h.up x h0 hx;have:=CD h _ (ns L x) (Nat.le_refl _) h1.1 (by omega);unfold gV;exact⟨this.1,by omega,this.2.2⟩
def qD (L:List PN) (a:Int) (k:Nat):List Int:=(((List.range k).map fun i:Nat=>(i:Int)+1)).filter fun x=>decide (gV L x=a)
def Gd (L:List PN) (a:Int):List Int:=qD L a (L.length - 1)
theorem uU (a:Int) (k:Nat):qD L a (k+1)=qD L a k++(if gV L ((k:Int)+1)=a then [(k:Int)+1] else []):=by
  unfold qD;rw[List.range_succ,List.map_append,List.filter_append];simp only[List.map_cons,List.map_nil]
  by_cases e:gV L ((k:Int)+1)=a<;>simp[e]
theorem tr {a x:Int} {k:Nat}:x∈qD L a k↔0<x∧x≤k∧gV L x=a:=by
  unfold qD;rw[List.mem_filter,List.mem_map];constructor
  · rintro ⟨⟨i, hi, rfl⟩, h⟩
    rw[List.mem_range] at hi;exact⟨by omega,by omega,by simpa using h⟩
  · rintro ⟨h1, h2, h3⟩
    exact⟨⟨(x - 1).toNat,by rw[List.mem_range];omega,by omega⟩,by simpa using h3⟩
theorem Hx {a x:Int}:x∈Gd L a↔0<x∧x<L.length∧gV L x=a:=by
  unfold Gd;rw[tr];constructor
  · rintro ⟨h1,h2,h3⟩;exact⟨h1,by omega,h3⟩
  · rintro ⟨h1,h2,h3⟩;exact⟨h1,by omega,h3⟩
theorem qv (a:Int):∀k:Nat,(qD L a k).Pairwise (·<·)
  | 0=>by simp[qD]
  | k + 1 => by
    rw[uU];refine List.pairwise_append.2 ⟨qv a k,by split<;>simp,fun x hx y hy=>?_⟩;have h1:=tr.1 hx
    split at hy
    · obtain rfl : y = _ := by simpa using hy
      omega
    · cases hy
theorem y2 (a:Int) (k:Nat):(qD L a k).length≤k:=by
  unfold qD;refine Nat.le_trans (List.length_filter_le _ _) ?_;simp
def ff (L:List PN) (x:Int):Int:=if oD L x=false then 0 else if zP L x<0 then -1 else 1
def p9 (L:List PN) (a b:Int):Prop:=ff L a<ff L b∨(ff L a=ff L b∧((ff L a≠0∧(zP L a<zP L b∨(zP L a=zP L b∧a<b)))∨(ff L a=0∧a<b)))
instance (L:List PN) (a b:Int):Decidable (p9 L a b):=by unfold p9;infer_instance
theorem CK (a:Int):¬p9 L a a:=by unfold p9;omega
theorem nq {a b c:Int} (h1:p9 L a b) (h2:p9 L b c):p9 L a c:=by unfold p9 at*;omega
theorem rY (a b:Int):p9 L a b∨a=b∨p9 L b a:=by unfold p9;omega
theorem yf {a b:Int} (h1:p9 L a b):¬p9 L b a:=fun h2=>CK a (nq h1 h2)
theorem Hn {l m:List Int} (hp:l.Perm m) (hl:l.Pairwise (p9 L)) (hm:m.Pairwise (p9 L)):l=m:=
  List.Perm.eq_of_pairwise (le:=p9 L) (fun a b _ _ h1 h2=>absurd h2 (yf h1)) hl hm hp
def DZ (L:List PN) (l:List Int):List Int:=l.mergeSort fun a b=>decide (¬p9 L b a)
theorem iG (l:List Int):(DZ L l).Perm l:=List.mergeSort_perm _ _
theorem Gk {l:List Int} (hn:l.Nodup):(DZ L l).Pairwise (p9 L):=by
  have h1 : (DZ L l).Pairwise fun a b => decide (¬ p9 L b a) = true := List.pairwise_mergeSort (fun a b c h1 h2 => by
      have h1 : ¬ p9 L b a := by simpa using h1
      have h2 : ¬ p9 L c b := by simpa using h2
      have : ¬ p9 L c a := fun h3 => by
        rcases rY (L := L) a b with h | h | h
        · exact h2 (nq h3 h)
        · subst h; exact h2 h3
        · exact h1 h
      simpa using this) (fun a b => by
      by_cases h : p9 L b a
      · simp [h, yf h]
      · simp [h]) l
  have h2:(DZ L l).Nodup:=(iG l).nodup_iff.2 hn;refine(List.pairwise_and_iff.2 ⟨h1,h2⟩).imp fun {a b} h=>?_
  rcases rY (L:=L) a b with h3 | h3 | h3
  · exact h3
  · exact absurd h3 h.2
  · have:=h.1;simp[h3] at this
theorem FQ {l m:List Int} (hn:l.Nodup) (hp:m.Perm l) (hm:m.Pairwise (p9 L)):m=DZ L l:=Hn (hp.trans (iG l).symm) hm (Gk hn)
theorem ui (a:Int):(Gd L a).Nodup:=(qv a _).imp fun h=>by omega
def ez (L:List PN) (a:Int):List Int:=DZ L (Gd L a)
theorem kz {a x:Int}:x∈ez L a↔0<x∧x<L.length∧gV L x=a:=by rw[ez,(iG _).mem_iff,Hx]
theorem BL (h:PV L) {a:Int} (ha:0<a) (hl:oD L a=false):ez L a=[]:=by
  refine List.eq_nil_iff_forall_not_mem.2 fun x hx=>?_;obtain⟨h1,h2,h3⟩:=kz.1 hx
  rcases(pD h h1 h2).2.2 with h4 | h4
  · omega
  · rw[h3,hl] at h4;cases h4
def HG (L:List PN):Nat→Int→List Int
  | 0,a=>[a]
  | k+1,a=>a::(ez L a).flatMap (HG L k)
def PT (L:List PN) (a:Int):List Int:=HG L (L.length - a.toNat) a
theorem eb (h:PV L) {a x:Int} (hx:x∈ez L a):0≤a∧a<x∧x<L.length:=by
  obtain⟨h1,h2,h3⟩:=kz.1 hx;have:=pD h h1 h2;omega
theorem mg {α β:Type} {l:List α} {f g:α→List β} (h:∀x∈l,f x=g x):l.flatMap f=l.flatMap g:=by
  induction l with
  | nil=>rfl
  | cons a l ih=>rw[List.flatMap_cons,List.flatMap_cons,h a (by simp),ih fun x hx=>h x (by simp[hx])]
theorem B5 (h:PV L):∀(k j:Nat) (a:Int),L.length - a.toNat≤k→L.length - a.toNat≤j→HG L k a=HG L j a
  | 0,0,a,_,_=>rfl
  | 0, j + 1, a, h1, h2 => by
    rw[HG,HG,show ez L a=[] from List.eq_nil_iff_forall_not_mem.2 fun x hx=>by have:=eb h hx;omega];rfl
  | k + 1, 0, a, h1, h2 => by
    rw[HG,HG,show ez L a=[] from List.eq_nil_iff_forall_not_mem.2 fun x hx=>by have:=eb h hx;omega];rfl
  | k + 1, j + 1, a, h1, h2 => by
    rw[HG,HG]
    congr 1
    refine mg fun x hx=>?_;have:=eb h hx;exact B5 h k j x (by omega) (by omega)
theorem sX (h:PV L) (a:Int):PT L a=a::(ez L a).flatMap (PT L):=by
  unfold PT;rw[B5 h (L.length - a.toNat) (L.length - a.toNat+1) a (Nat.le_refl _) (by omega),HG]
  congr 1
  refine mg fun x hx=>?_;have:=eb h hx;exact B5 h _ _ x (by omega) (Nat.le_refl _)
theorem Aj (h:PV L) {a:Int} (ha:0<a) (hl:oD L a=false):PT L a=[a]:=by rw[sX h,BL h ha hl];rfl
inductive LA (L:List PN) (a:Int):Int→Prop
  | refl:LA L a a
  | step {y:Int}:0<y→y<L.length→LA L a (gV L y)→LA L a y
theorem LA.le (h:PV L) {a y:Int} (hl:LA L a y):a≤y:=by
  induction hl with
  | refl=>exact Int.le_refl _
  | step h1 h2 _ ih=>have:=pD h h1 h2;omega
theorem LA.cons {a b y:Int} (h1:0<b) (h2:b<L.length) (h3:gV L b=a) (hl:LA L b y):LA L a y:=by
  induction hl with
  | refl=>exact .step h1 h2 (h3▸.refl)
  | step g1 g2 _ ih=>exact .step g1 g2 ih
theorem LA.kid {a y:Int} (hl:LA L a y):y=a∨∃b,b∈ez L a∧LA L b y:=by
  induction hl with
  | refl=>exact .inl rfl
  | step g1 g2 g3 ih =>
    rename_i y
    rcases ih with e | ⟨b,hb,h1⟩
    · exact .inr ⟨y,kz.2 ⟨g1,g2,e⟩,.refl⟩
    · exact .inr ⟨b,hb,.step g1 g2 h1⟩
theorem LA.up (h:PV L) {a y:Int} (hl:LA L a y) (hne:y≠a):0<y∧y<L.length∧LA L a (gV L y):=by
  cases hl with
  | refl=>exact absurd rfl hne
  | step g1 g2 g3=>exact⟨g1,g2,g3⟩
theorem qI (h:PV L):∀(k:Nat) {a y:Int},L.length - a.toNat≤k→(y∈PT L a↔LA L a y)
  | 0, a, y, hk => by
    rw[sX h,show ez L a=[] from List.eq_nil_iff_forall_not_mem.2 fun x hx=>by have:=eb h hx;omega];constructor
    · intro hy
      obtain rfl:y=a:=by simpa using hy
      exact .refl
    · intro hl
      rcases hl.kid with e | ⟨b,hb,_⟩
      · simp[e]
      · have:=eb h hb;omega
  | k + 1, a, y, hk => by
    rw[sX h,List.mem_cons,List.mem_flatMap];constructor
    · rintro (rfl | ⟨b, hb, hy⟩)
      · exact .refl
      · have h1 := eb h hb
        obtain⟨g1,g2,g3⟩:=kz.1 hb;exact((qI h k (by omega)).1 hy).cons g1 g2 g3
    · intro hl
      rcases hl.kid with e | ⟨b,hb,h2⟩
      · exact .inl e
      · have h1 := eb h hb
        exact .inr ⟨b,hb,(qI h k (by omega)).2 h2⟩
theorem LA.lin (h:PV L) {a b y:Int} (h1:LA L a y) (h2:LA L b y):LA L a b∨LA L b a:=by
  induction h1 with
  | refl=>exact .inr h2
  | step g1 g2 g3 ih =>
    rename_i y
    by_cases e:y=b
    · subst e;exact .inl (.step g1 g2 g3)
    · exact ih (h2.up h e).2.2
theorem EM (h:PV L) {a b c y:Int} (hb:b∈ez L a) (hc:c∈ez L a) (hne:b≠c) (h1:LA L b y) (h2:LA L c y):False:=by
  have hbg:=eb h hb;have hcg:=eb h hc
  rcases h1.lin h h2 with h3 | h3
  · have h4 := (h3.up h (Ne.symm hne)).2.2
    rw[(kz.1 hc).2.2] at h4;have:=h4.le h;omega
  · have h4 := (h3.up h hne).2.2
    rw[(kz.1 hb).2.2] at h4;have:=h4.le h;omega
theorem Bi (a:Int):(ez L a).Nodup:=(iG _).nodup_iff.2 (ui a)
theorem nH {f:Int→List Int}:∀{l:List Int},l.Nodup→(∀x∈l,(f x).Nodup)→(∀x∈l,∀y∈l,x≠y→∀z,z∈f x→z∈f y→False)→(l.flatMap f).Nodup
  | [],_,_,_=>by simp
  | a :: l, h1, h2, h3 => by
    rw[List.flatMap_cons,List.nodup_append];rw[List.nodup_cons] at h1;refine⟨h2 a (by simp),nH h1.2 (fun x hx=>h2 x (by simp[hx])) (fun x hx y hy=>h3 x (by simp[hx]) y (by simp[hy])),fun z hz y hy e=>?_⟩;subst e;obtain⟨b,hb,hzb⟩:=List.mem_flatMap.1 hy;exact h3 a (by simp) b (by simp[hb]) (fun e=>h1.1 (e▸hb)) z hz hzb
theorem zZ (h:PV L):∀(k:Nat) (a:Int),L.length - a.toNat≤k→(PT L a).Nodup
  | 0, a, hk => by
    rw[sX h,show ez L a=[] from List.eq_nil_iff_forall_not_mem.2 fun x hx=>by have:=eb h hx;omega];simp
  | k + 1, a, hk => by
    rw[sX h,List.nodup_cons];refine⟨fun hm=>?_,nH (Bi a) (fun x hx=>?_) (fun x hx y hy hne z hz1 hz2=>?_)⟩
    · obtain ⟨b, hb, hm⟩ := List.mem_flatMap.1 hm
      have h1:=eb h hb;have:=((qI h _ (Nat.le_refl _)).1 hm).le h;omega
    · have h1 := eb h hx
      exact zZ h k x (by omega)
    · exact EM h hx hy hne ((qI h _ (Nat.le_refl _)).1 hz1) ((qI h _ (Nat.le_refl _)).1 hz2)
theorem LA.root (h:PV L):∀(k:Nat) (y:Int),y.toNat≤k→0≤y→y<L.length→LA L 0 y
  | 0, y, hk, h0, hy => by obtain rfl : y = 0 := by omega
                           exact .refl
  | k + 1, y, hk, h0, hy => by
    by_cases e:y=0
    · subst e;exact .refl
    · have := pD h (by omega : 0 < y) hy
      exact .step (by omega) hy (LA.root h k _ (by omega) this.1 (by omega))
theorem LA.range (h:PV L) {a y:Int} (h0:0≤a) (ha:a<L.length) (hl:LA L a y):0≤y∧y<L.length:=by
  cases hl with
  | refl=>exact⟨h0,ha⟩
  | step g1 g2 _=>exact⟨by omega,g2⟩
theorem C2 (h:PV L) (hn:L≠[]) {y:Int}:y∈PT L 0↔0≤y∧y<L.length:=by
  rw[qI h _ (Nat.le_refl _)];have:=List.length_pos_iff.2 hn;exact⟨fun hl=>hl.range h (Int.le_refl _) (by omega),fun⟨h1,h2⟩=>LA.root h _ y (Nat.le_refl _) h1 h2⟩
theorem GK (h:PV L) (hn:L≠[]):(PT L 0).Perm ((List.range L.length).map fun i:Nat=>(i:Int)):=by
  refine(List.perm_ext_iff_of_nodup (zZ h _ _ (Nat.le_refl _)) ?_).2 fun y=>?_
  · refine List.Pairwise.map _ (fun a b (hab : a ≠ b) => ?_) List.nodup_range
    intro e;exact hab (by omega)
  · rw [C2 h hn, List.mem_map]
    constructor
    · rintro ⟨h1, h2⟩
      exact⟨y.toNat,by rw[List.mem_range];omega,by omega⟩
    · rintro ⟨i, hi, rfl⟩
      rw[List.mem_range] at hi;omega
theorem CQ (h:PV L) (hn:L≠[]):(PT L 0).length=L.length:=by rw[(GK h hn).length_eq];simp
theorem se {f:Int→List Int}:∀{l:List Int} {x:Int},x∈l→f x<:+:l.flatMap f
  | a :: l, x, hx => by
    rw[List.flatMap_cons]
    rcases List.mem_cons.1 hx with rfl | hx
    · exact⟨[],l.flatMap f,by simp⟩
    · obtain ⟨s, t, e⟩ := se (f := f) hx
      exact⟨f a++s,t,by rw[←e];simp⟩
end
def idxP:List Int→Int→Int
  | [],_=>-1
  | y::l,x=>if y=x then 0 else if idxP l x<0 then -1 else idxP l x+1
theorem rK:∀(l:List Int) (x:Int),-1≤idxP l x∧(0≤idxP l x↔x∈l)
  | [],x=>by simp[idxP]
  | y :: l, x => by
    obtain⟨h1,h2⟩:=rK l x;rw[idxP,List.mem_cons]
    by_cases e:y=x
    · simp[e]
    · rw [if_neg e]
      split
      · refine ⟨by omega, ⟨fun h => absurd h (by omega), fun h => ?_⟩⟩
        rcases h with h | h
        · exact absurd h.symm e
        · have:=h2.2 h;omega
      · refine⟨by omega,⟨fun _=>.inr (h2.1 (by omega)),fun _=>by omega⟩⟩
section
variable {L:List PN}
inductive UA (L:List PN) (a:Int):Int→Prop
  | refl:UA L a a
  | step {y:Int}:0<y→y<L.length→UA L a (ns L y)→UA L a y
theorem UA.up {a y:Int} (hl:UA L a y) (hne:y≠a):0<y∧y<L.length∧UA L a (ns L y):=by
  cases hl with
  | refl=>exact absurd rfl hne
  | step g1 g2 g3=>exact⟨g1,g2,g3⟩
theorem zE (h:PV L) (hp:∀x,oD L x=false) (hn:L≠[]):PT L 0=(List.range L.length).map fun i:Nat=>(i:Int):=by
  have hl:=List.length_pos_iff.2 hn;have h0:∀x:Int,0<x→x<L.length→gV L x=0:=fun x h1 h2=>by
    rcases(pD h h1 h2).2.2 with h3 | h3
    · exact h3
    · rw[hp] at h3;cases h3
  have hk:ez L 0=(List.range (L.length - 1)).map fun i:Nat=>(i:Int)+1:=by
    refine(FQ (ui 0) ?_ ?_).symm
    · unfold Gd qD
      rw[List.filter_eq_self.2];intro x hx;obtain⟨i,hi,rfl⟩:=List.mem_map.1 hx;rw[List.mem_range] at hi
      simpa using h0 _ (by omega) (by omega)
    · refine List.Pairwise.map (R := (· < ·)) _ (fun a b hab => ?_) List.pairwise_lt_range
      unfold p9 ff;rw[hp,hp];simp;omega
  rw[sX h,hk];have hf:((List.range (L.length - 1)).map fun i:Nat=>(i:Int)+1).flatMap (PT L)=(List.range (L.length - 1)).map fun i:Nat=>(i:Int)+1:=by
    have:∀l:List Int,(∀x∈l,0<x)→l.flatMap (PT L)=l:=by
      intro l;induction l with
      | nil=>intro _;rfl
      | cons a l ih =>
        intro hg;rw[List.flatMap_cons,Aj h (hg a (by simp)) (hp a),ih fun x hx=>hg x (by simp[hx])];rfl
    exact this _ fun x hx=>by obtain⟨i,_,rfl⟩:=List.mem_map.1 hx;omega
  rw[hf];obtain⟨m,hm⟩:∃m,L.length=m+1:=⟨L.length - 1,by omega⟩;rw[hm,List.range_succ_eq_map,List.map_cons,List.map_map,Nat.add_sub_cancel];rfl
theorem Wi {x:Int} (h:oD L x=true):ff L x=if zP L x<0 then -1 else 1:=by unfold ff;rw[if_neg (by simp[h])]
theorem aed {x:Int} (h:oD L x=false):ff L x=0:=by unfold ff;rw[if_pos h]
end
def gS (L:List PN):List Int:=if L=[]∨uv L=false then [] else PT L 0
theorem Du {L:List PN} (h0:L≠[]) (h:uv L=true):gS L=PT L 0:=by unfold gS;rw[if_neg (by rw[h];simp[h0])]
theorem xg {L:List PN} (h:L=[]∨uv L=false):gS L=[]:=by unfold gS;rw[if_pos h]
end Go.Proofs.YtbedndijejpcaaaGreat
namespace Go.Proofs.YtbedndijejpcaaaGreat
open Go.RowKit
def I5 (b r:Nat) (m:List (Int×Value)) (done:List Nat) (w:World):Prop:=
  (∀j∈done,j<m.length)∧∃(bs:List Nat) (clock:Nat),bs.length=m.length∧bs.Nodup∧(∀s∈bs,s<clock)∧w.heap[b]?=some (.map (entsL m bs).toArray clock)∧w.heap[r]?=some (.mapIter (some b) clock (done.map fun j=>bs.getD j 0).toArray clock)
def yg (b r:Nat) (m:List (Int×Value)) (done:List Nat):HI:=.gen (fun k=>k=b∨k=r) (I5 b r m done)
theorem ub (b r:Nat) (m:List (Int×Value)) (done:List Nat):Local (fun k=>k=b∨k=r) (I5 b r m done):=
  ⟨fun w w' hk ⟨h0,bs,c,h1,h2,h3,h4,h5⟩=>⟨h0,bs,c,h1,h2,h3,(hk b (.inl rfl)).trans h4,(hk r (.inr rfl)).trans h5⟩,fun w ⟨h0,bs,c,h1,h2,h3,h4,h5⟩ k hk=>by rcases hk with rfl | rfl;exact cU h4;exact cU h5⟩
theorem kT:∀(m:List (Int×Value)) (bs:List Nat) (j:Nat),bs.length=m.length→(entsL m bs)[j]?=(m[j]?).map fun p=>⟨.int .i64 p.1,p.2,bs.getD j 0⟩
  | [],[],j,_=>by simp[entsL]
  | p::m,b::bs,0,_=>by simp[entsL]
  | p::m,b::bs,j+1,h=>by simp only[entsL,List.getElem?_cons_succ];rw[kT m bs j (by simpa using h)];simp
theorem uf (m:List (Int×Value)) (bs:List Nat) (h:bs.length=m.length):(entsL m bs).map (·.born)=bs:=by
  apply List.ext_getElem?;intro j;rw[List.getElem?_map,kT m bs j h,Option.map_map]
  by_cases hj:j<m.length
  · rw [List.getElem?_eq_getElem hj, List.getElem?_eq_getElem (by omega)]
    simp[List.getD_eq_getElem?_getD,List.getElem?_eq_getElem (show j<bs.length by omega)]
  · rw[List.getElem?_eq_none (by omega),List.getElem?_eq_none (by omega)];rfl
def nextV (m:List (Int×Value)):Option Nat→Value
  | none=>.tuple #[.bool false]
  | some j=>.tuple #[.bool true,.int .i64 ((m[j]?.getD (0,undef)).1),(m[j]?.getD (0,undef)).2]
def AB (done:List Nat):Option Nat→List Nat
  | none=>done
  | some j=>done++[j]
def RT (m:List (Int×Value)) (done:List Nat):Option Nat→Prop
  | none=>∀j<m.length,j∈done
  | some j=>j<m.length∧j∉done
section
variable {P:Program} {ρ:Env} {r:Option Nat} {dst:Option Tmp} {ty:TypeId} {pos:String} {af:Array Edge} {g:Option (Nat×Bool)} {t kt et:TypeId} {x:Operand} {w0:World} {M:Nat→Prop} {σ σ':List HI} {m:List (Int×Value)} {done:List Nat}
theorem Kv {σ'':Nat→List HI} {i b:Nat} (ht:P.underlying t=some (.map kt et)) (hx:evo ρ x=.map (some b)) (hi:σ[i]?=some (aP b m)) (hσ:∀q,σ.set i (yg b q m [])=σ'' q):
    cX P r (St w0 M σ) ⟨dst,.range t x,ty,pos,af,g⟩ ρ (X:=Nat) (fun q=>.pointer (some ⟨q,0,none⟩)) (fun q=>St w0 M (σ'' q)):=cX.gB rfl fun w hw=>by
  obtain⟨bs,c,h1,h2,h3,h4⟩:=hw.fC hi;have hb:b<w.heap.size:=cU h4;refine⟨w.heap.size,w.alloc (.mapIter (some b) c #[] c),by simp[execOp,hx,run_range_map w t kt et b _ c ht h4,Result.andThen],?_⟩;rw[←hσ];refine hw.upd hi (St.l9 (fun k hk _=>Below.heap_alloc w _ k hk) ⟨ub _ _ _ _,by simp,bs,c,h1,h2,h3,(Below.heap_alloc w _ b hb).trans h4,World.alloc_heap_new w _⟩ ?_ rfl rfl rfl (by simp));intro k hk
  rcases hk with rfl | rfl
  · exact .inr rfl
  · exact .inl (Nat.le_refl _)
theorem RW {σ'':Option Nat→List HI} {i b q:Nat} (hx:evo ρ x=.pointer (some ⟨q,0,none⟩)) (hi:σ[i]?=some (yg b q m done)) (hσ:∀o,σ.set i (yg b q m (AB done o))=σ'' o):
    cX P r (St w0 M σ) ⟨dst,.next x false,ty,pos,af,g⟩ ρ (X:=Option Nat) (nextV m) (fun o w'=>RT m done o∧St w0 M (σ'' o) w'):=cX.gB rfl fun w hw=>by
  obtain⟨hdl,bs,c,h1,h2,h3,h4,h5⟩:I5 b q m done w:=(hw.all _ (List.mem_of_getElem? hi)).2;have hold:∀e∈(entsL m bs).toArray.toList,e.born<c:=fun e he=>by
    refine h3 _ ?_;rw[←uf m bs h1];exact List.mem_map.2 ⟨e,by simpa using he,rfl⟩
  rcases run_next_at (P:=P) w ty q b c c _ _ c h5 h4 hold (Nat.le_refl _) with ⟨h0,hrun⟩ | ⟨e,he,w1,hal,hrun⟩
  · refine ⟨none, w, by simp [execOp, hx, hrun, Result.andThen, nextV], ?_, ?_⟩
    · intro j hj
      have hg:=kT m bs j h1;rw[List.getElem?_eq_getElem hj] at hg;have h6:=all_seen _ _ h0 _ (by simpa using List.mem_of_getElem? hg);simp only[List.contains_toArray,List.contains_iff_mem,List.mem_map] at h6;obtain⟨j2,hj2,e2⟩:=h6;have hl2:j2<bs.length:=by have:=hdl j2 hj2;omega
      have hl:j<bs.length:=by omega
      simp only[List.getD_eq_getElem?_getD,List.getElem?_eq_getElem hl2,List.getElem?_eq_getElem hl,Option.getD_some] at e2;have:=(List.getElem_inj h2).1 e2;rw[←this];exact hj2
    · rw [← hσ]
      have e1:σ.set i (yg b q m (AB done none))=σ:=by
        apply List.ext_getElem?;intro j;rw[List.getElem?_set]
        split
        · rename_i hij; subst hij
          rw[if_pos (List.getElem?_eq_some_iff.1 hi).1];exact hi.symm
        · rfl
      rw[e1];exact hw
  · obtain ⟨hem, hes⟩ := mem_left he
    obtain⟨j,hj⟩:=List.getElem?_of_mem (show e∈entsL m bs by simpa using hem);rw[kT m bs j h1] at hj;obtain⟨p,hp,rfl⟩:=Option.map_eq_some_iff.1 hj;have hlt:=(List.getElem?_eq_some_iff.1 hp).1;have hr1:w1.heap[q]?=some (.mapIter (some b) c (done.map fun j=>bs.getD j 0).toArray c):=by rcases hal with rfl | rfl<;>exact h5
    have hb1:w1.heap[b]?=some (.map (entsL m bs).toArray c):=by rcases hal with rfl | rfl<;>exact h4
    have hne:b≠q:=fun e=>by rw[e,h5] at h4;cases h4
    have hset:=MapKept.heap_set (o':=.mapIter (some b) c ((done.map fun j=>bs.getD j 0).toArray.push (bs.getD j 0)) c) hr1;refine⟨some j,ChangeMaps.setBlock w1 q (.mapIter (some b) c ((done.map fun j=>bs.getD j 0).toArray.push (bs.getD j 0)) c),by simp only[execOp,Sem.run_bind,hx,hrun,Sem.run_pure,Result.andThen,nextV,hp,Option.getD_some],⟨hlt,fun hd=>?_⟩,?_⟩
    · have : (bs.getD j 0) ∈ done.map fun j => bs.getD j 0 := List.mem_map.2 ⟨j, hd, rfl⟩
      simp only[List.contains_toArray] at hes;rw[List.contains_iff_mem.2 this] at hes;cases hes
    · rw [← hσ]
      refine hw.upd hi (St.l9 (fun k _ hn=>?_) ⟨ub _ _ _ _,fun k hk=>(by rcases List.mem_append.1 hk with hk | hk;exact hdl k hk;simp at hk;rw[hk];exact hlt),bs,c,h1,h2,h3,(hset.2 b hne).trans hb1,?_⟩ (fun k hk=>.inr hk) ?_ ?_ ?_ ?_)
      · rw [show w.heap[k]? = w1.heap[k]? by rcases hal with rfl | rfl <;> rfl]
        exact hset.2 k fun e=>hn (.inr e)
      · rw [show (AB done (some j)).map (fun j => bs.getD j 0) = (done.map fun j => bs.getD j 0) ++ [bs.getD j 0] by simp [AB]]
        rw[←List.push_toArray];exact hset.1
      · rcases hal with rfl | rfl<;>rfl
      · rcases hal with rfl | rfl<;>rfl
      · rcases hal with rfl | rfl<;>rfl
      · rw [show w.heap.size = w1.heap.size by rcases hal with rfl | rfl <;> rfl]
        simp[ChangeMaps.setBlock]
theorem FA {o:Option Nat} {S:World→Prop} (hx:evo ρ x=nextV m o):cw P S ⟨dst,.extract x 0,ty,pos,af,g⟩ ρ (.bool o.isSome):=by
  cases o with
  | none=>exact bR hx rfl
  | some j=>exact bR hx rfl
theorem J7 {i b q j:Nat} {p:Int×Value} (hx:evo ρ x=.pointer (some ⟨q,0,none⟩)) (hi:σ[i]?=some (yg b q m (done++[j]))) (hp:m[j]?=some p):cw P (St w0 M σ) ⟨dst,.entry x,ty,pos,af,g⟩ ρ (.tuple #[.int .i64 p.1,p.2]):=ba fun w hw=>by
  obtain⟨_,bs,c,h1,h2,h3,h4,h5⟩:I5 b q m (done++[j]) w:=(hw.all _ (List.mem_of_getElem? hi)).2;have hg:=kT m bs j h1;rw[hp] at hg;have h6:=run_entry_at (P:=P) w q b c (done.map fun j=>bs.getD j 0).toArray (entsL m bs).toArray c ⟨.int .i64 p.1,p.2,bs.getD j 0⟩ (by rw[h5,List.push_toArray];simp) h4 (by simpa using List.mem_of_getElem? hg) (by rw[List.toList_toArray,uf m bs h1];exact h2);simp[execOp,hx,h6,Result.andThen]
theorem St.TW {w:World} {b q:Nat} {F:List HI} (h:St w0 M (yg b q m done::F) w):St w0 M (aP b m::F) w:=by
  have hh:=h.all (yg b q m done) (by simp);obtain⟨_,bs,c,h1,h2,h3,h4,h5⟩:=hh.2;refine h.upd (i:=0) rfl (St.l9 (fun _ _ _=>rfl) ⟨nY b m,bs,c,h1,h2,h3,h4⟩ (fun k hk=>.inr (.inl hk)) rfl rfl rfl (Nat.le_refl _))
end
theorem GY (bb:Nat) {w0 w:World} {M:Nat→Prop} {F:List HI} {id up:Int} (h:St w0 M (.cl bb 102 (.int .i64 up::.slice none 0 0::aR)::F) w):St w0 M (iy [iH id bb up]::F) w:=by
  have h1:=(h.bB 3 1).perm (σ':=.cl bb 102 (.int .i64 up::.slice none 0 0::aR)::.row 3 1 none 0 0 []::F) (List.Perm.cons _ (List.perm_append_comm (l₂:=[HI.row 3 1 none 0 0 []])));exact St.pack (τ:=[iH id bb up].flatMap PE.items) h1
theorem Gl:Ct Tryz.prog 49 #[] [] (fun _=>True) (X:=Nat×Nat×Nat) (fun p=>.pointer (some ⟨p.1,0,none⟩)) (fun _=>True) (fun p=>[al p.1 p.2.1 [iH 0 p.2.2 (-1)]]):=by
  refine Ct.intro Tryz.func49 rfl Tryz.ntmps49 (by simp) (fun w0 _=>?_);refine eh ?_;refine sg (v:=.pointer none) rfl ?_;refine nl (oo ?_);refine eh ?_;refine aj.ef (eV (σ':=fun _=>[_]) (fun _=>rfl)) (fun mp1=>?_);refine vl (aV (us:=(.int .i64 (-1)::.slice none 0 0::aR)) (pl:=[(0,1),(1,1),(2,55)]) Tryz.underlying102 Tryz.zeroValue102 rfl (by kernel_rfl) rfl rfl (by kernel_rfl)) ?_;refine aj.ef (fw (us:=(.int .i64 (-1)::.slice none 0 0::aR)) (σ':=fun _=>[_,_]) rfl (fun _=>rfl)) (fun nb=>?_);refine aj.aX (mr (m:=[]) (u:=.pointer (some ⟨nb,0,none⟩)) (σ':=[_,_]) Tryz.underlying105 Tryz.underlying3 rfl rfl rfl (i:=0) rfl rfl) (fun _=>?_);refine mv (v:=.map _) rfl ?_;refine vl (aV (us:=[.map _]) (pl:=[(0,1)]) Tryz.underlying107 Tryz.zeroValue107 rfl (by kernel_rfl) rfl rfl (by kernel_rfl)) ?_;refine aj.ef (fw (us:=[.map _]) (σ':=fun _=>[_,_,_]) rfl (fun _=>rfl)) (fun b6=>?_);refine sgP rfl ?_;refine nl (oo ?_);exact WP.cP Tryz.results49 (fun _ h=>h) (fun w hw=>⟨(b6,mp1,nb),rfl,trivial,St.DN (((GY nb (id:=0) (hw.sel [1,2,0] (by decide)))).perm ((List.Perm.swap _ _ _).trans (List.Perm.cons _ (List.Perm.swap _ _ _))))⟩)
theorem pK (bb:Nat):ae [iH 0 bb (-1)]=nz aR∧eG [iH 0 bb (-1)]:=by
  refine⟨?_,⟨fun e he=>?_,by simp⟩⟩
  · funext y
    unfold ae nz
    by_cases h:y=0
    · subst h;rfl
    · simp[lookE,iH,h,Ne.symm h]
  · obtain rfl : e = _ := by simpa using he
    exact eQ
end Go.Proofs.YtbedndijejpcaaaGreat
