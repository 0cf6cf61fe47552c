/- FlexShare FlexItem FlexTab FlexFin FlexRef FlexWalk -/
import Derived.Test.YtbedndijejpcaaaGreatS11
set_option linter.unusedVariables false
set_option linter.unusedSimpArgs false
set_option linter.unusedSectionVars false
set_option maxRecDepth 100000
set_option maxHeartbeats 8000000
namespace Go.Proofs.YtbedndijejpcaaaGreat
open Go.RowKit
theorem clamp_eq {n lo hi v:Int} (h:clamp n lo hi=v) (w:World):Calls Tryz.prog 64 #[.int .i64 n,.int .i64 lo,.int .i64 hi] w fun e w'=>e=.returned (.int .i64 v)∧w=w':=by
  subst h;exact clamp_any n lo hi w
theorem share_ct (A:Option Addr) (c:Nat) (n:Int) (zs:List Int) (hl:zs.length≤64):
    Ct Tryz.prog 254 #[.int .i64 n,.slice A zs.length c] [] (fun w=>RdI w A zs) (X:=Option Addr×Nat) (fun p=>.slice p.1 zs.length p.2) (fun _=>True)
      (fun p=>[.row 3 1 p.1 zs.length p.2 ((share n zs).map (Value.int .i64))]):=by
  refine Ci fun w0 hz=>?_;refine gg ?_;refine WP.condP rfl (fun h=>absurd h (by omega)) (fun h13=>?_);refine gg ?_;refine vl (vC (clamp_eq (clamp_lot n) _)) ?_;refine gg ?_;refine WPL.ef (x_make1 (n:=zs.length+1) (σ':=fun _=>[_]) Tryz.underlying49 int_info rfl rfl rfl rfl rfl (by omega) (by omega) (fun _=>rfl)) (fun g19=>?_);refine gg ?_;refine WP.loopK (X:=Nat) [0,1,5,20,21] (fun k=>[(22,.int .i64 (k:Int))]) (fun k w=>k≤zs.length∧St w0 (foots []) [.row 3 1 (some ⟨g19,0,none⟩) (zs.length+1) (zs.length+1) ((psums zs k).map (Value.int .i64))] w) (fun k=>zs.length - k) 0 ⟨rfl,trivial⟩ (fun w hw=>⟨by omega,by rw[psums_zero];simpa using hw⟩) (fun k ρ0=>?_);refine WP.fact (fun hk=>?_);refine gg ?_;refine WP.condP rfl (fun h23=>?_) (fun h23=>?_)
  ·have hk':k<zs.length:=by omega
   obtain⟨x,hx⟩:∃x,zs[k]?=some x:=⟨_,List.getElem?_eq_getElem hk'⟩;obtain⟨b,o,rfl,hc⟩:=hz k x hx;have hb1:=psum_bd zs k;have hb2:=wgt_bd x;refine gg ?_;refine vl (vO hc) ?_;refine gg ?_;refine WP.drawS (some 11) [(0,true),(1,true),(2,true),(3,true),(4,true),(5,true),(6,true),(7,true),(8,true),(9,true),(10,true),(11,false)] mixed (by kernel_rfl) (by decide) (fun _ h=>h.drawn) ?_;refine gg ?_;refine tD (vR 0 (psums_at zs k k (by omega) (by omega))) ?_;refine gg ?_;refine tD (vC (clamp_eq (clamp_wgt x) _)) ?_;refine ad ?_;refine tD (vX (k+1)) ?_;refine WPD.ef0 rfl (x_storeRow' (u:=.int .i64 _) (xs':=(psums zs (k+1)).map (Value.int .i64)) (σ':=[_]) Tryz.sizeOf3 rfl rfl (i:=0) rfl (by simp[psums_length];omega) (by rw[←psums_succ zs k x hx,List.map_set];congr 1;omega) rfl) (fun h=>absurd rfl h) (fun _=>?_);refine WPD.nil (onto_of ?_);refine WP.region ?_
   iterate 2 refine av ?_
   exact nl fun w hw=>⟨rfl,k+1,(by omega),⟨rfl,jI,jS,jS,jS,jI,trivial⟩,by omega,hw⟩
  ·obtain rfl:k=zs.length:=by omega
   refine WP.exit (onto_of ?_);refine sqR ?_
   iterate 3 refine av ?_
   refine vl (vX (zs.length)) ?_;refine vl (vR 0 (psums_at zs zs.length zs.length (by omega) (by omega))) ?_;refine gg ?_;refine WPL.ef (x_make1 (n:=zs.length) (σ':=fun _=>[_,_]) Tryz.underlying49 int_info rfl rfl rfl rfl rfl (by omega) (by omega) (fun _=>rfl)) (fun g47=>?_);refine gg ?_;refine WP.loopK (X:=Nat) [0,5,8,9,49] (fun k=>[(50,.int .i64 (k:Int))]) (fun k w=>k≤zs.length∧St w0 (foots []) [.row 3 1 (some ⟨g19,0,none⟩) (zs.length+1) (zs.length+1) ((psums zs zs.length).map (Value.int .i64)),.row 3 1 (some ⟨g47,0,none⟩) zs.length zs.length ((shares n zs k).map (Value.int .i64))] w) (fun k=>zs.length - k) 0 ⟨rfl,trivial⟩ (fun w hw=>⟨by omega,by rw[shares_zero];simpa using hw⟩) (fun k ρ0=>?_);refine WP.fact (fun hk=>?_);refine gg ?_;refine WP.condP rfl (fun h51=>?_) (fun h51=>?_)
   ·have hm1:=lot_mul n zs (k+1) hl (by omega);have hm2:=lot_mul n zs k hl (by omega);have hp1:=pmark_bd n zs (k+1) hl (by omega);have hp2:=pmark_bd n zs k hl (by omega);unfold pmark wholeF at hp1 hp2;refine gg ?_;refine WP.drawS (some 21) [(0,true),(1,true),(2,true),(3,true),(4,true),(5,true),(6,true),(7,true),(8,true),(9,true),(10,true),(11,true),(12,true),(13,true),(14,true),(15,true),(16,true),(17,true),(18,true),(19,true),(20,true),(21,false)] mixed (by kernel_rfl) (by decide) (fun _ h=>h.drawn) ?_
    iterate 6 refine ad ?_
    refine tD (vX (k+1)) ?_;refine tD (vR 0 (psums_at zs zs.length (k+1) (by omega) (by omega))) ?_
    iterate 2 refine ad ?_
    refine tE rfl (v_quo rfl rfl (by omega) (by omega) (by omega)) ?_;refine gg ?_;refine tD (vR 0 (psums_at zs zs.length k (by omega) (by omega))) ?_
    iterate 2 refine ad ?_
    refine tE rfl (v_quo rfl rfl (by omega) (by omega) (by omega)) ?_;refine gg ?_;refine WPD.ef0 rfl (x_storeRow' (u:=.int .i64 _) (xs':=(shares n zs (k+1)).map (Value.int .i64)) (σ':=[_,_]) Tryz.sizeOf3 rfl rfl (i:=1) rfl (by simp[shares_length];omega) (by rw[←shares_succ n zs k (by omega),List.map_set];congr 1;omega) rfl) (fun h=>absurd rfl h) (fun _=>?_);refine WPD.nil (onto_of ?_);refine WP.region ?_
    iterate 2 refine av ?_
    exact nl fun w hw=>⟨rfl,k+1,(by omega),⟨rfl,jI,jS,jI,jS,jI,trivial⟩,by omega,hw⟩
   ·obtain rfl:k=zs.length:=by omega
    refine WP.exit (onto_of ?_);refine gg ?_;exact WP.ret1 Tryz.results254 (fun _ h=>h) (fun w hw=>⟨(some ⟨g47,0,none⟩,zs.length),rfl,trivial,by have:=hw.sel [1] (by decide);rw[shares_all] at this;exact this⟩)
structure FItem where
  base:Int
  low:Int
  high:Int
  grow:Int
  shrink:Int
abbrev FItem.enc (x:FItem):List Value:=[.int .i64 x.base,.int .i64 x.low,.int .i64 x.high,.int .i64 x.grow,.int .i64 x.shrink]
def cl20 (n:Int):Int:=max 0 (min n 1048576)
def cl1k (n:Int):Int:=max 0 (min n 1000)
def FItem.sound (x:FItem):FItem:=⟨cl20 x.base,cl20 x.low,cl20 x.high,cl1k x.grow,cl1k x.shrink⟩
def FItem.fit (x:FItem) (n:Int):Int:=max (cl20 x.low) (min n (cl20 x.high))
theorem clamp_20 (n:Int):clamp n 0 1048576=cl20 n:=by rw[clamp_in (by omega) (by omega) (by omega)];rfl
theorem clamp_1k (n:Int):clamp n 0 1000=cl1k n:=by rw[clamp_in (by omega) (by omega) (by omega)];rfl
theorem cl20_bd (n:Int):0≤cl20 n∧cl20 n≤1048576:=by unfold cl20;omega
theorem cl1k_bd (n:Int):0≤cl1k n∧cl1k n≤1000:=by unfold cl1k;omega
theorem sound_ct (x:FItem):Ct Tryz.prog 239 #[.agg x.enc.toArray] [] (fun _=>True) (X:=Unit) (fun _=>.agg x.sound.enc.toArray) (fun _=>True) (fun _=>[]):=by
  refine Ci fun w0 _=>?_;refine gg ?_;refine WPL.ef xB fun b1=>?_;refine WPL.ef xAl fun b2=>?_;refine gg ?_;refine WPL.ef (xN rfl (us:=[.pointer _,.pointer _,.pointer _])) fun g10=>?_;refine gg ?_;refine WP.loopN 4 ?_;refine WPR.succ ?_;refine gg ?_;refine WP.condT rfl ?_;refine WP.skip (onto_of ?_);refine sq ?_;refine WP.block ?_;refine sqR ?_;refine av ?_;refine vl (v_load1 (u:=.pointer _) Tryz.isAgg282 rfl (fun w hw=>hw.row_at1 (i:=2) (k:=0) rfl rfl (by decide))) ?_;refine gg ?_;refine vl (vC (clamp_eq (clamp_20 _) _)) ?_;refine gg ?_;refine WPL.ef0 (xS rfl (isI rfl)) fun _=>?_;refine nl (oo ?_);refine WP.region ?_
  iterate 2 refine av ?_
  refine WPL.nil (rounds_of ?_);refine WPR.succ ?_;refine gg ?_;refine WP.condT rfl ?_;refine WP.skip (onto_of ?_);refine sq ?_;refine WP.block ?_;refine sqR ?_;refine vl (v_index (j:=1) Tryz.underlying304 Tryz.sizeOf282 rfl rfl rfl (by omega)) ?_;refine vl (v_load1 (u:=.pointer _) Tryz.isAgg282 rfl (fun w hw=>hw.row_at1 (i:=2) (k:=1) rfl rfl (by decide))) ?_;refine gg ?_;refine vl (vC (clamp_eq (clamp_20 _) _)) ?_;refine gg ?_;refine WPL.ef0 (xS rfl (isI rfl)) fun _=>?_;refine nl (oo ?_);refine WP.region ?_
  iterate 2 refine av ?_
  refine WPL.nil (rounds_of ?_);refine WPR.succ ?_;refine gg ?_;refine WP.condT rfl ?_;refine WP.skip (onto_of ?_);refine sq ?_;refine WP.block ?_;refine sqR ?_;refine vl (v_index (j:=2) Tryz.underlying304 Tryz.sizeOf282 rfl rfl rfl (by omega)) ?_;refine vl (v_load1 (u:=.pointer _) Tryz.isAgg282 rfl (fun w hw=>hw.row_at1 (i:=2) (k:=2) rfl rfl (by decide))) ?_;refine gg ?_;refine vl (vC (clamp_eq (clamp_20 _) _)) ?_;refine gg ?_;refine WPL.ef0 (xS rfl (isI rfl)) fun _=>?_;refine nl (oo ?_);refine WP.region ?_
  iterate 2 refine av ?_
  refine WPL.nil (rounds_of ?_);refine WPR.succ ?_;refine gg ?_;refine WP.condF rfl ?_;refine WP.exit (onto_of ?_);refine gg ?_;refine WPL.ef (xN rfl (us:=[.pointer _,.pointer _])) fun g25=>?_;refine gg ?_;refine WP.loopN 3 ?_;refine WPR.succ ?_;refine gg ?_;refine WP.condT rfl ?_;refine WP.skip (onto_of ?_);refine sq ?_;refine WP.block ?_;refine sqR ?_;refine av ?_;refine vl (v_load1 (u:=.pointer _) Tryz.isAgg282 rfl (fun w hw=>hw.row_at1 (i:=3) (k:=0) rfl rfl (by decide))) ?_;refine gg ?_;refine vl (vC (clamp_eq (clamp_1k _) _)) ?_;refine gg ?_;refine WPL.ef0 (xS rfl (isI rfl)) fun _=>?_;refine nl (oo ?_);refine WP.region ?_
  iterate 2 refine av ?_
  refine WPL.nil (rounds_of ?_);refine WPR.succ ?_;refine gg ?_;refine WP.condT rfl ?_;refine WP.skip (onto_of ?_);refine sq ?_;refine WP.block ?_;refine sqR ?_;refine vl (v_index (j:=1) Tryz.underlying304 Tryz.sizeOf282 rfl rfl rfl (by omega)) ?_;refine vl (v_load1 (u:=.pointer _) Tryz.isAgg282 rfl (fun w hw=>hw.row_at1 (i:=3) (k:=1) rfl rfl (by decide))) ?_;refine gg ?_;refine vl (vC (clamp_eq (clamp_1k _) _)) ?_;refine gg ?_;refine WPL.ef0 (xS rfl (isI rfl)) fun _=>?_;refine nl (oo ?_);refine WP.region ?_
  iterate 2 refine av ?_
  refine WPL.nil (rounds_of ?_);refine WPR.succ ?_;refine gg ?_;refine WP.condF rfl ?_;refine WP.exit (onto_of ?_);refine gg ?_;refine WPL.ef0 (xW rfl) fun _=>?_;refine gg ?_;exact rtC rfl fun w hw=>⟨(),rfl,trivial,hw.pk⟩
theorem fit_ct (x:FItem) (n:Int):Ct Tryz.prog 231 #[.agg x.enc.toArray,.int .i64 n] [] (fun _=>True) (X:=Unit) (fun _=>.int .i64 (x.fit n)) (fun _=>True) (fun _=>[]):=by
  refine Ci fun w0 _=>?_;refine gg ?_;refine WPL.ef xB fun b2=>?_;refine gg ?_;refine eF (xC (sound_ct x)) fun _ _=>?_;refine WPL.ef0 (xW rfl) fun _=>?_;refine gg ?_;exact rt1 fun w hw=>⟨(),rfl,trivial,hw.pk⟩
structure FE where
  it:FItem
  size:Int
  fr:Bool
abbrev FE.enc (e:FE):List Value:=[.int .i64 e.it.base,.int .i64 e.it.low,.int .i64 e.it.high,.int .i64 e.it.grow,.int .i64 e.it.shrink,.int .i64 e.size,.bool e.fr]
def FE.ok (e:FE):Prop:=(0≤e.it.base∧e.it.base≤1048576)∧(0≤e.it.low∧e.it.low≤1048576)∧(0≤e.it.high∧e.it.high≤1048576)∧(0≤e.it.grow∧e.it.grow≤1000)∧(0≤e.it.shrink∧e.it.shrink≤1000)∧0≤e.size∧e.size≤1048576
theorem fit_bd (x:FItem) (n:Int):0≤x.fit n∧x.fit n≤1048576:=by
  have h1:=cl20_bd x.low;have h2:=cl20_bd x.high;unfold FItem.fit;omega
def upto {α:Type} (f:Nat→α→α) (l:List α) (i:Nat):List α:=l.mapIdx fun j e=>if j<i then f j e else e
theorem upto_length {α:Type} (f:Nat→α→α) (l:List α) (i:Nat):(upto f l i).length=l.length:=by simp[upto]
theorem upto_zero {α:Type} (f:Nat→α→α) (l:List α):upto f l 0=l:=by
  apply List.ext_getElem?;intro j;simp[upto]
theorem upto_get {α:Type} (f:Nat→α→α) (l:List α) (i:Nat) {j:Nat} {e:α} (h:l[j]?=some e):(upto f l i)[j]?=some (if j<i then f j e else e):=by
  simp[upto,List.getElem?_mapIdx,h]
theorem upto_succ {α:Type} (f:Nat→α→α) (l:List α) (i:Nat) {e:α} (h:l[i]?=some e):(upto f l i).set i (f i e)=upto f l (i+1):=by
  apply List.ext_getElem?;intro j
  by_cases hj:j=i
  · subst hj
    rw[upto_get f l _ h,if_pos (by omega)];simp[upto_length,(List.getElem?_eq_some_iff.1 h).1]
  · rw [List.getElem?_set_ne (Ne.symm hj)]
    simp only[upto,List.getElem?_mapIdx];cases l[j]? with
    | none=>rfl
    | some x=>simp only[Option.map_some];congr 1;by_cases h1:j<i<;>by_cases h2:j<i+1<;>simp[h1,h2]<;>omega
theorem upto_skip {α:Type} (f:Nat→α→α) (l:List α) (i:Nat) {e:α} (h:l[i]?=some e) (hf:f i e=e):upto f l (i+1)=upto f l i:=by
  rw[←upto_succ f l i h,hf];apply List.ext_getElem?;intro j
  by_cases hj:j=i
  · subst hj
    rw[upto_get f l _ h,if_neg (by omega)];simp[upto_length,(List.getElem?_eq_some_iff.1 h).1]
  · rw[List.getElem?_set_ne (Ne.symm hj)]
theorem upto_all {α:Type} (f:Nat→α→α) (l:List α) {i:Nat} (h:l.length≤i):upto f l i=l.mapIdx f:=by
  apply List.ext_getElem?;intro j;simp only[upto,List.getElem?_mapIdx];cases hx:l[j]? with
  | none=>rfl
  | some x=>have:=(List.getElem?_eq_some_iff.1 hx).1;simp[show j<i by omega]
theorem takeSnocF {α:Type} {l:List α} {i:Nat} {e:α} (h:l[i]?=some e):l.take (i+1)=l.take i++[e]:=by
  rw[List.take_add_one,h];rfl
theorem flat_set {α:Type} (g:α→List Value) (n:Nat) (hg:∀a,(g a).length=n):∀(l:List α) (i o:Nat) (a a':α) (v:Value),l[i]?=some a→o<n→(g a).set o v=g a'→(l.flatMap g).set (i*n+o) v=(l.set i a').flatMap g
  | [],_,_,_,_,_,h,_,_=>by simp at h
  | x :: l, 0, o, a, a', v, h, ho, he => by
    obtain rfl:x=a:=by simpa using h
    simp only[List.flatMap_cons,List.set_cons_zero,Nat.zero_mul,Nat.zero_add];rw[List.set_append_left _ _ (by rw[hg];exact ho),he]
  | x :: l, i + 1, o, a, a', v, h, ho, he => by
    simp only[List.flatMap_cons,List.set_cons_succ]
    rw [List.set_append_right _ _ (by rw [hg, Nat.succ_mul]; omega), hg, show (i + 1) * n + o - n = i * n + o by rw [Nat.succ_mul]; omega,
      flat_set g n hg l i o a a' v (by simpa using h) ho he]
theorem flat_at {α:Type} (g:α→List Value) (n:Nat) (hg:∀a,(g a).length=n):∀(l:List α) (i o:Nat) (a:α) (v:Value),l[i]?=some a→(g a)[o]?=some v→(l.flatMap g)[i*n+o]?=some v
  | [],_,_,_,_,h,_=>by simp at h
  | x :: l, 0, o, a, v, h, hv => by
    obtain rfl:x=a:=by simpa using h
    have ho:=(List.getElem?_eq_some_iff.1 hv).1;simp only[List.flatMap_cons,Nat.zero_mul,Nat.zero_add];rw[List.getElem?_append_left ho,hv]
  | x :: l, i + 1, o, a, v, h, hv => by
    have ho:=(List.getElem?_eq_some_iff.1 hv).1;rw[hg] at ho;simp only[List.flatMap_cons];rw[List.getElem?_append_right (by rw[hg,Nat.succ_mul];omega),hg,show (i+1)*n+o - n=i*n+o by rw[Nat.succ_mul];omega];exact flat_at g n hg l i o a v (by simpa using h) hv
section
variable (g:Bool) (room:Int) (es:List FE)
def ats:Nat→List Nat
  | 0=>[]
  | i+1=>ats i++(match es[i]? with | some e=>if e.fr then [] else [i] | none=>[])
def kth (i:Nat):Nat:=(ats es i).length
def wt (e:FE):Int:=if g then e.it.grow else e.it.shrink*e.it.base
def wts:Nat→List Int
  | 0=>[]
  | i+1=>wts i++(match es[i]? with | some e=>if e.fr then [] else [wt g e] | none=>[])
def took:Nat→Int
  | 0=>0
  | i+1=>took i+(match es[i]? with | some e=>if e.fr then e.size else e.it.base | none=>0)
def sgnG:Int:=if g then 1 else -1
def fre:Int:=sgnG g*(room - took es es.length)
def parts:List Int:=share (fre g room es) (wts g es es.length)
def want (i:Nat) (e:FE):Int:=e.it.base+sgnG g*(parts g room es).getD (kth es i) 0
def gap (i:Nat) (e:FE):Int:=e.it.fit (want g room es i e) - want g room es i e
def wtd:Nat→List Int
  | 0=>[]
  | i+1=>wtd i++(match es[i]? with | some e=>if e.fr then [] else [want g room es i e] | none=>[])
def moreTo:Nat→Int
  | 0=>0
  | i+1=>moreTo i+(match es[i]? with | some e=>if e.fr then 0 else gap g room es i e | none=>0)
def judge (m b:Int):Bool:=decide (m=0)||(decide (m > 0)&&decide (b > 0))||(decide (m<0)&&decide (b<0))
def sized (i:Nat) (e:FE):FE:=if e.fr then e else {e with size:=e.it.fit (want g room es i e)}
def froze (i:Nat) (e:FE):FE:=if e.fr then e else {e with size:=e.it.fit (want g room es i e),fr:=judge (moreTo g room es es.length) (gap g room es i e)}
def round:List FE:=es.mapIdx (froze g room es)
theorem kth_wts:∀i,(wts g es i).length=kth es i
  | 0=>rfl
  | i + 1 => by
    simp only[wts,ats,kth,List.length_append];rw[kth_wts i,show kth es i=(ats es i).length from rfl]
    congr 1
    cases es[i]? with
    | none=>rfl
    | some e=>simp only;split<;>rfl
theorem kth_wtd:∀i,(wtd g room es i).length=kth es i
  | 0=>rfl
  | i + 1 => by
    simp only[wtd,ats,kth,List.length_append];rw[kth_wtd i,show kth es i=(ats es i).length from rfl]
    congr 1
    cases es[i]? with
    | none=>rfl
    | some e=>simp only;split<;>rfl
theorem parts_length:(parts g room es).length=kth es es.length:=by rw[parts,share_length,kth_wts]
end
section
variable {g:Bool} {room:Int} {es:List FE} {i:Nat} {e:FE}
theorem ats_open (h:es[i]?=some e) (hf:e.fr=false):ats es (i+1)=ats es i++[i]:=by simp[ats,h,hf]
theorem ats_shut (h:es[i]?=some e) (hf:e.fr=true):ats es (i+1)=ats es i:=by simp[ats,h,hf]
theorem kth_open (h:es[i]?=some e) (hf:e.fr=false):kth es (i+1)=kth es i+1:=by simp[kth,ats_open h hf]
theorem kth_shut (h:es[i]?=some e) (hf:e.fr=true):kth es (i+1)=kth es i:=by simp[kth,ats_shut h hf]
theorem wts_open (h:es[i]?=some e) (hf:e.fr=false):wts g es (i+1)=wts g es i++[wt g e]:=by simp[wts,h,hf]
theorem wts_shut (h:es[i]?=some e) (hf:e.fr=true):wts g es (i+1)=wts g es i:=by simp[wts,h,hf]
theorem took_open (h:es[i]?=some e) (hf:e.fr=false):took es (i+1)=took es i+e.it.base:=by simp[took,h,hf]
theorem took_shut (h:es[i]?=some e) (hf:e.fr=true):took es (i+1)=took es i+e.size:=by simp[took,h,hf]
theorem wtd_open (h:es[i]?=some e) (hf:e.fr=false):wtd g room es (i+1)=wtd g room es i++[want g room es i e]:=by simp[wtd,h,hf]
theorem wtd_shut (h:es[i]?=some e) (hf:e.fr=true):wtd g room es (i+1)=wtd g room es i:=by simp[wtd,h,hf]
theorem more_open (h:es[i]?=some e) (hf:e.fr=false):moreTo g room es (i+1)=moreTo g room es i+gap g room es i e:=by simp[moreTo,h,hf]
theorem more_shut (h:es[i]?=some e) (hf:e.fr=true):moreTo g room es (i+1)=moreTo g room es i:=by simp[moreTo,h,hf]
theorem kth_step (es:List FE) (i:Nat):kth es i≤kth es (i+1)∧kth es (i+1)≤kth es i+1:=by
  simp only[kth,ats,List.length_append];cases es[i]? with
  | none=>simp
  | some e=>simp only;split<;>simp
theorem kth_mono (es:List FE) {i j:Nat} (h:i≤j):kth es i≤kth es j:=by
  induction j with
  | zero => obtain rfl : i = 0 := by omega
            exact Nat.le_refl _
  | succ j ih =>
    by_cases e:i=j+1
    · subst e;exact Nat.le_refl _
    · exact Nat.le_trans (ih (by omega)) (kth_step es j).1
theorem kth_le (es:List FE) (i:Nat):kth es i≤i:=by
  induction i with
  | zero=>simp[kth,ats]
  | succ i ih=>have:=(kth_step es i).2;omega
theorem kth_lt (h:es[i]?=some e) (hf:e.fr=false):kth es i<kth es es.length:=by
  have h1:=kth_open h hf;have h2:=kth_mono es (i:=i+1) (j:=es.length) (by have:=(List.getElem?_eq_some_iff.1 h).1;omega);omega
theorem wtd_prefix (g:Bool) (room:Int) (es:List FE) {i j:Nat} (h:i≤j):wtd g room es i<+:wtd g room es j:=by
  induction j with
  | zero => obtain rfl : i = 0 := by omega
            exact List.prefix_rfl
  | succ j ih =>
    by_cases e:i=j+1
    · subst e;exact List.prefix_rfl
    · exact(ih (by omega)).trans (List.prefix_append _ _)
theorem prefix_get {α:Type} {a b:List α} (h:a<+:b) {k:Nat} {x:α} (hx:a[k]?=some x):b[k]?=some x:=by
  obtain⟨t,rfl⟩:=h;rw[List.getElem?_append_left (List.getElem?_eq_some_iff.1 hx).1,hx]
theorem wtd_get (h:es[i]?=some e) (hf:e.fr=false):(wtd g room es es.length)[kth es i]?=some (want g room es i e):=by
  refine prefix_get (wtd_prefix g room es (i:=i+1) (by have:=(List.getElem?_eq_some_iff.1 h).1;omega)) ?_;rw[wtd_open h hf,←kth_wtd g room];simp
theorem parts_get (h:es[i]?=some e) (hf:e.fr=false):(parts g room es)[kth es i]?=some ((parts g room es).getD (kth es i) 0):=by
  have hk:kth es i<(parts g room es).length:=by rw[parts_length];exact kth_lt h hf
  simp[List.getD_eq_getElem?_getD,hk]
theorem ats_find (es:List FE):∀(n:Nat) {k j:Nat},(ats es n)[k]?=some j→∃e,es[j]?=some e∧e.fr=false∧kth es j=k∧j<n
  | 0,k,j,h=>by simp[ats] at h
  | n + 1, k, j, h => by
    cases he:es[n]? with
    | none=>rw[ats,he] at h;obtain⟨e,h1,h2,h3,h4⟩:=ats_find es n (k:=k) (j:=j) (by simpa using h);exact⟨e,h1,h2,h3,by omega⟩
    | some e =>
      cases hf:e.fr with
      | true=>rw[ats_shut he hf] at h;obtain⟨e,h1,h2,h3,h4⟩:=ats_find es n h;exact⟨e,h1,h2,h3,by omega⟩
      | false =>
        rw[ats_open he hf] at h
        by_cases hk:k<(ats es n).length
        · rw[List.getElem?_append_left hk] at h;obtain⟨e,h1,h2,h3,h4⟩:=ats_find es n h;exact⟨e,h1,h2,h3,by omega⟩
        · rw [List.getElem?_append_right (by omega)] at h
          have h5:k - (ats es n).length=0:=by
            have:=(List.getElem?_eq_some_iff.1 h).1;simp at this;omega
          rw[h5] at h;obtain rfl:n=j:=by simpa using h
          exact⟨e,he,hf,by unfold kth;omega,by omega⟩
end
theorem pmark_mono (n:Int) (w:List Int) (k:Nat):pmark n w k≤pmark n w (k+1):=by
  unfold pmark;have h1:=psum_mono w k;have h2:=lot_bd n;have h3:1≤wholeF w:=by unfold wholeF;omega
  exact Int.ediv_le_ediv (by omega) (Int.mul_le_mul_of_nonneg_left h1 h2.1)
theorem pmark_top (n:Int) (w:List Int) (k:Nat):0≤pmark n w k∧pmark n w k≤lot n:=by
  unfold pmark;have h1:=psum_all w k;have h0:=(psum_bd w k).1;have h2:=lot_bd n;have h3:1≤wholeF w:=by unfold wholeF;omega
  have h4:psum w k≤wholeF w:=by unfold wholeF;omega
  refine⟨Int.ediv_nonneg (Int.mul_nonneg h2.1 h0) (by omega),?_⟩;have h5:lot n*psum w k≤lot n*wholeF w:=Int.mul_le_mul_of_nonneg_left h4 h2.1
  calc lot n*psum w k / wholeF w≤lot n*wholeF w / wholeF w:=Int.ediv_le_ediv (by omega) h5
    _=lot n:=Int.mul_ediv_cancel _ (by omega)
theorem share_get (n:Int) (w:List Int) (k:Nat) (hk:k<w.length):(share n w)[k]?=some (pmark n w (k+1) - pmark n w k):=by simp[share,hk]
theorem share_bd (n:Int) (w:List Int) (k:Nat):0≤(share n w).getD k 0∧(share n w).getD k 0≤67108864:=by
  by_cases hk:k<w.length
  · rw [List.getD_eq_getElem?_getD, share_get n w k hk]
    have h1:=pmark_mono n w k;have h2:=pmark_top n w k;have h3:=pmark_top n w (k+1);have h4:=lot_bd n;simp only[Option.getD_some];omega
  · rw [List.getD_eq_getElem?_getD, List.getElem?_eq_none (by rw [share_length]; omega)]
    simp
section
variable {g:Bool} {room:Int} {es:List FE}
def oks (es:List FE):Prop:=∀(i:Nat) (e:FE),es[i]?=some e→e.ok
theorem took_bd (h:oks es):∀i:Nat,0≤took es i∧took es i≤i*1048576
  | 0=>by simp[took]
  | i + 1 => by
    have h1:=took_bd h i;simp only[took];cases he:es[i]? with
    | none=>simp only;omega
    | some e =>
      have h2:=h i e he;unfold FE.ok at h2;simp only
      split<;>omega
theorem sg_or (g:Bool):(g=true∧sgnG g=1)∨(g=false∧sgnG g= -1):=by cases g<;>simp[sgnG]
theorem want_bd (h:oks es) {i:Nat} {e:FE} (he:es[i]?=some e):-67108864≤want g room es i e∧want g room es i e≤68157440:=by
  have h1:=h i e he;unfold FE.ok at h1;have h2:=share_bd (fre g room es) (wts g es es.length) (kth es i);unfold want parts
  rcases sg_or g with ⟨_,e⟩ | ⟨_,e⟩<;>rw[e]<;>omega
theorem gap_bd (h:oks es) {i:Nat} {e:FE} (he:es[i]?=some e):-68157440≤gap g room es i e∧gap g room es i e≤68157440:=by
  have h1:=want_bd (g:=g) (room:=room) h he;have h2:=fit_bd e.it (want g room es i e);unfold gap;have h3:e.it.fit (want g room es i e)=max (cl20 e.it.low) (min (want g room es i e) (cl20 e.it.high)):=rfl;have h4:=cl20_bd e.it.low;have h5:=cl20_bd e.it.high;omega
theorem more_bd (h:oks es):∀i:Nat,-(i*68157440:Int)≤moreTo g room es i∧moreTo g room es i≤i*68157440
  | 0=>by simp[moreTo]
  | i + 1 => by
    have h1:=more_bd h i;simp only[moreTo];cases he:es[i]? with
    | none=>simp only;omega
    | some e =>
      have h2:=gap_bd (g:=g) (room:=room) h he;simp only
      split<;>omega
theorem wt_bd {e:FE} (h:e.ok) (g:Bool):0≤wt g e∧wt g e≤1048576000:=by
  unfold FE.ok at h;unfold wt;cases g
  · simp only [Bool.false_eq_true, if_false]
    refine⟨Int.mul_nonneg (by omega) (by omega),?_⟩
    calc e.it.shrink*e.it.base≤1000*1048576:=Int.mul_le_mul (by omega) (by omega) (by omega) (by omega)
      _=1048576000:=by decide
  · simp only[if_true];omega
theorem round_length (g:Bool) (room:Int) (es:List FE):(round g room es).length=es.length:=by simp[round]
theorem round_get {i:Nat} {e:FE} (he:es[i]?=some e):(round g room es)[i]?=some (froze g room es i e):=by simp[round,List.getElem?_mapIdx,he]
theorem round_oks (h:oks es):oks (round g room es):=by
  intro i e' he';cases he:es[i]? with
  | none=>simp[round,List.getElem?_mapIdx,he] at he'
  | some e =>
    rw[round_get he] at he';have h1:=h i e he;have h2:=fit_bd e.it (want g room es i e);cases he';unfold FE.ok at*;unfold froze
    split
    · exact h1
    · simp only;omega
theorem froze_open {i:Nat} {e:FE} (h:(froze g room es i e).fr=false):e.fr=false:=by
  unfold froze at h
  split at h
  · rename_i h1;rw[h1] at h;cases h
  · rename_i h1;simpa using h1
theorem round_shuts (h0:kth es es.length≠0):∃i e,es[i]?=some e∧e.fr=false∧(froze g room es i e).fr=true:=by
  have hmono:∀s:Int,(s=1∨s= -1)→(∀i e,es[i]?=some e→e.fr=false→s*gap g room es i e≤0)→∀n,s*moreTo g room es n≤0:=by
    intro s hs hall n;induction n with
    | zero=>simp[moreTo]
    | succ n ih =>
      simp only[moreTo];cases he:es[n]? with
      | none=>simp only;rw[Int.mul_add];omega
      | some e =>
        simp only;cases hf:e.fr with
        | true=>simp only[if_true];rw[Int.mul_add];omega
        | false=>have:=hall n e he hf;simp only[Bool.false_eq_true,if_false];rw[Int.mul_add];omega
  obtain⟨k,hk⟩:∃k,kth es es.length=k+1:=⟨kth es es.length - 1,by omega⟩;obtain⟨j,hj⟩:∃j,(ats es es.length)[k]?=some j:=⟨_,List.getElem?_eq_getElem (by unfold kth at hk;omega)⟩;obtain⟨e,he,hf,_,_⟩:=ats_find es _ hj
  rcases Int.lt_trichotomy (moreTo g room es es.length) 0 with hm | hm | hm
  · by_cases hx : ∃ i e, es[i]? = some e ∧ e.fr = false ∧ gap g room es i e < 0
    · obtain ⟨i, e, he, hf, hg⟩ := hx
      exact⟨i,e,he,hf,by simp[froze,hf,judge,hm,hg]⟩
    · have := hmono (-1) (.inr rfl) (fun i e he hf => by
        have : ¬ gap g room es i e < 0 := fun h => hx ⟨i, e, he, hf, h⟩
        omega) es.length
      omega
  · exact⟨j,e,he,hf,by simp[froze,hf,judge,hm]⟩
  · by_cases hx : ∃ i e, es[i]? = some e ∧ e.fr = false ∧ gap g room es i e > 0
    · obtain ⟨i, e, he, hf, hg⟩ := hx
      exact⟨i,e,he,hf,by simp[froze,hf,judge,hm,hg]⟩
    · have := hmono 1 (.inl rfl) (fun i e he hf => by
        have : ¬ gap g room es i e > 0 := fun h => hx ⟨i, e, he, hf, h⟩
        omega) es.length
      omega
theorem kth_sub {es es':List FE} (hl:es'.length=es.length) (h:∀(i:Nat) (e e':FE),es[i]?=some e→es'[i]?=some e'→e'.fr=false→e.fr=false):∀i,kth es' i≤kth es i
  | 0=>by simp[kth,ats]
  | i + 1 => by
    have ih:=kth_sub hl h i;cases he:es[i]? with
    | none =>
      have he':es'[i]?=none:=by rw[List.getElem?_eq_none_iff] at he ⊢;omega
      simp only[kth,ats,he,he'] at ih ⊢;simpa using ih
    | some e =>
      obtain⟨e',he'⟩:∃e',es'[i]?=some e':=⟨_,List.getElem?_eq_getElem (by have:=(List.getElem?_eq_some_iff.1 he).1;omega)⟩;cases hf':e'.fr with
      | true=>rw[kth_shut he' hf'];have:=(kth_step es i).1;omega
      | false=>rw[kth_open he' hf',kth_open he (h i e e' he he' hf')];omega
theorem kth_sub_lt {es es':List FE} (hl:es'.length=es.length) (h:∀(i:Nat) (e e':FE),es[i]?=some e→es'[i]?=some e'→e'.fr=false→e.fr=false)
    {j:Nat} {e e':FE} (he:es[j]?=some e) (he':es'[j]?=some e') (hf:e.fr=false) (hf':e'.fr=true):∀i,j<i→kth es' i<kth es i
  | 0,h0=>by omega
  | i + 1, h0 => by
    by_cases hj:j=i
    · subst hj
      rw[kth_shut he' hf',kth_open he hf];have:=kth_sub hl h j;omega
    · have ih := kth_sub_lt hl h he he' hf hf' i (by omega)
      cases hx:es[i]? with
      | none =>
        have hx':es'[i]?=none:=by rw[List.getElem?_eq_none_iff] at hx ⊢;omega
        simp only[kth,ats,hx,hx'] at ih ⊢;simpa using ih
      | some x =>
        obtain⟨x',hx'⟩:∃x',es'[i]?=some x':=⟨_,List.getElem?_eq_getElem (by have:=(List.getElem?_eq_some_iff.1 hx).1;omega)⟩;cases hg':x'.fr with
        | true=>rw[kth_shut hx' hg'];have:=(kth_step es i).1;omega
        | false=>rw[kth_open hx' hg',kth_open hx (h i x x' hx hx' hg')];omega
theorem round_less (h0:kth es es.length≠0):kth (round g room es) (round g room es).length<kth es es.length:=by
  obtain⟨i,e,he,hf,hs⟩:=round_shuts (g:=g) (room:=room) h0;rw[round_length];refine kth_sub_lt (round_length g room es) (fun i e e' he he' hf'=>?_) he (round_get he) hf hs _ (List.getElem?_eq_some_iff.1 he).1;rw[round_get he] at he';cases he';exact froze_open hf'
end
def rounds (g:Bool) (room:Int):Nat→List FE→List FE
  | 0,es=>es
  | n+1,es=>if kth es es.length=0 then es else rounds g room n (round g room es)
def final (g:Bool) (room:Int) (es:List FE):List FE:=rounds g room (kth es es.length) es
theorem rounds_enough (g:Bool) (room:Int):∀(n m:Nat) (es:List FE),kth es es.length≤n→kth es es.length≤m→rounds g room n es=rounds g room m es
  | 0,0,_,_,_=>rfl
  | 0,m+1,es,h,_=>by simp[rounds,show kth es es.length=0 by omega]
  | n+1,0,es,_,h=>by simp[rounds,show kth es es.length=0 by omega]
  | n + 1, m + 1, es, h1, h2 => by
    unfold rounds
    split
    · rfl
    · rename_i h0
      have:=round_less (g:=g) (room:=room) h0;exact rounds_enough g room n m _ (by omega) (by omega)
theorem final_step {g:Bool} {room:Int} {es:List FE} (h0:kth es es.length≠0):final g room (round g room es)=final g room es:=by
  unfold final;obtain⟨k,hk⟩:∃k,kth es es.length=k+1:=⟨kth es es.length - 1,by omega⟩;rw[hk];show _=rounds g room (k+1) es;rw[rounds,if_neg h0];have:=round_less (g:=g) (room:=room) h0;exact rounds_enough g room _ _ _ (Nat.le_refl _) (by omega)
theorem final_done {g:Bool} {room:Int} {es:List FE} (h0:kth es es.length=0):final g room es=es:=by
  unfold final;rw[h0];rfl
theorem rounds_oks {g:Bool} {room:Int}:∀(n:Nat) {es:List FE},oks es→oks (rounds g room n es)
  | 0,_,h=>h
  | n + 1, es, h => by
    unfold rounds
    split
    · exact h
    · exact rounds_oks n (round_oks h)
theorem rounds_length {g:Bool} {room:Int}:∀(n:Nat) {es:List FE},(rounds g room n es).length=es.length
  | 0,_=>rfl
  | n + 1, es => by
    unfold rounds
    split
    · rfl
    · rw[rounds_length n,round_length]
theorem final_length (g:Bool) (room:Int) (es:List FE):(final g room es).length=es.length:=rounds_length _
def basic (x:FItem):Int:=x.fit x.sound.base
def tot (l:List FItem) (k:Nat):Int:=((l.take k).map basic).sum
def start (g:Bool) (x:FItem):FE:=⟨x.sound,basic x,if g then (decide (x.sound.grow=0)||decide (x.sound.base > basic x)) else (decide (x.sound.shrink=0)||decide (x.sound.base<basic x))⟩
def grows (l:List FItem) (room:Int):Bool:=decide (tot l l.length<lot room)
def sizes (l:List FItem) (room:Int):List Int:=(final (grows l room) (lot room) (l.map (start (grows l room)))).map FE.size
theorem tot_zero (l:List FItem):tot l 0=0:=by simp[tot]
theorem tot_succ (l:List FItem) (k:Nat) (x:FItem) (h:l[k]?=some x):tot l (k+1)=tot l k+basic x:=by
  unfold tot;rw[takeSnocF h];simp
theorem basic_bd (x:FItem):0≤basic x∧basic x≤1048576:=fit_bd _ _
theorem tot_bd (l:List FItem) (k:Nat):0≤tot l k∧tot l k≤k*1048576:=by
  induction k with
  | zero=>simp[tot]
  | succ k ih =>
    cases h:l[k]? with
    | none =>
      have:l.take (k+1)=l.take k:=by rw[List.take_add_one,h];simp
      unfold tot at*;rw[this];omega
    | some x=>rw[tot_succ l k x h];have:=basic_bd x;omega
theorem start_ok (g:Bool) (x:FItem):(start g x).ok:=by
  have h1:=cl20_bd x.base;have h2:=cl20_bd x.low;have h3:=cl20_bd x.high;have h4:=cl1k_bd x.grow;have h5:=cl1k_bd x.shrink;have h6:=basic_bd x;exact⟨h1,h2,h3,h4,h5,h6⟩
theorem start_oks (g:Bool) (l:List FItem):oks (l.map (start g)):=by
  intro i e he;rw[List.getElem?_map] at he;cases h:l[i]? with
  | none=>simp[h] at he
  | some x=>rw[h] at he;simp at he;subst he;exact start_ok g x
theorem sizes_length (l:List FItem) (room:Int):(sizes l room).length=l.length:=by simp[sizes,final_length]
end Go.Proofs.YtbedndijejpcaaaGreat
namespace Go.Proofs.YtbedndijejpcaaaGreat
open Go.RowKit
abbrev tblI (t:Nat) (A:Option Addr) (n cap:Nat) (room:Int) (g:Bool):HI:=.cl t 300 [.slice A n cap,.int .i64 room,.bool g]
abbrev entI (A:Option Addr) (n cap:Nat) (es:List FE):HI:=.row 302 7 A n cap (es.flatMap FE.enc)
def fct (g:Bool) (e:FE):Int:=if g then e.it.grow else e.it.shrink
theorem fct_t {g:Bool} {e:FE} (h:g=true):e.it.grow=fct g e:=by simp[fct,h]
theorem fct_f {g:Bool} {e:FE} (h:g=false):e.it.shrink=fct g e:=by simp[fct,h]
theorem fre_t {g:Bool} {room:Int} {es:List FE} (h:(!g)=false):room - took es es.length=fre g room es:=by
  have:g=true:=by simpa using h
  simp[fre,this,sgnG]
theorem fre_f {g:Bool} {room:Int} {es:List FE} (h:(!g)=true):-(room - took es es.length)=fre g room es:=by
  have:g=false:=by simpa using h
  simp only[fre,this,sgnG,Bool.false_eq_true,if_false];omega
theorem factor_ct (t:Nat) (A:Option Addr) (n cap:Nat) (room:Int) (g:Bool) (e:FE):
    Ct Tryz.prog 252 #[.pointer (some ⟨t,0,none⟩),.agg e.enc.toArray] [tblI t A n cap room g] (fun _=>True) (X:=Unit) (fun _=>.int .i64 (fct g e)) (fun _=>True) (fun _=>[tblI t A n cap room g]):=by
  refine Ci fun w0 _=>?_;refine gg ?_;refine WPL.ef xB fun b3=>?_;refine gg ?_;refine WP.cond rfl (fun h8=>?_) (fun h8=>?_)
  ·refine gg ?_;exact rt1 fun w hw=>⟨(),by first | exact congrArg (Value.int .i64) (fct_t h8) | exact congrArg (Value.int .i64) (fct_f h8),trivial,hw.pk⟩
  ·refine gg ?_;exact rt1 fun w hw=>⟨(),by first | exact congrArg (Value.int .i64) (fct_t h8) | exact congrArg (Value.int .i64) (fct_f h8),trivial,hw.pk⟩
theorem free_ct (t:Nat) (A:Option Addr) (cap:Nat) (room:Int) (g:Bool) (es:List FE) (hok:oks es) (hl:es.length≤64) (hr:0≤room∧room≤67108864):
    Ct Tryz.prog 255 #[.pointer (some ⟨t,0,none⟩)] [tblI t A es.length cap room g,entI A es.length cap es] (fun _=>True) (X:=Unit) (fun _=>.int .i64 (fre g room es)) (fun _=>True)
      (fun _=>[tblI t A es.length cap room g,entI A es.length cap es]):=by
  refine Ci fun w0 _=>?_;refine gg ?_;refine WP.loopK (X:=Nat) [0,13,14] (fun k=>[(3,.int .i64 (room - took es k)),(15,.int .i64 (k:Int))]) (fun k w=>k≤es.length∧St w0 (foots [tblI t A es.length cap room g,entI A es.length cap es]) [tblI t A es.length cap room g,entI A es.length cap es] w) (fun k=>es.length - k) 0 ⟨by rw[show room - took es 0=room by simp[took]];rfl,rfl,trivial⟩ (fun w hw=>⟨by omega,hw⟩) (fun k ρ0=>?_);refine WP.fact (fun hk=>?_);refine gg ?_;refine WP.condP rfl (fun h16=>?_) (fun h16=>?_)
  ·have hk':k<es.length:=by omega
   obtain⟨e,he⟩:∃e,es[k]?=some e:=⟨_,List.getElem?_eq_getElem hk'⟩;have ho:=hok k e he;unfold FE.ok at ho;have hb:=took_bd hok k;refine WP.holds (fun w hw=>hw.row_pos (i:=1) rfl (by omega)) (fun⟨b,hA⟩=>?_);subst hA;refine WP.skip (onto_of ?_);refine sq ?_;refine WP.block ?_;refine sqR ?_;refine av ?_;refine vl (v_loadA (cs:=[.int .i64 _,.int .i64 _,.int .i64 _,.int .i64 _,.int .i64 _,.int .i64 _,.bool _]) Tryz.isAgg302 Tryz.sizeOf302 rfl (fun w hw=>hw.row_at (i:=1) rfl _ (fun j u hu=>by rw[Nat.zero_add];exact flat_at FE.enc 7 (fun _=>rfl) es k j e u he hu))) ?_;refine WPL.ef xAl fun b5=>?_;refine WPL.ef0 (xW rfl) fun _=>?_;refine gg ?_;refine WP.cond rfl (fun h20=>?_) (fun h20=>?_)
   ·refine WP.region ?_
    iterate 4 refine av ?_
    rw[show room - took es k - e.size=room - took es (k+1) by rw[took_shut he h20];omega];refine av ?_;refine nl (oo ?_);refine WP.region ?_
    iterate 2 refine av ?_
    exact nl fun w hw=>⟨rfl,k+1,(by omega),⟨rfl,rfl,jP,jS,jI,trivial⟩,by omega,hw.pk⟩
   ·refine WP.region ?_
    iterate 5 refine av ?_
    rw[show room - took es k - e.it.base=room - took es (k+1) by rw[took_open he h20];omega];refine av ?_;refine nl (oo ?_);refine WP.region ?_
    iterate 2 refine av ?_
    exact nl fun w hw=>⟨rfl,k+1,(by omega),⟨rfl,rfl,jP,jS,jI,trivial⟩,by omega,hw.pk⟩
  ·have hb:=took_bd hok es.length;obtain rfl:k=es.length:=by omega
   refine WP.exit (onto_of ?_);refine gg ?_;refine WP.cond rfl (fun h35=>?_) (fun h35=>?_)
   ·refine WP.region ?_;refine av ?_;refine vl (v_neg rfl (by omega)) ?_;refine gg ?_;exact rt1 fun w hw=>⟨(),by first | exact congrArg (Value.int .i64) (fre_f h35) | exact congrArg (Value.int .i64) (fre_t h35),trivial,hw.pk⟩
   ·refine gg ?_;exact rt1 fun w hw=>⟨(),by first | exact congrArg (Value.int .i64) (fre_f h35) | exact congrArg (Value.int .i64) (fre_t h35),trivial,hw.pk⟩
theorem open_it {w0:World} {M:Nat→Prop} {t:Nat} {A:Option Addr} {n cap:Nat} {room:Int} {g:Bool} {l:Nat} {X:Type} (es:X→List FE) (rest:X→List HI) (I:Nat→X→Prop) (hn64:n≤64) (hlen:∀k x,I k x→(es x).length=n)
    (hs:∀k x e,I k x→(es x)[k]?=some e→e.fr=true→∃x',I (k+1) x'∧∀w,St w0 M (tblI t A n cap room g::entI A n cap (es x)::rest x) w→St w0 M (tblI t A n cap room g::entI A n cap (es x')::rest x') w)
    (x0:X) (h0:I 0 x0) (w1:World) (hw1:St w0 M (tblI t A n cap room g::entI A n cap (es x0)::rest x0) w1)
    (hy : ∀ k x e b, I k x → (es x)[k]? = some e → e.fr = false → A = some ⟨b, 0, none⟩ → ∀ w, St w0 M (tblI t A n cap room g :: entI A n cap (es x) :: rest x) w →
      YieldAt (FW none) 0 Tryz.prog l #[.pointer (some ⟨b, 0 + k * 7, none⟩)] w fun e w' => ∃ x', e = .returned (.bool true) ∧ I (k + 1) x' ∧ St w0 M (tblI t A n cap room g :: entI A n cap (es x') :: rest x') w') :
    Calls Tryz.prog 256 #[.pointer (some ⟨t,0,none⟩),.func (.yield l) #[] #[]] w1 fun e w'=>(∃v,e=.returned v)∧∃x,I n x∧St w0 M (tblI t A n cap room g::entI A n cap (es x)::rest x) w':=by
  refine(enter Tryz.func256 rfl Tryz.ntmps256 (by simp) (R:=fun _ w'=>∃x,I n x∧St w0 M (tblI t A n cap room g::entI A n cap (es x)::rest x) w') (WP.pre (S':=St w0 M (tblI t A n cap room g::entI A n cap (es x0)::rest x0)) ?_ (fun w e=>e▸hw1))).mono (fun e w' ⟨v,he,h⟩=>⟨⟨v,he⟩,h⟩);refine gg ?_;refine WP.loopK (X:=Nat) [0,1,10] (fun k=>[(11,.int .i64 (k:Int))]) (fun k w=>∃x,k≤n∧I k x∧St w0 M (tblI t A n cap room g::entI A n cap (es x)::rest x) w) (fun k=>n - k) 0 ⟨rfl,trivial⟩ (fun w hw=>⟨x0,by omega,h0,hw⟩) (fun k ρ0=>?_);refine WP.ex (fun x=>?_);refine WP.fact (fun hk=>?_);refine WP.fact (fun hI=>?_);refine gg ?_;refine WP.condP rfl (fun h12=>?_) (fun h12=>?_)
  ·have hk':k<n:=by omega
   have hn:=hlen k x hI;obtain⟨e,he⟩:∃e,(es x)[k]?=some e:=⟨_,List.getElem?_eq_getElem (by omega)⟩;refine WP.holds (fun w hw=>hw.row_pos (i:=1) rfl (by omega)) (fun⟨b,hA⟩=>?_);subst hA;refine WP.skip (onto_of ?_);refine sq ?_;refine WP.block ?_;refine sqR ?_
   iterate 2 refine av ?_
   refine nl (oo ?_);refine sqR ?_
   iterate 5 refine av ?_
   refine vl (vX k) ?_;refine av ?_;refine nl (oo ?_);refine sqR ?_
   iterate 3 refine av ?_
   refine vl (v_load1 (u:=.bool e.fr) Tryz.isAgg4 rfl (fun w hw=>hw.row_at1 (i:=1) rfl (flat_at FE.enc 7 (fun _=>rfl) (es x) k 6 e _ he rfl) (by omega))) ?_
   iterate 2 refine av ?_
   refine WPL.splitB 25 rfl (fun h25=>?_) (fun h25=>?_)
   ·refine vg (v_move rfl) ?_;refine vg (v_move (v:=.pointer _) rfl) ?_;refine WPL.efG (x_yield (fun w hw=>hy k x e b hI he (by simpa using h25) rfl w hw)) (fun x'=>?_);refine WPL.fact (fun hI'=>?_);refine gg ?_;refine WP.condF rfl ?_;refine WP.skip (onto_of ?_);refine WP.region ?_
    iterate 2 refine av ?_
    exact nl fun w hw=>⟨rfl,k+1,(by omega),⟨rfl,jP,rfl,jI,trivial⟩,_,by omega,hI',hw⟩
   ·obtain⟨x',hI',hmv⟩:=hs k x e hI he (by simpa using h25);refine WPL.pre ?_ hmv;refine gg ?_;refine WP.condF rfl ?_;refine WP.skip (onto_of ?_);refine WP.region ?_
    iterate 2 refine av ?_
    exact nl fun w hw=>⟨rfl,k+1,(by omega),⟨rfl,jP,rfl,jI,trivial⟩,_,by omega,hI',hw⟩
  ·have hkn:k=n:=by omega
   exact WP.exit fun w hw=>RetQ.of0 Tryz.results256 (.inr rfl) ⟨x,by rw[←hkn];exact hI,hw⟩
end Go.Proofs.YtbedndijejpcaaaGreat
