/- FlexItem FlexTab FlexFin FlexRef FlexWalk FlexRound -/
import Derived.Test.YtbedndijejpcaaaGreatH11
set_option linter.unusedVariables false
set_option linter.unusedSimpArgs false
set_option linter.unusedSectionVars false
set_option maxRecDepth 100000
set_option maxHeartbeats 8000000
namespace Go.Proofs.YtbedndijejpcaaaGreat
open Go.RowKit
structure bt where
  base:Int
  low:Int
  high:Int
  grow:Int
  shrink:Int
abbrev bt.enc (x:bt):List Value:=[.int .i64 x.base,.int .i64 x.low,.int .i64 x.high,.int .i64 x.grow,.int .i64 x.shrink]
def sj (n:Int):Int:=max 0 (min n 1048576)
def Ez (n:Int):Int:=max 0 (min n 1000)
def bt.sound (x:bt):bt:=⟨sj x.base,sj x.low,sj x.high,Ez x.grow,Ez x.shrink⟩
def bt.fit (x:bt) (n:Int):Int:=max (sj x.low) (min n (sj x.high))
theorem tN (n:Int):jq n 0 1048576=sj n:=by rw[ml (by omega) (by omega) (by omega)];rfl
theorem zl (n:Int):jq n 0 1000=Ez n:=by rw[ml (by omega) (by omega) (by omega)];rfl
theorem jg (n:Int):0≤sj n∧sj n≤1048576:=by unfold sj;omega
theorem Dz (n:Int):0≤Ez n∧Ez n≤1000:=by unfold Ez;omega
theorem yY (x:bt):Ct Tryz.prog 239 #[.agg x.enc.toArray] [] (fun _=>True) (X:=Unit) (fun _=>.agg x.sound.enc.toArray) (fun _=>True) (fun _=>[]):=by
  refine Ci fun w0 _=>?_;refine gg ?_;refine aj.ef xB fun b1=>?_;refine aj.ef cg fun b2=>?_;refine gg ?_;refine aj.ef (xN rfl (us:=[.pointer _,.pointer _,.pointer _])) fun g10=>?_;refine gg ?_;refine WP.jH 4 ?_;refine fS.succ ?_;refine gg ?_;refine WP.aQ rfl ?_;refine cR ?_;refine vl (ai (u:=.pointer _) Tryz.isAgg282 rfl (fun w hw=>hw.bh (i:=2) (k:=0) rfl rfl (by decide))) ?_;refine gg ?_;refine vl (vC (iE (tN _) _)) ?_;refine gg ?_;refine aj.aX (xS rfl (jJ rfl)) fun _=>?_;refine bS ?_;refine aj.nil (aI ?_);refine fS.succ ?_;refine gg ?_;refine WP.aQ rfl ?_;refine bS ?_;refine vl (bG (j:=1) Tryz.underlying304 Tryz.sizeOf282 rfl rfl rfl (by omega)) ?_;refine vl (ai (u:=.pointer _) Tryz.isAgg282 rfl (fun w hw=>hw.bh (i:=2) (k:=1) rfl rfl (by decide))) ?_;refine gg ?_;refine vl (vC (iE (tN _) _)) ?_;refine gg ?_;refine aj.aX (xS rfl (jJ rfl)) fun _=>?_;refine bS ?_;refine aj.nil (aI ?_);refine fS.succ ?_;refine gg ?_;refine WP.aQ rfl ?_;refine bS ?_;refine vl (bG (j:=2) Tryz.underlying304 Tryz.sizeOf282 rfl rfl rfl (by omega)) ?_;refine vl (ai (u:=.pointer _) Tryz.isAgg282 rfl (fun w hw=>hw.bh (i:=2) (k:=2) rfl rfl (by decide))) ?_;refine gg ?_;refine vl (vC (iE (tN _) _)) ?_;refine gg ?_;refine aj.aX (xS rfl (jJ rfl)) fun _=>?_;refine bS ?_;refine aj.nil (aI ?_);refine fS.succ ?_;refine gg ?_;refine WP.br rfl ?_;refine WP.exit (an ?_);refine gg ?_;refine aj.ef (xN rfl (us:=[.pointer _,.pointer _])) fun g25=>?_;refine gg ?_;refine WP.jH 3 ?_;refine fS.succ ?_;refine gg ?_;refine WP.aQ rfl ?_;refine cR ?_;refine vl (ai (u:=.pointer _) Tryz.isAgg282 rfl (fun w hw=>hw.bh (i:=3) (k:=0) rfl rfl (by decide))) ?_;refine gg ?_;refine vl (vC (iE (zl _) _)) ?_;refine gg ?_;refine aj.aX (xS rfl (jJ rfl)) fun _=>?_;refine bS ?_;refine aj.nil (aI ?_);refine fS.succ ?_;refine gg ?_;refine WP.aQ rfl ?_;refine bS ?_;refine vl (bG (j:=1) Tryz.underlying304 Tryz.sizeOf282 rfl rfl rfl (by omega)) ?_;refine vl (ai (u:=.pointer _) Tryz.isAgg282 rfl (fun w hw=>hw.bh (i:=3) (k:=1) rfl rfl (by decide))) ?_;refine gg ?_;refine vl (vC (iE (zl _) _)) ?_;refine gg ?_;refine aj.aX (xS rfl (jJ rfl)) fun _=>?_;refine bS ?_;refine aj.nil (aI ?_);refine fS.succ ?_;refine gg ?_;refine WP.br rfl ?_;refine WP.exit (an ?_);refine gg ?_;refine aj.aX (xW rfl) fun _=>?_;refine gg ?_;exact jf rfl fun w hw=>⟨(),rfl,trivial,hw.pk⟩
theorem BS (x:bt) (n:Int):Ct Tryz.prog 231 #[.agg x.enc.toArray,.int .i64 n] [] (fun _=>True) (X:=Unit) (fun _=>.int .i64 (x.fit n)) (fun _=>True) (fun _=>[]):=by
  refine Ci fun w0 _=>?_;refine gg ?_;refine aj.ef xB fun b2=>?_;refine gg ?_;refine eF (xC (yY x)) fun _ _=>?_;refine aj.aX (xW rfl) fun _=>?_;refine gg ?_;exact aT fun w hw=>⟨(),rfl,trivial,hw.pk⟩
structure FE where
  it:bt
  size:Int
  fr:Bool
abbrev FE.enc (e:FE):List Value:=[.int .i64 e.it.base,.int .i64 e.it.low,.int .i64 e.it.high,.int .i64 e.it.grow,.int .i64 e.it.shrink,.int .i64 e.size,.bool e.fr]
def FE.ok (e:FE):Prop:=(0≤e.it.base∧e.it.base≤1048576)∧(0≤e.it.low∧e.it.low≤1048576)∧(0≤e.it.high∧e.it.high≤1048576)∧(0≤e.it.grow∧e.it.grow≤1000)∧(0≤e.it.shrink∧e.it.shrink≤1000)∧0≤e.size∧e.size≤1048576
theorem BM (x:bt) (n:Int):0≤x.fit n∧x.fit n≤1048576:=by
  have h1:=jg x.low;have h2:=jg x.high;unfold bt.fit;omega
def fW {α:Type} (f:Nat→α→α) (l:List α) (i:Nat):List α:=l.mapIdx fun j e=>if j<i then f j e else e
theorem dw {α:Type} (f:Nat→α→α) (l:List α) (i:Nat):(fW f l i).length=l.length:=by simp[fW]
theorem qK {α:Type} (f:Nat→α→α) (l:List α):fW f l 0=l:=by
  apply List.ext_getElem?;intro j;simp[fW]
theorem mu {α:Type} (f:Nat→α→α) (l:List α) (i:Nat) {j:Nat} {e:α} (h:l[j]?=some e):(fW f l i)[j]?=some (if j<i then f j e else e):=by
  simp[fW,List.getElem?_mapIdx,h]
theorem kR {α:Type} (f:Nat→α→α) (l:List α) (i:Nat) {e:α} (h:l[i]?=some e):(fW f l i).set i (f i e)=fW f l (i+1):=by
  apply List.ext_getElem?;intro j
  by_cases hj:j=i
  · subst hj
    rw[mu f l _ h,if_pos (by omega)];simp[dw,(List.getElem?_eq_some_iff.1 h).1]
  · rw [List.getElem?_set_ne (Ne.symm hj)]
    simp only[fW,List.getElem?_mapIdx];cases l[j]? with
    | none=>rfl
    | some x=>simp only[Option.map_some];congr 1;by_cases h1:j<i<;>by_cases h2:j<i+1<;>simp[h1,h2]<;>omega
theorem wB {α:Type} (f:Nat→α→α) (l:List α) (i:Nat) {e:α} (h:l[i]?=some e) (hf:f i e=e):fW f l (i+1)=fW f l i:=by
  rw[←kR f l i h,hf];apply List.ext_getElem?;intro j
  by_cases hj:j=i
  · subst hj
    rw[mu f l _ h,if_neg (by omega)];simp[dw,(List.getElem?_eq_some_iff.1 h).1]
  · rw[List.getElem?_set_ne (Ne.symm hj)]
theorem tL {α:Type} (f:Nat→α→α) (l:List α) {i:Nat} (h:l.length≤i):fW f l i=l.mapIdx f:=by
  apply List.ext_getElem?;intro j;simp only[fW,List.getElem?_mapIdx];cases hx:l[j]? with
  | none=>rfl
  | some x=>have:=(List.getElem?_eq_some_iff.1 hx).1;simp[show j<i by omega]
theorem uQ {α:Type} {l:List α} {i:Nat} {e:α} (h:l[i]?=some e):l.take (i+1)=l.take i++[e]:=by
  rw[List.take_add_one,h];rfl
theorem kD {α:Type} (g:α→List Value) (n:Nat) (hg:∀a,(g a).length=n):∀(l:List α) (i o:Nat) (a a':α) (v:Value),l[i]?=some a→o<n→(g a).set o v=g a'→(l.flatMap g).set (i*n+o) v=(l.set i a').flatMap g
  | [],_,_,_,_,_,h,_,_=>by simp at h
  | x :: l, 0, o, a, a', v, h, ho, he => by
    obtain rfl:x=a:=by simpa using h
    simp only[List.flatMap_cons,List.set_cons_zero,Nat.zero_mul,Nat.zero_add];rw[List.set_append_left _ _ (by rw[hg];exact ho),he]
  | x :: l, i + 1, o, a, a', v, h, ho, he => by
    simp only[List.flatMap_cons,List.set_cons_succ]
    rw [List.set_append_right _ _ (by rw [hg, Nat.succ_mul]; omega), hg, show (i + 1) * n + o - n = i * n + o by rw [Nat.succ_mul]; omega,
      kD g n hg l i o a a' v (by simpa using h) ho he]
theorem bT {α:Type} (g:α→List Value) (n:Nat) (hg:∀a,(g a).length=n):∀(l:List α) (i o:Nat) (a:α) (v:Value),l[i]?=some a→(g a)[o]?=some v→(l.flatMap g)[i*n+o]?=some v
  | [],_,_,_,_,h,_=>by simp at h
  | x :: l, 0, o, a, v, h, hv => by
    obtain rfl:x=a:=by simpa using h
    have ho:=(List.getElem?_eq_some_iff.1 hv).1;simp only[List.flatMap_cons,Nat.zero_mul,Nat.zero_add];rw[List.getElem?_append_left ho,hv]
  | x :: l, i + 1, o, a, v, h, hv => by
    have ho:=(List.getElem?_eq_some_iff.1 hv).1;rw[hg] at ho;simp only[List.flatMap_cons];rw[List.getElem?_append_right (by rw[hg,Nat.succ_mul];omega),hg,show (i+1)*n+o - n=i*n+o by rw[Nat.succ_mul];omega];exact bT g n hg l i o a v (by simpa using h) hv
section
variable (g:Bool) (room:Int) (es:List FE)
def ats:Nat→List Nat
  | 0=>[]
  | i+1=>ats i++(match es[i]? with | some e=>if e.fr then [] else [i] | none=>[])
def fy (i:Nat):Nat:=(ats es i).length
def wt (e:FE):Int:=if g then e.it.grow else e.it.shrink*e.it.base
def o9:Nat→List Int
  | 0=>[]
  | i+1=>o9 i++(match es[i]? with | some e=>if e.fr then [] else [wt g e] | none=>[])
def ke:Nat→Int
  | 0=>0
  | i+1=>ke i+(match es[i]? with | some e=>if e.fr then e.size else e.it.base | none=>0)
def xu:Int:=if g then 1 else -1
def Kw:Int:=xu g*(room - ke es es.length)
def parts:List Int:=share (Kw g room es) (o9 g es es.length)
def want (i:Nat) (e:FE):Int:=e.it.base+xu g*(parts g room es).getD (fy es i) 0
def gap (i:Nat) (e:FE):Int:=e.it.fit (want g room es i e) - want g room es i e
def uF:Nat→List Int
  | 0=>[]
  | i+1=>uF i++(match es[i]? with | some e=>if e.fr then [] else [want g room es i e] | none=>[])
def dK:Nat→Int
  | 0=>0
  | i+1=>dK i+(match es[i]? with | some e=>if e.fr then 0 else gap g room es i e | none=>0)
def oM (m b:Int):Bool:=decide (m=0)||(decide (m > 0)&&decide (b > 0))||(decide (m<0)&&decide (b<0))
def sized (i:Nat) (e:FE):FE:=if e.fr then e else {e with size:=e.it.fit (want g room es i e)}
def froze (i:Nat) (e:FE):FE:=if e.fr then e else {e with size:=e.it.fit (want g room es i e),fr:=oM (dK g room es es.length) (gap g room es i e)}
def round:List FE:=es.mapIdx (froze g room es)
theorem lD:∀i,(o9 g es i).length=fy es i
  | 0=>rfl
  | i + 1 => by
    simp only[o9,ats,fy,List.length_append];rw[lD i,show fy es i=(ats es i).length from rfl]
    congr 1
    cases es[i]? with
    | none=>rfl
    | some e=>simp only;split<;>rfl
theorem rV:∀i,(uF g room es i).length=fy es i
  | 0=>rfl
  | i + 1 => by
    simp only[uF,ats,fy,List.length_append];rw[rV i,show fy es i=(ats es i).length from rfl]
    congr 1
    cases es[i]? with
    | none=>rfl
    | some e=>simp only;split<;>rfl
theorem xh:(parts g room es).length=fy es es.length:=by rw[parts,o0,lD]
end
section
variable {g:Bool} {room:Int} {es:List FE} {i:Nat} {e:FE}
theorem yp (h:es[i]?=some e) (hf:e.fr=false):ats es (i+1)=ats es i++[i]:=by simp[ats,h,hf]
theorem z7 (h:es[i]?=some e) (hf:e.fr=true):ats es (i+1)=ats es i:=by simp[ats,h,hf]
theorem iC (h:es[i]?=some e) (hf:e.fr=false):fy es (i+1)=fy es i+1:=by simp[fy,yp h hf]
theorem my (h:es[i]?=some e) (hf:e.fr=true):fy es (i+1)=fy es i:=by simp[fy,z7 h hf]
theorem Ie (h:es[i]?=some e) (hf:e.fr=false):o9 g es (i+1)=o9 g es i++[wt g e]:=by simp[o9,h,hf]
theorem FL (h:es[i]?=some e) (hf:e.fr=true):o9 g es (i+1)=o9 g es i:=by simp[o9,h,hf]
theorem EV (h:es[i]?=some e) (hf:e.fr=false):ke es (i+1)=ke es i+e.it.base:=by simp[ke,h,hf]
theorem Ek (h:es[i]?=some e) (hf:e.fr=true):ke es (i+1)=ke es i+e.size:=by simp[ke,h,hf]
theorem zD (h:es[i]?=some e) (hf:e.fr=false):uF g room es (i+1)=uF g room es i++[want g room es i e]:=by simp[uF,h,hf]
theorem Gc (h:es[i]?=some e) (hf:e.fr=true):uF g room es (i+1)=uF g room es i:=by simp[uF,h,hf]
theorem D8 (h:es[i]?=some e) (hf:e.fr=false):dK g room es (i+1)=dK g room es i+gap g room es i e:=by simp[dK,h,hf]
theorem Fh (h:es[i]?=some e) (hf:e.fr=true):dK g room es (i+1)=dK g room es i:=by simp[dK,h,hf]
theorem oW (es:List FE) (i:Nat):fy es i≤fy es (i+1)∧fy es (i+1)≤fy es i+1:=by
  simp only[fy,ats,List.length_append];cases es[i]? with
  | none=>simp
  | some e=>simp only;split<;>simp
theorem Hr (es:List FE) {i j:Nat} (h:i≤j):fy es i≤fy es j:=by
  induction j with
  | zero => obtain rfl : i = 0 := by omega
            exact Nat.le_refl _
  | succ j ih =>
    by_cases e:i=j+1
    · subst e;exact Nat.le_refl _
    · exact Nat.le_trans (ih (by omega)) (oW es j).1
theorem tM (es:List FE) (i:Nat):fy es i≤i:=by
  induction i with
  | zero=>simp[fy,ats]
  | succ i ih=>have:=(oW es i).2;omega
theorem xe (h:es[i]?=some e) (hf:e.fr=false):fy es i<fy es es.length:=by
  have h1:=iC h hf;have h2:=Hr es (i:=i+1) (j:=es.length) (by have:=(List.getElem?_eq_some_iff.1 h).1;omega);omega
theorem B9 (g:Bool) (room:Int) (es:List FE) {i j:Nat} (h:i≤j):uF g room es i<+:uF g room es j:=by
  induction j with
  | zero => obtain rfl : i = 0 := by omega
            exact List.prefix_rfl
  | succ j ih =>
    by_cases e:i=j+1
    · subst e;exact List.prefix_rfl
    · exact(ih (by omega)).trans (List.prefix_append _ _)
theorem B4 {α:Type} {a b:List α} (h:a<+:b) {k:Nat} {x:α} (hx:a[k]?=some x):b[k]?=some x:=by
  obtain⟨t,rfl⟩:=h;rw[List.getElem?_append_left (List.getElem?_eq_some_iff.1 hx).1,hx]
theorem Jg (h:es[i]?=some e) (hf:e.fr=false):(uF g room es es.length)[fy es i]?=some (want g room es i e):=by
  refine B4 (B9 g room es (i:=i+1) (by have:=(List.getElem?_eq_some_iff.1 h).1;omega)) ?_;rw[zD h hf,←rV g room];simp
theorem E0 (h:es[i]?=some e) (hf:e.fr=false):(parts g room es)[fy es i]?=some ((parts g room es).getD (fy es i) 0):=by
  have hk:fy es i<(parts g room es).length:=by rw[xh];exact xe h hf
  simp[List.getD_eq_getElem?_getD,hk]
theorem pf (es:List FE):∀(n:Nat) {k j:Nat},(ats es n)[k]?=some j→∃e,es[j]?=some e∧e.fr=false∧fy es j=k∧j<n
  | 0,k,j,h=>by simp[ats] at h
  | n + 1, k, j, h => by
    cases he:es[n]? with
    | none=>rw[ats,he] at h;obtain⟨e,h1,h2,h3,h4⟩:=pf es n (k:=k) (j:=j) (by simpa using h);exact⟨e,h1,h2,h3,by omega⟩
    | some e =>
      cases hf:e.fr with
      | true=>rw[z7 he hf] at h;obtain⟨e,h1,h2,h3,h4⟩:=pf es n h;exact⟨e,h1,h2,h3,by omega⟩
      | false =>
        rw[yp he hf] at h
        by_cases hk:k<(ats es n).length
        · rw[List.getElem?_append_left hk] at h;obtain⟨e,h1,h2,h3,h4⟩:=pf es n h;exact⟨e,h1,h2,h3,by omega⟩
        · rw [List.getElem?_append_right (by omega)] at h
          have h5:k - (ats es n).length=0:=by
            have:=(List.getElem?_eq_some_iff.1 h).1;simp at this;omega
          rw[h5] at h;obtain rfl:n=j:=by simpa using h
          exact⟨e,he,hf,by unfold fy;omega,by omega⟩
end
theorem BB (n:Int) (w:List Int) (k:Nat):iB n w k≤iB n w (k+1):=by
  unfold iB;have h1:=wj w k;have h2:=sY n;have h3:1≤gH w:=by unfold gH;omega
  exact Int.ediv_le_ediv (by omega) (Int.mul_le_mul_of_nonneg_left h1 h2.1)
theorem vK (n:Int) (w:List Int) (k:Nat):0≤iB n w k∧iB n w k≤qm n:=by
  unfold iB;have h1:=G4 w k;have h0:=(w8 w k).1;have h2:=sY n;have h3:1≤gH w:=by unfold gH;omega
  have h4:gU w k≤gH w:=by unfold gH;omega
  refine⟨Int.ediv_nonneg (Int.mul_nonneg h2.1 h0) (by omega),?_⟩;have h5:qm n*gU w k≤qm n*gH w:=Int.mul_le_mul_of_nonneg_left h4 h2.1
  calc qm n*gU w k / gH w≤qm n*gH w / gH w:=Int.ediv_le_ediv (by omega) h5
    _=qm n:=Int.mul_ediv_cancel _ (by omega)
theorem Eu (n:Int) (w:List Int) (k:Nat) (hk:k<w.length):(share n w)[k]?=some (iB n w (k+1) - iB n w k):=by simp[share,hk]
theorem zv (n:Int) (w:List Int) (k:Nat):0≤(share n w).getD k 0∧(share n w).getD k 0≤67108864:=by
  by_cases hk:k<w.length
  · rw [List.getD_eq_getElem?_getD, Eu n w k hk]
    have h1:=BB n w k;have h2:=vK n w k;have h3:=vK n w (k+1);have h4:=sY n;simp only[Option.getD_some];omega
  · rw [List.getD_eq_getElem?_getD, List.getElem?_eq_none (by rw [o0]; omega)]
    simp
section
variable {g:Bool} {room:Int} {es:List FE}
def Fa (es:List FE):Prop:=∀(i:Nat) (e:FE),es[i]?=some e→e.ok
theorem xm (h:Fa es):∀i:Nat,0≤ke es i∧ke es i≤i*1048576
  | 0=>by simp[ke]
  | i + 1 => by
    have h1:=xm h i;simp only[ke];cases he:es[i]? with
    | none=>simp only;omega
    | some e =>
      have h2:=h i e he;unfold FE.ok at h2;simp only
      split<;>omega
theorem YW (g:Bool):(g=true∧xu g=1)∨(g=false∧xu g= -1):=by cases g<;>simp[xu]
theorem xx (h:Fa es) {i:Nat} {e:FE} (he:es[i]?=some e):-67108864≤want g room es i e∧want g room es i e≤68157440:=by
  have h1:=h i e he;unfold FE.ok at h1;have h2:=zv (Kw g room es) (o9 g es es.length) (fy es i);unfold want parts
  rcases YW g with ⟨_,e⟩ | ⟨_,e⟩<;>rw[e]<;>omega
theorem B6 (h:Fa es) {i:Nat} {e:FE} (he:es[i]?=some e):-68157440≤gap g room es i e∧gap g room es i e≤68157440:=by
  have h1:=xx (g:=g) (room:=room) h he;have h2:=BM e.it (want g room es i e);unfold gap;have h3:e.it.fit (want g room es i e)=max (sj e.it.low) (min (want g room es i e) (sj e.it.high)):=rfl;have h4:=jg e.it.low;have h5:=jg e.it.high;omega
theorem xf (h:Fa es):∀i:Nat,-(i*68157440:Int)≤dK g room es i∧dK g room es i≤i*68157440
  | 0=>by simp[dK]
  | i + 1 => by
    have h1:=xf h i;simp only[dK];cases he:es[i]? with
    | none=>simp only;omega
    | some e =>
      have h2:=B6 (g:=g) (room:=room) h he;simp only
      split<;>omega
theorem ade {e:FE} (h:e.ok) (g:Bool):0≤wt g e∧wt g e≤1048576000:=by
  unfold FE.ok at h;unfold wt;cases g
  · simp only [Bool.false_eq_true, if_false]
    refine⟨Int.mul_nonneg (by omega) (by omega),?_⟩
    calc e.it.shrink*e.it.base≤1000*1048576:=Int.mul_le_mul (by omega) (by omega) (by omega) (by omega)
      _=1048576000:=by decide
  · simp only[if_true];omega
theorem gO (g:Bool) (room:Int) (es:List FE):(round g room es).length=es.length:=by simp[round]
theorem qw {i:Nat} {e:FE} (he:es[i]?=some e):(round g room es)[i]?=some (froze g room es i e):=by simp[round,List.getElem?_mapIdx,he]
theorem we (h:Fa es):Fa (round g room es):=by
  intro i e' he';cases he:es[i]? with
  | none=>simp[round,List.getElem?_mapIdx,he] at he'
  | some e =>
    rw[qw he] at he';have h1:=h i e he;have h2:=BM e.it (want g room es i e);cases he';unfold FE.ok at*;unfold froze
    split
    · exact h1
    · simp only;omega
theorem BX {i:Nat} {e:FE} (h:(froze g room es i e).fr=false):e.fr=false:=by
  unfold froze at h
  split at h
  · rename_i h1;rw[h1] at h;cases h
  · rename_i h1;simpa using h1
theorem Ak (h0:fy es es.length≠0):∃i e,es[i]?=some e∧e.fr=false∧(froze g room es i e).fr=true:=by
  have hmono:∀s:Int,(s=1∨s= -1)→(∀i e,es[i]?=some e→e.fr=false→s*gap g room es i e≤0)→∀n,s*dK g room es n≤0:=by
    intro s hs hall n;induction n with
    | zero=>simp[dK]
    | succ n ih =>
      simp only[dK];cases he:es[n]? with
      | none=>simp only;rw[Int.mul_add];omega
      | some e =>
        simp only;cases hf:e.fr with
        | true=>simp only[if_true];rw[Int.mul_add];omega
        | false=>have:=hall n e he hf;simp only[Bool.false_eq_true,if_false];rw[Int.mul_add];omega
  obtain⟨k,hk⟩:∃k,fy es es.length=k+1:=⟨fy es es.length - 1,by omega⟩;obtain⟨j,hj⟩:∃j,(ats es es.length)[k]?=some j:=⟨_,List.getElem?_eq_getElem (by unfold fy at hk;omega)⟩;obtain⟨e,he,hf,_,_⟩:=pf es _ hj
  rcases Int.lt_trichotomy (dK g room es es.length) 0 with hm | hm | hm
  · by_cases hx : ∃ i e, es[i]? = some e ∧ e.fr = false ∧ gap g room es i e < 0
    · obtain ⟨i, e, he, hf, hg⟩ := hx
      exact⟨i,e,he,hf,by simp[froze,hf,oM,hm,hg]⟩
    · have := hmono (-1) (.inr rfl) (fun i e he hf => by
        have : ¬ gap g room es i e < 0 := fun h => hx ⟨i, e, he, hf, h⟩
        omega) es.length
      omega
  · exact⟨j,e,he,hf,by simp[froze,hf,oM,hm]⟩
  · by_cases hx : ∃ i e, es[i]? = some e ∧ e.fr = false ∧ gap g room es i e > 0
    · obtain ⟨i, e, he, hf, hg⟩ := hx
      exact⟨i,e,he,hf,by simp[froze,hf,oM,hm,hg]⟩
    · have := hmono 1 (.inl rfl) (fun i e he hf => by
        have : ¬ gap g room es i e > 0 := fun h => hx ⟨i, e, he, hf, h⟩
        omega) es.length
      omega
theorem De {es es':List FE} (hl:es'.length=es.length) (h:∀(i:Nat) (e e':FE),es[i]?=some e→es'[i]?=some e'→e'.fr=false→e.fr=false):∀i,fy es' i≤fy es i
  | 0=>by simp[fy,ats]
  | i + 1 => by
    have ih:=De hl h i;cases he:es[i]? with
    | none =>
      have he':es'[i]?=none:=by rw[List.getElem?_eq_none_iff] at he ⊢;omega
      simp only[fy,ats,he,he'] at ih ⊢;simpa using ih
    | some e =>
      obtain⟨e',he'⟩:∃e',es'[i]?=some e':=⟨_,List.getElem?_eq_getElem (by have:=(List.getElem?_eq_some_iff.1 he).1;omega)⟩;cases hf':e'.fr with
      | true=>rw[my he' hf'];have:=(oW es i).1;omega
      | false=>rw[iC he' hf',iC he (h i e e' he he' hf')];omega
theorem sd {es es':List FE} (hl:es'.length=es.length) (h:∀(i:Nat) (e e':FE),es[i]?=some e→es'[i]?=some e'→e'.fr=false→e.fr=false)
    {j:Nat} {e e':FE} (he:es[j]?=some e) (he':es'[j]?=some e') (hf:e.fr=false) (hf':e'.fr=true):∀i,j<i→fy es' i<fy es i
  | 0,h0=>by omega
  | i + 1, h0 => by
    by_cases hj:j=i
    · subst hj
      rw[my he' hf',iC he hf];have:=De hl h j;omega
    · have ih := sd hl h he he' hf hf' i (by omega)
      cases hx:es[i]? with
      | none =>
        have hx':es'[i]?=none:=by rw[List.getElem?_eq_none_iff] at hx ⊢;omega
        simp only[fy,ats,hx,hx'] at ih ⊢;simpa using ih
      | some x =>
        obtain⟨x',hx'⟩:∃x',es'[i]?=some x':=⟨_,List.getElem?_eq_getElem (by have:=(List.getElem?_eq_some_iff.1 hx).1;omega)⟩;cases hg':x'.fr with
        | true=>rw[my hx' hg'];have:=(oW es i).1;omega
        | false=>rw[iC hx' hg',iC hx (h i x x' hx hx' hg')];omega
theorem oy (h0:fy es es.length≠0):fy (round g room es) (round g room es).length<fy es es.length:=by
  obtain⟨i,e,he,hf,hs⟩:=Ak (g:=g) (room:=room) h0;rw[gO];refine sd (gO g room es) (fun i e e' he he' hf'=>?_) he (qw he) hf hs _ (List.getElem?_eq_some_iff.1 he).1;rw[qw he] at he';cases he';exact BX hf'
end
def rounds (g:Bool) (room:Int):Nat→List FE→List FE
  | 0,es=>es
  | n+1,es=>if fy es es.length=0 then es else rounds g room n (round g room es)
def final (g:Bool) (room:Int) (es:List FE):List FE:=rounds g room (fy es es.length) es
theorem nM (g:Bool) (room:Int):∀(n m:Nat) (es:List FE),fy es es.length≤n→fy es es.length≤m→rounds g room n es=rounds g room m es
  | 0,0,_,_,_=>rfl
  | 0,m+1,es,h,_=>by simp[rounds,show fy es es.length=0 by omega]
  | n+1,0,es,_,h=>by simp[rounds,show fy es es.length=0 by omega]
  | n + 1, m + 1, es, h1, h2 => by
    unfold rounds
    split
    · rfl
    · rename_i h0
      have:=oy (g:=g) (room:=room) h0;exact nM g room n m _ (by omega) (by omega)
theorem BV {g:Bool} {room:Int} {es:List FE} (h0:fy es es.length≠0):final g room (round g room es)=final g room es:=by
  unfold final;obtain⟨k,hk⟩:∃k,fy es es.length=k+1:=⟨fy es es.length - 1,by omega⟩;rw[hk];show _=rounds g room (k+1) es;rw[rounds,if_neg h0];have:=oy (g:=g) (room:=room) h0;exact nM g room _ _ _ (Nat.le_refl _) (by omega)
theorem Ce {g:Bool} {room:Int} {es:List FE} (h0:fy es es.length=0):final g room es=es:=by
  unfold final;rw[h0];rfl
theorem tZ {g:Bool} {room:Int}:∀(n:Nat) {es:List FE},Fa es→Fa (rounds g room n es)
  | 0,_,h=>h
  | n + 1, es, h => by
    unfold rounds
    split
    · exact h
    · exact tZ n (we h)
theorem nN {g:Bool} {room:Int}:∀(n:Nat) {es:List FE},(rounds g room n es).length=es.length
  | 0,_=>rfl
  | n + 1, es => by
    unfold rounds
    split
    · rfl
    · rw[nN n,gO]
theorem wN (g:Bool) (room:Int) (es:List FE):(final g room es).length=es.length:=nN _
def basic (x:bt):Int:=x.fit x.sound.base
def Hf (l:List bt) (k:Nat):Int:=((l.take k).map basic).sum
def start (g:Bool) (x:bt):FE:=⟨x.sound,basic x,if g then (decide (x.sound.grow=0)||decide (x.sound.base > basic x)) else (decide (x.sound.shrink=0)||decide (x.sound.base<basic x))⟩
def dX (l:List bt) (room:Int):Bool:=decide (Hf l l.length<qm room)
def sizes (l:List bt) (room:Int):List Int:=(final (dX l room) (qm room) (l.map (start (dX l room)))).map FE.size
theorem GJ (l:List bt):Hf l 0=0:=by simp[Hf]
theorem zL (l:List bt) (k:Nat) (x:bt) (h:l[k]?=some x):Hf l (k+1)=Hf l k+basic x:=by
  unfold Hf;rw[uQ h];simp
theorem ud (x:bt):0≤basic x∧basic x≤1048576:=BM _ _
theorem SN (l:List bt) (k:Nat):0≤Hf l k∧Hf l k≤k*1048576:=by
  induction k with
  | zero=>simp[Hf]
  | succ k ih =>
    cases h:l[k]? with
    | none =>
      have:l.take (k+1)=l.take k:=by rw[List.take_add_one,h];simp
      unfold Hf at*;rw[this];omega
    | some x=>rw[zL l k x h];have:=ud x;omega
theorem FX (g:Bool) (x:bt):(start g x).ok:=by
  have h1:=jg x.base;have h2:=jg x.low;have h3:=jg x.high;have h4:=Dz x.grow;have h5:=Dz x.shrink;have h6:=ud x;exact⟨h1,h2,h3,h4,h5,h6⟩
theorem vD (g:Bool) (l:List bt):Fa (l.map (start g)):=by
  intro i e he;rw[List.getElem?_map] at he;cases h:l[i]? with
  | none=>simp[h] at he
  | some x=>rw[h] at he;simp at he;subst he;exact FX g x
theorem jh (l:List bt) (room:Int):(sizes l room).length=l.length:=by simp[sizes,wN]
end Go.Proofs.YtbedndijejpcaaaGreat
namespace Go.Proofs.YtbedndijejpcaaaGreat
open Go.RowKit
abbrev ik (t:Nat) (A:Option Addr) (n cap:Nat) (room:Int) (g:Bool):HI:=.cl t 300 [.slice A n cap,.int .i64 room,.bool g]
abbrev hY (A:Option Addr) (n cap:Nat) (es:List FE):HI:=.row 302 7 A n cap (es.flatMap FE.enc)
def Ew (g:Bool) (e:FE):Int:=if g then e.it.grow else e.it.shrink
theorem KM {g:Bool} {e:FE} (h:g=true):e.it.grow=Ew g e:=by simp[Ew,h]
theorem KZ {g:Bool} {e:FE} (h:g=false):e.it.shrink=Ew g e:=by simp[Ew,h]
theorem KY {g:Bool} {room:Int} {es:List FE} (h:(!g)=false):room - ke es es.length=Kw g room es:=by
  have:g=true:=by simpa using h
  simp[Kw,this,xu]
theorem KR {g:Bool} {room:Int} {es:List FE} (h:(!g)=true):-(room - ke es es.length)=Kw g room es:=by
  have:g=false:=by simpa using h
  simp only[Kw,this,xu,Bool.false_eq_true,if_false];omega
theorem vP (t:Nat) (A:Option Addr) (n cap:Nat) (room:Int) (g:Bool) (e:FE):
    Ct Tryz.prog 252 #[.pointer (some ⟨t,0,none⟩),.agg e.enc.toArray] [ik t A n cap room g] (fun _=>True) (X:=Unit) (fun _=>.int .i64 (Ew g e)) (fun _=>True) (fun _=>[ik t A n cap room g]):=by
  refine Ci fun w0 _=>?_;refine gg ?_;refine aj.ef xB fun b3=>?_;refine gg ?_;refine WP.cond rfl (fun h8=>?_) (fun h8=>?_)
  ·refine gg ?_;exact aT fun w hw=>⟨(),by first | exact congrArg (Value.int .i64) (KM h8) | exact congrArg (Value.int .i64) (KZ h8),trivial,hw.pk⟩
  ·refine gg ?_;exact aT fun w hw=>⟨(),by first | exact congrArg (Value.int .i64) (KM h8) | exact congrArg (Value.int .i64) (KZ h8),trivial,hw.pk⟩
theorem JQ (t:Nat) (A:Option Addr) (cap:Nat) (room:Int) (g:Bool) (es:List FE) (hok:Fa es) (hl:es.length≤64) (hr:0≤room∧room≤67108864):
    Ct Tryz.prog 255 #[.pointer (some ⟨t,0,none⟩)] [ik t A es.length cap room g,hY A es.length cap es] (fun _=>True) (X:=Unit) (fun _=>.int .i64 (Kw g room es)) (fun _=>True)
      (fun _=>[ik t A es.length cap room g,hY A es.length cap es]):=by
  refine Ci fun w0 _=>?_;refine gg ?_;refine WP.bm (X:=Nat) [0,13,14] (fun k=>[(3,.int .i64 (room - ke es k)),(15,.int .i64 (k:Int))]) (fun k w=>k≤es.length∧St w0 (ay [ik t A es.length cap room g,hY A es.length cap es]) [ik t A es.length cap room g,hY A es.length cap es] w) (fun k=>es.length - k) 0 ⟨by rw[show room - ke es 0=room by simp[ke]];rfl,rfl,trivial⟩ (fun w hw=>⟨by omega,hw⟩) (fun k ρ0=>?_);refine WP.fact (fun hk=>?_);refine gg ?_;refine WP.aw rfl (fun h16=>?_) (fun h16=>?_)
  ·have hk':k<es.length:=by omega
   obtain⟨e,he⟩:∃e,es[k]?=some e:=⟨_,List.getElem?_eq_getElem hk'⟩;have ho:=hok k e he;unfold FE.ok at ho;have hb:=xm hok k;refine WP.holds (fun w hw=>hw.aM (i:=1) rfl (by omega)) (fun⟨b,hA⟩=>?_);subst hA;refine cR ?_;refine vl (au (cs:=[.int .i64 _,.int .i64 _,.int .i64 _,.int .i64 _,.int .i64 _,.int .i64 _,.bool _]) Tryz.isAgg302 Tryz.sizeOf302 rfl (fun w hw=>hw.dH (i:=1) rfl _ (fun j u hu=>by rw[Nat.zero_add];exact bT FE.enc 7 (fun _=>rfl) es k j e u he hu))) ?_;refine aj.ef cg fun b5=>?_;refine aj.aX (xW rfl) fun _=>?_;refine gg ?_;refine WP.cond rfl (fun h20=>?_) (fun h20=>?_)
   ·refine cR ?_;rw[show room - ke es k - e.size=room - ke es (k+1) by rw[Ek he h20];omega];refine cR ?_;exact nl fun w hw=>⟨rfl,k+1,(by omega),⟨rfl,rfl,jP,jS,jI,trivial⟩,by omega,hw.pk⟩
   ·refine iX ?_;rw[show room - ke es k - e.it.base=room - ke es (k+1) by rw[EV he h20];omega];refine cR ?_;exact nl fun w hw=>⟨rfl,k+1,(by omega),⟨rfl,rfl,jP,jS,jI,trivial⟩,by omega,hw.pk⟩
  ·have hb:=xm hok es.length;obtain rfl:k=es.length:=by omega
   refine WP.exit (an ?_);refine gg ?_;refine WP.cond rfl (fun h35=>?_) (fun h35=>?_)
   ·refine bW ?_;refine vl (pO rfl (by omega)) ?_;refine gg ?_;exact aT fun w hw=>⟨(),by first | exact congrArg (Value.int .i64) (KR h35) | exact congrArg (Value.int .i64) (KY h35),trivial,hw.pk⟩
   ·refine gg ?_;exact aT fun w hw=>⟨(),by first | exact congrArg (Value.int .i64) (KR h35) | exact congrArg (Value.int .i64) (KY h35),trivial,hw.pk⟩
theorem wW {w0:World} {M:Nat→Prop} {t:Nat} {A:Option Addr} {n cap:Nat} {room:Int} {g:Bool} {l:Nat} {X:Type} (es:X→List FE) (rest:X→List HI) (I:Nat→X→Prop) (hn64:n≤64) (hlen:∀k x,I k x→(es x).length=n)
    (hs:∀k x e,I k x→(es x)[k]?=some e→e.fr=true→∃x',I (k+1) x'∧∀w,St w0 M (ik t A n cap room g::hY A n cap (es x)::rest x) w→St w0 M (ik t A n cap room g::hY A n cap (es x')::rest x') w)
    (x0:X) (h0:I 0 x0) (w1:World) (hw1:St w0 M (ik t A n cap room g::hY A n cap (es x0)::rest x0) w1)
    (hy : ∀ k x e b, I k x → (es x)[k]? = some e → e.fr = false → A = some ⟨b, 0, none⟩ → ∀ w, St w0 M (ik t A n cap room g :: hY A n cap (es x) :: rest x) w →
      YieldAt (FW none) 0 Tryz.prog l #[.pointer (some ⟨b, 0 + k * 7, none⟩)] w fun e w' => ∃ x', e = .returned (.bool true) ∧ I (k + 1) x' ∧ St w0 M (ik t A n cap room g :: hY A n cap (es x') :: rest x') w') :
    Calls Tryz.prog 256 #[.pointer (some ⟨t,0,none⟩),.func (.yield l) #[] #[]] w1 fun e w'=>(∃v,e=.returned v)∧∃x,I n x∧St w0 M (ik t A n cap room g::hY A n cap (es x)::rest x) w':=by
  refine(enter Tryz.func256 rfl Tryz.ntmps256 (by simp) (R:=fun _ w'=>∃x,I n x∧St w0 M (ik t A n cap room g::hY A n cap (es x)::rest x) w') (WP.pre (S':=St w0 M (ik t A n cap room g::hY A n cap (es x0)::rest x0)) ?_ (fun w e=>e▸hw1))).mono (fun e w' ⟨v,he,h⟩=>⟨⟨v,he⟩,h⟩);refine gg ?_;refine WP.bm (X:=Nat) [0,1,10] (fun k=>[(11,.int .i64 (k:Int))]) (fun k w=>∃x,k≤n∧I k x∧St w0 M (ik t A n cap room g::hY A n cap (es x)::rest x) w) (fun k=>n - k) 0 ⟨rfl,trivial⟩ (fun w hw=>⟨x0,by omega,h0,hw⟩) (fun k ρ0=>?_);refine WP.ex (fun x=>?_);refine WP.fact (fun hk=>?_);refine WP.fact (fun hI=>?_);refine gg ?_;refine WP.aw rfl (fun h12=>?_) (fun h12=>?_)
  ·have hk':k<n:=by omega
   have hn:=hlen k x hI;obtain⟨e,he⟩:∃e,(es x)[k]?=some e:=⟨_,List.getElem?_eq_getElem (by omega)⟩;refine WP.holds (fun w hw=>hw.aM (i:=1) rfl (by omega)) (fun⟨b,hA⟩=>?_);subst hA;refine afh ?_;refine vl (vX k) ?_;refine iX ?_;refine vl (ai (u:=.bool e.fr) Tryz.isAgg4 rfl (fun w hw=>hw.bh (i:=1) rfl (bT FE.enc 7 (fun _=>rfl) (es x) k 6 e _ he rfl) (by omega))) ?_;refine bW ?_;refine aj.aY 25 rfl (fun h25=>?_) (fun h25=>?_)
   ·refine vg (aC rfl) ?_;refine vg (aC (v:=.pointer _) rfl) ?_;refine aj.kn (Cq (fun w hw=>hy k x e b hI he (by simpa using h25) rfl w hw)) (fun x'=>?_);refine aj.fact (fun hI'=>?_);refine gg ?_;refine WP.br rfl ?_;refine bS ?_;exact nl fun w hw=>⟨rfl,k+1,(by omega),⟨rfl,jP,rfl,jI,trivial⟩,_,by omega,hI',hw⟩
   ·obtain⟨x',hI',hmv⟩:=hs k x e hI he (by simpa using h25);refine aj.pre ?_ hmv;refine gg ?_;refine WP.br rfl ?_;refine bS ?_;exact nl fun w hw=>⟨rfl,k+1,(by omega),⟨rfl,jP,rfl,jI,trivial⟩,_,by omega,hI',hw⟩
  ·have hkn:k=n:=by omega
   exact WP.exit fun w hw=>da.IG Tryz.results256 (.inr rfl) ⟨x,by rw[←hkn];exact hI,hw⟩
abbrev mn (A:Option Addr) (c:Nat) (l:List Int):HI:=.row 3 1 A l.length c (l.map (Value.int .i64))
abbrev ph (A:Option Addr) (c:Nat) (l:List Int):Value:=.slice A l.length c
theorem sO (A:Option Addr) (c:Nat) (l:List Int) (x:Int):mn A c (l++[x])=.row 3 1 A (l.length+1) c (l.map (Value.int .i64)++[.int .i64 x]):=by simp[mn]
theorem sn (A:Option Addr) (c:Nat) (l:List Int) (x:Int):ph A c (l++[x])=.slice A (l.length+1) c:=by simp[ph]
theorem BO (t:Nat) (A:Option Addr) (cap:Nat) (room:Int) (g:Bool) (es:List FE) (hok:Fa es) (hl:es.length≤64):
    Ct Tryz.prog 253 #[.pointer (some ⟨t,0,none⟩)] [ik t A es.length cap room g,hY A es.length cap es] (fun _=>True) (X:=Option Addr×Nat) (fun p=>ph p.1 p.2 (o9 g es es.length)) (fun _=>True)
      (fun p=>[ik t A es.length cap room g,hY A es.length cap es,mn p.1 p.2 (o9 g es es.length)]):=by
  refine Ci fun w0 _=>?_;refine gg ?_;refine aj.ef (eN (u:=.pointer _) (σ':=fun _=>[_,_,_]) rfl (fun _=>rfl)) (fun b1=>?_);refine gg ?_;refine aj.ef cg fun b3=>?_;refine bS ?_;refine vl (eW) ?_;refine bW ?_;refine WP.pre ?_ (fun w hw=>hw.bB 3 1);refine WP.rangeFunc (gf:=256) (first:=[.pointer (some ⟨t,0,none⟩)]) (cap:=[]) rfl Tryz.call256 (X:=Option Addr×Nat) (Fin:=fun x=>True) (τ:=fun x=>[ik t A es.length cap room g,hY A es.length cap es,.cl b1 296 [.pointer (some ⟨t,0,none⟩)],.cl b3 49 [ph x.1 x.2 (o9 g es es.length)],mn x.1 x.2 (o9 g es es.length)]) ?_ ?_
  ·intro kk l D hps has hbd hfr w hw
   refine (wW (X := Nat × Option Addr × Nat) (fun _ => es) (fun x => [.cl b1 296 [.pointer (some ⟨t, 0, none⟩)], .cl b3 49 [ph x.2.1 x.2.2 (o9 g es x.1)], mn x.2.1 x.2.2 (o9 g es x.1), lp l kk .ready none, iM D]) (fun j x => x.1 = j) hl (fun _ _ _ => rfl) ?_ (0, none, 0) rfl w hw ?_).mono (by
     rintro e w' ⟨hv, x, hx, h⟩
     have hx : x.1 = es.length := hx
     simp only [hx] at h
     exact ⟨hv, x.2, trivial, h⟩)
   · intro j x e hx he hf
     have he:es[j]?=some e:=he;subst hx;exact⟨(x.1+1,x.2),rfl,fun w hw=>by simp only[FL (g:=g) he hf];exact hw⟩
   intro j x e b hx he hf hA;have he:es[j]?=some e:=he;subst hA hx;have ho:=hok _ _ he;have hwb:=ade ho g;have hwl:(o9 g es x.1).length≤x.1:=by rw[lD];exact tM es _
   have hxl:=(List.getElem?_eq_some_iff.1 he).1;refine Yld.intro hps has hbd hfr (i:=5) rfl rfl (by decide) ?_;refine bW ?_;refine aj.nil (iL (i:=5) rfl ?_);refine gg ?_;refine WP.dj none [1,2,3,4,5,6] [(0,true),(1,true),(2,true),(3,true),(4,false),(5,true)] mixed (by kernel_rfl) (by decide) ?_;refine aB.take rfl (ai (u:=.pointer _) Tryz.isAgg296 rfl (fun w hw=>hw.aq (i:=1) rfl _ rfl)) ?_ (fun _ h=>h.sel [1,2,3,4,5,6] (by decide));refine aB.take rfl (aC (v:=.pointer _) rfl) ?_ (fun _ h=>h.sel [1,2,3,4,5,6] (by decide));refine aB.take rfl (jO rfl) ?_ (fun _ h=>h.sel [1,2,3,4,5,6] (by decide));refine aB.take rfl (au (cs:=[.int .i64 _,.int .i64 _,.int .i64 _,.int .i64 _,.int .i64 _,.int .i64 _,.bool _]) Tryz.isAgg302 Tryz.sizeOf302 rfl (fun w hw=>hw.dH (i:=0) rfl _ (fun j u hu=>by rw[Nat.zero_add];exact bT FE.enc 7 (fun _=>rfl) es x.1 j e u he hu))) ?_ (fun _ h=>h.sel [1,2,3,4,5,6] (by decide));refine aB.ef rfl (ck Tryz.call252 (vP t _ es.length cap room g e) [0] [1,2,3,4,5,6] rfl (fun w hw=>trivial) (τ:=fun _=>[_,_,_,_,_,_,_]) (fun _=>rfl)) (fun _ _ _ h=>h.2.sel [0,1,2,3,4,5] (by decide)) (fun _=>?_);refine aB.fact (fun _=>?_);refine aB.take rfl (dB (v:=.int .i64 _) rfl) ?_ (fun _ h=>h.sel [0,1,2,3,4,5] (by decide));refine gg ?_;refine WP.cond rfl (fun h18=>?_) (fun h18=>?_)
   case' _=>
    have hgf:g=false:=by simpa using h18
    have hm:Ew g e*e.it.base=wt g e:=by simp[Ew,wt,hgf]
    refine gg ?_;refine vl (vR 0 (bT FE.enc 7 (fun _=>rfl) es x.1 0 e _ he rfl)) ?_;refine vl (Ad rfl rfl (by rw[hm];omega)) ?_;rw[hm]
   rotate_left
   case' _=>
    have hgt:g=true:=by simpa using h18
    rw[show Ew g e=wt g e by simp[Ew,wt,hgt]]
   all_goals
    refine gg ?_;refine aj.ef (xN (L1 rfl)) fun g28=>?_;refine aj.ef (xP 3 7) fun⟨A29,c29⟩=>?_;refine aj.aX (xS rfl (Fv rfl)) fun _=>?_
    exact nl fun w hw => fX.normal (i := 5) rfl (hw.sel [6, 0, 1, 2, 3, 4, 5] (by decide)) (fun w' hw' => ⟨(x.1 + 1, A29, c29), rfl, rfl, by
      simp only [Ie (g := g) he hf, sO, sn]
      exact hw'⟩)
  ·intro D x hx;refine id (an ?_);refine gg ?_;exact WP.AE [D] (τ:=[_,_,_]) (fun w hw=>(hw.sel [0,1,4,5] (by decide))) (fun _ h=>h) (fun w hw=>da.T3 Tryz.results253 (.inl rfl) ⟨x,rfl,trivial,hw⟩)
theorem pX {α:Type} (f:Nat→α→α) (l:List α) (i:Nat):(fW f l i)[i]?=l[i]?:=by
  simp only[fW,List.getElem?_mapIdx];cases l[i]? with
  | none=>rfl
  | some x=>simp
def mI (g:Bool) (room:Int) (es:List FE) (i:Nat) (e:FE):FE:=if e.fr then e else {e with fr:=oM (dK g room es es.length) (e.size - want g room es i e)}
theorem Ee (g:Bool) (room:Int) (es:List FE):fW (mI g room es) (fW (sized g room es) es es.length) es.length=round g room es:=by
  rw[tL _ _ (by rw[dw];omega),tL _ _ (by omega)];apply List.ext_getElem?;intro i;simp only[round,List.getElem?_mapIdx];cases es[i]? with
  | none=>rfl
  | some e =>
    simp only[Option.map_some]
    congr 1
    cases hf:e.fr with
    | true=>simp[sized,froze,mI,hf]
    | false=>simp[sized,froze,mI,hf,gap,want]
theorem ints_at {l:List Int} {k:Nat} {x:Int} (h:l[k]?=some x):(l.map (Value.int .i64))[k]?=some (.int .i64 x):=by rw[List.getElem?_map,h];rfl
theorem oT (l:List FE) (f:Nat→FE→FE) (i:Nat):((fW f l i).flatMap FE.enc).length=l.length*7:=by
  have h:∀l:List FE,(l.flatMap FE.enc).length=l.length*7:=fun l=>by
    induction l with
    | nil=>rfl
    | cons a l ih=>simp[ih];omega
  rw[h,dw]
theorem Fk {e:FE} {j:Nat} {u:Value} (h:([.int .i64 e.it.base,.int .i64 e.it.low,.int .i64 e.it.high,.int .i64 e.it.grow,.int .i64 e.it.shrink]:List Value)[j]?=some u):e.enc[j]?=some u:=by
  have hj:=(List.getElem?_eq_some_iff.1 h).1
  match j,h with
  | 0,h=>exact h
  | 1,h=>exact h
  | 2,h=>exact h
  | 3,h=>exact h
  | 4,h=>exact h
  | j+5,h=>simp at h
theorem He {g:Bool} {room:Int} {es:List FE} {i:Nat} {e:FE} (h:(fW (sized g room es) es es.length)[i]?=some e) (hf:e.fr=false):∃e0,es[i]?=some e0∧e0.fr=false∧e=sized g room es i e0:=by
  cases he:es[i]? with
  | none=>rw[List.getElem?_eq_none (by rw[dw];exact List.getElem?_eq_none_iff.1 he)] at h;cases h
  | some e0 =>
    rw[mu _ _ _ he,if_pos (List.getElem?_eq_some_iff.1 he).1] at h;cases h;refine⟨e0,rfl,?_,rfl⟩;cases h0:e0.fr with
    | true=>simp[sized,h0] at hf
    | false=>rfl
theorem Bs {g:Bool} {room:Int} {es:List FE} {i:Nat} {e:FE} (h:(fW (sized g room es) es es.length)[i]?=some e) (hf:e.fr=true):∃e0,es[i]?=some e0∧e0.fr=true:=by
  cases he:es[i]? with
  | none=>rw[List.getElem?_eq_none (by rw[dw];exact List.getElem?_eq_none_iff.1 he)] at h;cases h
  | some e0 =>
    rw[mu _ _ _ he,if_pos (List.getElem?_eq_some_iff.1 he).1] at h;cases h;refine⟨e0,rfl,?_⟩;cases h0:e0.fr with
    | true=>rfl
    | false=>simp[sized,h0] at hf
theorem GU {c:Bool} {m b:Int} (h:c=true↔(m=0∨(0<m∧0<b)∨(m<0∧b<0))):c=oM m b:=by
  have h2:oM m b=true↔(m=0∨(0<m∧0<b)∨(m<0∧b<0)):=by simp[oM,or_assoc]
  rw[Bool.eq_iff_iff,h,h2]
theorem Ca (g:Bool) (room:Int) (es:List FE) (i:Nat) (e:FE) (hf:e.fr=false):e.enc.set 5 (.int .i64 (e.it.fit (want g room es i e)))=(sized g room es i e).enc:=by simp[sized,hf]
theorem Cg {g:Bool} {room:Int} {es:List FE} {i:Nat} {e:FE} {c:Bool} (hf:e.fr=false) (hc:c=oM (dK g room es es.length) (e.size - want g room es i e)):e.enc.set 6 (.bool c)=(mI g room es i e).enc:=by simp[mI,hf,hc]
theorem Ry {g:Bool} {room:Int} {es:List FE} {i:Nat} {e:FE} (h:g=true):e.it.base+(parts g room es).getD (fy es i) 0=want g room es i e:=by subst h;simp[want,xu]
theorem QJ {g:Bool} {room:Int} {es:List FE} {i:Nat} {e:FE} (h:g=false):e.it.base - (parts g room es).getD (fy es i) 0=want g room es i e:=by subst h;simp only[want,xu,Bool.false_eq_true,if_false];omega
theorem H7 (t:Nat) (A:Option Addr) (cap:Nat) (room:Int) (g:Bool) (es:List FE) (hok:Fa es) (hl:es.length≤64) (hr:0≤room∧room≤67108864):
    Ct Tryz.prog 242 #[.pointer (some ⟨t,0,none⟩)] [ik t A es.length cap room g,hY A es.length cap es] (fun _=>True) (X:=Unit) (fun _=>.bool (decide ((0:Int)<(o9 g es es.length).length))) (fun _=>True)
      (fun _=>[ik t A es.length cap room g,hY A es.length cap (round g room es)]):=by
  refine Ci fun w0 _=>?_;refine gg ?_;refine aj.ef (eN (u:=.pointer _) (σ':=fun _=>[_,_,_]) rfl (fun _=>rfl)) (fun b1=>?_);refine gg ?_;refine eF (xC (BO t A cap room g es hok hl)) fun⟨WA,wc⟩ _=>?_;refine gg ?_;refine eF (xC (JQ t A cap room g es hok hl hr)) fun _ _=>?_;refine gg ?_;refine eF (xC (Gw WA wc (Kw g room es) (o9 g es es.length) (by rw[lD];exact Nat.le_trans (tM es _) hl)) (hF:=fun w hw=>hw.eO (i:=1) rfl)) fun⟨P,pc⟩ _=>?_;refine aj.ef cg fun b4=>?_;refine aj.aX (xS rfl (Fv rfl)) fun _=>?_;refine gg ?_;refine aj.ef cg fun b5=>?_;refine gg ?_;refine aj.ef cg fun b6=>?_;refine aj.ef cg fun b7=>?_;refine aj.aX (xS rfl (jJ rfl)) fun _=>?_;refine aj.aX (xS rfl (jJ rfl)) fun _=>?_;refine bS ?_;refine vl (eW) ?_;refine bW ?_;refine WP.pre ?_ (fun w hw=>((hw.sel [2,3,0,5,4,6,7,8] (by decide))).bB 3 1);refine WP.rangeFunc (gf:=256) (first:=[.pointer (some ⟨t,0,none⟩)]) (cap:=[]) rfl Tryz.call256 (X:=Option Addr×Nat) (Fin:=fun x=>True) (τ:=fun x=>[ik t A es.length cap room g,hY A es.length cap (fW (sized g room es) es es.length),.cl b1 296 [.pointer (some ⟨t,0,none⟩)],.cl b4 49 [.slice P (o9 g es es.length).length pc],.row 3 1 P (o9 g es es.length).length pc ((parts g room es).map (Value.int .i64)),.cl b5 49 [ph x.1 x.2 (uF g room es es.length)],.cl b6 3 [.int .i64 ((fy es es.length:Nat):Int)],.cl b7 3 [.int .i64 (dK g room es es.length)],mn x.1 x.2 (uF g room es es.length)]) ?_ ?_
  ·intro kk l D hps has hbd hfr w hw
   refine (wW (X := Nat × Option Addr × Nat) (fun x => fW (sized g room es) es x.1) (fun x => [.cl b1 296 [.pointer (some ⟨t, 0, none⟩)], .cl b4 49 [.slice P (o9 g es es.length).length pc], .row 3 1 P (o9 g es es.length).length pc ((parts g room es).map (Value.int .i64)), .cl b5 49 [ph x.2.1 x.2.2 (uF g room es x.1)], .cl b6 3 [.int .i64 ((fy es x.1 : Nat) : Int)], .cl b7 3 [.int .i64 (dK g room es x.1)], mn x.2.1 x.2.2 (uF g room es x.1), lp l kk .ready none, iM D]) (fun j x => x.1 = j) hl (fun _ _ _ => dw _ _ _) ?_ (0, none, 0) rfl w (by simp only [qK]; exact hw) ?_).mono (by
     rintro e w' ⟨hv, x, hx, h⟩
     have hx : x.1 = es.length := hx
     simp only [hx] at h
     exact ⟨hv, x.2, trivial, h⟩)
   · intro j x e hx he hf
     subst hx;rw[pX] at he;exact⟨(x.1+1,x.2),rfl,fun w hw=>by simp only[Gc (g:=g) (room:=room) he hf,my he hf,Fh (g:=g) (room:=room) he hf,wB (sized g room es) es x.1 he (by simp[sized,hf])];exact hw⟩
   intro j x e b hx he hf hA;subst hA hx;have he1:=he;rw[pX] at he;have ho:=hok _ _ he;have hwl:(uF g room es x.1).length≤x.1:=by rw[rV];exact tM es _
   have hxl:=(List.getElem?_eq_some_iff.1 he).1;have hkl:=xe he hf;have hkx:=tM es x.1;have hpl:=lD g es es.length;have hpb:0≤(parts g room es).getD (fy es x.1) 0∧(parts g room es).getD (fy es x.1) 0≤67108864:=zv (Kw g room es) (o9 g es es.length) (fy es x.1);have hwb:=xx (g:=g) (room:=room) hok he;have hgb:=B6 (g:=g) (room:=room) hok he;have hmb:=xf (g:=g) (room:=room) hok x.1;have hpg:=E0 (g:=g) (room:=room) he hf;unfold gap at hgb;have ho1:=ho;unfold FE.ok at ho1;refine Yld.intro hps has hbd hfr (i:=9) rfl rfl (by decide) ?_;refine bW ?_;refine aj.nil (iL (i:=9) rfl ?_);refine WP.holds (fun w hw=>hw.aM (i:=4) rfl (by omega)) (fun⟨pb,hP⟩=>?_);subst hP;refine gg ?_;refine WP.fj none [(0,true),(1,true),(2,true),(3,true),(4,true),(5,true),(6,true),(7,true),(8,true),(9,true),(10,true)] mixed (by kernel_rfl) (by decide) (fun _ h=>h.drawn) ?_;refine bS ?_;refine aB.take rfl (ai (u:=.int .i64 _) Tryz.isAgg3 rfl (fun w hw=>hw.bh (i:=1) rfl (bT FE.enc 7 (fun _=>rfl) _ x.1 0 e _ he1 rfl) (by omega))) ?_ (fun _ h=>h);refine bW ?_;refine tD (vX (fy es x.1)) ?_;refine aB.take rfl (ai (u:=.int .i64 _) Tryz.isAgg3 rfl (fun w hw=>hw.bh (i:=4) rfl (ints_at hpg) (by omega))) ?_ (fun _ h=>h);refine gg ?_;refine WP.cond rfl (fun h34=>?_) (fun h34=>?_)
   case' _=>
    have hm:=Ry (room:=room) (es:=es) (i:=x.1) (e:=e) h34;refine WP.fj none [(0,true),(1,true),(2,true),(3,true),(4,true),(5,true),(6,true),(7,true),(8,true),(9,true),(10,true)] mixed (by kernel_rfl) (by decide) (fun _ h=>h.drawn) ?_;refine bS ?_;refine aB.take rfl (ai (u:=.int .i64 _) Tryz.isAgg3 rfl (fun w hw=>hw.bh (i:=1) rfl (bT FE.enc 7 (fun _=>rfl) _ x.1 0 e _ he1 rfl) (by omega))) ?_ (fun _ h=>h);refine bW ?_;refine tD (vX (fy es x.1)) ?_;refine aB.take rfl (ai (u:=.int .i64 _) Tryz.isAgg3 rfl (fun w hw=>hw.bh (i:=4) rfl (ints_at hpg) (by omega))) ?_ (fun _ h=>h);refine ad ?_
   rotate_left
   case' _=>
    have hm:=QJ (room:=room) (es:=es) (i:=x.1) (e:=e) h34
   all_goals
    rw[hm];refine gg ?_;refine aj.aX (cz (u:=.int .i64 _) (σ':=[_,_,_,_,_,_,.cl _ _ [_],_,_,_,_]) Tryz.sizeOf3 rfl rfl (i:=6) rfl (Nat.lt_of_lt_of_le (Nat.lt_succ_self _) (Nat.le_of_ble_eq_true rfl)) rfl) (fun _=>?_);refine iX ?_;refine vl (au (cs:=[.int .i64 _,.int .i64 _,.int .i64 _,.int .i64 _,.int .i64 _]) Tryz.isAgg264 Tryz.sizeOf264 rfl (fun w hw=>hw.dH (i:=1) rfl _ (fun j u hu=>by rw[Nat.zero_add];exact bT FE.enc 7 (fun _=>rfl) _ x.1 j e u he1 (Fk hu)))) ?_;refine gg ?_;refine eF (xC (BS e.it (want g room es x.1 e))) fun _ _=>?_;refine gg ?_;refine aj.aX (bU (u:=.int .i64 _) (xs':=(fW (sized g room es) es (x.1+1)).flatMap FE.enc) (σ':=[_,_,_,_,_,_,_,_,_,_,_]) Tryz.sizeOf3 rfl rfl (i:=1) rfl (by rw[oT];omega) (by rw[Nat.zero_add,kD FE.enc 7 (fun _=>rfl) _ x.1 5 e (sized g room es x.1 e) _ he1 (by decide) (Ca g room es x.1 e hf),kR _ _ _ he]) rfl) (fun _=>?_);refine gg ?_;refine aj.ef (xN (L1 rfl)) fun g58=>?_;refine aj.ef (xP 8 11) fun⟨A59,c59⟩=>?_;refine aj.aX (xS rfl (Fv rfl)) fun _=>?_;refine gg ?_;refine WP.fj (some 8) [(0,true),(1,true),(2,true),(3,true),(4,true),(5,true),(6,true),(7,true),(8,false)] mixed (by kernel_rfl) (by decide) (fun _ h=>h.drawn) ?_;refine gg ?_;refine tD (vR 1 (bT FE.enc 7 (fun _=>rfl) _ x.1 5 (sized g room es x.1 e) (.int .i64 (e.it.fit (want g room es x.1 e))) (by rw[mu _ _ _ he,if_pos (by omega)]) (by simp[sized,hf]))) ?_;refine gg ?_;refine uz (xS rfl (jJ rfl)) fun _=>?_
    exact aB.nil fun w hw => fX.normal (i := 9) rfl (hw.sel [0, 1, 2, 3, 4, 5, 6, 7, 8, 9, 10] (by decide)) (fun w' hw' => ⟨(x.1 + 1, A59, c59), rfl, rfl, by
      simp only [zD (g := g) (room := room) he hf, iC he hf, D8 (g := g) (room := room) he hf, sO, sn]
      exact hw'⟩)
  ·intro D1 x hx;obtain⟨A2,c2⟩:=x;refine id (an ?_);refine gg ?_;refine aj.aX (xS rfl (jJ rfl)) fun _=>?_;refine bS ?_;refine vl (eW) ?_;refine bW ?_;refine sl [0,1,2,3,4,5,6,7,8,9] ?_;refine WP.rangeFunc (gf:=256) (first:=[.pointer (some ⟨t,0,none⟩)]) (cap:=[]) rfl Tryz.call256 (X:=Unit) (Fin:=fun x=>True) (τ:=fun x=>[ik t A es.length cap room g,hY A es.length cap (fW (mI g room es) (fW (sized g room es) es es.length) es.length),.cl b1 296 [.pointer (some ⟨t,0,none⟩)],.cl b4 49 [.slice P (o9 g es es.length).length pc],.row 3 1 P (o9 g es es.length).length pc ((parts g room es).map (Value.int .i64)),.cl b5 49 [ph A2 c2 (uF g room es es.length)],.cl b6 3 [.int .i64 ((fy es es.length:Nat):Int)],.cl b7 3 [.int .i64 (dK g room es es.length)],mn A2 c2 (uF g room es es.length),iM D1]) ?_ ?_
   ·intro kk l D hps has hbd hfr w hw
    refine (wW (X := Nat) (fun x => fW (mI g room es) (fW (sized g room es) es es.length) x) (fun x => [.cl b1 296 [.pointer (some ⟨t, 0, none⟩)], .cl b4 49 [.slice P (o9 g es es.length).length pc], .row 3 1 P (o9 g es es.length).length pc ((parts g room es).map (Value.int .i64)), .cl b5 49 [ph A2 c2 (uF g room es es.length)], .cl b6 3 [.int .i64 ((fy es x : Nat) : Int)], .cl b7 3 [.int .i64 (dK g room es es.length)], mn A2 c2 (uF g room es es.length), iM D1, lp l kk .ready none, iM D]) (fun j x => x = j) hl (fun _ _ _ => by rw [dw, dw]) ?_ 0 rfl w (by simp only [qK]; exact hw) ?_).mono (by
      rintro e w' ⟨hv, x, hx, h⟩
      have hx : x = es.length := hx
      subst hx
      exact ⟨hv, (), trivial, h⟩)
    · intro j x e hx he hf
      subst hx;rw[pX] at he;have he0:∃e0,es[x]?=some e0∧e0.fr=true:=Bs he hf;obtain⟨e0,he0,hf0⟩:=he0;exact⟨x+1,rfl,fun w hw=>by simp only[my he0 hf0,wB (mI g room es) _ x he (by simp[mI,hf])];exact hw⟩
    intro j x e b hx he hf hA;subst hA hx;have he1:=he;rw[pX] at he;obtain⟨e0,he0,hf0,hes⟩:∃e0,es[x]?=some e0∧e0.fr=false∧e=sized g room es x e0:=He he hf;have hxl:=(List.getElem?_eq_some_iff.1 he0).1;have hkl:=xe he0 hf0;have hkx:=tM es x;have hwl:=rV g room es es.length;have hwg:=Jg (g:=g) (room:=room) he0 hf0;have hit:e.it=e0.it:=by rw[hes];simp[sized,hf0]
    have hwe:want g room es x e=want g room es x e0:=by simp[want,hit]
    have hsz:e.size=e0.it.fit (want g room es x e0):=by rw[hes];simp[sized,hf0]
    have hwb:=xx (g:=g) (room:=room) hok he0;have hgb:=B6 (g:=g) (room:=room) hok he0;have hmb:=xf (g:=g) (room:=room) hok es.length;unfold gap at hgb;rw[←hsz] at hgb;refine Yld.intro hps has hbd hfr (i:=10) rfl rfl (by decide) ?_;refine bW ?_;refine aj.nil (iL (i:=10) rfl ?_);refine WP.holds (fun w hw=>hw.aM (i:=8) rfl (by omega)) (fun⟨qb,hA2⟩=>?_);subst hA2;refine gg ?_;refine WP.fj none [(0,true),(1,true),(2,true),(3,true),(4,true),(5,true),(6,true),(7,true),(8,true),(9,true)] mixed (by kernel_rfl) (by decide) (fun _ h=>h.drawn) ?_;refine cK ?_;refine aB.take rfl (ai (u:=.int .i64 _) Tryz.isAgg3 rfl (fun w hw=>hw.bh (i:=1) rfl (bT FE.enc 7 (fun _=>rfl) _ x 5 e _ he1 rfl) (by omega))) ?_ (fun _ h=>h);refine bW ?_;refine tD (vX (fy es x)) ?_;refine aB.take rfl (ai (u:=.int .i64 _) Tryz.isAgg3 rfl (fun w hw=>hw.bh (i:=8) rfl (ints_at hwg) (by omega))) ?_ (fun _ h=>h);refine gg ?_;refine aj.aX (cz (u:=.int .i64 _) (σ':=[_,_,_,_,_,_,.cl _ _ [_],_,_,_,_,_]) Tryz.sizeOf3 rfl rfl (i:=6) rfl (Nat.lt_of_lt_of_le (Nat.lt_succ_self _) (Nat.le_of_ble_eq_true rfl)) rfl) (fun _=>?_);refine iX ?_;refine aj.split 85 rfl (fun h85=>?_) (fun h85=>?_);rotate_left
    case' _=>
     refine cK ?_;refine aj.split 88 rfl (fun h88=>?_) (fun h88=>?_)
     case' _=>
      refine cR ?_;refine aj.split 93 rfl (fun h93=>?_) (fun h93=>?_);rotate_left
      case' _=>
       refine cK ?_;refine aj.split 96 rfl (fun h96=>?_) (fun h96=>?_);rotate_left
     rotate_left 3
     case' _=>
      refine uw ?_;refine aj.split 96 rfl (fun h96=>?_) (fun h96=>?_);rotate_left
    all_goals
     refine gg ?_;refine aj.aX (bU (u:=.bool _) (xs':=(fW (mI g room es) (fW (sized g room es) es es.length) (x+1)).flatMap FE.enc) (σ':=[_,_,_,_,_,_,_,_,_,_,_,_]) Tryz.sizeOf4 rfl rfl (i:=1) rfl (by rw[oT,dw];omega) (by rw[Nat.zero_add,kD FE.enc 7 (fun _=>rfl) _ x 6 e (mI g room es x e) _ he1 (by decide) (Cg hf (GU (by rw[hwe];simp;omega))),kR _ _ _ he]) rfl) (fun _=>?_)
     exact nl fun w hw => fX.normal (i := 10) rfl (hw.sel [0, 1, 2, 3, 4, 5, 6, 7, 8, 9, 10, 11] (by decide)) (fun w' hw' => ⟨x + 1, rfl, rfl, by
       simp only [iC he0 hf0]
       exact hw'⟩)
   ·intro D2 x hx;refine id (an ?_);refine gg ?_;exact WP.AE [D2,D1] (τ:=[_,_]) (fun w hw=>(hw.sel [0,1,10,9] (by decide))) (fun _ h=>h) (fun w hw=>da.T3 Tryz.results242 (.inl rfl) ⟨(),rfl,trivial,by rw[←Ee];exact hw⟩)
end Go.Proofs.YtbedndijejpcaaaGreat
