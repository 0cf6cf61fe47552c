/- FlowMem FlowKey FlowE FlowRd FlowItm -/
import Derived.DeepKeys3
import Derived.Test.YtbedndijejpcaaaGreatH15
set_option linter.unusedVariables false
set_option linter.unusedSimpArgs false
set_option linter.unusedSectionVars false
set_option maxRecDepth 100000
set_option maxHeartbeats 8000000
namespace Go.Proofs.YtbedndijejpcaaaGreat
open Go.RowKit
abbrev k7 (f:ew) (A:Option Addr) (c:Nat):List Value:=[.int .i64 f.id,.int .i64 f.x,.int .i64 f.y,.int .i64 f.w,.int .i64 f.h,.slice A f.kids.length c]
structure FP where
  fr:ew
  A:Option Addr
  c:Nat
abbrev FP.enc (e:FP):List Value:=k7 e.fr e.A e.c
abbrev cq:=Nat→Option (List Value)
def cq.Sub (H H':cq):Prop:=∀g cs,H g=some cs→H' g=some cs
theorem cq.Sub.refl (H:cq):H.Sub H:=fun _ _ h=>h
theorem cq.Sub.trans {H H' H'':cq} (h:H.Sub H') (k:H'.Sub H''):H.Sub H'':=fun g cs e=>k g cs (h g cs e)
inductive k6 (H:cq):Option Addr→List ew→Prop
  | nil:k6 H none []
  | row {g:Nat} {es:List FP}:H g=some (es.flatMap FP.enc)→(∀e∈es,k6 H e.A e.fr.kids)→k6 H (some ⟨g,0,none⟩) (es.map FP.fr)
theorem k6.mono {H H':cq} (hs:H.Sub H') {A:Option Addr} {ks:List ew} (h:k6 H A ks):k6 H' A ks:=by
  induction h with
  | nil=>exact .nil
  | row hg _ ih=>exact .row (hs _ _ hg) ih
def iK (H:cq) (e:FP):Prop:=k6 H e.A e.fr.kids
theorem iK.mono {H H':cq} (hs:H.Sub H') {e:FP} (h:iK H e):iK H' e:=k6.mono hs h
def aN (H:cq):HI:=.gen (fun g=>(H g).isSome=true) (fun w=>∀g cs,H g=some cs→g<w.heap.size∧aJ w g 0 cs)
theorem sN (H:cq):Local (fun g=>(H g).isSome=true) (fun w=>∀g cs,H g=some cs→g<w.heap.size∧aJ w g 0 cs):=by
  refine⟨fun w w' hk h g cs hg=>?_,fun w h b hb=>?_⟩
  · obtain ⟨h1, h2⟩ := h g cs hg
    have h3:=hk g (by show (H g).isSome=true;rw[hg];rfl);refine⟨?_,fun j u hj=>?_⟩
    · rw [Array.getElem?_eq_getElem h1] at h3
      exact cU h3
    · exact(World.cell?_of_block h3).trans (h2 j u hj)
  · obtain ⟨cs, hcs⟩ := Option.isSome_iff_exists.1 hb
    exact(h b cs hcs).1
section
variable {w0 w:World} {M:Nat→Prop} {σ τ F:List HI}
theorem St.TV (h:St w0 M (σ++F) w) (ht:∀i∈τ,i.holds w) (hp:τ.Pairwise sv) (hf:∀b,ay τ b→ay σ b):St w0 M (τ++F) w:=by
  obtain⟨hd1,hd2,hd3⟩:=List.pairwise_append.1 h.disj;refine⟨h.os,h.tape,h.output,h.size,h.old,fun i hi=>?_,List.pairwise_append.2 ⟨hp,hd2,fun i hi j hj b hb hb'=>?_⟩,fun i hi b hb=>?_⟩
  · rcases List.mem_append.1 hi with hi | hi
    · exact ht i hi
    · exact h.all i (List.mem_append_right _ hi)
  · obtain ⟨k, hk, hkb⟩ := hf b ⟨i, hi, hb⟩
    exact hd3 k hk j hj b hkb hb'
  · rcases List.mem_append.1 hi with hi | hi
    · obtain ⟨k, hk, hkb⟩ := hf b ⟨i, hi, hb⟩
      exact h.fresh k (List.mem_append_left _ hk) b hkb
    · exact h.fresh i (List.mem_append_right _ hi) b hb
theorem St.freeze {H:cq} {t:TypeId} {sz n cap:Nat} {A:Option Addr} {xs:List Value} (h:St w0 M (aN H::.row t sz A n cap xs::F) w):
    ∃H',H.Sub H'∧((A=none∧xs=[])∨∃g,A=some ⟨g,0,none⟩∧H' g=some xs)∧St w0 M (aN H'::F) w:=by
  have h0:=h;have hrow:(HI.row t sz A n cap xs).holds w:=h.all _ (by simp);have hpool:(aN H).holds w:=h.all _ (by simp);obtain⟨h1,h2⟩:=hrow;have h1':=h1
  rcases h2 with ⟨hv,hn⟩ | ⟨g,cap',cur,hv,hb,hh,rest⟩
  · have hA : A = none := by injection hv
    subst hA;refine⟨H,cq.Sub.refl H,.inl ⟨rfl,?_⟩,?_⟩
    · rw [hn] at h1
      exact List.eq_nil_of_length_eq_zero (by simpa using h1)
    · exact h.sub (List.Sublist.cons_cons _ (List.sublist_cons_self _ _))
  · have hA : A = some ⟨g, 0, none⟩ := by injection hv
    subst hA;have hno:H g=none:=by
      cases e:H g with
      | none=>rfl
      | some cs =>
        have hd:=List.pairwise_cons.1 h.disj;exact absurd ⟨⟨g,0,none⟩,rfl,rfl⟩ (hd.1 (.row t sz (some ⟨g,0,none⟩) n cap xs) (by simp) g (by show (H g).isSome=true;rw[e];rfl))
    have hsub:H.Sub (fun k=>if k=g then some xs else H k):=fun k cs hk=>by
      simp only
      split
      · rename_i e;subst e;rw[hno] at hk;cases hk
      · exact hk
    refine⟨_,hsub,.inr ⟨g,rfl,by simp⟩,?_⟩;refine St.TV (σ:=[aN H,.row t sz (some ⟨g,0,none⟩) n cap xs]) (τ:=[aN _]) (F:=F) h ?_ (List.pairwise_singleton _ _) ?_
    · intro i hi
      obtain rfl:i=_:=by simpa using hi
      refine⟨sN _,fun k cs hk=>?_⟩;simp only at hk
      split at hk
      · rename_i e
        subst e;cases hk;refine⟨cU hh,?_⟩;exact h0.dH (i:=1) rfl 0 fun j u hj=>by rw[Nat.zero_add];exact hj
      · exact hpool.2 k cs hk
    · rintro b ⟨i, hi, hb'⟩
      obtain rfl:i=_:=by simpa using hi
      have hb2:((if b=g then some xs else H b)).isSome=true:=hb'
      split at hb2
      · rename_i e
        exact⟨.row t sz (some ⟨g,0,none⟩) n cap xs,by simp,⟨g,0,none⟩,rfl,e⟩
      · exact⟨aN H,by simp,hb2⟩
theorem St.IN {i:Nat} {H:cq} (h:St w0 M σ w) (hi:σ[i]?=some (aN H)) {g:Nat} {cs:List Value} (hg:H g=some cs):aJ w g 0 cs:=((h.all _ (List.mem_of_getElem? hi)).2 g cs hg).2
theorem Ih (f:ew) (A:Option Addr) (c:Nat):(k7 f A c).length=6:=rfl
theorem yv (f:ew) (A:Option Addr) (c:Nat):∀u∈k7 f A c,u.oneCell'=true:=by
  intro u hu;simp only[k7,List.mem_cons,List.not_mem_nil,or_false] at hu
  rcases hu with rfl | rfl | rfl | rfl | rfl | rfl<;>rfl
theorem gE (es:List FP):(es.flatMap FP.enc).length=es.length*6:=by
  induction es with
  | nil=>rfl
  | cons e es ih=>rw[List.flatMap_cons,List.length_append,ih,List.length_cons];simp[k7];omega
theorem DS (es:List FP):∀u∈es.flatMap FP.enc,u.oneCell'=true:=by
  intro u hu;obtain⟨e,_,he⟩:=List.mem_flatMap.1 hu;exact yv _ _ _ u he
end
abbrev KI:=Int×Int×Int×Int×Int
def ug (k:KI):List Value:=[.int .i64 k.1,.int .i64 k.2.1,.int .i64 k.2.2.1,.int .i64 k.2.2.2.1,.int .i64 k.2.2.2.2]
abbrev iT (k:KI):Value:=.agg #[.int .i64 k.1,.int .i64 k.2.1,.int .i64 k.2.2.1,.int .i64 k.2.2.2.1,.int .i64 k.2.2.2.2]
theorem E5 {k k':KI}:ug k=ug k'↔k=k':=by
  obtain⟨a,b,c,d,e⟩:=k;obtain⟨a',b',c',d',e'⟩:=k';simp[ug]
def lookK:List (KI×Value)→KI→Option Value
  | [],_=>none
  | p::m,k=>if k=p.1 then some p.2 else lookK m k
def putK:List (KI×Value)→KI→Value→List (KI×Value)
  | [],k,v=>[(k,v)]
  | p::m,k,v=>if k=p.1 then (k,v)::m else p::putK m k v
theorem zQ (k:KI) (v:Value) (k':KI):∀m:List (KI×Value),lookK (putK m k v) k'=if k'=k then some v else lookK m k'
  | []=>by simp[putK,lookK]
  | p :: m => by
    unfold putK
    split
    · rename_i e
      simp only[lookK]
      split
      · rfl
      · rename_i h
        rw[if_neg (by rw[←e];exact h)]
    · rename_i e
      simp only[lookK];rw[zQ k v k' m]
      split
      · rename_i h
        subst h;rw[if_neg (fun e2=>e e2.symm)]
      · rfl
def entsK:List (KI×Value)→List Nat→List MapEntry
  | p::m,b::bs=>⟨iT p.1,p.2,b⟩::entsK m bs
  | _,_=>[]
def zT (b:Nat) (m:List (KI×Value)) (w:World):Prop:=∃(bs:List Nat) (clock:Nat),bs.length=m.length∧w.heap[b]?=some (.map (entsK m bs).toArray clock)
def aU (b:Nat) (m:List (KI×Value)):HI:=.gen (fun k=>k=b) (zT b m)
theorem rn (b:Nat) (m:List (KI×Value)):Local (fun k=>k=b) (zT b m):=
  ⟨fun w w' hk ⟨bs,c,h1,h4⟩=>⟨bs,c,h1,(hk b rfl).trans h4⟩,fun w ⟨bs,c,h1,h4⟩ k hk=>by subst hk;exact cU h4⟩
structure KX (P:Program) (kt:TypeId):Prop where
  und:∃fs,P.underlying kt=some (.struct fs)
  chk:∀(e:Bool) (k:KI) (w:World),(Instr.checkKey e 10000 kt (iT k)).run P w=.ok () w
  eq:∀(k k':KI) (w:World),(Op.equal kt (iT k) (iT k')).run P w=.ok (decide (k=k')) w
theorem E9:∀{m:List (KI×Value)} {bs:List Nat},bs.length=m.length→(entsK m bs).length=m.length
  | [],[],_=>rfl
  | _::m,_::bs,h=>by simp only[entsK,List.length_cons];rw[E9 (by simpa using h)]
theorem vQ (k:KI) (v:Value):∀(m:List (KI×Value)) (bs:List Nat) (j:Nat),bs.length=m.length→(∃u,m[j]?=some (k,u))→(entsK m bs).modify j (fun e=>{e with key:=iT k,val:=v})=entsK (m.set j (k,v)) bs
  | [],[],j,_,⟨u,hu⟩=>by simp at hu
  | p::m,b::bs,0,_,⟨u,hu⟩=>by simp[entsK]
  | p :: m, b :: bs, j + 1, h, ⟨u, hu⟩ => by
    simp only[entsK,List.modify_succ_cons,List.set_cons_succ];rw[vQ k v m bs j (by simpa using h) ⟨u,by simpa using hu⟩]
theorem su (p:KI×Value) (s:Nat):∀(m:List (KI×Value)) (bs:List Nat),bs.length=m.length→entsK (m++[p]) (bs++[s])=entsK m bs++[⟨iT p.1,p.2,s⟩]
  | [],[],_=>rfl
  | q :: m, b :: bs, h => by
    simp only[List.cons_append,entsK];rw[su p s m bs (by simpa using h)]
section
variable {P:Program} {kt:TypeId} (K:KX P kt)
include K
theorem vh (w:World) (k:KI):∀(m:List (KI×Value)) (bs:List Nat) (i:Nat),bs.length=m.length→
    ∃r,(Instr.findAsking kt (iT k) (entsK m bs) i).run P w=.ok r w∧r.map (·.2)=lookK m k∧(∀p,r=some p→∃j,p.1=i+j∧(∀v,putK m k v=m.set j (k,v))∧j<m.length∧(∃u,m[j]?=some (k,u))∧((entsK m bs)[j]?).map (·.key)=some (iT k))∧(r=none→∀v,putK m k v=m++[(k,v)])
  | [],[],i,_=>⟨none,by simp[entsK,Instr.findAsking],rfl,fun p h=>(by cases h),fun _ _=>rfl⟩
  | p :: m, b :: bs, i, h => by
    have he:=K.eq k p.1 w
    by_cases e:k=p.1
    · rw [decide_eq_true e] at he
      refine⟨some (i,p.2),by simp[entsK,Instr.findAsking,he,Result.andThen],by simp[lookK,e],fun q hq=>?_,fun h=>(by cases h)⟩;cases hq;exact⟨0,rfl,fun v=>by simp[putK,e],by simp,⟨p.2,by simp[e]⟩,by simp[entsK,e]⟩
    · rw [decide_eq_false e] at he
      obtain⟨r,h1,h2,h3,h4⟩:=vh w k m bs (i+1) (by simpa using h);refine⟨r,by simp[entsK,Instr.findAsking,he,Result.andThen,h1],by rw[h2];simp[lookK,e],fun q hq=>?_,fun hn v=>?_⟩
      · obtain ⟨j, hj, hp, hl, ⟨u, hu⟩, hk⟩ := h3 q hq
        exact⟨j+1,by omega,fun v=>by simp[putK,e,hp v],by simp;omega,⟨u,by simpa using hu⟩,by simpa [entsK] using hk⟩
      · simp[putK,e,h4 hn v]
theorem va (w:World) (k:KI) (m:List (KI×Value)) (bs:List Nat) (h:bs.length=m.length):
    ∃r,(Instr.findKey kt (iT k) (entsK m bs)).run P w=.ok r w∧r.map (·.2)=lookK m k∧(∀p,r=some p→∃j,p.1=j∧(∀v,putK m k v=m.set j (k,v))∧j<m.length∧(∃u,m[j]?=some (k,u))∧((entsK m bs)[j]?).map (·.key)=some (iT k))∧(r=none→∀v,putK m k v=m++[(k,v)]):=by
  obtain⟨fs,hu⟩:=K.und;obtain⟨r,h1,h2,h3,h4⟩:=vh K w k m bs 0 h;refine⟨r,?_,h2,fun p hp=>?_,h4⟩
  · cases m with
    | nil =>
      cases bs with
      | cons _ _=>simp at h
      | nil =>
        have hr:r=none:=by
          cases r with
          | none=>rfl
          | some q=>simp[lookK] at h2
        rw[hr];simp[entsK,Instr.findKey,run_underlying hu,Instr.findNow]
    | cons p m =>
      cases bs with
      | nil=>simp at h
      | cons b bs =>
        have:Instr.findNow (.struct fs) (iT k) (entsK (p::m) (b::bs)) 0=none:=rfl;simp only[Instr.findKey,Sem.run_bind,run_underlying hu,Result.andThen_ok,this];exact h1
  · obtain ⟨j, hj, rest⟩ := h3 p hp
    exact⟨j,by omega,rest⟩
variable {r:Option Nat} {S:World→Prop} {ρ:Env} {dst:Option Tmp} {ty:TypeId} {pos:String} {af:Array Edge} {g:Option (Nat×Bool)} {t et:TypeId} {x y v:Operand}
theorem Dp {b:Nat} {m:List (KI×Value)} {z:Value} {k:KI} (ht:P.underlying t=some (.map kt et)) (hz:∀w,(zeroValue et).run P w=.ok z w) (hx:evo ρ x=.map (some b)) (hy:evo ρ y=iT k) (hm:∀w,S w→zT b m w):
    cw P S ⟨dst,.lookup t x y true,ty,pos,af,g⟩ ρ (.tuple #[(lookK m k).getD z,.bool (lookK m k).isSome]):=ba fun w hw=>by
  obtain⟨bs,c,h1,h4⟩:=hm w hw;obtain⟨rr,hf,e2,_,_⟩:=va K w k m bs h1;have hg:(getObj b).run P w=.ok (.map (entsK m bs).toArray c) w:=by simp[getObj,Sem.run,h4]
  have hl:(Instr.lookup t (.map (some b)) (iT k) true).run P w=.ok (.tuple #[(lookK m k).getD z,.bool (lookK m k).isSome]) w:=by
    have hf':(Instr.findKey kt (iT k) (entsK m bs).toArray.toList).run P w=.ok rr w:=by simpa using hf
    simp only[Instr.lookup,Sem.run_bind,run_underlying ht,Result.andThen_ok,hg,Sem.run_pure,K.chk,hf'];rw[←e2];cases rr with
    | none=>simp[hz]
    | some p=>simp
  simp only[execOp,Sem.run_bind,hx,hy,Sem.run_pure,Result.andThen];rw[hl]
section
variable {w0:World} {M:Nat→Prop} {σ σ':List HI}
omit K in
theorem St.x4 {w:World} {i b:Nat} {m:List (KI×Value)} (h:St w0 M σ w) (hi:σ[i]?=some (aU b m)):zT b m w:=(h.all _ (List.mem_of_getElem? hi)).2
omit K in
theorem St.DK {w:World} {i b:Nat} {m m':List (KI×Value)} {o':Obj} (h:St w0 M σ w) (hi:σ[i]?=some (aU b m)) (hp:∀w',w'.heap[b]?=some o'→zT b m' w'):St w0 M (σ.set i (aU b m')) (w.putObj b o'):=by
  obtain⟨bs,c,h1,h4⟩:=h.x4 hi;have hlt:=cU h4;refine h.upd hi (St.l9 (fun k _ hn=>World.putObj_heap_other hn) ⟨rn b m',hp _ (World.putObj_heap_same hlt)⟩ (fun _ hb=>.inr hb) rfl rfl rfl (by simp))
theorem MP {i b:Nat} {m:List (KI×Value)} {k:KI} {u:Value} (ht:P.underlying t=some (.map kt et)) (hx:evo ρ x=.map (some b)) (hy:evo ρ y=iT k) (hv:evo ρ v=u) (hi:σ[i]?=some (aU b m)) (hσ:σ.set i (aU b (putK m k u))=σ'):
    cX P r (St w0 M σ) ⟨dst,.mapUpdate t x y v,ty,pos,af,g⟩ ρ (X:=Unit) (fun _=>undef) (fun _=>St w0 M σ'):=cX.ji rfl fun w hw=>by
  have hm:=hw.x4 hi;obtain⟨bs,c,h1,h4⟩:=hm;obtain⟨rr,hf,_,e3,e4⟩:=va K w k m bs h1;have hf':(Instr.findKey kt (iT k) (entsK m bs).toArray.toList).run P w=.ok rr w:=by simpa using hf
  have hg:(getObj b).run P w=.ok (.map (entsK m bs).toArray c) w:=by simp[getObj,Sem.run,h4]
  cases rr with
  | none =>
    have hp:=e4 rfl;refine⟨w.putObj b (.map ((entsK m bs).toArray.push ⟨iT k,u,c⟩) (c+1)),?_,?_⟩
    · simp only[execOp,Sem.run_bind,hx,hy,hv,Sem.run_pure,Result.andThen,Instr.mapUpdate,run_underlying ht,hg,K.chk,hf',fm h4]
    · rw [← hσ]
      refine hw.DK hi fun w' hw'=>⟨bs++[c],c+1,by rw[hp];simp[h1],?_⟩;rw[hp,su _ _ _ _ h1,hw'];simp
  | some p =>
    obtain⟨j,hj,hp,hl,⟨u0,hu⟩,hkey⟩:=e3 p rfl;refine⟨w.putObj b (.map ((entsK m bs).toArray.modify p.1 fun e=>{e with key:=iT k,val:=u}) c),?_,?_⟩
    · have hst:(Instr.keyThatStays ((((entsK m bs).toArray[p.1]?).map (·.key)).getD (iT k)) (iT k)).run P w=.ok (iT k) w:=by
        rw[hj,List.getElem?_toArray,hkey];simp[Instr.keyThatStays,Instr.sameBits]
      simp only[execOp,Sem.run_bind,hx,hy,hv,Sem.run_pure,Result.andThen,Instr.mapUpdate,run_underlying ht,hg,K.chk,hf',hst,fm h4]
    · rw [← hσ]
      refine hw.DK hi fun w' hw'=>⟨bs,c,by rw[hp];simp[h1],?_⟩;rw[hp,hw',hj,←vQ k u m bs j h1 ⟨u0,hu⟩];simp[List.modify_toArray]
omit K in
theorem AV {σ':Nat→List HI} (hσ:∀b,σ++[aU b []]=σ' b):cX P r (St w0 M σ) ⟨dst,.makeMap t none,ty,pos,af,g⟩ ρ (X:=Nat) (fun b=>.map (some b)) (fun b=>St w0 M (σ' b)):=cX.gB rfl fun w hw=>by
  refine⟨w.heap.size,w.alloc (.map #[] 0),by simp[execOp,Instr.makeMap,newObj,Sem.run],?_⟩;rw[←hσ];refine hw.add ⟨rfl,rfl,rfl,by simp,fun b hb _=>Below.heap_alloc w _ b hb,?_,List.pairwise_singleton _ _,?_⟩
  · intro i hi
    obtain rfl:i=_:=by simpa using hi
    exact⟨rn _ _,[],0,rfl,World.alloc_heap_new w _⟩
  · intro i hi b hb
    obtain rfl:i=_:=by simpa using hi
    obtain rfl:b=w.heap.size:=hb;exact .inl (Nat.le_refl _)
end
end
def l7 (V:er) (H:cq) (m:List (KI×Value)):Prop:=∀k v,lookK m k=some v→∃A c,v=.agg (k7 (V k.1 k.2.1 k.2.2.1 k.2.2.2.1 k.2.2.2.2) A c).toArray∧k6 H A (V k.1 k.2.1 k.2.2.1 k.2.2.2.1 k.2.2.2.2).kids
theorem l7.nil (V:er) (H:cq):l7 V H []:=fun k v h=>by simp[lookK] at h
theorem l7.mono {V:er} {H H':cq} {m:List (KI×Value)} (h:l7 V H m) (hs:H.Sub H'):l7 V H' m:=fun k v hk=>by
  obtain⟨A,c,e,hr⟩:=h k v hk;exact⟨A,c,e,hr.mono hs⟩
theorem l7.put {V:er} {H:cq} {m:List (KI×Value)} (h:l7 V H m) (k:KI) {A:Option Addr} {c:Nat} (hr:k6 H A (V k.1 k.2.1 k.2.2.1 k.2.2.2.1 k.2.2.2.2).kids):l7 V H (putK m k (.agg (k7 (V k.1 k.2.1 k.2.2.1 k.2.2.2.1 k.2.2.2.2) A c).toArray)):=fun k' v hv=>by
  rw[zQ] at hv
  split at hv
  · rename_i e
    cases hv;subst e;exact⟨A,c,rfl,hr⟩
  · exact h k' v hv
theorem Fc (w:World) (em:Bool) (n:Nat) (a b:Int):(Instr.checkKey em (n+2) 109 (.agg #[.int .i64 a,.int .i64 b])).run Tryz.prog w=.ok () w:=by
  rw[Instr.checkKey];simp only[Sem.run_bind,run_underlying Tryz.underlying109,Result.andThen_ok];simp[Std.Legacy.Range.forIn_eq_forIn_range',Std.Legacy.Range.size,Tryz.sizeOf3,part,Tryz.isAgg3,Instr.checkKey,run_underlying Tryz.underlying3,Result.andThen,List.range'_succ]
theorem Ju (e:Bool) (k:KI) (w:World):(Instr.checkKey e 10000 173 (iT k)).run Tryz.prog w=.ok () w:=by
  have hb:=fun a b=>Fc w e 9997 a b;have hi:∀a,(Instr.checkKey e 9999 3 (.int .i64 a)).run Tryz.prog w=.ok () w:=fun a=>by rw[Instr.checkKey];simp[run_underlying Tryz.underlying3]
  rw[show (10000:Nat)=9999+1 from rfl,Instr.checkKey];simp only[Sem.run_bind,run_underlying Tryz.underlying173,Result.andThen_ok];simp[part,Tryz.isAgg3,Tryz.isAgg109,Tryz.sizeOf109,Result.andThen,hi,hb,iT]
theorem MW (k k':KI) (w:World):(Op.equal 173 (iT k) (iT k')).run Tryz.prog w=.ok (decide (k=k')) w:=by
  have h:=eqF (P:=Tryz.prog) 10 9990 173 [true,true,true,true,true] (by kernel_rfl) w (ug k) (ug k') rfl rfl;have hv:∀cs,rH Tryz.prog 173 cs=.agg cs.toArray:=fun cs=>by simp[rH,Tryz.underlying173]
  rw[hv,hv] at h;have e:eqv (ug k) (ug k')=decide (k=k'):=by
    by_cases hk:k=k'
    · rw[hk,kV,decide_eq_true rfl]
    · rw[oa (fun h=>hk (E5.1 h)),decide_eq_false hk]
  rw[e] at h;exact h
theorem G3:KX Tryz.prog 173:=⟨⟨_,Tryz.underlying173⟩,Ju,MW⟩
theorem Je:(Tryz.prog.info? 115).map (fun i=>(i.zero,i.size,i.bytes))=some (some (.agg #[.int .i64 0,.int .i64 0,.int .i64 0,.int .i64 0,.int .i64 0,.slice none 0 0]),6,64):=by kernel_rfl
abbrev ga (A:Option Addr) (c:Nat) (es:List FP):HI:=.row 115 6 A es.length c (es.flatMap FP.enc)
theorem kB (A:Option Addr) (c:Nat) (es:List FP) (e:FP):ga A c (es++[e])=.row 115 6 A (es.length+1) c (es.flatMap FP.enc++e.enc):=by simp[ga]
theorem DI {es:List FP} {i o oo:Nat} {e e':FP} {v:Value} (h:es[i]?=some e) (ho:oo=i*6+o) (hlt:o<6) (he:e.enc.set o v=e'.enc):(es.flatMap FP.enc).set oo v=(es.set i e').flatMap FP.enc:=by
  subst ho;exact kD FP.enc 6 (fun _=>rfl) es i o e e' v h (by show o<6;exact hlt) he
theorem pr {es:List FP} {i o oo:Nat} {e:FP} {v:Value} (h:es[i]?=some e) (ho:oo=i*6+o) (hv:e.enc[o]?=some v):(es.flatMap FP.enc)[oo]?=some v:=by
  subst ho;exact bT FP.enc 6 (fun _=>rfl) es i o e v h hv
theorem Jx {α:Type} {n k:Nat} {f:Nat→α} {v:α}:(dU n f).set k v=dU n (fun i=>if i=k then v else f i):=by
  apply List.ext_getElem?;intro i
  by_cases hi:i<n
  · rw [dt hi, List.getElem?_set]
    by_cases e:k=i
    · subst e
      rw[if_pos rfl,if_pos rfl,if_pos (by rw[bH];exact hi)]
    · rw[if_neg e,dt hi,if_neg (fun h=>e h.symm)]
  · rw[oK (by omega),List.getElem?_eq_none (by rw[List.length_set,bH];omega)]
theorem lh {es:List FP} {n:Nat} {f:Nat→ew} (h:es.map FP.fr=dU n f):es.length=n:=by
  have:=congrArg List.length h
  rwa [List.length_map,bH] at this
theorem rZ {es:List FP} {n k:Nat} {f:Nat→ew} (h:es.map FP.fr=dU n f) (hk:k<n):∃e,es[k]?=some e∧e.fr=f k:=by
  have h1:=congrArg (·[k]?) h;simp only[List.getElem?_map,dt hk] at h1;exact Option.map_eq_some_iff.1 h1
theorem sW {es:List FP} {n:Nat} {f:Nat→ew} {e:FP} (h:es.map FP.fr=dU n f) (he:e.fr=f n):(es++[e]).map FP.fr=dU (n+1) f:=by rw[List.map_append,h,oN,List.map_singleton,he]
theorem pd {es:List FP} {n k:Nat} {f g:Nat→ew} {e:FP} (h:es.map FP.fr=dU n (fun i=>if i<k then g i else f i)) (he:e.fr=g k):(es.set k e).map FP.fr=dU n (fun i=>if i<k+1 then g i else f i):=by
  rw[List.map_set,h,Jx,he];refine cI fun i _=>?_
  by_cases h1:i=k
  · subst h1;rw[if_pos rfl,if_pos (by omega)]
  · rw [if_neg h1]
    by_cases h2:i<k
    · rw[if_pos h2,if_pos (by omega)]
    · rw[if_neg h2,if_neg (by omega)]
theorem o4 {p:FP→Prop} {es:List FP} {e:FP} (h:∀x∈es,p x) (he:p e):∀x∈es++[e],p x:=fun x hx=>by
  rcases List.mem_append.1 hx with hx | hx
  · exact h x hx
  · obtain rfl : x = e := by simpa using hx
    exact he
theorem o5 {p:FP→Prop} {es:List FP} {k:Nat} {e:FP} (h:∀x∈es,p x) (he:p e):∀x∈es.set k e,p x:=fun x hx=>by
  rcases List.mem_or_eq_of_mem_set hx with hx | rfl
  · exact h x hx
  · exact he
theorem hU (A:Option Addr) (k c:Nat) (f:Nat→Int):az A (k+1) c (dU (k+1) f)=.row 3 1 A (k+1) c ((dU k f).map (Value.int .i64)++[.int .i64 (f k)]):=by simp[az,oN]
theorem j9 {l:List Int} {k:Nat} (h:k<l.length):l[k]?=some (gI l k):=by
  unfold gI;rw[List.getD_eq_getElem?_getD,List.getElem?_eq_getElem h];rfl
section
variable (n:Nat)
theorem J5 (A B D:Option Addr) (ca cb cd:Nat) (sizes tops bottoms:List Int) (hn:n≤10000) (h1:sizes.length=n) (h2:tops.length=n) (h3:bottoms.length=n):Ct Tryz.prog 203 #[.slice A n ca,.slice B n cb,.slice D n cd] [] (fun w=>vd w A sizes∧vd w B tops∧vd w D bottoms) (X:=Option Addr×Nat)
    (fun p=>.tuple #[.slice p.1 n p.2,.int .i64 (stkAt sizes tops bottoms n)]) (fun _=>True) (fun p=>[.row 3 1 p.1 n p.2 ((dM sizes tops bottoms).map (Value.int .i64))]):=by
  subst h1;have h:=HS A B D ca cb cd sizes tops bottoms hn h2 h3;rw[h2,h3] at h;exact h
theorem Q3 (A:Option Addr) (c:Nat) (l:List Int) (gap:Int) (hn:n≤10000) (hl:l.length=n):Ct Tryz.prog 215 #[.slice A n c,.int .i64 gap] [] (fun w=>vd w A l) (X:=Unit) (fun _=>.int .i64 (fV l gap)) (fun _=>True) (fun _=>[]):=by
  subst hl;exact Dx A c l gap hn
theorem ze (kind:Int) (A:Option Addr) (c:Nat) (l:List Int) (room gap:Int) (hn:n≤10000) (hl:l.length=n):Ct Tryz.prog 216 #[.int .i64 kind,.slice A n c,.int .i64 room,.int .i64 gap] [] (fun w=>vd w A l) (X:=Option Addr×Nat) (fun p=>.slice p.1 n p.2) (fun _=>True) (fun p=>[.row 3 1 p.1 n p.2 ((dO kind l room gap).map (Value.int .i64))]):=by
  subst hl;exact ES kind A c l room gap hn
theorem Dk (A:Option Addr) (c:Nat) (l:List bt) (room:Int) (hn:n≤64) (hl:l.length=n):Ct Tryz.prog 233 #[.slice A n c,.int .i64 room] [] (fun w=>jL w A 5 bt.enc l) (X:=Option Addr×Nat) (fun p=>.slice p.1 n p.2) (fun _=>True) (fun p=>[.row 3 1 p.1 n p.2 ((sizes l room).map (Value.int .i64))]):=by
  subst hl;exact HH A c l room hn
theorem Jq (A:Option Addr) (c:Nat) (l:List Int) (room gap:Int) (wrap:Bool) (hn:n≤10000) (hl:l.length=n):Ct Tryz.prog 209 #[.slice A n c,.int .i64 room,.int .i64 gap,.bool wrap] [.row 3 1 A n c (l.map (Value.int .i64))] (fun _=>True) (X:=Option Addr×Nat) (fun p=>.slice p.1 (bL l room gap wrap).length p.2) (fun _=>True)
    (fun p=>[.row 3 1 A n c (l.map (Value.int .i64)),mQ p.1 (bL l room gap wrap).length p.2 (bL l room gap wrap)]):=by
  subst hl;exact F8 A c l room gap wrap hn
end
def okA (B rw rh sw sh:Int):Prop:=(0≤rw∧rw≤B)∧(-1≤rh∧rh≤B)∧(-1≤sw∧sw≤B)∧(-1≤sh∧sh≤B)
abbrev XL:=List (KI×Value)×cq×Option Addr×Nat
abbrev XF:=List (KI×Value)×cq×Option Addr×Nat×List FP
section
variable (tp mb fb lb:Nat) (es:List PE) (ww wh:Int) (V L:er)
def mc (k B:Int):Prop:=∀(m:List (KI×Value)) (H:cq) (rw rh sw sh:Int),l7 V H m→okA B rw rh sw sh→
  Ct Tryz.prog 59 #[.pointer (some ⟨fb,0,none⟩),.int .i64 k,q2 rw rh,q2 sw sh] [al tp mb es,dV fb tp lb ww wh,aU lb m,aN H] (fun _=>True) (X:=XL) (fun p=>.agg (k7 (L k rw rh sw sh) p.2.2.1 p.2.2.2).toArray)
    (fun p=>H.Sub p.2.1∧l7 V p.2.1 p.1∧k6 p.2.1 p.2.2.1 (L k rw rh sw sh).kids) (fun p=>[al tp mb es,dV fb tp lb ww wh,aU lb p.1,aN p.2.1])
def I6 (f:Nat) (id:Int) (ks:List Int) (iw ih:Int) (R:List ew×Int):Prop:=∀(m:List (KI×Value)) (H:cq) (A:Option Addr) (c:Nat),l7 V H m→
  Ct Tryz.prog f #[.pointer (some ⟨fb,0,none⟩),.int .i64 id,.slice A ks.length c,q2 iw ih] [al tp mb es,dV fb tp lb ww wh,aU lb m,aN H,az A ks.length c ks] (fun _=>True) (X:=XF) (fun p=>.tuple #[.slice p.2.2.1 p.2.2.2.2.length p.2.2.2.1,.int .i64 R.2])
    (fun p=>H.Sub p.2.1∧l7 V p.2.1 p.1∧p.2.2.2.2.map FP.fr=R.1∧∀e∈p.2.2.2.2,iK p.2.1 e) (fun p=>[al tp mb es,dV fb tp lb ww wh,aU lb p.1,aN p.2.1,az A ks.length c ks,ga p.2.2.1 p.2.2.2.1 p.2.2.2.2])
end
theorem Ct.frame {P:Program} {f:FuncId} {args:Array Value} {pre F:List HI} {Fact:World→Prop} {X:Type} {v:X→Value} {facts:X→Prop} {post:X→List HI} (h:Ct P f args pre Fact v facts post):Ct P f args (pre++F) Fact v facts (fun x=>post x++F):=by
  intro w h1 h2 h3;have h0:=St.start h1 h2;refine(h w (fun i hi=>h1 i (List.mem_append_left _ hi)) (List.pairwise_append.1 h2).1 h3).mono ?_
  rintro e w' ⟨x,rfl,hf,hs⟩
  exact⟨x,rfl,hf,h0.trans hs⟩
def xk {α:Type} (H:cq) (A:Option Addr) (sz:Nat) (enc:α→List Value) (l:List α):Prop:=
  ∀k x,l[k]?=some x→∃g o cs,A=some ⟨g,o,none⟩∧H g=some cs∧∀q u,(enc x)[q]?=some u→cs[o+k*sz+q]?=some u
section
variable {α:Type} {H H':cq} {A:Option Addr} {sz:Nat} {enc:α→List Value} {l:List α}
theorem xk.mono (h:xk H A sz enc l) (hs:H.Sub H'):xk H' A sz enc l:=fun k x hx=>by
  obtain⟨g,o,cs,e,hg,hc⟩:=h k x hx;exact⟨g,o,cs,e,hs _ _ hg,hc⟩
theorem xk.cut (h:xk H A sz enc l) (lo m c:Nat) (hc:l.length≤c):xk H (dZ A lo c sz) sz enc ((l.drop lo).take m):=fun k x hx=>by
  rw[List.getElem?_take] at hx
  split at hx
  · rw [List.getElem?_drop] at hx
    have hk:=(List.getElem?_eq_some_iff.1 hx).1;obtain⟨g,o,cs,rfl,hg,hcell⟩:=h (lo+k) x hx;unfold dZ;rw[if_neg (by omega)];refine⟨g,o+lo*sz,cs,by simp[Addr.add],hg,fun q u hq=>?_⟩;rw[show o+lo*sz+k*sz+q=o+(lo+k)*sz+q by rw[Nat.add_mul];omega];exact hcell q u hq
  · cases hx
theorem xk.of {g:Nat} (hg:H g=some (l.flatMap enc)) (hn:∀a,(enc a).length=sz):xk H (some ⟨g,0,none⟩) sz enc l:=fun k x hx=>
  ⟨g,0,_,rfl,hg,fun q u hq=>by rw[Nat.zero_add];exact bT enc sz hn l k q x u hx hq⟩
theorem xk.nil (H:cq) (A:Option Addr) (sz:Nat) (enc:α→List Value):xk H A sz enc []:=fun k x h=>by simp at h
variable {w0 w:World} {M:Nat→Prop} {σ:List HI} {i:Nat}
theorem St.TR (h:St w0 M σ w) (hi:σ[i]?=some (aN H)) (hr:xk H A sz enc l):jL w A sz enc l:=fun k x hx=>by
  obtain⟨g,o,cs,e,hg,hc⟩:=hr k x hx
  exact ⟨g, o, e, fun j u hj => by
    have h1 := h.IN hi hg (o + k * sz + j) u (hc j u hj)
    rw [Nat.zero_add] at h1
    exact h1⟩
theorem St.lQ (h:St w0 M σ w) (hi:σ[i]?=some (aN H)) {g o:Nat} (hr:xk H (some ⟨g,o,none⟩) sz enc l) {k:Nat} {x:α} (hx:l[k]?=some x):aJ w g (o+k*sz) (enc x):=by
  obtain⟨b,p,e,hc⟩:=h.TR hi hr k x hx;cases e;exact hc
theorem aJ.part {b o:Nat} {us vs:List Value} (h:aJ w b o us) (k:Nat) (hv:(us.drop k).take vs.length=vs):aJ w b (o+k) vs:=fun j u hj=>by
  have hlt:=(List.getElem?_eq_some_iff.1 hj).1;rw[←hv,List.getElem?_take,if_pos hlt,List.getElem?_drop] at hj;rw[Nat.add_assoc];exact h (k+j) u hj
end
theorem yS {us:List Value} {sz:Nat} (h:us.length=sz):[(Value.agg us.toArray).cells.size]=List.replicate 1 sz:=by simp[Value.cells,h]
theorem vv (us:List Value):(Value.agg us.toArray).cells.toList++[]=us:=by simp[Value.cells]
theorem vq {α:Type} (g:α→List Value) (n:Nat) (hg:∀a,(g a).length=n):∀(l:List α) (i o:Nat) (a a':α) (us:List Value),l[i]?=some a→o+us.length≤n→setL (g a) o us=g a'→setL (l.flatMap g) (i*n+o) us=(l.set i a').flatMap g
  | [],_,_,_,_,_,h,_,_=>by simp at h
  | x :: l, 0, o, a, a', us, h, ho, he => by
    obtain rfl:x=a:=by simpa using h
    rw[List.flatMap_cons,Nat.zero_mul,Nat.zero_add,lv [] _ us _ o (by rw[hg];exact ho),he];rfl
  | x :: l, i + 1, o, a, a', us, h, ho, he => by
    rw[List.flatMap_cons,show (i+1)*n+o=(g x).length+(i*n+o) by rw[hg,Nat.succ_mul];omega,qk,List.set_cons_succ,List.flatMap_cons];rw[vq g n hg l i o a a' us (by simpa using h) ho he]
theorem ti {es:List FP} {i o oo:Nat} {e e':FP} {us:List Value} (h:es[i]?=some e) (ho:oo=i*6+o) (hlt:o+us.length≤6) (he:setL e.enc o us=e'.enc):setL (es.flatMap FP.enc) oo us=(es.set i e').flatMap FP.enc:=by
  subst ho;exact vq FP.enc 6 (fun _=>rfl) es i o e e' us h hlt he
theorem lz {P:Program} {r:Option Nat} {ρ:Env} {dst:Option Tmp} {ty:TypeId} {pos:String} {af:Array Edge} {g':Option (Nat×Bool)} {t:TypeId} {x y:Operand} {w0:World} {M:Nat→Prop} {σ σ':List HI} {i g o n cap sz k:Nat} {us:List Value} {tc:TypeId} {xs xs':List Value} (hz:∀w,(sizeOf t).run P w=.ok k w) (hx:evo ρ x=.pointer (some ⟨g,o,none⟩)) (hy:evo ρ y=.agg us.toArray) (hi:σ[i]?=some (.row tc sz (some ⟨g,0,none⟩) n cap xs)) (ho:o+us.length≤xs.length)
    (hxs:setL xs o us=xs') (hσ:σ.set i (.row tc sz (some ⟨g,0,none⟩) n cap xs')=σ') (h1:∀u∈us,u.oneCell'=true) (hk:us.length=k:=by rfl):cX P r (St w0 M σ) ⟨dst,.store t x y,ty,pos,af,g'⟩ ρ (X:=Unit) (fun _=>undef) (fun _=>St w0 M σ'):=
  jX hz hx hy hi ho (by rw[hxs];exact hσ) h1 hk
theorem zB {es:List FP} {i:Nat} {e:FP} (h:es[i]?=some e):es.set i e=es:=by
  apply List.ext_getElem?;intro j
  by_cases hj:i=j
  · subst hj;rw[List.getElem?_set_self (List.getElem?_eq_some_iff.1 h).1,h]
  · rw[List.getElem?_set_ne hj]
abbrev cv (x:bt) (k:Int) (s:List Value) (b:Int):List Value:=
  .int .i64 x.base::.int .i64 x.low::.int .i64 x.high::.int .i64 x.grow::.int .i64 x.shrink::.int .i64 k::(s++[.int .i64 (eS s 0),.int .i64 (eS s 1),.int .i64 (eS s 2),.int .i64 (eS s 3),.int .i64 (mS s b 0),.int .i64 (mS s b 1),.int .i64 (mS s b 2),.int .i64 (mS s b 3)])
section
variable {x:bt} {k:Int} {s:List Value} {b:Int}
theorem aO (hs:bZ s):(cv x k s b).length=69:=by simp[cv,hs.len]
theorem gi (hs:bZ s):∀u∈cv x k s b,u.oneCell'=true:=by
  intro u hu;simp only[cv,List.mem_cons,List.mem_append,List.not_mem_nil,or_false] at hu
  rcases hu with rfl | rfl | rfl | rfl | rfl | rfl | hu | rfl | rfl | rfl | rfl | rfl | rfl | rfl | rfl<;>first | rfl | exact hs.one u hu
theorem nw (hs:bZ s) {o:Nat} {us:List Value} (h:(s.drop o).take us.length=us) (ho:o+us.length≤55):((cv x k s b).drop (6+o)).take us.length=us:=by
  have hl:=hs.len;rw[Nat.add_comm];simp only[cv,List.drop_succ_cons];rw[List.drop_append_of_le_length (by omega),List.take_append_of_le_length (by rw[List.length_drop];omega)];exact h
theorem dq (hs:bZ s) {o:Nat} {us:List Value} (h:(([.int .i64 (eS s 0),.int .i64 (eS s 1),.int .i64 (eS s 2),.int .i64 (eS s 3),.int .i64 (mS s b 0),.int .i64 (mS s b 1),.int .i64 (mS s b 2),.int .i64 (mS s b 3)]:List Value).drop o).take us.length=us):((cv x k s b).drop (61+o)).take us.length=us:=by
  have hl:=hs.len;rw[show 61+o=(55+o)+6 by omega];simp only[cv,List.drop_succ_cons];rw[←hl,List.drop_length_add_append];exact h
theorem nr (a b c v:List Value) {p:Nat} (hp:p=a.length) (h:b.length=v.length) (rest:List (Nat×List Value)):fillL (a++(b++c)) ((p,v)::rest)=fillL (a++(v++c)) rest:=by
  subst hp;rw[fillL]
  congr 1
  rw[List.take_left' rfl,←h,List.append_assoc,←List.append_assoc a b c,←List.length_append,List.drop_left' rfl]
theorem G6 (z0 z1 z2 z3 z4 z5 k':Value) (zs es ms e0 m0:List Value) (h:zs.length=55) (hs:s.length=55) (he:es.length=4) (hm:ms.length=4) (he0:e0.length=4) (hm0:m0.length=4):fillL (z0::z1::z2::z3::z4::z5::(zs++(e0++m0))) [(5,[k']),(6,s),(61,es),(65,ms)]=z0::z1::z2::z3::z4::k'::(s++(es++ms)):=by
  have h1:=nr [z0,z1,z2,z3,z4] [z5] (zs++(e0++m0)) [k'] (p:=5) rfl rfl [(6,s),(61,es),(65,ms)];have h2:=nr [z0,z1,z2,z3,z4,k'] zs (e0++m0) s (p:=6) rfl (by omega) [(61,es),(65,ms)];have h3:=nr ([z0,z1,z2,z3,z4,k']++s) e0 m0 es (p:=61) (by simp[hs]) (by omega) [(65,ms)];have h4:=nr ([z0,z1,z2,z3,z4,k']++s++es) m0 [] ms (p:=65) (by simp[hs,he]) (by omega) [];simp only[List.cons_append,List.nil_append,List.append_assoc,List.append_nil] at h1 h2 h3 h4 ⊢;rw[h1,h2,h3,h4];rfl
end
def eL:List Value:=[.int .i64 0,.int .i64 0,.int .i64 0,.int .i64 0,.int .i64 0,.int .i64 0,.int .i64 0,.int .i64 0,.int .i64 0,.int .i64 0,.int .i64 0,.int .i64 0,.int .i64 0,.int .i64 0,.int .i64 0,.int .i64 0,.int .i64 0,.int .i64 0,.int .i64 0,.int .i64 0,.int .i64 0,.int .i64 0,.int .i64 0,.int .i64 0,.int .i64 0,.int .i64 0,.int .i64 0,.int .i64 0,.int .i64 0,.int .i64 0,.int .i64 0,.int .i64 0,.int .i64 0,.int .i64 0,.int .i64 0,.int .i64 0,.int .i64 0,.int .i64 0,.int .i64 0,.int .i64 0,.int .i64 0,.int .i64 0,.int .i64 0,.int .i64 0,.int .i64 0,.int .i64 0,.int .i64 0,.int .i64 0,.int .i64 0,.int .i64 0,.int .i64 0,.bool false,.int .i64 0,.bool false,.int .i64 0,.int .i64 0,.int .i64 0,.bool false,.bool false,.int .i64 0,.int .i64 0,.int .i64 0,.int .i64 0,.int .i64 0,.int .i64 0,.int .i64 0,.int .i64 0,.int .i64 0,.int .i64 0]
theorem aef:(Tryz.prog.info? 266).map (fun i=>(i.zero,i.size,i.bytes))=some (some (.agg #[.int .i64 0,.int .i64 0,.int .i64 0,.int .i64 0,.int .i64 0,.int .i64 0,.int .i64 0,.int .i64 0,.int .i64 0,.int .i64 0,.int .i64 0,.int .i64 0,.int .i64 0,.int .i64 0,.int .i64 0,.int .i64 0,.int .i64 0,.int .i64 0,.int .i64 0,.int .i64 0,.int .i64 0,.int .i64 0,.int .i64 0,.int .i64 0,.int .i64 0,.int .i64 0,.int .i64 0,.int .i64 0,.int .i64 0,.int .i64 0,.int .i64 0,.int .i64 0,.int .i64 0,.int .i64 0,.int .i64 0,.int .i64 0,.int .i64 0,.int .i64 0,.int .i64 0,.int .i64 0,.int .i64 0,.int .i64 0,.int .i64 0,.int .i64 0,.int .i64 0,.int .i64 0,.int .i64 0,.int .i64 0,.int .i64 0,.int .i64 0,.int .i64 0,.bool false,.int .i64 0,.bool false,.int .i64 0,.int .i64 0,.int .i64 0,.bool false,.bool false,.int .i64 0,.int .i64 0,.int .i64 0,.int .i64 0,.int .i64 0,.int .i64 0,.int .i64 0,.int .i64 0,.int .i64 0,.int .i64 0]),69,544):=by kernel_rfl
section
variable (x:bt) (k:Int) (s:List Value) (hs:bZ s) (b:Int)
include hs in
theorem u2 (he:0≤eA s∧eA s≤4194304):Ct Tryz.prog 230 #[.agg (cv x k s b).toArray,.int .i64 0] [] (fun _=>True) (X:=Unit) (fun _=>.int .i64 (eA s+mA s b)) (fun _=>True) (fun _=>[]):=by
  refine Ci fun w0 _=>?_;have hm:=mh s b;have hm2:mA s b=mS s b 3+mS s b 1:=rfl;have he2:eA s=eS s 3+eS s 1:=rfl;refine gg ?_;refine aj.ef (xB (us:=cv (x) (k) (s) (b))) fun b2=>?_;refine gg ?_;refine wP none [0] [pT 0,pT 1,pT 2,pT 4,pT 5,pT 6,pF 3,pF 7,pT 8,pT 9] ?_;refine ad ?_;refine tE rfl (au (cs:=[.int .i64 (eS s 0),.int .i64 (eS s 1),.int .i64 (eS s 2),.int .i64 (eS s 3)]) Tryz.isAgg35 Tryz.sizeOf35 rfl (fun w hw=>hw.aq (i:=0) rfl 61 (dq (o:=0) hs rfl))) ?_;refine bW ?_;refine tE rfl (au (cs:=[.int .i64 (mS s b 0),.int .i64 (mS s b 1),.int .i64 (mS s b 2),.int .i64 (mS s b 3)]) Tryz.isAgg35 Tryz.sizeOf35 rfl (fun w hw=>hw.aq (i:=0) rfl 65 (dq (o:=4) hs rfl))) ?_;refine gg ?_;refine dG (xC (dR (eS s 0) (eS s 1) (eS s 2) (eS s 3) (by omega))) fun _ _=>?_;refine dG (xC (dR (mS s b 0) (mS s b 1) (mS s b 2) (mS s b 3) (by omega))) fun _ _=>?_;refine gg ?_;exact aT fun w hw=>⟨(),rfl,trivial,hw.pk⟩
include hs in
theorem wq (he:0≤eD s∧eD s≤4194304):Ct Tryz.prog 230 #[.agg (cv x k s b).toArray,.int .i64 1] [] (fun _=>True) (X:=Unit) (fun _=>.int .i64 (eD s+mD s)) (fun _=>True) (fun _=>[]):=by
  refine Ci fun w0 _=>?_;have hm:=pn s;have hm2:mD s=mS s b 0+mS s b 2:=rfl;have he2:eD s=eS s 0+eS s 2:=rfl;refine gg ?_;refine aj.ef (xB (us:=cv (x) (k) (s) (b))) fun b2=>?_;refine gg ?_;refine wP none [0] [pT 0,pT 1,pT 2,pT 4,pT 5,pT 6,pF 3,pF 7,pT 8,pT 9] ?_;refine ad ?_;refine tE rfl (au (cs:=[.int .i64 (eS s 0),.int .i64 (eS s 1),.int .i64 (eS s 2),.int .i64 (eS s 3)]) Tryz.isAgg35 Tryz.sizeOf35 rfl (fun w hw=>hw.aq (i:=0) rfl 61 (dq (o:=0) hs rfl))) ?_;refine bW ?_;refine tE rfl (au (cs:=[.int .i64 (mS s b 0),.int .i64 (mS s b 1),.int .i64 (mS s b 2),.int .i64 (mS s b 3)]) Tryz.isAgg35 Tryz.sizeOf35 rfl (fun w hw=>hw.aq (i:=0) rfl 65 (dq (o:=4) hs rfl))) ?_;refine gg ?_;refine dG (xC (dN (eS s 0) (eS s 1) (eS s 2) (eS s 3) (by omega))) fun _ _=>?_;refine dG (xC (dN (mS s b 0) (mS s b 1) (mS s b 2) (mS s b 3) (by omega))) fun _ _=>?_;refine gg ?_;exact aT fun w hw=>⟨(),rfl,trivial,hw.pk⟩
include hs in
theorem Fy (n:Int) (hn:0≤n∧n≤1048576) (he:0≤eA s∧eA s≤4194304):Ct Tryz.prog 207 #[.agg (cv x k s b).toArray,.int .i64 n,.int .i64 0] [] (fun _=>True) (X:=Unit) (fun _=>.int .i64 (n+(eA s+mA s b))) (fun _=>True) (fun _=>[]):=by
  refine Ci fun w0 _=>?_;have hm:=mh s b;refine gg ?_;refine aj.ef (xB (us:=cv (x) (k) (s) (b))) fun b3=>?_;refine gg ?_;refine vl (vW (aO hs)) ?_;refine gg ?_;refine eF (xC (u2 x k s hs b he)) fun _ _=>?_;refine gg ?_;exact aT fun w hw=>⟨(),rfl,trivial,hw.pk⟩
include hs in
theorem Aw:Ct Tryz.prog 208 #[.agg (cv x k s b).toArray] [] (fun _=>True) (X:=Unit) (fun _=>.int .i64 (oY x)) (fun _=>True) (fun _=>[]):=by
  refine Ci fun w0 _=>?_;refine gg ?_;refine aj.ef (xB (us:=cv (x) (k) (s) (b))) fun b1=>?_;refine gg ?_;refine eF (xC (BS x _)) fun _ _=>?_;refine gg ?_;exact aT fun w hw=>⟨(),rfl,trivial,hw.pk⟩
include hs in
theorem JV (b7:Nat) (iw ih:Int):Ct Tryz.prog 206 #[.agg (cv x k s b).toArray,.pointer (some ⟨b7,0,none⟩)] [.cl b7 109 [.int .i64 iw,.int .i64 ih]] (fun _=>True) (X:=Unit) (fun _=>.int .i64 (cC (val s 3) (val s 4) iw (val s 53))) (fun _=>True) (fun _=>[.cl b7 109 [.int .i64 iw,.int .i64 ih]]):=by
  refine Ci fun w0 _=>?_;refine gg ?_;refine aj.ef (xB (us:=cv (x) (k) (s) (b))) fun b2=>?_;refine cR ?_;refine vl (au (cs:=[.int .i64 (val s 3),.int .i64 (val s 4)]) Tryz.isAgg33 Tryz.sizeOf33 rfl (fun w hw=>hw.aq (i:=1) rfl 9 (nw (o:=3) hs (bZ.gu hs 2 3 (by decide) rfl rfl rfl) (Nat.le_of_ble_eq_true rfl)))) ?_;refine cR ?_;refine vl (ai (u:=.int .i64 (val s 53)) Tryz.isAgg3 rfl (fun w hw=>hw.aq (i:=1) rfl 59 (nw (o:=53) hs (cell_of (bZ.int hs 53 (by decide) rfl)) (Nat.le_of_ble_eq_true rfl)))) ?_;refine eF (xC (a7 (val s 3) (val s 4) iw (val s 53))) fun _ _=>?_;refine gg ?_;exact aT fun w hw=>⟨(),rfl,trivial,hw.pk⟩
end
end Go.Proofs.YtbedndijejpcaaaGreat
