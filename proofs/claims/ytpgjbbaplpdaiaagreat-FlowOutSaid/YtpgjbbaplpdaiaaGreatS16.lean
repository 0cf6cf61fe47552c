/- FlowMem FlowKey FlowE FlowRd FlowItm -/
import Derived.DeepKeys3
import Derived.Test.YtpgjbbaplpdaiaaGreatS15
set_option linter.unusedVariables false
set_option linter.unusedSimpArgs false
set_option linter.unusedSectionVars false
set_option maxRecDepth 100000
set_option maxHeartbeats 8000000
namespace Go.Proofs.YtpgjbbaplpdaiaaGreat
open Go.RowKit
abbrev encF (f:Frm) (A:Option Addr) (c:Nat):List Value:=[.int .i64 f.id,.int .i64 f.x,.int .i64 f.y,.int .i64 f.w,.int .i64 f.h,.slice A f.kids.length c]
structure FP where
  fr:Frm
  A:Option Addr
  c:Nat
abbrev FP.enc (e:FP):List Value:=encF e.fr e.A e.c
abbrev Pool:=Nat→Option (List Value)
def Pool.Sub (H H':Pool):Prop:=∀g cs,H g=some cs→H' g=some cs
theorem Pool.Sub.refl (H:Pool):H.Sub H:=fun _ _ h=>h
theorem Pool.Sub.trans {H H' H'':Pool} (h:H.Sub H') (k:H'.Sub H''):H.Sub H'':=fun g cs e=>k g cs (h g cs e)
inductive RepK (H:Pool):Option Addr→List Frm→Prop
  | nil:RepK H none []
  | row {g:Nat} {es:List FP}:H g=some (es.flatMap FP.enc)→(∀e∈es,RepK H e.A e.fr.kids)→RepK H (some ⟨g,0,none⟩) (es.map FP.fr)
theorem RepK.mono {H H':Pool} (hs:H.Sub H') {A:Option Addr} {ks:List Frm} (h:RepK H A ks):RepK H' A ks:=by
  induction h with
  | nil=>exact .nil
  | row hg _ ih=>exact .row (hs _ _ hg) ih
def RepE (H:Pool) (e:FP):Prop:=RepK H e.A e.fr.kids
theorem RepE.mono {H H':Pool} (hs:H.Sub H') {e:FP} (h:RepE H e):RepE H' e:=RepK.mono hs h
def poolI (H:Pool):HI:=.gen (fun g=>(H g).isSome=true) (fun w=>∀g cs,H g=some cs→g<w.heap.size∧CellsAt w g 0 cs)
theorem pool_local (H:Pool):Local (fun g=>(H g).isSome=true) (fun w=>∀g cs,H g=some cs→g<w.heap.size∧CellsAt w g 0 cs):=by
  refine⟨fun w w' hk h g cs hg=>?_,fun w h b hb=>?_⟩
  · obtain ⟨h1, h2⟩ := h g cs hg
    have h3:=hk g (by show (H g).isSome=true;rw[hg];rfl);refine⟨?_,fun j u hj=>?_⟩
    · rw [Array.getElem?_eq_getElem h1] at h3
      exact lt_of_some h3
    · exact(World.cell?_of_block h3).trans (h2 j u hj)
  · obtain ⟨cs, hcs⟩ := Option.isSome_iff_exists.1 hb
    exact(h b cs hcs).1
section
variable {w0 w:World} {M:Nat→Prop} {σ τ F:List HI}
theorem St.retell (h:St w0 M (σ++F) w) (ht:∀i∈τ,i.holds w) (hp:τ.Pairwise apartI) (hf:∀b,foots τ b→foots σ b):St w0 M (τ++F) w:=by
  obtain⟨hd1,hd2,hd3⟩:=List.pairwise_append.1 h.disj;refine⟨h.os,h.tape,h.output,h.size,h.old,fun i hi=>?_,List.pairwise_append.2 ⟨hp,hd2,fun i hi j hj b hb hb'=>?_⟩,fun i hi b hb=>?_⟩
  · rcases List.mem_append.1 hi with hi | hi
    · exact ht i hi
    · exact h.all i (List.mem_append_right _ hi)
  · obtain ⟨k, hk, hkb⟩ := hf b ⟨i, hi, hb⟩
    exact hd3 k hk j hj b hkb hb'
  · rcases List.mem_append.1 hi with hi | hi
    · obtain ⟨k, hk, hkb⟩ := hf b ⟨i, hi, hb⟩
      exact h.fresh k (List.mem_append_left _ hk) b hkb
    · exact h.fresh i (List.mem_append_right _ hi) b hb
theorem St.freeze {H:Pool} {t:TypeId} {sz n cap:Nat} {A:Option Addr} {xs:List Value} (h:St w0 M (poolI H::.row t sz A n cap xs::F) w):
    ∃H',H.Sub H'∧((A=none∧xs=[])∨∃g,A=some ⟨g,0,none⟩∧H' g=some xs)∧St w0 M (poolI H'::F) w:=by
  have h0:=h;have hrow:(HI.row t sz A n cap xs).holds w:=h.all _ (by simp);have hpool:(poolI H).holds w:=h.all _ (by simp);obtain⟨h1,h2⟩:=hrow;have h1':=h1
  rcases h2 with ⟨hv,hn⟩ | ⟨g,cap',cur,hv,hb,hh,rest⟩
  · have hA : A = none := by injection hv
    subst hA;refine⟨H,Pool.Sub.refl H,.inl ⟨rfl,?_⟩,?_⟩
    · rw [hn] at h1
      exact List.eq_nil_of_length_eq_zero (by simpa using h1)
    · exact h.sub (List.Sublist.cons_cons _ (List.sublist_cons_self _ _))
  · have hA : A = some ⟨g, 0, none⟩ := by injection hv
    subst hA;have hno:H g=none:=by
      cases e:H g with
      | none=>rfl
      | some cs =>
        have hd:=List.pairwise_cons.1 h.disj;exact absurd ⟨⟨g,0,none⟩,rfl,rfl⟩ (hd.1 (.row t sz (some ⟨g,0,none⟩) n cap xs) (by simp) g (by show (H g).isSome=true;rw[e];rfl))
    have hsub:H.Sub (fun k=>if k=g then some xs else H k):=fun k cs hk=>by
      simp only
      split
      · rename_i e;subst e;rw[hno] at hk;cases hk
      · exact hk
    refine⟨_,hsub,.inr ⟨g,rfl,by simp⟩,?_⟩;refine St.retell (σ:=[poolI H,.row t sz (some ⟨g,0,none⟩) n cap xs]) (τ:=[poolI _]) (F:=F) h ?_ (List.pairwise_singleton _ _) ?_
    · intro i hi
      obtain rfl:i=_:=by simpa using hi
      refine⟨pool_local _,fun k cs hk=>?_⟩;simp only at hk
      split at hk
      · rename_i e
        subst e;cases hk;refine⟨lt_of_some hh,?_⟩;exact h0.row_at (i:=1) rfl 0 fun j u hj=>by rw[Nat.zero_add];exact hj
      · exact hpool.2 k cs hk
    · rintro b ⟨i, hi, hb'⟩
      obtain rfl:i=_:=by simpa using hi
      have hb2:((if b=g then some xs else H b)).isSome=true:=hb'
      split at hb2
      · rename_i e
        exact⟨.row t sz (some ⟨g,0,none⟩) n cap xs,by simp,⟨g,0,none⟩,rfl,e⟩
      · exact⟨poolI H,by simp,hb2⟩
theorem St.poolAt {i:Nat} {H:Pool} (h:St w0 M σ w) (hi:σ[i]?=some (poolI H)) {g:Nat} {cs:List Value} (hg:H g=some cs):CellsAt w g 0 cs:=((h.all _ (List.mem_of_getElem? hi)).2 g cs hg).2
theorem encF_len (f:Frm) (A:Option Addr) (c:Nat):(encF f A c).length=6:=rfl
theorem encF_one (f:Frm) (A:Option Addr) (c:Nat):∀u∈encF f A c,u.oneCell'=true:=by
  intro u hu;simp only[encF,List.mem_cons,List.not_mem_nil,or_false] at hu
  rcases hu with rfl | rfl | rfl | rfl | rfl | rfl<;>rfl
theorem flatF_len (es:List FP):(es.flatMap FP.enc).length=es.length*6:=by
  induction es with
  | nil=>rfl
  | cons e es ih=>rw[List.flatMap_cons,List.length_append,ih,List.length_cons];simp[encF];omega
theorem flatF_one (es:List FP):∀u∈es.flatMap FP.enc,u.oneCell'=true:=by
  intro u hu;obtain⟨e,_,he⟩:=List.mem_flatMap.1 hu;exact encF_one _ _ _ u he
end
abbrev KI:=Int×Int×Int×Int×Int
def encKL (k:KI):List Value:=[.int .i64 k.1,.int .i64 k.2.1,.int .i64 k.2.2.1,.int .i64 k.2.2.2.1,.int .i64 k.2.2.2.2]
abbrev encK (k:KI):Value:=.agg #[.int .i64 k.1,.int .i64 k.2.1,.int .i64 k.2.2.1,.int .i64 k.2.2.2.1,.int .i64 k.2.2.2.2]
theorem encKL_inj {k k':KI}:encKL k=encKL k'↔k=k':=by
  obtain⟨a,b,c,d,e⟩:=k;obtain⟨a',b',c',d',e'⟩:=k';simp[encKL]
def lookK:List (KI×Value)→KI→Option Value
  | [],_=>none
  | p::m,k=>if k=p.1 then some p.2 else lookK m k
def putK:List (KI×Value)→KI→Value→List (KI×Value)
  | [],k,v=>[(k,v)]
  | p::m,k,v=>if k=p.1 then (k,v)::m else p::putK m k v
theorem look_put (k:KI) (v:Value) (k':KI):∀m:List (KI×Value),lookK (putK m k v) k'=if k'=k then some v else lookK m k'
  | []=>by simp[putK,lookK]
  | p :: m => by
    unfold putK
    split
    · rename_i e
      simp only[lookK]
      split
      · rfl
      · rename_i h
        rw[if_neg (by rw[←e];exact h)]
    · rename_i e
      simp only[lookK];rw[look_put k v k' m]
      split
      · rename_i h
        subst h;rw[if_neg (fun e2=>e e2.symm)]
      · rfl
def entsK:List (KI×Value)→List Nat→List MapEntry
  | p::m,b::bs=>⟨encK p.1,p.2,b⟩::entsK m bs
  | _,_=>[]
def mapKP (b:Nat) (m:List (KI×Value)) (w:World):Prop:=∃(bs:List Nat) (clock:Nat),bs.length=m.length∧w.heap[b]?=some (.map (entsK m bs).toArray clock)
def mapKI (b:Nat) (m:List (KI×Value)):HI:=.gen (fun k=>k=b) (mapKP b m)
theorem mapKP_local (b:Nat) (m:List (KI×Value)):Local (fun k=>k=b) (mapKP b m):=
  ⟨fun w w' hk ⟨bs,c,h1,h4⟩=>⟨bs,c,h1,(hk b rfl).trans h4⟩,fun w ⟨bs,c,h1,h4⟩ k hk=>by subst hk;exact lt_of_some h4⟩
structure KeyOK (P:Program) (kt:TypeId):Prop where
  und:∃fs,P.underlying kt=some (.struct fs)
  chk:∀(e:Bool) (k:KI) (w:World),(Instr.checkKey e 10000 kt (encK k)).run P w=.ok () w
  eq:∀(k k':KI) (w:World),(Op.equal kt (encK k) (encK k')).run P w=.ok (decide (k=k')) w
theorem entsK_len:∀{m:List (KI×Value)} {bs:List Nat},bs.length=m.length→(entsK m bs).length=m.length
  | [],[],_=>rfl
  | _::m,_::bs,h=>by simp only[entsK,List.length_cons];rw[entsK_len (by simpa using h)]
theorem entsK_set (k:KI) (v:Value):∀(m:List (KI×Value)) (bs:List Nat) (j:Nat),bs.length=m.length→(∃u,m[j]?=some (k,u))→(entsK m bs).modify j (fun e=>{e with key:=encK k,val:=v})=entsK (m.set j (k,v)) bs
  | [],[],j,_,⟨u,hu⟩=>by simp at hu
  | p::m,b::bs,0,_,⟨u,hu⟩=>by simp[entsK]
  | p :: m, b :: bs, j + 1, h, ⟨u, hu⟩ => by
    simp only[entsK,List.modify_succ_cons,List.set_cons_succ];rw[entsK_set k v m bs j (by simpa using h) ⟨u,by simpa using hu⟩]
theorem entsK_snoc (p:KI×Value) (s:Nat):∀(m:List (KI×Value)) (bs:List Nat),bs.length=m.length→entsK (m++[p]) (bs++[s])=entsK m bs++[⟨encK p.1,p.2,s⟩]
  | [],[],_=>rfl
  | q :: m, b :: bs, h => by
    simp only[List.cons_append,entsK];rw[entsK_snoc p s m bs (by simpa using h)]
section
variable {P:Program} {kt:TypeId} (K:KeyOK P kt)
include K
theorem findAsk_K (w:World) (k:KI):∀(m:List (KI×Value)) (bs:List Nat) (i:Nat),bs.length=m.length→
    ∃r,(Instr.findAsking kt (encK k) (entsK m bs) i).run P w=.ok r w∧r.map (·.2)=lookK m k∧(∀p,r=some p→∃j,p.1=i+j∧(∀v,putK m k v=m.set j (k,v))∧j<m.length∧(∃u,m[j]?=some (k,u))∧((entsK m bs)[j]?).map (·.key)=some (encK k))∧(r=none→∀v,putK m k v=m++[(k,v)])
  | [],[],i,_=>⟨none,by simp[entsK,Instr.findAsking],rfl,fun p h=>(by cases h),fun _ _=>rfl⟩
  | p :: m, b :: bs, i, h => by
    have he:=K.eq k p.1 w
    by_cases e:k=p.1
    · rw [decide_eq_true e] at he
      refine⟨some (i,p.2),by simp[entsK,Instr.findAsking,he,Result.andThen],by simp[lookK,e],fun q hq=>?_,fun h=>(by cases h)⟩;cases hq;exact⟨0,rfl,fun v=>by simp[putK,e],by simp,⟨p.2,by simp[e]⟩,by simp[entsK,e]⟩
    · rw [decide_eq_false e] at he
      obtain⟨r,h1,h2,h3,h4⟩:=findAsk_K w k m bs (i+1) (by simpa using h);refine⟨r,by simp[entsK,Instr.findAsking,he,Result.andThen,h1],by rw[h2];simp[lookK,e],fun q hq=>?_,fun hn v=>?_⟩
      · obtain ⟨j, hj, hp, hl, ⟨u, hu⟩, hk⟩ := h3 q hq
        exact⟨j+1,by omega,fun v=>by simp[putK,e,hp v],by simp;omega,⟨u,by simpa using hu⟩,by simpa [entsK] using hk⟩
      · simp[putK,e,h4 hn v]
theorem run_findK (w:World) (k:KI) (m:List (KI×Value)) (bs:List Nat) (h:bs.length=m.length):
    ∃r,(Instr.findKey kt (encK k) (entsK m bs)).run P w=.ok r w∧r.map (·.2)=lookK m k∧(∀p,r=some p→∃j,p.1=j∧(∀v,putK m k v=m.set j (k,v))∧j<m.length∧(∃u,m[j]?=some (k,u))∧((entsK m bs)[j]?).map (·.key)=some (encK k))∧(r=none→∀v,putK m k v=m++[(k,v)]):=by
  obtain⟨fs,hu⟩:=K.und;obtain⟨r,h1,h2,h3,h4⟩:=findAsk_K K w k m bs 0 h;refine⟨r,?_,h2,fun p hp=>?_,h4⟩
  · cases m with
    | nil =>
      cases bs with
      | cons _ _=>simp at h
      | nil =>
        have hr:r=none:=by
          cases r with
          | none=>rfl
          | some q=>simp[lookK] at h2
        rw[hr];simp[entsK,Instr.findKey,run_underlying hu,Instr.findNow]
    | cons p m =>
      cases bs with
      | nil=>simp at h
      | cons b bs =>
        have:Instr.findNow (.struct fs) (encK k) (entsK (p::m) (b::bs)) 0=none:=rfl;simp only[Instr.findKey,Sem.run_bind,run_underlying hu,Result.andThen_ok,this];exact h1
  · obtain ⟨j, hj, rest⟩ := h3 p hp
    exact⟨j,by omega,rest⟩
variable {r:Option Nat} {S:World→Prop} {ρ:Env} {dst:Option Tmp} {ty:TypeId} {pos:String} {af:Array Edge} {g:Option (Nat×Bool)} {t et:TypeId} {x y v:Operand}
theorem v_lookK {b:Nat} {m:List (KI×Value)} {z:Value} {k:KI} (ht:P.underlying t=some (.map kt et)) (hz:∀w,(zeroValue et).run P w=.ok z w) (hx:evo ρ x=.map (some b)) (hy:evo ρ y=encK k) (hm:∀w,S w→mapKP b m w):
    OpV P S ⟨dst,.lookup t x y true,ty,pos,af,g⟩ ρ (.tuple #[(lookK m k).getD z,.bool (lookK m k).isSome]):=v_run fun w hw=>by
  obtain⟨bs,c,h1,h4⟩:=hm w hw;obtain⟨rr,hf,e2,_,_⟩:=run_findK K w k m bs h1;have hg:(getObj b).run P w=.ok (.map (entsK m bs).toArray c) w:=by simp[getObj,Sem.run,h4]
  have hl:(Instr.lookup t (.map (some b)) (encK k) true).run P w=.ok (.tuple #[(lookK m k).getD z,.bool (lookK m k).isSome]) w:=by
    have hf':(Instr.findKey kt (encK k) (entsK m bs).toArray.toList).run P w=.ok rr w:=by simpa using hf
    simp only[Instr.lookup,Sem.run_bind,run_underlying ht,Result.andThen_ok,hg,Sem.run_pure,K.chk,hf'];rw[←e2];cases rr with
    | none=>simp[hz]
    | some p=>simp
  simp only[execOp,Sem.run_bind,hx,hy,Sem.run_pure,Result.andThen];rw[hl]
section
variable {w0:World} {M:Nat→Prop} {σ σ':List HI}
omit K in
theorem St.mapKAt {w:World} {i b:Nat} {m:List (KI×Value)} (h:St w0 M σ w) (hi:σ[i]?=some (mapKI b m)):mapKP b m w:=(h.all _ (List.mem_of_getElem? hi)).2
omit K in
theorem St.putMapK {w:World} {i b:Nat} {m m':List (KI×Value)} {o':Obj} (h:St w0 M σ w) (hi:σ[i]?=some (mapKI b m)) (hp:∀w',w'.heap[b]?=some o'→mapKP b m' w'):St w0 M (σ.set i (mapKI b m')) (w.putObj b o'):=by
  obtain⟨bs,c,h1,h4⟩:=h.mapKAt hi;have hlt:=lt_of_some h4;refine h.upd hi (St.turn (fun k _ hn=>World.putObj_heap_other hn) ⟨mapKP_local b m',hp _ (World.putObj_heap_same hlt)⟩ (fun _ hb=>.inr hb) rfl rfl rfl (by simp))
theorem x_putK {i b:Nat} {m:List (KI×Value)} {k:KI} {u:Value} (ht:P.underlying t=some (.map kt et)) (hx:evo ρ x=.map (some b)) (hy:evo ρ y=encK k) (hv:evo ρ v=u) (hi:σ[i]?=some (mapKI b m)) (hσ:σ.set i (mapKI b (putK m k u))=σ'):
    OpX P r (St w0 M σ) ⟨dst,.mapUpdate t x y v,ty,pos,af,g⟩ ρ (X:=Unit) (fun _=>undef) (fun _=>St w0 M σ'):=OpX.of_skip rfl fun w hw=>by
  have hm:=hw.mapKAt hi;obtain⟨bs,c,h1,h4⟩:=hm;obtain⟨rr,hf,_,e3,e4⟩:=run_findK K w k m bs h1;have hf':(Instr.findKey kt (encK k) (entsK m bs).toArray.toList).run P w=.ok rr w:=by simpa using hf
  have hg:(getObj b).run P w=.ok (.map (entsK m bs).toArray c) w:=by simp[getObj,Sem.run,h4]
  cases rr with
  | none =>
    have hp:=e4 rfl;refine⟨w.putObj b (.map ((entsK m bs).toArray.push ⟨encK k,u,c⟩) (c+1)),?_,?_⟩
    · simp only[execOp,Sem.run_bind,hx,hy,hv,Sem.run_pure,Result.andThen,Instr.mapUpdate,run_underlying ht,hg,K.chk,hf',run_setObj h4]
    · rw [← hσ]
      refine hw.putMapK hi fun w' hw'=>⟨bs++[c],c+1,by rw[hp];simp[h1],?_⟩;rw[hp,entsK_snoc _ _ _ _ h1,hw'];simp
  | some p =>
    obtain⟨j,hj,hp,hl,⟨u0,hu⟩,hkey⟩:=e3 p rfl;refine⟨w.putObj b (.map ((entsK m bs).toArray.modify p.1 fun e=>{e with key:=encK k,val:=u}) c),?_,?_⟩
    · have hst:(Instr.keyThatStays ((((entsK m bs).toArray[p.1]?).map (·.key)).getD (encK k)) (encK k)).run P w=.ok (encK k) w:=by
        rw[hj,List.getElem?_toArray,hkey];simp[Instr.keyThatStays,Instr.sameBits]
      simp only[execOp,Sem.run_bind,hx,hy,hv,Sem.run_pure,Result.andThen,Instr.mapUpdate,run_underlying ht,hg,K.chk,hf',hst,run_setObj h4]
    · rw [← hσ]
      refine hw.putMapK hi fun w' hw'=>⟨bs,c,by rw[hp];simp[h1],?_⟩;rw[hp,hw',hj,←entsK_set k u m bs j h1 ⟨u0,hu⟩];simp[List.modify_toArray]
omit K in
theorem x_makeMapK {σ':Nat→List HI} (hσ:∀b,σ++[mapKI b []]=σ' b):OpX P r (St w0 M σ) ⟨dst,.makeMap t none,ty,pos,af,g⟩ ρ (X:=Nat) (fun b=>.map (some b)) (fun b=>St w0 M (σ' b)):=OpX.of_run rfl fun w hw=>by
  refine⟨w.heap.size,w.alloc (.map #[] 0),by simp[execOp,Instr.makeMap,newObj,Sem.run],?_⟩;rw[←hσ];refine hw.add ⟨rfl,rfl,rfl,by simp,fun b hb _=>Below.heap_alloc w _ b hb,?_,List.pairwise_singleton _ _,?_⟩
  · intro i hi
    obtain rfl:i=_:=by simpa using hi
    exact⟨mapKP_local _ _,[],0,rfl,World.alloc_heap_new w _⟩
  · intro i hi b hb
    obtain rfl:i=_:=by simpa using hi
    obtain rfl:b=w.heap.size:=hb;exact .inl (Nat.le_refl _)
end
end
def MOK (V:LayF) (H:Pool) (m:List (KI×Value)):Prop:=∀k v,lookK m k=some v→∃A c,v=.agg (encF (V k.1 k.2.1 k.2.2.1 k.2.2.2.1 k.2.2.2.2) A c).toArray∧RepK H A (V k.1 k.2.1 k.2.2.1 k.2.2.2.1 k.2.2.2.2).kids
theorem MOK.nil (V:LayF) (H:Pool):MOK V H []:=fun k v h=>by simp[lookK] at h
theorem MOK.mono {V:LayF} {H H':Pool} {m:List (KI×Value)} (h:MOK V H m) (hs:H.Sub H'):MOK V H' m:=fun k v hk=>by
  obtain⟨A,c,e,hr⟩:=h k v hk;exact⟨A,c,e,hr.mono hs⟩
theorem MOK.put {V:LayF} {H:Pool} {m:List (KI×Value)} (h:MOK V H m) (k:KI) {A:Option Addr} {c:Nat} (hr:RepK H A (V k.1 k.2.1 k.2.2.1 k.2.2.2.1 k.2.2.2.2).kids):MOK V H (putK m k (.agg (encF (V k.1 k.2.1 k.2.2.1 k.2.2.2.1 k.2.2.2.2) A c).toArray)):=fun k' v hv=>by
  rw[look_put] at hv
  split at hv
  · rename_i e
    cases hv;subst e;exact⟨A,c,rfl,hr⟩
  · exact h k' v hv
theorem chk_array (w:World) (em:Bool) (n:Nat) (a b:Int):(Instr.checkKey em (n+2) 88 (.agg #[.int .i64 a,.int .i64 b])).run Tryz.prog w=.ok () w:=by
  rw[Instr.checkKey];simp only[Sem.run_bind,run_underlying Tryz.underlying88,Result.andThen_ok];simp[Std.Legacy.Range.forIn_eq_forIn_range',Std.Legacy.Range.size,Tryz.sizeOf3,part,Tryz.isAgg3,Instr.checkKey,run_underlying Tryz.underlying3,Result.andThen,List.range'_succ]
theorem key_chk (e:Bool) (k:KI) (w:World):(Instr.checkKey e 10000 131 (encK k)).run Tryz.prog w=.ok () w:=by
  have hb:=fun a b=>chk_array w e 9997 a b;have hi:∀a,(Instr.checkKey e 9999 3 (.int .i64 a)).run Tryz.prog w=.ok () w:=fun a=>by rw[Instr.checkKey];simp[run_underlying Tryz.underlying3]
  rw[show (10000:Nat)=9999+1 from rfl,Instr.checkKey];simp only[Sem.run_bind,run_underlying Tryz.underlying131,Result.andThen_ok];simp[part,Tryz.isAgg3,Tryz.isAgg88,Tryz.sizeOf88,Result.andThen,hi,hb,encK]
theorem key_eq (k k':KI) (w:World):(Op.equal 131 (encK k) (encK k')).run Tryz.prog w=.ok (decide (k=k')) w:=by
  have h:=eqF (P:=Tryz.prog) 10 9990 131 [true,true,true,true,true] (by kernel_rfl) w (encKL k) (encKL k') rfl rfl;have hv:∀cs,valF Tryz.prog 131 cs=.agg cs.toArray:=fun cs=>by simp[valF,Tryz.underlying131]
  rw[hv,hv] at h;have e:eqv (encKL k) (encKL k')=decide (k=k'):=by
    by_cases hk:k=k'
    · rw[hk,eqv_self,decide_eq_true rfl]
    · rw[eqv_ne (fun h=>hk (encKL_inj.1 h)),decide_eq_false hk]
  rw[e] at h;exact h
theorem keyOK:KeyOK Tryz.prog 131:=⟨⟨_,Tryz.underlying131⟩,key_chk,key_eq⟩
theorem info94:(Tryz.prog.info? 94).map (fun i=>(i.zero,i.size,i.bytes))=some (some (.agg #[.int .i64 0,.int .i64 0,.int .i64 0,.int .i64 0,.int .i64 0,.slice none 0 0]),6,64):=by kernel_rfl
abbrev rowF (A:Option Addr) (c:Nat) (es:List FP):HI:=.row 94 6 A es.length c (es.flatMap FP.enc)
theorem rowF_snoc (A:Option Addr) (c:Nat) (es:List FP) (e:FP):rowF A c (es++[e])=.row 94 6 A (es.length+1) c (es.flatMap FP.enc++e.enc):=by simp[rowF]
theorem setF_at {es:List FP} {i o oo:Nat} {e e':FP} {v:Value} (h:es[i]?=some e) (ho:oo=i*6+o) (hlt:o<6) (he:e.enc.set o v=e'.enc):(es.flatMap FP.enc).set oo v=(es.set i e').flatMap FP.enc:=by
  subst ho;exact flat_set FP.enc 6 (fun _=>rfl) es i o e e' v h (by show o<6;exact hlt) he
theorem getF_at {es:List FP} {i o oo:Nat} {e:FP} {v:Value} (h:es[i]?=some e) (ho:oo=i*6+o) (hv:e.enc[o]?=some v):(es.flatMap FP.enc)[oo]?=some v:=by
  subst ho;exact flat_at FP.enc 6 (fun _=>rfl) es i o e v h hv
theorem tab_set {α:Type} {n k:Nat} {f:Nat→α} {v:α}:(tab n f).set k v=tab n (fun i=>if i=k then v else f i):=by
  apply List.ext_getElem?;intro i
  by_cases hi:i<n
  · rw [tab_get hi, List.getElem?_set]
    by_cases e:k=i
    · subst e
      rw[if_pos rfl,if_pos rfl,if_pos (by rw[tab_len];exact hi)]
    · rw[if_neg e,tab_get hi,if_neg (fun h=>e h.symm)]
  · rw[tab_none (by omega),List.getElem?_eq_none (by rw[List.length_set,tab_len];omega)]
theorem map_len {es:List FP} {n:Nat} {f:Nat→Frm} (h:es.map FP.fr=tab n f):es.length=n:=by
  have:=congrArg List.length h
  rwa [List.length_map,tab_len] at this
theorem map_get {es:List FP} {n k:Nat} {f:Nat→Frm} (h:es.map FP.fr=tab n f) (hk:k<n):∃e,es[k]?=some e∧e.fr=f k:=by
  have h1:=congrArg (·[k]?) h;simp only[List.getElem?_map,tab_get hk] at h1;exact Option.map_eq_some_iff.1 h1
theorem map_snoc {es:List FP} {n:Nat} {f:Nat→Frm} {e:FP} (h:es.map FP.fr=tab n f) (he:e.fr=f n):(es++[e]).map FP.fr=tab (n+1) f:=by rw[List.map_append,h,tab_succ,List.map_singleton,he]
theorem map_set' {es:List FP} {n k:Nat} {f g:Nat→Frm} {e:FP} (h:es.map FP.fr=tab n (fun i=>if i<k then g i else f i)) (he:e.fr=g k):(es.set k e).map FP.fr=tab n (fun i=>if i<k+1 then g i else f i):=by
  rw[List.map_set,h,tab_set,he];refine tab_congr fun i _=>?_
  by_cases h1:i=k
  · subst h1;rw[if_pos rfl,if_pos (by omega)]
  · rw [if_neg h1]
    by_cases h2:i<k
    · rw[if_pos h2,if_pos (by omega)]
    · rw[if_neg h2,if_neg (by omega)]
theorem all_snoc {p:FP→Prop} {es:List FP} {e:FP} (h:∀x∈es,p x) (he:p e):∀x∈es++[e],p x:=fun x hx=>by
  rcases List.mem_append.1 hx with hx | hx
  · exact h x hx
  · obtain rfl : x = e := by simpa using hx
    exact he
theorem all_set {p:FP→Prop} {es:List FP} {k:Nat} {e:FP} (h:∀x∈es,p x) (he:p e):∀x∈es.set k e,p x:=fun x hx=>by
  rcases List.mem_or_eq_of_mem_set hx with hx | rfl
  · exact h x hx
  · exact he
theorem kidsT_snoc (A:Option Addr) (k c:Nat) (f:Nat→Int):kidsI A (k+1) c (tab (k+1) f)=.row 3 1 A (k+1) c ((tab k f).map (Value.int .i64)++[.int .i64 (f k)]):=by simp[kidsI,tab_succ]
theorem gI_get {l:List Int} {k:Nat} (h:k<l.length):l[k]?=some (gI l k):=by
  unfold gI;rw[List.getD_eq_getElem?_getD,List.getElem?_eq_getElem h];rfl
section
variable (n:Nat)
theorem stack_n (A B D:Option Addr) (ca cb cd:Nat) (sizes tops bottoms:List Int) (hn:n≤10000) (h1:sizes.length=n) (h2:tops.length=n) (h3:bottoms.length=n):Ct Tryz.prog 157 #[.slice A n ca,.slice B n cb,.slice D n cd] [] (fun w=>RdI w A sizes∧RdI w B tops∧RdI w D bottoms) (X:=Option Addr×Nat)
    (fun p=>.tuple #[.slice p.1 n p.2,.int .i64 (stkAt sizes tops bottoms n)]) (fun _=>True) (fun p=>[.row 3 1 p.1 n p.2 ((stkStarts sizes tops bottoms).map (Value.int .i64))]):=by
  subst h1;have h:=stack_ct A B D ca cb cd sizes tops bottoms hn h2 h3;rw[h2,h3] at h;exact h
theorem long_n (A:Option Addr) (c:Nat) (l:List Int) (gap:Int) (hn:n≤10000) (hl:l.length=n):Ct Tryz.prog 169 #[.slice A n c,.int .i64 gap] [] (fun w=>RdI w A l) (X:=Unit) (fun _=>.int .i64 (longP l gap)) (fun _=>True) (fun _=>[]):=by
  subst hl;exact long_ct A c l gap hn
theorem starts_n (kind:Int) (A:Option Addr) (c:Nat) (l:List Int) (room gap:Int) (hn:n≤10000) (hl:l.length=n):Ct Tryz.prog 170 #[.int .i64 kind,.slice A n c,.int .i64 room,.int .i64 gap] [] (fun w=>RdI w A l) (X:=Option Addr×Nat) (fun p=>.slice p.1 n p.2) (fun _=>True) (fun p=>[.row 3 1 p.1 n p.2 ((startsP kind l room gap).map (Value.int .i64))]):=by
  subst hl;exact starts_ct kind A c l room gap hn
theorem sizes_n (A:Option Addr) (c:Nat) (l:List FItem) (room:Int) (hn:n≤64) (hl:l.length=n):Ct Tryz.prog 179 #[.slice A n c,.int .i64 room] [] (fun w=>RdE w A 5 FItem.enc l) (X:=Option Addr×Nat) (fun p=>.slice p.1 n p.2) (fun _=>True) (fun p=>[.row 3 1 p.1 n p.2 ((sizes l room).map (Value.int .i64))]):=by
  subst hl;exact sizes_ct A c l room hn
theorem break_n (A:Option Addr) (c:Nat) (l:List Int) (room gap:Int) (wrap:Bool) (hn:n≤10000) (hl:l.length=n):Ct Tryz.prog 163 #[.slice A n c,.int .i64 room,.int .i64 gap,.bool wrap] [.row 3 1 A n c (l.map (Value.int .i64))] (fun _=>True) (X:=Option Addr×Nat) (fun p=>.slice p.1 (breaksP l room gap wrap).length p.2) (fun _=>True)
    (fun p=>[.row 3 1 A n c (l.map (Value.int .i64)),pairsI p.1 (breaksP l room gap wrap).length p.2 (breaksP l room gap wrap)]):=by
  subst hl;exact break_ct A c l room gap wrap hn
end
def okA (B rw rh sw sh:Int):Prop:=(0≤rw∧rw≤B)∧(-1≤rh∧rh≤B)∧(-1≤sw∧sw≤B)∧(-1≤sh∧sh≤B)
abbrev XL:=List (KI×Value)×Pool×Option Addr×Nat
abbrev XF:=List (KI×Value)×Pool×Option Addr×Nat×List FP
section
variable (tp mb fb lb:Nat) (es:List PE) (ww wh:Int) (V L:LayF)
def LayOK (k B:Int):Prop:=∀(m:List (KI×Value)) (H:Pool) (rw rh sw sh:Int),MOK V H m→okA B rw rh sw sh→
  Ct Tryz.prog 38 #[.pointer (some ⟨fb,0,none⟩),.int .i64 k,q2 rw rh,q2 sw sh] [treeI tp mb es,flI fb tp lb ww wh,mapKI lb m,poolI H] (fun _=>True) (X:=XL) (fun p=>.agg (encF (L k rw rh sw sh) p.2.2.1 p.2.2.2).toArray)
    (fun p=>H.Sub p.2.1∧MOK V p.2.1 p.1∧RepK p.2.1 p.2.2.1 (L k rw rh sw sh).kids) (fun p=>[treeI tp mb es,flI fb tp lb ww wh,mapKI lb p.1,poolI p.2.1])
def InOK (f:Nat) (id:Int) (ks:List Int) (iw ih:Int) (R:List Frm×Int):Prop:=∀(m:List (KI×Value)) (H:Pool) (A:Option Addr) (c:Nat),MOK V H m→
  Ct Tryz.prog f #[.pointer (some ⟨fb,0,none⟩),.int .i64 id,.slice A ks.length c,q2 iw ih] [treeI tp mb es,flI fb tp lb ww wh,mapKI lb m,poolI H,kidsI A ks.length c ks] (fun _=>True) (X:=XF) (fun p=>.tuple #[.slice p.2.2.1 p.2.2.2.2.length p.2.2.2.1,.int .i64 R.2])
    (fun p=>H.Sub p.2.1∧MOK V p.2.1 p.1∧p.2.2.2.2.map FP.fr=R.1∧∀e∈p.2.2.2.2,RepE p.2.1 e) (fun p=>[treeI tp mb es,flI fb tp lb ww wh,mapKI lb p.1,poolI p.2.1,kidsI A ks.length c ks,rowF p.2.2.1 p.2.2.2.1 p.2.2.2.2])
end
theorem Ct.frame {P:Program} {f:FuncId} {args:Array Value} {pre F:List HI} {Fact:World→Prop} {X:Type} {v:X→Value} {facts:X→Prop} {post:X→List HI} (h:Ct P f args pre Fact v facts post):Ct P f args (pre++F) Fact v facts (fun x=>post x++F):=by
  intro w h1 h2 h3;have h0:=St.start h1 h2;refine(h w (fun i hi=>h1 i (List.mem_append_left _ hi)) (List.pairwise_append.1 h2).1 h3).mono ?_
  rintro e w' ⟨x,rfl,hf,hs⟩
  exact⟨x,rfl,hf,h0.trans hs⟩
def RdP {α:Type} (H:Pool) (A:Option Addr) (sz:Nat) (enc:α→List Value) (l:List α):Prop:=
  ∀k x,l[k]?=some x→∃g o cs,A=some ⟨g,o,none⟩∧H g=some cs∧∀q u,(enc x)[q]?=some u→cs[o+k*sz+q]?=some u
section
variable {α:Type} {H H':Pool} {A:Option Addr} {sz:Nat} {enc:α→List Value} {l:List α}
theorem RdP.mono (h:RdP H A sz enc l) (hs:H.Sub H'):RdP H' A sz enc l:=fun k x hx=>by
  obtain⟨g,o,cs,e,hg,hc⟩:=h k x hx;exact⟨g,o,cs,e,hs _ _ hg,hc⟩
theorem RdP.cut (h:RdP H A sz enc l) (lo m c:Nat) (hc:l.length≤c):RdP H (cutAddr A lo c sz) sz enc ((l.drop lo).take m):=fun k x hx=>by
  rw[List.getElem?_take] at hx
  split at hx
  · rw [List.getElem?_drop] at hx
    have hk:=(List.getElem?_eq_some_iff.1 hx).1;obtain⟨g,o,cs,rfl,hg,hcell⟩:=h (lo+k) x hx;unfold cutAddr;rw[if_neg (by omega)];refine⟨g,o+lo*sz,cs,by simp[Addr.add],hg,fun q u hq=>?_⟩;rw[show o+lo*sz+k*sz+q=o+(lo+k)*sz+q by rw[Nat.add_mul];omega];exact hcell q u hq
  · cases hx
theorem RdP.of {g:Nat} (hg:H g=some (l.flatMap enc)) (hn:∀a,(enc a).length=sz):RdP H (some ⟨g,0,none⟩) sz enc l:=fun k x hx=>
  ⟨g,0,_,rfl,hg,fun q u hq=>by rw[Nat.zero_add];exact flat_at enc sz hn l k q x u hx hq⟩
theorem RdP.nil (H:Pool) (A:Option Addr) (sz:Nat) (enc:α→List Value):RdP H A sz enc []:=fun k x h=>by simp at h
variable {w0 w:World} {M:Nat→Prop} {σ:List HI} {i:Nat}
theorem St.poolRd (h:St w0 M σ w) (hi:σ[i]?=some (poolI H)) (hr:RdP H A sz enc l):RdE w A sz enc l:=fun k x hx=>by
  obtain⟨g,o,cs,e,hg,hc⟩:=hr k x hx
  exact ⟨g, o, e, fun j u hj => by
    have h1 := h.poolAt hi hg (o + k * sz + j) u (hc j u hj)
    rw [Nat.zero_add] at h1
    exact h1⟩
theorem St.poolRd1 (h:St w0 M σ w) (hi:σ[i]?=some (poolI H)) {g o:Nat} (hr:RdP H (some ⟨g,o,none⟩) sz enc l) {k:Nat} {x:α} (hx:l[k]?=some x):CellsAt w g (o+k*sz) (enc x):=by
  obtain⟨b,p,e,hc⟩:=h.poolRd hi hr k x hx;cases e;exact hc
theorem CellsAt.part {b o:Nat} {us vs:List Value} (h:CellsAt w b o us) (k:Nat) (hv:(us.drop k).take vs.length=vs):CellsAt w b (o+k) vs:=fun j u hj=>by
  have hlt:=(List.getElem?_eq_some_iff.1 hj).1;rw[←hv,List.getElem?_take,if_pos hlt,List.getElem?_drop] at hj;rw[Nat.add_assoc];exact h (k+j) u hj
end
theorem one_size {us:List Value} {sz:Nat} (h:us.length=sz):[(Value.agg us.toArray).cells.size]=List.replicate 1 sz:=by simp[Value.cells,h]
theorem one_cells (us:List Value):(Value.agg us.toArray).cells.toList++[]=us:=by simp[Value.cells]
theorem setL_flat {α:Type} (g:α→List Value) (n:Nat) (hg:∀a,(g a).length=n):∀(l:List α) (i o:Nat) (a a':α) (us:List Value),l[i]?=some a→o+us.length≤n→setL (g a) o us=g a'→setL (l.flatMap g) (i*n+o) us=(l.set i a').flatMap g
  | [],_,_,_,_,_,h,_,_=>by simp at h
  | x :: l, 0, o, a, a', us, h, ho, he => by
    obtain rfl:x=a:=by simpa using h
    rw[List.flatMap_cons,Nat.zero_mul,Nat.zero_add,setL_front [] _ us _ o (by rw[hg];exact ho),he];rfl
  | x :: l, i + 1, o, a, a', us, h, ho, he => by
    rw[List.flatMap_cons,show (i+1)*n+o=(g x).length+(i*n+o) by rw[hg,Nat.succ_mul];omega,setL_back,List.set_cons_succ,List.flatMap_cons];rw[setL_flat g n hg l i o a a' us (by simpa using h) ho he]
theorem setLF_at {es:List FP} {i o oo:Nat} {e e':FP} {us:List Value} (h:es[i]?=some e) (ho:oo=i*6+o) (hlt:o+us.length≤6) (he:setL e.enc o us=e'.enc):setL (es.flatMap FP.enc) oo us=(es.set i e').flatMap FP.enc:=by
  subst ho;exact setL_flat FP.enc 6 (fun _=>rfl) es i o e e' us h hlt he
theorem x_storeRowA' {P:Program} {r:Option Nat} {ρ:Env} {dst:Option Tmp} {ty:TypeId} {pos:String} {af:Array Edge} {g':Option (Nat×Bool)} {t:TypeId} {x y:Operand} {w0:World} {M:Nat→Prop} {σ σ':List HI} {i g o n cap sz k:Nat} {us:List Value} {tc:TypeId} {xs xs':List Value} (hz:∀w,(sizeOf t).run P w=.ok k w) (hx:evo ρ x=.pointer (some ⟨g,o,none⟩)) (hy:evo ρ y=.agg us.toArray) (hi:σ[i]?=some (.row tc sz (some ⟨g,0,none⟩) n cap xs)) (ho:o+us.length≤xs.length)
    (hxs:setL xs o us=xs') (hσ:σ.set i (.row tc sz (some ⟨g,0,none⟩) n cap xs')=σ') (h1:∀u∈us,u.oneCell'=true) (hk:us.length=k:=by rfl):OpX P r (St w0 M σ) ⟨dst,.store t x y,ty,pos,af,g'⟩ ρ (X:=Unit) (fun _=>undef) (fun _=>St w0 M σ'):=
  x_storeRowA hz hx hy hi ho (by rw[hxs];exact hσ) h1 hk
theorem set_same {es:List FP} {i:Nat} {e:FP} (h:es[i]?=some e):es.set i e=es:=by
  apply List.ext_getElem?;intro j
  by_cases hj:i=j
  · subst hj;rw[List.getElem?_set_self (List.getElem?_eq_some_iff.1 h).1,h]
  · rw[List.getElem?_set_ne hj]
abbrev itmC (x:FItem) (k:Int) (s:List Value) (b:Int):List Value:=
  .int .i64 x.base::.int .i64 x.low::.int .i64 x.high::.int .i64 x.grow::.int .i64 x.shrink::.int .i64 k::(s++[.int .i64 (eS s 0),.int .i64 (eS s 1),.int .i64 (eS s 2),.int .i64 (eS s 3),.int .i64 (mS s b 0),.int .i64 (mS s b 1),.int .i64 (mS s b 2),.int .i64 (mS s b 3)])
section
variable {x:FItem} {k:Int} {s:List Value} {b:Int}
theorem itmC_len (hs:SOk s):(itmC x k s b).length=69:=by simp[itmC,hs.len]
theorem itmC_one (hs:SOk s):∀u∈itmC x k s b,u.oneCell'=true:=by
  intro u hu;simp only[itmC,List.mem_cons,List.mem_append,List.not_mem_nil,or_false] at hu
  rcases hu with rfl | rfl | rfl | rfl | rfl | rfl | hu | rfl | rfl | rfl | rfl | rfl | rfl | rfl | rfl<;>first | rfl | exact hs.one u hu
theorem itm_sty (hs:SOk s) {o:Nat} {us:List Value} (h:(s.drop o).take us.length=us) (ho:o+us.length≤55):((itmC x k s b).drop (6+o)).take us.length=us:=by
  have hl:=hs.len;rw[Nat.add_comm];simp only[itmC,List.drop_succ_cons];rw[List.drop_append_of_le_length (by omega),List.take_append_of_le_length (by rw[List.length_drop];omega)];exact h
theorem itm_tail (hs:SOk s) {o:Nat} {us:List Value} (h:(([.int .i64 (eS s 0),.int .i64 (eS s 1),.int .i64 (eS s 2),.int .i64 (eS s 3),.int .i64 (mS s b 0),.int .i64 (mS s b 1),.int .i64 (mS s b 2),.int .i64 (mS s b 3)]:List Value).drop o).take us.length=us):((itmC x k s b).drop (61+o)).take us.length=us:=by
  have hl:=hs.len;rw[show 61+o=(55+o)+6 by omega];simp only[itmC,List.drop_succ_cons];rw[←hl,List.drop_length_add_append];exact h
theorem fill_step (a b c v:List Value) {p:Nat} (hp:p=a.length) (h:b.length=v.length) (rest:List (Nat×List Value)):fillL (a++(b++c)) ((p,v)::rest)=fillL (a++(v++c)) rest:=by
  subst hp;rw[fillL]
  congr 1
  rw[List.take_left' rfl,←h,List.append_assoc,←List.append_assoc a b c,←List.length_append,List.drop_left' rfl]
theorem fill_itm (z0 z1 z2 z3 z4 z5 k':Value) (zs es ms e0 m0:List Value) (h:zs.length=55) (hs:s.length=55) (he:es.length=4) (hm:ms.length=4) (he0:e0.length=4) (hm0:m0.length=4):fillL (z0::z1::z2::z3::z4::z5::(zs++(e0++m0))) [(5,[k']),(6,s),(61,es),(65,ms)]=z0::z1::z2::z3::z4::k'::(s++(es++ms)):=by
  have h1:=fill_step [z0,z1,z2,z3,z4] [z5] (zs++(e0++m0)) [k'] (p:=5) rfl rfl [(6,s),(61,es),(65,ms)];have h2:=fill_step [z0,z1,z2,z3,z4,k'] zs (e0++m0) s (p:=6) rfl (by omega) [(61,es),(65,ms)];have h3:=fill_step ([z0,z1,z2,z3,z4,k']++s) e0 m0 es (p:=61) (by simp[hs]) (by omega) [(65,ms)];have h4:=fill_step ([z0,z1,z2,z3,z4,k']++s++es) m0 [] ms (p:=65) (by simp[hs,he]) (by omega) [];simp only[List.cons_append,List.nil_append,List.append_assoc,List.append_nil] at h1 h2 h3 h4 ⊢;rw[h1,h2,h3,h4];rfl
end
def zeroIt:List Value:=[.int .i64 0,.int .i64 0,.int .i64 0,.int .i64 0,.int .i64 0,.int .i64 0,.int .i64 0,.int .i64 0,.int .i64 0,.int .i64 0,.int .i64 0,.int .i64 0,.int .i64 0,.int .i64 0,.int .i64 0,.int .i64 0,.int .i64 0,.int .i64 0,.int .i64 0,.int .i64 0,.int .i64 0,.int .i64 0,.int .i64 0,.int .i64 0,.int .i64 0,.int .i64 0,.int .i64 0,.int .i64 0,.int .i64 0,.int .i64 0,.int .i64 0,.int .i64 0,.int .i64 0,.int .i64 0,.int .i64 0,.int .i64 0,.int .i64 0,.int .i64 0,.int .i64 0,.int .i64 0,.int .i64 0,.int .i64 0,.int .i64 0,.int .i64 0,.int .i64 0,.int .i64 0,.int .i64 0,.int .i64 0,.int .i64 0,.int .i64 0,.int .i64 0,.bool false,.int .i64 0,.bool false,.int .i64 0,.int .i64 0,.int .i64 0,.bool false,.bool false,.int .i64 0,.int .i64 0,.int .i64 0,.int .i64 0,.int .i64 0,.int .i64 0,.int .i64 0,.int .i64 0,.int .i64 0,.int .i64 0]
theorem info197:(Tryz.prog.info? 197).map (fun i=>(i.zero,i.size,i.bytes))=some (some (.agg #[.int .i64 0,.int .i64 0,.int .i64 0,.int .i64 0,.int .i64 0,.int .i64 0,.int .i64 0,.int .i64 0,.int .i64 0,.int .i64 0,.int .i64 0,.int .i64 0,.int .i64 0,.int .i64 0,.int .i64 0,.int .i64 0,.int .i64 0,.int .i64 0,.int .i64 0,.int .i64 0,.int .i64 0,.int .i64 0,.int .i64 0,.int .i64 0,.int .i64 0,.int .i64 0,.int .i64 0,.int .i64 0,.int .i64 0,.int .i64 0,.int .i64 0,.int .i64 0,.int .i64 0,.int .i64 0,.int .i64 0,.int .i64 0,.int .i64 0,.int .i64 0,.int .i64 0,.int .i64 0,.int .i64 0,.int .i64 0,.int .i64 0,.int .i64 0,.int .i64 0,.int .i64 0,.int .i64 0,.int .i64 0,.int .i64 0,.int .i64 0,.int .i64 0,.bool false,.int .i64 0,.bool false,.int .i64 0,.int .i64 0,.int .i64 0,.bool false,.bool false,.int .i64 0,.int .i64 0,.int .i64 0,.int .i64 0,.int .i64 0,.int .i64 0,.int .i64 0,.int .i64 0,.int .i64 0,.int .i64 0]),69,544):=by kernel_rfl
section
variable (x:FItem) (k:Int) (s:List Value) (hs:SOk s) (b:Int)
include hs in
theorem extra0_ct (he:0≤eA s∧eA s≤4194304):Ct Tryz.prog 176 #[.agg (itmC x k s b).toArray,.int .i64 0] [] (fun _=>True) (X:=Unit) (fun _=>.int .i64 (eA s+mA s b)) (fun _=>True) (fun _=>[]):=by
  refine Ci fun w0 _=>?_;have hm:=mA_bd s b;have hm2:mA s b=mS s b 3+mS s b 1:=rfl;have he2:eA s=eS s 3+eS s 1:=rfl;refine gg ?_;refine WPL.ef (xB (us:=itmC (x) (k) (s) (b))) fun b2=>?_;refine gg ?_;refine wP none [0] [pT 0,pT 1,pT 2,pT 4,pT 5,pT 6,pF 3,pF 7,pT 8,pT 9] ?_;refine ad ?_;refine tE rfl (v_loadA (cs:=[.int .i64 (eS s 0),.int .i64 (eS s 1),.int .i64 (eS s 2),.int .i64 (eS s 3)]) Tryz.isAgg29 Tryz.sizeOf29 rfl (fun w hw=>hw.cl_at (i:=0) rfl 61 (itm_tail (o:=0) hs rfl))) ?_
  iterate 2 refine ad ?_
  refine tE rfl (v_loadA (cs:=[.int .i64 (mS s b 0),.int .i64 (mS s b 1),.int .i64 (mS s b 2),.int .i64 (mS s b 3)]) Tryz.isAgg29 Tryz.sizeOf29 rfl (fun w hw=>hw.cl_at (i:=0) rfl 65 (itm_tail (o:=4) hs rfl))) ?_;refine gg ?_;refine dG (xC (fsum0_ct (eS s 0) (eS s 1) (eS s 2) (eS s 3) (by omega))) fun _ _=>?_;refine dG (xC (fsum0_ct (mS s b 0) (mS s b 1) (mS s b 2) (mS s b 3) (by omega))) fun _ _=>?_;refine gg ?_;exact rt1 fun w hw=>⟨(),rfl,trivial,hw.pk⟩
include hs in
theorem extra1_ct (he:0≤eD s∧eD s≤4194304):Ct Tryz.prog 176 #[.agg (itmC x k s b).toArray,.int .i64 1] [] (fun _=>True) (X:=Unit) (fun _=>.int .i64 (eD s+mD s)) (fun _=>True) (fun _=>[]):=by
  refine Ci fun w0 _=>?_;have hm:=mD_bd s;have hm2:mD s=mS s b 0+mS s b 2:=rfl;have he2:eD s=eS s 0+eS s 2:=rfl;refine gg ?_;refine WPL.ef (xB (us:=itmC (x) (k) (s) (b))) fun b2=>?_;refine gg ?_;refine wP none [0] [pT 0,pT 1,pT 2,pT 4,pT 5,pT 6,pF 3,pF 7,pT 8,pT 9] ?_;refine ad ?_;refine tE rfl (v_loadA (cs:=[.int .i64 (eS s 0),.int .i64 (eS s 1),.int .i64 (eS s 2),.int .i64 (eS s 3)]) Tryz.isAgg29 Tryz.sizeOf29 rfl (fun w hw=>hw.cl_at (i:=0) rfl 61 (itm_tail (o:=0) hs rfl))) ?_
  iterate 2 refine ad ?_
  refine tE rfl (v_loadA (cs:=[.int .i64 (mS s b 0),.int .i64 (mS s b 1),.int .i64 (mS s b 2),.int .i64 (mS s b 3)]) Tryz.isAgg29 Tryz.sizeOf29 rfl (fun w hw=>hw.cl_at (i:=0) rfl 65 (itm_tail (o:=4) hs rfl))) ?_;refine gg ?_;refine dG (xC (fsum1_ct (eS s 0) (eS s 1) (eS s 2) (eS s 3) (by omega))) fun _ _=>?_;refine dG (xC (fsum1_ct (mS s b 0) (mS s b 1) (mS s b 2) (mS s b 3) (by omega))) fun _ _=>?_;refine gg ?_;exact rt1 fun w hw=>⟨(),rfl,trivial,hw.pk⟩
include hs in
theorem ilong_ct (n:Int) (hn:0≤n∧n≤1048576) (he:0≤eA s∧eA s≤4194304):Ct Tryz.prog 161 #[.agg (itmC x k s b).toArray,.int .i64 n,.int .i64 0] [] (fun _=>True) (X:=Unit) (fun _=>.int .i64 (n+(eA s+mA s b))) (fun _=>True) (fun _=>[]):=by
  refine Ci fun w0 _=>?_;have hm:=mA_bd s b;refine gg ?_;refine WPL.ef (xB (us:=itmC (x) (k) (s) (b))) fun b3=>?_;refine gg ?_;refine vl (vW (itmC_len hs)) ?_;refine gg ?_;refine eF (xC (extra0_ct x k s hs b he)) fun _ _=>?_;refine gg ?_;exact rt1 fun w hw=>⟨(),rfl,trivial,hw.pk⟩
include hs in
theorem ibase_ct:Ct Tryz.prog 162 #[.agg (itmC x k s b).toArray] [] (fun _=>True) (X:=Unit) (fun _=>.int .i64 (baseI x)) (fun _=>True) (fun _=>[]):=by
  refine Ci fun w0 _=>?_;refine gg ?_;refine WPL.ef (xB (us:=itmC (x) (k) (s) (b))) fun b1=>?_;refine gg ?_;refine eF (xC (fit_ct x _)) fun _ _=>?_;refine gg ?_;exact rt1 fun w hw=>⟨(),rfl,trivial,hw.pk⟩
include hs in
theorem row1_ct (b7:Nat) (iw ih:Int):Ct Tryz.prog 160 #[.agg (itmC x k s b).toArray,.pointer (some ⟨b7,0,none⟩)] [.cl b7 88 [.int .i64 iw,.int .i64 ih]] (fun _=>True) (X:=Unit) (fun _=>.int .i64 (ofL (val s 3) (val s 4) iw (val s 53))) (fun _=>True) (fun _=>[.cl b7 88 [.int .i64 iw,.int .i64 ih]]):=by
  refine Ci fun w0 _=>?_;refine gg ?_;refine WPL.ef (xB (us:=itmC (x) (k) (s) (b))) fun b2=>?_;refine av ?_;refine nl (oo ?_);refine sqR ?_
  iterate 2 refine av ?_
  refine vl (v_loadA (cs:=[.int .i64 (val s 3),.int .i64 (val s 4)]) Tryz.isAgg27 Tryz.sizeOf27 rfl (fun w hw=>hw.cl_at (i:=1) rfl 9 (itm_sty (o:=3) hs (SOk.segE hs 2 3 (by decide) rfl rfl rfl) (Nat.le_of_ble_eq_true rfl)))) ?_
  iterate 5 refine av ?_
  refine vl (v_load1 (u:=.int .i64 (val s 53)) Tryz.isAgg3 rfl (fun w hw=>hw.cl_at (i:=1) rfl 59 (itm_sty (o:=53) hs (cell_of (SOk.int hs 53 (by decide) rfl)) (Nat.le_of_ble_eq_true rfl)))) ?_;refine eF (xC (lenof_ct (val s 3) (val s 4) iw (val s 53))) fun _ _=>?_;refine gg ?_;exact rt1 fun w hw=>⟨(),rfl,trivial,hw.pk⟩
end
end Go.Proofs.YtpgjbbaplpdaiaaGreat
