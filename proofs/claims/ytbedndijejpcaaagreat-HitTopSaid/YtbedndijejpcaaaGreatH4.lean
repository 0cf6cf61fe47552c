/- Map TreePure TreeOps TreeAct Fix -/
import Derived.Test.YtbedndijejpcaaaGreatH3
set_option linter.unusedVariables false
set_option linter.unusedSimpArgs false
set_option linter.unusedSectionVars false
set_option maxRecDepth 100000
set_option maxHeartbeats 8000000
namespace Go.Proofs.YtbedndijejpcaaaGreat
open Go.RowKit
def lookM:List (Int×Value)→Int→Option Value
  | [],_=>none
  | p::m,k=>if p.1=k then some p.2 else lookM m k
def putM:List (Int×Value)→Int→Value→List (Int×Value)
  | [],k,v=>[(k,v)]
  | p::m,k,v=>if p.1=k then (k,v)::m else p::putM m k v
def uI:List (Int×Value)→Int→List (Int×Value)
  | [],_=>[]
  | p::m,k=>if p.1=k then m else p::uI m k
def entsL:List (Int×Value)→List Nat→List MapEntry
  | p::m,b::bs=>⟨.int .i64 p.1,p.2,b⟩::entsL m bs
  | _,_=>[]
def sV (b:Nat) (m:List (Int×Value)) (w:World):Prop:=∃(bs:List Nat) (clock:Nat),bs.length=m.length∧bs.Nodup∧(∀s∈bs,s<clock)∧w.heap[b]?=some (.map (entsL m bs).toArray clock)
def aP (b:Nat) (m:List (Int×Value)):HI:=.gen (fun k=>k=b) (sV b m)
theorem nY (b:Nat) (m:List (Int×Value)):Local (fun k=>k=b) (sV b m):=
  ⟨fun w w' hk ⟨bs,c,h1,h2,h3,h4⟩=>⟨bs,c,h1,h2,h3,(hk b rfl).trans h4⟩,fun w ⟨bs,c,h1,h2,h3,h4⟩ k hk=>by subst hk;exact cU h4⟩
theorem wa:∀{m:List (Int×Value)} {bs:List Nat},bs.length=m.length→(entsL m bs).length=m.length
  | [],[],_=>rfl
  | _::m,_::bs,h=>by simp only[entsL,List.length_cons];rw[wa (by simpa using h)]
theorem iI {q:IntKind} (k:Int):∀(m:List (Int×Value)) (bs:List Nat) (i:Nat),bs.length=m.length→
    ∃r,Instr.findNow (.int q) (.int .i64 k) (entsL m bs) i=some r∧r.map (·.2)=lookM m k∧(∀p,r=some p→∃j,p.1=i+j∧(∀v,putM m k v=m.set j (k,v))∧uI m k=m.eraseIdx j∧j<m.length∧∃u,m[j]?=some (k,u))∧(r=none→(∀v,putM m k v=m++[(k,v)])∧uI m k=m∧∀p∈m,p.1≠k)
  | [],[],i,_=>⟨none,rfl,rfl,fun p h=>(by cases h),fun _=>⟨fun _=>rfl,rfl,by simp⟩⟩
  | p :: m, b :: bs, i, h => by
    simp only[entsL,Instr.findNow,Instr.sameNow,if_true]
    by_cases e:p.1=k
    · have e' : (k == p.1) = true := by simp [e]
      rw[e'];refine⟨some (i,p.2),rfl,by simp[lookM,e],fun q hq=>?_,fun h=>(by cases h)⟩;cases hq;exact⟨0,rfl,fun v=>by simp[putM,e],by simp[uI,e],by simp,p.2,by rw[←e];rfl⟩
    · have e' : (k == p.1) = false := by simpa using fun h => e h.symm
      rw[e'];obtain⟨r,h1,h2,h3,h4⟩:=iI k m bs (i+1) (by simpa using h);refine⟨r,h1,by rw[h2];simp[lookM,e],fun q hq=>?_,fun hn=>?_⟩
      · obtain ⟨j, hj, hp, hd, hl, u, hu⟩ := h3 q hq
        exact⟨j+1,by omega,fun v=>by simp[putM,e,hp v],by simp[uI,e,hd],by simp;omega,u,by simpa using hu⟩
      · obtain ⟨hp, hd, hall⟩ := h4 hn
        refine⟨fun v=>by simp[putM,e,hp v],by simp[uI,e,hd],fun x hx=>?_⟩
        rcases List.mem_cons.1 hx with rfl | hx
        · exact e
        · exact hall x hx
theorem qO (k:Int) (v:Value):∀(m:List (Int×Value)) (bs:List Nat) (j:Nat),bs.length=m.length→(∃u,m[j]?=some (k,u))→(entsL m bs).modify j (fun e=>{e with key:=.int .i64 k,val:=v})=entsL (m.set j (k,v)) bs
  | [],[],j,_,⟨u,hu⟩=>by simp at hu
  | p::m,b::bs,0,_,⟨u,hu⟩=>by simp[entsL]
  | p :: m, b :: bs, j + 1, h, ⟨u, hu⟩ => by
    simp only[entsL,List.modify_succ_cons,List.set_cons_succ];rw[qO k v m bs j (by simpa using h) ⟨u,by simpa using hu⟩]
theorem q7:∀(m:List (Int×Value)) (bs:List Nat) (j:Nat),bs.length=m.length→(entsL m bs).eraseIdx j=entsL (m.eraseIdx j) (bs.eraseIdx j)
  | [],[],j,_=>by simp[entsL]
  | p::m,b::bs,0,_=>by simp[entsL]
  | p :: m, b :: bs, j + 1, h => by
    simp only[entsL,List.eraseIdx_cons_succ];rw[q7 m bs j (by simpa using h)]
theorem n8 (p:Int×Value) (s:Nat):∀(m:List (Int×Value)) (bs:List Nat),bs.length=m.length→entsL (m++[p]) (bs++[s])=entsL m bs++[⟨.int .i64 p.1,p.2,s⟩]
  | [],[],_=>rfl
  | q :: m, b :: bs, h => by
    simp only[List.cons_append,entsL];rw[n8 p s m bs (by simpa using h)]
section
variable {P:Program} {r:Option Nat} {S:World→Prop} {ρ:Env} {dst:Option Tmp} {ty:TypeId} {pos:String} {af:Array Edge} {g:Option (Nat×Bool)} {t kt et:TypeId} {x y v:Operand} {q:IntKind}
theorem ux {w:World} (e:Bool) (n:Nat) (hk:P.underlying kt=some (.int q)) (k:Int):(Instr.checkKey e (n+1) kt (.int .i64 k)).run P w=.ok () w:=by
  simp[Instr.checkKey,run_underlying hk]
theorem run_checkKey {w:World} (e:Bool) (hk:P.underlying kt=some (.int q)) (k:Int):(Instr.checkKey e 10000 kt (.int .i64 k)).run P w=.ok () w:=ux e 9999 hk k
theorem tW {w:World} {b:Nat} {m:List (Int×Value)} {z:Value} (ht:P.underlying t=some (.map kt et)) (hk:P.underlying kt=some (.int q)) (hz:(zeroValue et).run P w=.ok z w) (hm:sV b m w) (k:Int) (ok:Bool):
    (Instr.lookup t (.map (some b)) (.int .i64 k) ok).run P w=.ok (if ok then .tuple #[(lookM m k).getD z,.bool (lookM m k).isSome] else (lookM m k).getD z) w:=by
  obtain⟨bs,c,h1,h2,h3,h4⟩:=hm;obtain⟨rr,e1,e2,_,_⟩:=iI (q:=q) k m bs 0 h1;have hf:(Instr.findKey kt (.int .i64 k) (entsL m bs).toArray.toList).run P w=.ok rr w:=by simp[Instr.findKey,run_underlying hk,e1]
  have hg:(getObj b).run P w=.ok (.map (entsL m bs).toArray c) w:=by simp[getObj,Sem.run,h4]
  simp only[Instr.lookup,Sem.run_bind,run_underlying ht,Result.andThen_ok,hg,Sem.run_pure,run_checkKey _ hk,hf];rw[←e2];cases rr with
  | none=>cases ok<;>simp[hz]
  | some p=>cases ok<;>simp
theorem fu {b:Nat} {m:List (Int×Value)} {z:Value} {k:Int} (ht:P.underlying t=some (.map kt et)) (hk:P.underlying kt=some (.int q)) (hz:∀w,(zeroValue et).run P w=.ok z w) (hx:evo ρ x=.map (some b)) (hy:evo ρ y=.int .i64 k) (hm:∀w,S w→sV b m w):
    cw P S ⟨dst,.lookup t x y false,ty,pos,af,g⟩ ρ ((lookM m k).getD z):=ba fun w hw=>by
  have h:=tW ht hk (hz w) (hm w hw) k false;simp only[execOp,Sem.run_bind,hx,hy,Sem.run_pure,Result.andThen];rw[h];rfl
theorem hX {b:Nat} {m:List (Int×Value)} {z:Value} {k:Int} (ht:P.underlying t=some (.map kt et)) (hk:P.underlying kt=some (.int q)) (hz:∀w,(zeroValue et).run P w=.ok z w) (hx:evo ρ x=.map (some b)) (hy:evo ρ y=.int .i64 k) (hm:∀w,S w→sV b m w):
    cw P S ⟨dst,.lookup t x y true,ty,pos,af,g⟩ ρ (.tuple #[(lookM m k).getD z,.bool (lookM m k).isSome]):=ba fun w hw=>by
  have h:=tW ht hk (hz w) (hm w hw) k true;simp only[execOp,Sem.run_bind,hx,hy,Sem.run_pure,Result.andThen];rw[h];rfl
theorem sH {b:Nat} {m:List (Int×Value)} (ht:P.underlying t=some (.map kt et)) (hx:evo ρ x=.map (some b)) (hm:∀w,S w→sV b m w):cw P S ⟨dst,.call ⟨.builtin .len,#[x],#[t]⟩,ty,pos,af,g⟩ ρ (.int .i64 (m.length:Int)):=ba fun w hw=>by
  obtain⟨bs,c,h1,h2,h3,h4⟩:=hm w hw;have hg:(getObj b).run P w=.ok (.map (entsL m bs).toArray c) w:=by simp[getObj,Sem.run,h4]
  simp[execOp,resolve,invoke,builtin,hx,Builtin.len_,Result.andThen,goInt,run_underlying ht,hg,wa h1]
theorem AQ {e:TypeId} {p:Option Addr} (n:Nat) (ht:P.underlying t=some (.pointer e)) (w:World):(Op.equalIn (n+1) t (.pointer p) (.pointer none)).run P w=.ok p.isNone w:=by
  cases p<;>simp[Op.equalIn,run_underlying ht]
theorem sr {e:TypeId} {p:Option Addr} {t2:TypeId} (op:BinOp) (hop:op=.eql∨op=.neq) (ht:P.underlying t=some (.pointer e)) (hx:evo ρ x=.pointer p) (hy:evo ρ y=.pointer none) (w:World):
    (execOp (evo ρ) ⟨dst,.binOp op t x y t2,ty,pos,af,g⟩).run P w=.ok (.value (.bool (if op=.eql then p.isNone else p.isSome))) w:=by
  have e:(eqGuard op t x y (.pointer p) (.pointer none)).run P w=.ok () w:=by rcases hop with rfl | rfl<;>rfl
  have h1:(Op.equalIn 10000 t (.pointer p) (.pointer none)).run P w=.ok p.isNone w:=AQ 9999 ht w
  rcases hop with rfl | rfl
  · simp[execOp,hx,hy,e,binOp,Op.equal,Op.maxDepth,h1,Result.andThen]
  · simp[execOp,hx,hy,e,binOp,Op.equal,Op.maxDepth,h1,Result.andThen]
theorem xJ {e:TypeId} {p:Option Addr} {t2:TypeId} (ht:P.underlying t=some (.pointer e)) (hx:evo ρ x=.pointer p) (hy:evo ρ y=.pointer none):cw P S ⟨dst,.binOp .eql t x y t2,ty,pos,af,g⟩ ρ (.bool p.isNone):=ba fun w _=>by
  have h:=sr (P:=P) (dst:=dst) (ty:=ty) (pos:=pos) (af:=af) (g:=g) (t2:=t2) .eql (.inl rfl) ht hx hy w
  simpa using h
theorem Cw {e:TypeId} {p:Option Addr} {t2:TypeId} (ht:P.underlying t=some (.pointer e)) (hx:evo ρ x=.pointer p) (hy:evo ρ y=.pointer none):cw P S ⟨dst,.binOp .neq t x y t2,ty,pos,af,g⟩ ρ (.bool p.isSome):=ba fun w _=>by
  have h:=sr (P:=P) (dst:=dst) (ty:=ty) (pos:=pos) (af:=af) (g:=g) (t2:=t2) .neq (.inr rfl) ht hx hy w
  simpa using h
section
variable {w0:World} {M:Nat→Prop} {σ σ':List HI}
theorem St.fC {w:World} {i b:Nat} {m:List (Int×Value)} (h:St w0 M σ w) (hi:σ[i]?=some (aP b m)):sV b m w:=(h.all _ (List.mem_of_getElem? hi)).2
theorem fm {w:World} {b:Nat} {es:Array MapEntry} {c:Nat} {o':Obj} (h:w.heap[b]?=some (.map es c)):(setObj b o').run P w=.ok () (w.putObj b o'):=by
  simp[setObj,Sem.run,World.putObj,h]
theorem St.qS {w:World} {i b:Nat} {m m':List (Int×Value)} {o':Obj} (h:St w0 M σ w) (hi:σ[i]?=some (aP b m)) (hp:∀w',w'.heap[b]?=some o'→sV b m' w'):St w0 M (σ.set i (aP b m')) (w.putObj b o'):=by
  obtain⟨bs,c,h1,h2,h3,h4⟩:=h.fC hi;have hlt:=cU h4;refine h.upd hi (St.l9 (fun k _ hn=>World.putObj_heap_other hn) ⟨nY b m',hp _ (World.putObj_heap_same hlt)⟩ (fun _ hb=>.inr hb) rfl rfl rfl (by simp))
theorem mK {i b:Nat} {m:List (Int×Value)} {k:Int} {u:Value} (ht:P.underlying t=some (.map kt et)) (hk:P.underlying kt=some (.int q)) (hx:evo ρ x=.map (some b)) (hy:evo ρ y=.int .i64 k) (hv:evo ρ v=u) (hi:σ[i]?=some (aP b m)) (hσ:σ.set i (aP b (putM m k u))=σ'):
    cX P r (St w0 M σ) ⟨dst,.mapUpdate t x y v,ty,pos,af,g⟩ ρ (X:=Unit) (fun _=>undef) (fun _=>St w0 M σ'):=cX.ji rfl fun w hw=>by
  have hm:=hw.fC hi;obtain⟨bs,c,h1,h2,h3,h4⟩:=hm;obtain⟨rr,e1,_,e3,e4⟩:=iI (q:=q) k m bs 0 h1;have hf:(Instr.findKey kt (.int .i64 k) (entsL m bs).toArray.toList).run P w=.ok rr w:=by simp[Instr.findKey,run_underlying hk,e1]
  have hg:(getObj b).run P w=.ok (.map (entsL m bs).toArray c) w:=by simp[getObj,Sem.run,h4]
  cases rr with
  | none =>
    obtain⟨hp,_,hall⟩:=e4 rfl;refine⟨w.putObj b (.map ((entsL m bs).toArray.push ⟨.int .i64 k,u,c⟩) (c+1)),?_,?_⟩
    · simp only[execOp,Sem.run_bind,hx,hy,hv,Sem.run_pure,Result.andThen,Instr.mapUpdate,run_underlying ht,hg,run_checkKey _ hk,hf,fm h4]
    · rw [← hσ]
      refine hw.qS hi fun w' hw'=>⟨bs++[c],c+1,by rw[hp];simp[h1],?_,fun s hs=>?_,?_⟩
      · rw [List.nodup_append]
        refine⟨h2,by simp,fun a ha d hd e=>?_⟩;have:=h3 a ha;simp at hd;omega
      · rcases List.mem_append.1 hs with hs | hs
        · have:=h3 s hs;omega
        · simp at hs;omega
      · rw [hp, n8 _ _ _ _ h1, hw']
        simp
  | some p =>
    obtain⟨j,hj,hp,hd,hl,u0,hu⟩:=e3 p rfl;have hj':p.1=j:=by omega
    have hent:∃en,(entsL m bs)[j]?=some en∧en.key=.int .i64 k:=by
      have key:∀(m:List (Int×Value)) (bs:List Nat) (j:Nat),bs.length=m.length→m[j]?=some (k,u0)→∃en,(entsL m bs)[j]?=some en∧en.key=.int .i64 k:=by
        intro m;induction m with
        | nil=>intro bs j _ h;simp at h
        | cons p m ih =>
          intro bs j hb h;cases bs with
          | nil=>simp at hb
          | cons b bs =>
            cases j with
            | zero=>simp at h;exact⟨_,rfl,by rw[h]⟩
            | succ j=>exact ih bs j (by simpa using hb) (by simpa using h)
      exact key m bs j h1 hu
    obtain⟨en,hen,henk⟩:=hent;refine⟨w.putObj b (.map ((entsL m bs).toArray.modify p.1 fun e=>{e with key:=.int .i64 k,val:=u}) c),?_,?_⟩
    · have hst:(Instr.keyThatStays ((((entsL m bs).toArray[p.1]?).map (·.key)).getD (.int .i64 k)) (.int .i64 k)).run P w=.ok (.int .i64 k) w:=by
        rw[hj',List.getElem?_toArray,hen];simp[henk,Instr.keyThatStays,Instr.sameBits]
      simp only[execOp,Sem.run_bind,hx,hy,hv,Sem.run_pure,Result.andThen,Instr.mapUpdate,run_underlying ht,hg,run_checkKey _ hk,hf,hst,fm h4]
    · rw [← hσ]
      refine hw.qS hi fun w' hw'=>⟨bs,c,by rw[hp];simp[h1],h2,h3,?_⟩;rw[hp,hw',hj',←qO k u m bs j h1 ⟨u0,hu⟩];simp[List.modify_toArray]
theorem mr {i b:Nat} {m:List (Int×Value)} {k:Int} {u:Value} (ht:P.underlying t=some (.map kt et)) (hk:P.underlying kt=some (.int q)) (hx:evo ρ x=.map (some b)) (hy:evo ρ y=.int .i64 k) (hv:evo ρ v=u) (hi:σ[i]?=some (aP b m)) (hσ:σ.set i (aP b (putM m k u))=σ'):
    cX P r (St w0 M σ) ⟨dst,.insert t x y v,ty,pos,af,g⟩ ρ (X:=Unit) (fun _=>undef) (fun _=>St w0 M σ'):=cX.ji rfl fun w hw=>by
  have hm:=hw.fC hi;obtain⟨bs,c,h1,h2,h3,h4⟩:=hm;obtain⟨rr,e1,_,e3,e4⟩:=iI (q:=q) k m bs 0 h1;have hf:(Instr.findKey kt (.int .i64 k) (entsL m bs).toArray.toList).run P w=.ok rr w:=by simp[Instr.findKey,run_underlying hk,e1]
  have hg:(getObj b).run P w=.ok (.map (entsL m bs).toArray c) w:=by simp[getObj,Sem.run,h4]
  cases rr with
  | none =>
    obtain⟨hp,_,hall⟩:=e4 rfl;refine⟨w.putObj b (.map ((entsL m bs).toArray.push ⟨.int .i64 k,u,c⟩) (c+1)),?_,?_⟩
    · simp only[execOp,Sem.run_bind,hx,hy,hv,Sem.run_pure,Result.andThen,Instr.mapUpdate,run_underlying ht,hg,run_checkKey _ hk,hf,fm h4]
    · rw [← hσ]
      refine hw.qS hi fun w' hw'=>⟨bs++[c],c+1,by rw[hp];simp[h1],?_,fun s hs=>?_,?_⟩
      · rw [List.nodup_append]
        refine⟨h2,by simp,fun a ha d hd e=>?_⟩;have:=h3 a ha;simp at hd;omega
      · rcases List.mem_append.1 hs with hs | hs
        · have:=h3 s hs;omega
        · simp at hs;omega
      · rw [hp, n8 _ _ _ _ h1, hw']
        simp
  | some p =>
    obtain⟨j,hj,hp,hd,hl,u0,hu⟩:=e3 p rfl;have hj':p.1=j:=by omega
    have hent:∃en,(entsL m bs)[j]?=some en∧en.key=.int .i64 k:=by
      have key:∀(m:List (Int×Value)) (bs:List Nat) (j:Nat),bs.length=m.length→m[j]?=some (k,u0)→∃en,(entsL m bs)[j]?=some en∧en.key=.int .i64 k:=by
        intro m;induction m with
        | nil=>intro bs j _ h;simp at h
        | cons p m ih =>
          intro bs j hb h;cases bs with
          | nil=>simp at hb
          | cons b bs =>
            cases j with
            | zero=>simp at h;exact⟨_,rfl,by rw[h]⟩
            | succ j=>exact ih bs j (by simpa using hb) (by simpa using h)
      exact key m bs j h1 hu
    obtain⟨en,hen,henk⟩:=hent;refine⟨w.putObj b (.map ((entsL m bs).toArray.modify p.1 fun e=>{e with key:=.int .i64 k,val:=u}) c),?_,?_⟩
    · have hst:(Instr.keyThatStays ((((entsL m bs).toArray[p.1]?).map (·.key)).getD (.int .i64 k)) (.int .i64 k)).run P w=.ok (.int .i64 k) w:=by
        rw[hj',List.getElem?_toArray,hen];simp[henk,Instr.keyThatStays,Instr.sameBits]
      simp only[execOp,Sem.run_bind,hx,hy,hv,Sem.run_pure,Result.andThen,Instr.mapUpdate,run_underlying ht,hg,run_checkKey _ hk,hf,hst,fm h4]
    · rw [← hσ]
      refine hw.qS hi fun w' hw'=>⟨bs,c,by rw[hp];simp[h1],h2,h3,?_⟩;rw[hp,hw',hj',←qO k u m bs j h1 ⟨u0,hu⟩];simp[List.modify_toArray]
theorem HR {i b:Nat} {m:List (Int×Value)} {k:Int} (ht:P.underlying t=some (.map kt et)) (hk:P.underlying kt=some (.int q)) (hx:evo ρ x=.map (some b)) (hy:evo ρ y=.int .i64 k) (hi:σ[i]?=some (aP b m)) (hσ:σ.set i (aP b (uI m k))=σ') {t2:TypeId}:
    cX P r (St w0 M σ) ⟨dst,.call ⟨.builtin .delete,#[x,y],#[t,t2]⟩,ty,pos,af,g⟩ ρ (X:=Unit) (fun _=>.tuple #[]) (fun _=>St w0 M σ'):=cX.gB rfl fun w hw=>by
  have hm:=hw.fC hi;obtain⟨bs,c,h1,h2,h3,h4⟩:=hm;obtain⟨rr,e1,_,e3,e4⟩:=iI (q:=q) k m bs 0 h1;have hf:(Instr.findKey kt (.int .i64 k) (entsL m bs).toArray.toList).run P w=.ok rr w:=by simp[Instr.findKey,run_underlying hk,e1]
  have hg:(getObj b).run P w=.ok (.map (entsL m bs).toArray c) w:=by simp[getObj,Sem.run,h4]
  cases rr with
  | none =>
    obtain⟨_,hd,hall⟩:=e4 rfl;refine⟨(),w.putObj b (.map (entsL m bs).toArray c),?_,?_⟩
    · simp[execOp,resolve,invoke,builtin,hx,hy,Builtin.delete_,run_underlying ht,hg,run_checkKey _ hk,hf,fm h4,Result.andThen]
    · rw [← hσ, hd]
      exact hw.qS hi fun w' hw'=>⟨bs,c,h1,h2,h3,hw'⟩
  | some p =>
    obtain⟨j,hj,hp,hd,hl,u0,hu⟩:=e3 p rfl;have hj':p.1=j:=by omega
    refine⟨(),w.putObj b (.map ((entsL m bs).toArray.eraseIdxIfInBounds p.1) c),?_,?_⟩
    · simp[execOp,resolve,invoke,builtin,hx,hy,Builtin.delete_,run_underlying ht,hg,run_checkKey _ hk,hf,fm h4,Result.andThen]
    · rw [← hσ, hd]
      refine hw.qS hi fun w' hw'=>⟨bs.eraseIdx j,c,?_,h2.sublist (List.eraseIdx_sublist _ _),fun s hs=>h3 s (List.mem_of_mem_eraseIdx hs),?_⟩
      · rw[List.length_eraseIdx,List.length_eraseIdx,h1]
      · rw [hw', hj', ← q7 m bs j h1]
        simp
theorem eV {σ':Nat→List HI} (hσ:∀b,σ++[aP b []]=σ' b):cX P r (St w0 M σ) ⟨dst,.makeMap t none,ty,pos,af,g⟩ ρ (X:=Nat) (fun b=>.map (some b)) (fun b=>St w0 M (σ' b)):=cX.gB rfl fun w hw=>by
  refine⟨w.heap.size,w.alloc (.map #[] 0),by simp[execOp,Instr.makeMap,newObj,Sem.run],?_⟩;rw[←hσ];refine hw.add ⟨rfl,rfl,rfl,by simp,fun b hb _=>Below.heap_alloc w _ b hb,?_,List.pairwise_singleton _ _,?_⟩
  · intro i hi
    obtain rfl:i=_:=by simpa using hi
    exact⟨nY _ _,[],0,rfl,List.nodup_nil,by simp,World.alloc_heap_new w _⟩
  · intro i hi b hb
    obtain rfl:i=_:=by simpa using hi
    obtain rfl:b=w.heap.size:=hb;exact .inl (Nat.le_refl _)
end
end
end Go.Proofs.YtbedndijejpcaaaGreat
namespace Go.Proofs.YtbedndijejpcaaaGreat
structure je (S:Type) where
  up:Int
  kids:List Int
  sty:S
abbrev ar (S:Type):=Int→Option (je S)
section
variable {S:Type} {F:ar S} {d:Int→Nat}
def aK (F:ar S) (id:Int):Bool:=(F id).isSome
def upF (F:ar S) (id:Int):Int:=match F id with | some b=>b.up | none=>-1
def aH (F:ar S) (id:Int):List Int:=match F id with | some b=>b.kids | none=>[]
def pt (z:S) (F:ar S) (id:Int):S:=match F id with | some b=>b.sty | none=>z
structure WF (F:ar S) (d:Int→Nat):Prop where
  root:∃b,F 0=some b∧b.up= -1
  par:∀x b,F x=some b→x≠0→∃u,F b.up=some u∧x∈u.kids
  kid:∀x b,F x=some b→∀k∈b.kids,k≠0∧∃c,F k=some c∧c.up=x
  nodup:∀x b,F x=some b→b.kids.Nodup
  rank0:d 0=0
  rank:∀x b,F x=some b→x≠0→d x=d b.up+1
  deep:∀x b,F x=some b→d x≤63
  range:∀x b,F x=some b→0≤x∧x<4096
def insideF (F:ar S):Nat→Int→List Int
  | 0,_=>[]
  | n+1,x=>if aK F x then x::(aH F x).flatMap (insideF F n) else []
def sub (F:ar S) (x:Int):List Int:=insideF F 64 x
def fq (F:ar S):Nat→Int→Nat
  | 0,_=>0
  | n+1,x=>if aK F x then fq F n (upF F x)+1 else 0
def bz (F:ar S) (x:Int):Int:=(fq F 64 x:Int) - 1
inductive kg (F:ar S) (a:Int):Int→Prop
  | refl:aK F a=true→kg F a a
  | step {x:Int} {b:je S}:F x=some b→x≠0→kg F a b.up→kg F a x
theorem cG {x:Int} {b:je S} (h:F x=some b):aK F x=true:=by simp[aK,h]
theorem aL {x:Int} (h:aK F x=true):∃b,F x=some b:=Option.isSome_iff_exists.1 h
theorem kZ {x:Int} (h:F x=none):aK F x=false:=by simp[aK,h]
theorem tQ {x:Int} (h:aK F x=false):F x=none:=by simpa [aK] using h
theorem cj {x:Int} {b:je S} (h:F x=some b):aH F x=b.kids:=by simp[aH,h]
theorem ch {x:Int} {b:je S} (h:F x=some b):upF F x=b.up:=by simp[upF,h]
theorem WF.neg (h:WF F d) {x:Int} (hx:x<0):F x=none:=by
  cases e:F x with
  | none=>rfl
  | some b=>have:=(h.range x b e).1;omega
theorem WF.gr (h:WF F d) {x:Int} {b:je S} (hx:F x=some b) {k:Int} (hk:k∈b.kids):d k=d x+1:=by
  obtain⟨h0,c,hc,hu⟩:=h.kid x b hx k hk;rw[h.rank k c hc h0,hu]
theorem ft (n:Nat) {x:Int} {b:je S} (hx:F x=some b):insideF F (n+1) x=x::b.kids.flatMap (insideF F n):=by
  rw[insideF,if_pos (cG hx),cj hx]
theorem dQ (n:Nat) {x:Int} (hx:F x=none):insideF F n x=[]:=by
  cases n with
  | zero=>rfl
  | succ n=>rw[insideF,if_neg (by simp[kZ hx])]
theorem gK {α β:Type} {f g:α→List β}:∀{l:List α},(∀x∈l,f x=g x)→l.flatMap f=l.flatMap g
  | [],_=>rfl
  | x::l,h=>by rw[List.flatMap_cons,List.flatMap_cons,h x (by simp),gK fun y hy=>h y (by simp[hy])]
theorem WF.AD (h:WF F d):∀(n m:Nat) (x:Int),64≤n+d x→64≤m+d x→insideF F n x=insideF F m x:=by
  intro n;induction n with
  | zero =>
    intro m x hn hm;cases e:F x with
    | none=>rw[dQ _ e,dQ _ e]
    | some b=>have:=h.deep x b e;omega
  | succ n ih =>
    intro m x hn hm;cases e:F x with
    | none=>rw[dQ _ e,dQ _ e]
    | some b =>
      have:=h.deep x b e;cases m with
      | zero=>omega
      | succ m =>
        rw[ft n e,ft m e]
        congr 1
        refine gK fun k hk=>?_;have:=h.gr e hk;exact ih m k (by omega) (by omega)
theorem WF.sub_eq (h:WF F d) {x:Int} {b:je S} (hx:F x=some b):sub F x=x::b.kids.flatMap (sub F):=by
  unfold sub;rw[ft 63 hx]
  congr 1
  refine gK fun k hk=>?_;have:=h.gr hx hk;exact h.AD 63 64 k (by omega) (by omega)
theorem mo {x:Int} (hx:F x=none):sub F x=[]:=dQ 64 hx
theorem Bf:∀(n:Nat) (x y:Int),y∈insideF F n x→aK F y=true:=by
  intro n;induction n with
  | zero=>intro x y h;simp[insideF] at h
  | succ n ih =>
    intro x y h;rw[insideF] at h
    split at h
    · rename_i hx
      rcases List.mem_cons.1 h with rfl | h
      · exact hx
      · obtain ⟨k, _, hk⟩ := List.mem_flatMap.1 h
        exact ih k y hk
    · simp at h
theorem oL {x y:Int} (h:y∈sub F x):aK F y=true:=Bf 64 x y h
theorem kg.has {a x:Int} (h:kg F a x):aK F a=true∧aK F x=true:=by
  induction h with
  | refl h=>exact⟨h,h⟩
  | step hx _ _ ih=>exact⟨ih.1,cG hx⟩
theorem WF.qU (h:WF F d) {a x:Int} (ha:kg F a x):d a≤d x:=by
  induction ha with
  | refl _=>exact Nat.le_refl _
  | step hx h0 _ ih=>rw[h.rank _ _ hx h0];omega
theorem WF.Is (h:WF F d) {a b x:Int} (ha:kg F a x) (hb:kg F b x) (e:d a=d b):a=b:=by
  induction ha with
  | refl hx =>
    cases hb with
    | refl=>rfl
    | step hx' h0 hb' =>
      have h1:=h.qU hb';have h2:=h.rank _ _ hx' h0;omega
  | @step x c hx h0 ha' ih =>
    cases hb with
    | refl =>
      have h1:=h.qU ha';have h2:=h.rank _ _ hx h0;omega
    | step hx' h0' hb' =>
      rw[hx] at hx';cases hx';exact ih hb'
theorem kg.trans {a b x:Int} (h1:kg F a b) (h2:kg F b x):kg F a x:=by
  induction h2 with
  | refl=>exact h1
  | step hx h0 _ ih=>exact kg.step hx h0 ih
theorem WF.KD (h:WF F d) {x k:Int} {b:je S} (hx:F x=some b) (hk:k∈b.kids):kg F x k:=by
  obtain⟨h0,c,hc,hu⟩:=h.kid x b hx k hk;refine kg.step hc h0 ?_;rw[hu];exact kg.refl (cG hx)
theorem WF.Cn (h:WF F d):∀(n:Nat) (x y:Int),y∈insideF F n x→kg F x y:=by
  intro n;induction n with
  | zero=>intro x y hy;simp[insideF] at hy
  | succ n ih =>
    intro x y hy;cases e:F x with
    | none=>rw[dQ _ e] at hy;simp at hy
    | some b =>
      rw[ft n e] at hy
      rcases List.mem_cons.1 hy with rfl | hy
      · exact kg.refl (cG e)
      · obtain ⟨k, hk, hy⟩ := List.mem_flatMap.1 hy
        exact(h.KD e hk).trans (ih k y hy)
theorem WF.IA (h:WF F d) {a y:Int} (ha:kg F a y) {b:je S} (hb:F a=some b):y=a∨∃k∈b.kids,kg F k y:=by
  induction ha with
  | refl=>exact .inl rfl
  | @step x c hx h0 ha' ih =>
    rcases ih with e | ⟨k,hk,hky⟩
    · obtain ⟨u, hu, hmem⟩ := h.par x c hx h0
      rw[e,hb] at hu;cases hu;exact .inr ⟨x,hmem,kg.refl (cG hx)⟩
    · exact .inr ⟨k,hk,kg.step hx h0 hky⟩
theorem WF.cH (h:WF F d) {x y:Int}:y∈sub F x↔kg F x y:=by
  refine⟨h.Cn 64 x y,fun ha=>?_⟩;have key:∀(n:Nat) (x:Int),64≤n+d x→kg F x y→y∈sub F x:=by
    intro n;induction n with
    | zero =>
      intro x hn ha;obtain⟨b,hb⟩:=aL ha.has.1;have:=h.deep x b hb;omega
    | succ n ih =>
      intro x hn ha;obtain⟨b,hb⟩:=aL ha.has.1;rw[h.sub_eq hb]
      rcases h.IA ha hb with rfl | ⟨k,hk,hky⟩
      · simp
      · refine List.mem_cons_of_mem _ (List.mem_flatMap.2 ⟨k, hk, ih k ?_ hky⟩)
        have:=h.gr hb hk;omega
  exact key 64 x (by omega) ha
theorem nI {α β:Type} {f:α→List β}:∀{l:List α},l.Nodup→(∀x∈l,(f x).Nodup)→(∀x∈l,∀y∈l,x≠y→∀z∈f x,z∉f y)→(l.flatMap f).Nodup
  | [],_,_,_=>by simp
  | x :: l, hn, h1, h2 => by
    rw[List.nodup_cons] at hn;rw[List.flatMap_cons,List.nodup_append];refine⟨h1 x (by simp),nI hn.2 (fun y hy=>h1 y (by simp[hy])) fun y hy z hz=>h2 y (by simp[hy]) z (by simp[hz]),fun a ha b hb e=>?_⟩;obtain⟨y,hy,hby⟩:=List.mem_flatMap.1 hb;subst e;exact h2 x (by simp) y (by simp[hy]) (fun e=>hn.1 (by rw[e];exact hy)) a ha hby
theorem WF.wE (h:WF F d) (x:Int):(sub F x).Nodup:=by
  have key:∀(n:Nat) (x:Int),64≤n+d x→(sub F x).Nodup:=by
    intro n;induction n with
    | zero =>
      intro x hn;cases e:F x with
      | none=>rw[mo e];exact List.nodup_nil
      | some b=>have:=h.deep x b e;omega
    | succ n ih =>
      intro x hn;cases e:F x with
      | none=>rw[mo e];exact List.nodup_nil
      | some b =>
        rw[h.sub_eq e,List.nodup_cons];refine⟨fun hm=>?_,nI (h.nodup x b e) (fun k hk=>?_) fun k hk l hl hne z hz hz'=>?_⟩
        · obtain ⟨k, hk, hx⟩ := List.mem_flatMap.1 hm
          have h1:=h.qU (h.cH.1 hx);have h2:=h.gr e hk;omega
        · have := h.gr e hk
          exact ih k (by omega)
        · exact hne (h.Is (h.cH.1 hz) (h.cH.1 hz') (by rw[h.gr e hk,h.gr e hl]))
  exact key 64 x (by omega)
theorem WF.AJ (h:WF F d) {x:Int} (hx:aK F x=true):kg F 0 x:=by
  have key:∀(n:Nat) (x:Int),d x≤n→aK F x=true→kg F 0 x:=by
    intro n;induction n with
    | zero =>
      intro x hn hx;obtain⟨b,hb⟩:=aL hx
      by_cases h0:x=0
      · subst h0;exact kg.refl hx
      · have:=h.rank x b hb h0;omega
    | succ n ih =>
      intro x hn hx;obtain⟨b,hb⟩:=aL hx
      by_cases h0:x=0
      · subst h0;exact kg.refl hx
      · obtain ⟨u, hu, _⟩ := h.par x b hb h0
        have:=h.rank x b hb h0;exact kg.step hb h0 (ih b.up (by omega) (cG hu))
  exact key (d x) x (Nat.le_refl _) hx
def order (F:ar S):List Int:=sub F 0
theorem WF.bw (h:WF F d) {x:Int}:x∈order F↔aK F x=true:=⟨oL,fun hx=>h.cH.2 (h.AJ hx)⟩
theorem WF.fB (h:WF F d):(order F).Nodup:=h.wE 0
theorem WF.chain (h:WF F d):∀(n:Nat) (x:Int),aK F x=true→d x<n→fq F n x=d x+1:=by
  intro n;induction n with
  | zero=>intro x _ hn;omega
  | succ n ih =>
    intro x hx hn;obtain⟨b,hb⟩:=aL hx;rw[fq,if_pos hx,ch hb]
    by_cases h0:x=0
    · subst h0
      obtain⟨b',hb',hu⟩:=h.root;rw[hb] at hb';cases hb';rw[hu,h.rank0];cases n with
      | zero=>rfl
      | succ n=>rw[fq,if_neg (by simp[kZ (h.neg (show (-1:Int)<0 by omega))])]
    · obtain ⟨u, hu, _⟩ := h.par x b hb h0
      have:=h.rank x b hb h0;rw[ih b.up (cG hu) (by omega)];omega
theorem WF.depth (h:WF F d) {x:Int} (hx:aK F x=true):bz F x=d x:=by
  obtain⟨b,hb⟩:=aL hx;have:=h.deep x b hb;unfold bz;rw[h.chain 64 x hx (by omega)];omega
theorem gG:∀{l m:List Int},l.Nodup→(∀x∈l,x∈m)→l.length≤m.length
  | [],_,_,_=>by simp
  | x :: l, m, hn, hs => by
    rw[List.nodup_cons] at hn;have hx:=hs x (by simp);have h1:=gG (l:=l) (m:=m.erase x) hn.2 fun y hy=>(List.mem_erase_of_ne (fun(e:y=x)=>hn.1 (by rw[←e];exact hy))).2 (hs y (by simp[hy]));have h2:=List.length_erase_of_mem hx;have h3:0<m.length:=List.length_pos_of_mem hx;simp only[List.length_cons];omega
def iN (F:ar S):Nat→Int→Int
  | 0,i=>i
  | n+1,i=>if aK F i then iN F n (i+1) else i
theorem sF (F:ar S):∀(n:Nat) (i:Int),i≤iN F n i∧iN F n i≤i+n∧(∀x,i≤x→x<iN F n i→aK F x=true)∧(iN F n i<i+n→aK F (iN F n i)=false)
  | 0,i=>⟨by simp[iN],by simp[iN],fun x h1 h2=>by simp[iN] at h2;omega,fun h=>by simp[iN] at h⟩
  | n + 1, i => by
    rw[iN]
    split
    · rename_i hi
      obtain⟨h1,h2,h3,h4⟩:=sF F n (i+1);refine⟨by omega,by omega,fun x hx hx'=>?_,fun h=>h4 (by omega)⟩
      by_cases e:x=i
      · subst e;exact hi
      · exact h3 x (by omega) hx'
    · rename_i hi
      exact⟨by omega,by omega,fun x h1 h2=>by omega,fun _=>by simpa using hi⟩
def least (F:ar S):Int:=iN F 4097 0
theorem WF.k8 (h:WF F d):0≤least F∧least F≤4096∧aK F (least F)=false∧∀x,0≤x→x<least F→aK F x=true:=by
  obtain⟨h1,h2,h3,h4⟩:=sF F 4097 0;have h5:least F≤4096:=by
    rcases Int.lt_or_le 4096 (least F) with hl | hl
    · obtain ⟨b, hb⟩ := aL (h3 4096 (by omega) hl)
      have:=(h.range _ _ hb).2;omega
    · exact hl
  exact⟨h1,h5,h4 (by unfold least at h5;omega),h3⟩
theorem WF.IF (h:WF F d) (hc:(order F).length<4096):least F<4096:=by
  obtain⟨h1,h2,h3,h4⟩:=h.k8
  rcases Int.lt_or_le (least F) 4096 with hl | hl
  · exact hl
  · have h5 := gG (l := (List.range 4096).map fun n : Nat => (n : Int)) (m := order F) (by
      rw [List.nodup_iff_pairwise_ne, List.pairwise_map]
      exact List.Pairwise.imp (fun h e => h (Int.ofNat_inj.1 e)) (List.nodup_iff_pairwise_ne.1 List.nodup_range)) (fun x hx => by
      obtain ⟨n, hn, rfl⟩ := List.mem_map.1 hx
      rw [List.mem_range] at hn
      exact h.bw.2 (h4 n (by omega) (by omega)))
    simp at h5;omega
end
end Go.Proofs.YtbedndijejpcaaaGreat
namespace Go.Proofs.YtbedndijejpcaaaGreat
section
variable {S:Type} {F:ar S} {d:Int→Nat}
def bN (l:List Int) (k:Nat) (x:Int):List Int:=l.take k++x::l.drop k
def bQ (l:List Int) (x:Int):List Int:=l.filter fun y=>decide (y≠x)
theorem nv {l:List Int} {k:Nat} {x y:Int}:y∈bN l k x↔y=x∨y∈l:=by
  unfold bN;have:y∈l↔y∈l.take k∨y∈l.drop k:=by rw[←List.mem_append,List.take_append_drop]
  simp only[List.mem_append,List.mem_cons,this];constructor
  · rintro (h | h | h)<;>simp[h]
  · rintro (h | h | h)<;>simp[h]
theorem hZ {l:List Int} {k:Nat} {x:Int} (h:k≤l.length):(bN l k x).length=l.length+1:=by
  simp[bN];omega
theorem qZ {l:List Int} {k:Nat} {x:Int} (h:l.Nodup) (hx:x∉l):(bN l k x).Nodup:=by
  have h1:(bN l k x).Perm (x::l):=by
    unfold bN;refine List.perm_middle.trans ?_;rw[List.take_append_drop]
  exact h1.nodup_iff.2 (List.nodup_cons.2 ⟨hx,h⟩)
theorem mE {l:List Int} {x y:Int}:y∈bQ l x↔y∈l∧y≠x:=by simp[bQ]
theorem th {l:List Int} {x:Int} (h:l.Nodup):(bQ l x).Nodup:=List.Pairwise.filter _ h
theorem jW {l:List Int} {x:Int} (h:x∉l):bQ l x=l:=List.filter_eq_self.2 fun _ hy=>decide_eq_true fun e=>h (e▸hy)
theorem vJ {l:List Int} {i:Nat} {x:Int} (h:l.Nodup) (hx:l[i]?=some x):bN (bQ l x) i x=l:=by
  obtain⟨hi,e⟩:=List.getElem?_eq_some_iff.1 hx;have h1:l=l.take i++x::l.drop (i+1):=by
    conv=>lhs;rw[←List.take_append_drop i l]
    rw[List.drop_eq_getElem_cons hi,e]
  have h2:x∉l.take i∧x∉l.drop (i+1):=by
    rw[h1,List.nodup_append] at h;refine⟨fun hm=>h.2.2 x hm x (by simp) rfl,fun hm=>?_⟩;exact(List.nodup_cons.1 h.2.1).1 hm
  have h3:bQ l x=l.take i++l.drop (i+1):=by
    conv=>lhs;rw[h1]
    unfold bQ;rw[List.filter_append,List.filter_cons_of_neg (by simp)];show bQ _ x++bQ _ x=_;rw[jW h2.1,jW h2.2]
  rw[h3];unfold bN;have hl:(l.take i).length=i:=by rw[List.length_take];omega
  rw[List.take_left' hl,List.drop_left' hl];exact h1.symm
theorem o3 {l:List Int} {x:Int} (h:l.Nodup) (hx:x∈l):(bQ l x).length+1=l.length:=by
  obtain⟨i,hi⟩:=List.getElem?_of_mem hx;have h1:=vJ h hi;have h2:l.length=(bN (bQ l x) i x).length:=by rw[h1]
  have h3:(bN (bQ l x) i x).length=(bQ l x).length+1:=by
    unfold bN;simp;have:(List.take i (bQ l x)).length+(List.drop i (bQ l x)).length=(bQ l x).length:=by
      rw[←List.length_append,List.take_append_drop]
    simp at this;omega
  omega
def addG (F:ar S) (up:Int) (k:Nat) (id:Int) (z:S):ar S:=fun x=>if x=up then (F up).map fun b=>{b with kids:=bN b.kids k id} else if x=id then some ⟨up,[],z⟩ else F x
theorem WF.add (h:WF F d) {up id:Int} {b:je S} (hu:F up=some b) (hid:F id=none) (hr:0≤id∧id<4096) (k:Nat) (hd:d up<63) (z:S):
    WF (addG F up k id z) (fun x=>if x=id then d up+1 else d x):=by
  have hne:up≠id:=fun e=>by rw[e,hid] at hu;cases hu
  have h0:(0:Int)≠id:=fun e=>by obtain⟨r,hr,_⟩:=h.root;rw[e,hid] at hr;cases hr
  have hnk:∀x c,F x=some c→id∉c.kids:=fun x c hx hm=>by
    obtain⟨_,e,he,_⟩:=h.kid x c hx id hm;rw[hid] at he;cases he
  have hat:∀x,addG F up k id z x=if x=up then some {b with kids:=bN b.kids k id} else if x=id then some ⟨up,[],z⟩ else F x:=fun x=>by
    simp only[addG,hu,Option.map_some]
  have hget:∀x c,addG F up k id z x=some c→(x=up∧c={b with kids:=bN b.kids k id})∨(x≠up∧x=id∧c=⟨up,[],z⟩)∨(x≠up∧x≠id∧F x=some c):=fun x c hx=>by
    rw[hat] at hx
    split at hx
    · cases hx;exact .inl ⟨‹_›,rfl⟩
    · split at hx
      · cases hx;exact .inr (.inl ⟨‹_›,‹_›,rfl⟩)
      · exact .inr (.inr ⟨‹_›,‹_›,hx⟩)
  have hold:∀x c,F x=some c→∃c',addG F up k id z x=some c'∧c'.up=c.up∧∀y∈c.kids,y∈c'.kids:=fun x c hx=>by
    rw[hat]
    by_cases e:x=up
    · rw [if_pos e]
      subst e;rw[hu] at hx;cases hx;exact⟨_,rfl,rfl,fun y hy=>nv.2 (.inr hy)⟩
    · rw [if_neg e, if_neg (fun e' => by rw [e', hid] at hx; cases hx)]
      exact⟨c,hx,rfl,fun y hy=>hy⟩
  refine⟨?_,?_,?_,?_,?_,?_,?_,?_⟩
  · obtain ⟨r, hr, hru⟩ := h.root
    obtain⟨r',hr',e,_⟩:=hold 0 r hr;exact⟨r',hr',e.trans hru⟩
  · intro x c hx hx0
    rcases hget x c hx with ⟨rfl,rfl⟩ | ⟨_,rfl,rfl⟩ | ⟨_,_,hx'⟩
    · obtain ⟨u, hu', hm⟩ := h.par x b hu hx0
      obtain⟨u',h1,_,h2⟩:=hold _ u hu';exact⟨u',h1,h2 x hm⟩
    · refine⟨{b with kids:=bN b.kids k x},by rw[hat,if_pos rfl],nv.2 (.inl rfl)⟩
    · obtain ⟨u, hu', hm⟩ := h.par x c hx' hx0
      obtain⟨u',h1,_,h2⟩:=hold _ u hu';exact⟨u',h1,h2 x hm⟩
  · intro x c hx y hy
    have hk:∀c0,F x=some c0→y∈c0.kids→y≠0∧∃c,addG F up k id z y=some c∧c.up=x:=fun c0 h1 h2=>by
      obtain⟨h3,e,he,hee⟩:=h.kid x c0 h1 y h2;obtain⟨e',h4,h5,_⟩:=hold y e he;exact⟨h3,e',h4,h5.trans hee⟩
    rcases hget x c hx with ⟨rfl,rfl⟩ | ⟨_,rfl,rfl⟩ | ⟨_,_,hx'⟩
    · rcases nv.1 hy with rfl | hy
      · exact⟨fun e=>h0 e.symm,⟨x,[],z⟩,by rw[hat,if_neg (fun e=>hne e.symm),if_pos rfl],rfl⟩
      · exact hk b hu hy
    · simp at hy
    · exact hk c hx' hy
  · intro x c hx
    rcases hget x c hx with ⟨rfl,rfl⟩ | ⟨_,rfl,rfl⟩ | ⟨_,_,hx'⟩
    · exact qZ (h.nodup x b hu) (hnk x b hu)
    · exact List.nodup_nil
    · exact h.nodup x c hx'
  · simp only[if_neg h0];exact h.rank0
  · intro x c hx hx0
    have hr':∀c0,F x=some c0→(if x=id then d up+1 else d x)=(if c0.up=id then d up+1 else d c0.up)+1:=fun c0 h1=>by
      rw[if_neg (fun e=>by rw[e,hid] at h1;cases h1)];obtain⟨u,hu',_⟩:=h.par x c0 h1 hx0;rw[if_neg (fun e=>by rw[e,hid] at hu';cases hu')];exact h.rank x c0 h1 hx0
    rcases hget x c hx with ⟨rfl,rfl⟩ | ⟨_,rfl,rfl⟩ | ⟨_,_,hx'⟩
    · exact hr' b hu
    · simp only[if_true,if_neg hne]
    · exact hr' c hx'
  · intro x c hx
    rcases hget x c hx with ⟨rfl,rfl⟩ | ⟨_,rfl,rfl⟩ | ⟨_,h2,hx'⟩
    · simp only[if_neg hne];exact h.deep x b hu
    · simp only[if_true];omega
    · simp only[if_neg h2];exact h.deep x c hx'
  · intro x c hx
    rcases hget x c hx with ⟨rfl,rfl⟩ | ⟨_,rfl,rfl⟩ | ⟨_,_,hx'⟩
    · exact h.range x b hu
    · exact hr
    · exact h.range x c hx'
def remG (F:ar S) (id:Int):ar S:=fun x=>if x∈sub F id then none else (F x).map fun b=>if x=upF F id then {b with kids:=bQ b.kids id} else b
theorem WF.rem (h:WF F d) {id:Int} {b:je S} (hid:F id=some b) (h0:id≠0):WF (remG F id) d:=by
  have hup:upF F id=b.up:=ch hid;have hself:id∈sub F id:=h.cH.2 (kg.refl (cG hid));have hget:∀x c,remG F id x=some c→x∉sub F id∧∃c0,F x=some c0∧c.up=c0.up∧c.kids=if x=b.up then bQ c0.kids id else c0.kids:=fun x c hx=>by
    unfold remG at hx
    split at hx
    · cases hx
    · rename_i hn
      obtain⟨c0,h1,h2⟩:=Option.map_eq_some_iff.1 hx;rw[hup] at h2;refine⟨hn,c0,h1,?_⟩
      split at h2
      · rename_i e;subst h2;rw[if_pos e];exact⟨rfl,rfl⟩
      · rename_i e;subst h2;rw[if_neg e];exact⟨rfl,rfl⟩
  have hold:∀x c0,F x=some c0→x∉sub F id→∃c,remG F id x=some c∧c.up=c0.up∧c.kids=if x=b.up then bQ c0.kids id else c0.kids:=fun x c0 h1 hn=>by
    unfold remG;rw[if_neg hn,h1,hup];refine⟨_,rfl,?_⟩
    split
    · exact⟨rfl,rfl⟩
    · exact⟨rfl,rfl⟩
  have hstep:∀x c0,F x=some c0→x≠0→x∉sub F id→c0.up∉sub F id:=fun x c0 h1 hx0 hn hm=>hn (h.cH.2 (kg.step h1 hx0 (h.cH.1 hm)));have hdown:∀x c0,F x=some c0→x∈sub F id→x≠id→c0.up∈sub F id:=fun x c0 h1 hm hne=>by
    have ha:=h.cH.1 hm;cases ha with
    | refl=>exact absurd rfl hne
    | step hx _ ha=>rw[h1] at hx;cases hx;exact h.cH.2 ha
  refine⟨?_,?_,?_,?_,h.rank0,?_,?_,?_⟩
  · obtain ⟨r, hr, hru⟩ := h.root
    have hn : (0 : Int) ∉ sub F id := fun hm => h0 (by
      have := h.qU (h.cH.1 hm)
      have h2 := h.rank0
      by_cases e : id = 0
      · exact e
      · have := h.rank id b hid e; omega)
    obtain⟨c,h1,h2,_⟩:=hold 0 r hr hn;exact⟨c,h1,h2.trans hru⟩
  · intro x c hx hx0
    obtain⟨hn,c0,h1,h2,h3⟩:=hget x c hx;obtain⟨u,hu,hm⟩:=h.par x c0 h1 hx0;obtain⟨u',h4,_,h6⟩:=hold c0.up u hu (hstep x c0 h1 hx0 hn);refine⟨u',by rw[h2];exact h4,?_⟩;rw[h6]
    split
    · exact mE.2 ⟨hm,fun e=>hn (e▸hself)⟩
    · exact hm
  · intro x c hx y hy
    obtain⟨hn,c0,h1,h2,h3⟩:=hget x c hx;have hy0:y∈c0.kids∧(x=b.up→y≠id):=by
      rw[h3] at hy
      split at hy
      · exact⟨(mE.1 hy).1,fun _=>(mE.1 hy).2⟩
      · exact⟨hy,fun e=>absurd e ‹_›⟩
    obtain⟨h4,e,he,hee⟩:=h.kid x c0 h1 y hy0.1;have hyn:y∉sub F id:=fun hm=>by
      by_cases e':y=id
      · subst e'
        rw[hid] at he;cases he;exact hy0.2 hee.symm rfl
      · have := hdown y e he hm e'
        rw[hee] at this;exact hn this
    obtain⟨c',h5,h6,_⟩:=hold y e he hyn;exact⟨h4,c',h5,h6.trans hee⟩
  · intro x c hx
    obtain⟨_,c0,h1,_,h3⟩:=hget x c hx;rw[h3]
    split
    · exact th (h.nodup x c0 h1)
    · exact h.nodup x c0 h1
  · intro x c hx hx0
    obtain⟨_,c0,h1,h2,_⟩:=hget x c hx;rw[h2];exact h.rank x c0 h1 hx0
  · intro x c hx
    obtain⟨_,c0,h1,_⟩:=hget x c hx;exact h.deep x c0 h1
  · intro x c hx
    obtain⟨_,c0,h1,_⟩:=hget x c hx;exact h.range x c0 h1
def movG (F:ar S) (id up:Int) (k:Nat):ar S:=fun x=>(F x).map fun b=>
  ⟨if x=id then up else b.up,(if x=up then bN (if x=upF F id then bQ b.kids id else b.kids) k id else if x=upF F id then bQ b.kids id else b.kids),b.sty⟩
open Classical in
noncomputable def movD (F:ar S) (d:Int→Nat) (id up:Int):Int→Nat:=fun x=>if x∈sub F id then d x - d id+d up+1 else d x
theorem WF.mov (h:WF F d) {id up:Int} {bi bu:je S} (hid:F id=some bi) (h0:id≠0) (hup:F up=some bu) (hcy:up∉sub F id) (k:Nat) (hd:∀x∈sub F id,d x - d id+d up+1≤63):
    WF (movG F id up k) (movD F d id up):=by
  have hui:upF F id=bi.up:=ch hid;have hself:id∈sub F id:=h.cH.2 (kg.refl (cG hid));have hne:up≠id:=fun e=>hcy (by rw[e];exact hself);have hdle:∀x∈sub F id,d id≤d x:=fun x hx=>h.qU (h.cH.1 hx)
  have h0n : (0 : Int) ∉ sub F id := fun hm => h0 (by
    have := hdle 0 hm
    have h2 := h.rank0
    by_cases e : id = 0
    · exact e
    · have := h.rank id bi hid e; omega)
  have hbn:bi.up∉sub F id:=fun hm=>by
    have:=hdle _ hm;have:=h.rank id bi hid h0;omega
  let K:Int→je S→List Int:=fun x b=>if x=up then bN (if x=bi.up then bQ b.kids id else b.kids) k id else if x=bi.up then bQ b.kids id else b.kids
  have hat:∀x b,F x=some b→movG F id up k x=some ⟨if x=id then up else b.up,K x b,b.sty⟩:=fun x b hx=>by
    simp only[movG,hx,Option.map_some,hui,K]
  have hget:∀x c,movG F id up k x=some c→∃b,F x=some b∧c=⟨if x=id then up else b.up,K x b,b.sty⟩:=fun x c hx=>by
    cases e:F x with
    | none=>simp[movG,e] at hx
    | some b=>rw[hat x b e] at hx;cases hx;exact⟨b,rfl,rfl⟩
  have hpar:∀x b,F x=some b→id∈b.kids→x=bi.up:=fun x b hx hm=>by
    obtain⟨_,c,hc,hcu⟩:=h.kid x b hx id hm;rw[hid] at hc;cases hc;exact hcu.symm
  have hmem:∀x b,F x=some b→∀y,y∈K x b↔(y=id∧x=up)∨(y≠id∧y∈b.kids):=fun x b hx y=>by
    have hc:∀y,(y∈if x=bi.up then bQ b.kids id else b.kids)↔(y≠id∧y∈b.kids):=fun y=>by
      split
      · rw[mE];exact And.comm
      · rename_i e
        refine⟨fun hy=>⟨fun e'=>e (hpar x b hx (e'▸hy)),hy⟩,fun hy=>hy.2⟩
    show y∈(if x=up then bN (if x=bi.up then bQ b.kids id else b.kids) k id else if x=bi.up then bQ b.kids id else b.kids)↔_
    by_cases e:x=up
    · rw [if_pos e, nv, hc]
      exact⟨fun h=>h.imp (fun h=>⟨h,e⟩) fun h=>h,fun h=>h.imp (fun h=>h.1) fun h=>h⟩
    · rw [if_neg e, hc]
      exact⟨.inr,fun h=>h.elim (fun h=>absurd h.2 e) fun h=>h⟩
  have hstep:∀x c0,F x=some c0→x≠0→x≠id→(x∈sub F id↔c0.up∈sub F id):=fun x c0 h1 hx0 hne=>by
    refine⟨fun hm=>?_,fun hm=>h.cH.2 (kg.step h1 hx0 (h.cH.1 hm))⟩;have ha:=h.cH.1 hm;cases ha with
    | refl=>exact absurd rfl hne
    | step hx _ ha=>rw[h1] at hx;cases hx;exact h.cH.2 ha
  refine⟨?_,?_,?_,?_,?_,?_,?_,?_⟩
  · obtain ⟨r, hr, hru⟩ := h.root
    exact⟨_,hat 0 r hr,by simp only[if_neg (fun e=>h0 (Eq.symm e))];exact hru⟩
  · intro x c hx hx0
    obtain⟨b,hb,rfl⟩:=hget x c hx
    by_cases e:x=id
    · subst e
      simp only[if_true];exact⟨_,hat up bu hup,(hmem up bu hup x).2 (.inl ⟨rfl,rfl⟩)⟩
    · simp only [if_neg e]
      obtain⟨u,hu,hm⟩:=h.par x b hb hx0;exact⟨_,hat b.up u hu,(hmem b.up u hu x).2 (.inr ⟨e,hm⟩)⟩
  · intro x c hx y hy
    obtain⟨b,hb,rfl⟩:=hget x c hx
    rcases(hmem x b hb y).1 hy with ⟨rfl,rfl⟩ | ⟨hyi,hyk⟩
    · exact⟨h0,_,hat y bi hid,by simp⟩
    · obtain ⟨h4, e, he, hee⟩ := h.kid x b hb y hyk
      exact⟨h4,_,hat y e he,by simp only[if_neg hyi];exact hee⟩
  · intro x c hx
    obtain⟨b,hb,rfl⟩:=hget x c hx;have hn:=h.nodup x b hb;have hc:(if x=bi.up then bQ b.kids id else b.kids).Nodup∧id∉(if x=bi.up then bQ b.kids id else b.kids):=by
      split
      · exact⟨th hn,fun hm=>(mE.1 hm).2 rfl⟩
      · rename_i e;exact⟨hn,fun hm=>e (hpar x b hb hm)⟩
    show (if x=up then bN (if x=bi.up then bQ b.kids id else b.kids) k id else if x=bi.up then bQ b.kids id else b.kids).Nodup
    by_cases e:x=up
    · rw[if_pos e];exact qZ hc.1 hc.2
    · rw[if_neg e];exact hc.1
  · simp only[movD,if_neg h0n];exact h.rank0
  · intro x c hx hx0
    obtain⟨b,hb,rfl⟩:=hget x c hx
    by_cases e:x=id
    · subst e
      simp only[if_true,movD,if_pos hself,if_neg hcy];omega
    · simp only [if_neg e, movD]
      have hr:=h.rank x b hb hx0
      by_cases hm:x∈sub F id
      · have hm' := (hstep x b hb hx0 e).1 hm
        rw[if_pos hm,if_pos hm'];have:=hdle _ hm';omega
      · rw [if_neg hm, if_neg (fun hm' => hm ((hstep x b hb hx0 e).2 hm'))]
        exact hr
  · intro x c hx
    obtain⟨b,hb,rfl⟩:=hget x c hx;unfold movD
    split
    · exact hd x ‹_›
    · exact h.deep x b hb
  · intro x c hx
    obtain⟨b,hb,rfl⟩:=hget x c hx;exact h.range x b hb
def setG (F:ar S) (id:Int) (s:S):ar S:=fun x=>if x=id then (F id).map fun b=>{b with sty:=s} else F x
theorem Gf (F:ar S) (id:Int) (s:S) (x:Int):(setG F id s x).map (fun b=>(b.up,b.kids))=(F x).map fun b=>(b.up,b.kids):=by
  unfold setG
  split
  · rename_i e;subst e;cases F x<;>rfl
  · rfl
theorem WF.ag7 (h:WF F d) {G:ar S} (hG:∀x,(G x).map (fun b=>(b.up,b.kids))=(F x).map fun b=>(b.up,b.kids)):WF G d:=by
  have hget:∀x c,G x=some c→∃b,F x=some b∧c.up=b.up∧c.kids=b.kids:=fun x c hx=>by
    have:=hG x;rw[hx] at this;obtain⟨b,hb,he⟩:=Option.map_eq_some_iff.1 this.symm;simp only[Prod.mk.injEq] at he;exact⟨b,hb,he.1.symm,he.2.symm⟩
  have hold:∀x b,F x=some b→∃c,G x=some c∧c.up=b.up∧c.kids=b.kids:=fun x b hx=>by
    have:=hG x;rw[hx] at this;obtain⟨c,hc,he⟩:=Option.map_eq_some_iff.1 this;simp only[Prod.mk.injEq] at he;exact⟨c,hc,he.1,he.2⟩
  refine⟨?_,?_,?_,?_,h.rank0,?_,?_,?_⟩
  · obtain ⟨r, hr, hru⟩ := h.root
    obtain⟨c,hc,e,_⟩:=hold 0 r hr;exact⟨c,hc,e.trans hru⟩
  · intro x c hx hx0
    obtain⟨b,hb,e1,e2⟩:=hget x c hx;obtain⟨u,hu,hm⟩:=h.par x b hb hx0;obtain⟨u',hu',_,e4⟩:=hold _ u hu;exact⟨u',by rw[e1];exact hu',by rw[e4];exact hm⟩
  · intro x c hx y hy
    obtain⟨b,hb,e1,e2⟩:=hget x c hx;obtain⟨h1,e,he,hee⟩:=h.kid x b hb y (by rw[←e2];exact hy);obtain⟨e',he',h3,_⟩:=hold y e he;exact⟨h1,e',he',h3.trans hee⟩
  · intro x c hx
    obtain⟨b,hb,e1,e2⟩:=hget x c hx;rw[e2];exact h.nodup x b hb
  · intro x c hx hx0
    obtain⟨b,hb,e1,e2⟩:=hget x c hx;rw[e1];exact h.rank x b hb hx0
  · intro x c hx
    obtain⟨b,hb,e1,e2⟩:=hget x c hx;exact h.deep x b hb
  · intro x c hx
    obtain⟨b,hb,e1,e2⟩:=hget x c hx;exact h.range x b hb
theorem WF.set (h:WF F d) (id:Int) (s:S):WF (setG F id s) d:=h.ag7 (Gf F id s)
theorem Af {G:ar S} (hG:∀x,(G x).map (fun b=>(b.up,b.kids))=(F x).map fun b=>(b.up,b.kids)):∀(n:Nat) (x:Int),insideF G n x=insideF F n x:=by
  intro n;induction n with
  | zero=>intro x;rfl
  | succ n ih =>
    intro x;have hx:=hG x;cases e:F x with
    | none =>
      rw[e] at hx;have e':G x=none:=by cases h:G x<;>simp[h] at hx;rfl
      rw[dQ _ e,dQ _ e']
    | some b =>
      rw[e] at hx;obtain⟨c,hc,he⟩:=Option.map_eq_some_iff.1 hx;simp only[Prod.mk.injEq] at he;rw[ft n e,ft n hc,he.2]
      congr 1
      exact gK fun k _=>ih k
theorem vi (F:ar S) (id:Int) (s:S):order (setG F id s)=order F:=Af (Gf F id s) 64 0
end
end Go.Proofs.YtbedndijejpcaaaGreat
namespace Go.Proofs.YtbedndijejpcaaaGreat
structure Act (S:Type) where
  k:Int
  a:Int
  b:Int
  c:Int
  sty:S
section
variable {S:Type} (z:S) (valid:S→Bool) {F:ar S} {d:Int→Nat}
def lX (F:ar S) (id:Int):Int:=(sub F id).foldl (fun n x=>max n (bz F x)) 0
def jK (F:ar S):Int:=((order F).length:Int)
def addR (F:ar S) (up at_:Int):ar S×Int×Int:=
  if aK F up=false then (F,-1,2) else if at_<0∨((aH F up).length:Int)<at_ then (F,-1,1) else if 4096≤jK F then (F,-1,4) else if 63≤bz F up then (F,-1,5)
  else (addG F up at_.toNat (least F) z,least F,0)
def remR (F:ar S) (id:Int):ar S×Int×Int:=
  if aK F id=false then (F,0,2) else if id=0 then (F,0,1) else (remG F id,((sub F id).length:Int),0)
def pI (F:ar S) (id up:Int):Int:=((aH F up).length:Int) - if upF F id=up then 1 else 0
def movR (F:ar S) (id up at_:Int):ar S×Int:=
  if aK F id=false∨aK F up=false then (F,2) else if id=0 then (F,1) else if up∈sub F id then (F,3) else if at_<0∨pI F id up<at_ then (F,1)
  else if 64≤bz F up+1+lX F id - bz F id then (F,5) else (movG F id up at_.toNat,0)
def setR (F:ar S) (id:Int) (s:S):ar S×Int:=
  if aK F id=false then (F,2) else if valid s=false then (F,1) else (setG F id s,0)
def kQ (F:ar S) (x:Act S):ar S:=
  if Int.tmod x.k 5=2 then (remR F x.a).1 else if Int.tmod x.k 5=3 then (movR F x.a x.b x.c).1 else if Int.tmod x.k 5=4 then (setR valid F x.a x.sty).1 else (addR z F x.a x.b).1
def u7 (F:ar S) (l:List (Act S)):ar S:=l.foldl (kQ z valid) F
def nz:ar S:=fun x=>if x=0 then some ⟨-1,[],z⟩ else none
theorem fP (f:Int→Int):∀(l:List Int) (n:Int),n≤l.foldl (fun n x=>max n (f x)) n∧∀x∈l,f x≤l.foldl (fun n x=>max n (f x)) n
  | [],n=>⟨Int.le_refl _,by simp⟩
  | y :: l, n => by
    obtain⟨h1,h2⟩:=fP f l (max n (f y));simp only[List.foldl_cons];refine⟨by omega,fun x hx=>?_⟩
    rcases List.mem_cons.1 hx with rfl | hx
    · omega
    · exact h2 x hx
theorem fH (f:Int→Int) (m:Int):∀(l:List Int) (n:Int),n≤m→(∀x∈l,f x≤m)→l.foldl (fun n x=>max n (f x)) n≤m
  | [],n,h,_=>h
  | y :: l, n, h, hl => by
    simp only[List.foldl_cons];exact fH f m l _ (by have:=hl y (by simp);omega) fun x hx=>hl x (by simp[hx])
theorem WF.new:WF (nz z) (fun _=>0):=by
  have hget:∀x b,nz z x=some b→x=0∧b=⟨-1,[],z⟩:=fun x b h=>by
    unfold nz at h
    split at h
    · cases h;exact⟨‹_›,rfl⟩
    · cases h
  refine⟨⟨_,if_pos rfl,rfl⟩,?_,?_,?_,rfl,?_,?_,?_⟩<;>intro x b h<;>obtain⟨rfl,rfl⟩:=hget x b h<;>simp
theorem WF.addR (h:WF F d) (up at_:Int):∃d',WF (addR z F up at_).1 d':=by
  unfold Go.Proofs.YtbedndijejpcaaaGreat.addR
  split
  · exact⟨d,h⟩
  · split
    · exact⟨d,h⟩
    · split
      · exact⟨d,h⟩
      · split
        · exact⟨d,h⟩
        · rename_i h1 h2 h3 h4
          obtain⟨b,hb⟩:=aL (by simpa using h1:aK F up=true);obtain⟨l1,l2,l3,l4⟩:=h.k8;have l5:=h.IF (by unfold jK at h3;omega);rw[h.depth (cG hb)] at h4;exact⟨_,h.add hb (tQ l3) ⟨l1,l5⟩ at_.toNat (by omega) z⟩
theorem WF.remR (h:WF F d) (id:Int):∃d',WF (remR F id).1 d':=by
  unfold Go.Proofs.YtbedndijejpcaaaGreat.remR
  split
  · exact⟨d,h⟩
  · split
    · exact⟨d,h⟩
    · rename_i h1 h2
      obtain⟨b,hb⟩:=aL (by simpa using h1:aK F id=true);exact⟨d,h.rem hb h2⟩
theorem WF.IK (h:WF F d) {id up:Int} (hid:aK F id=true) (hup:aK F up=true):¬(64≤bz F up+1+lX F id - bz F id)↔∀x∈sub F id,d x - d id+d up+1≤63:=by
  rw[h.depth hid,h.depth hup];have hge:=fP (bz F) (sub F id) 0;have hself:id∈sub F id:=h.cH.2 (kg.refl hid);have hx:∀x∈sub F id,bz F x=d x∧d id≤d x:=fun x hx=>⟨h.depth (oL hx),h.qU (h.cH.1 hx)⟩;constructor
  · intro hn x hm
    have h1:=hge.2 x hm;have h2:=hx x hm;unfold lX at hn;omega
  · intro hall
    have h1 := fH (bz F) ((d id : Int) + 62 - d up) (sub F id) 0 (by have := hall id hself; omega) (fun x hm => by
      have h2 := hx x hm
      have h3 := hall x hm
      omega)
    unfold lX;omega
theorem WF.movR (h:WF F d) (id up at_:Int):∃d',WF (movR F id up at_).1 d':=by
  unfold Go.Proofs.YtbedndijejpcaaaGreat.movR
  split
  · exact⟨d,h⟩
  · split
    · exact⟨d,h⟩
    · split
      · exact⟨d,h⟩
      · split
        · exact⟨d,h⟩
        · split
          · exact⟨d,h⟩
          · rename_i h1 h2 h3 h4 h5
            simp only[not_or,Bool.not_eq_false] at h1;obtain⟨bi,hbi⟩:=aL h1.1;obtain⟨bu,hbu⟩:=aL h1.2;exact⟨_,h.mov hbi h2 hbu h3 at_.toNat ((h.IK h1.1 h1.2).1 h5)⟩
theorem WF.setR (h:WF F d) (id:Int) (s:S):∃d',WF (setR valid F id s).1 d':=by
  unfold Go.Proofs.YtbedndijejpcaaaGreat.setR
  split
  · exact⟨d,h⟩
  · split
    · exact⟨d,h⟩
    · exact⟨d,h.set id s⟩
theorem WF.act (h:WF F d) (x:Act S):∃d',WF (kQ z valid F x) d':=by
  unfold kQ
  split
  · exact h.remR x.a
  · split
    · exact h.movR x.a x.b x.c
    · split
      · exact h.setR valid x.a x.sty
      · exact h.addR z x.a x.b
theorem WF.aea:∀(l:List (Act S)) {F:ar S} {d:Int→Nat},WF F d→∃d',WF (u7 z valid F l) d'
  | [],_,d,h=>⟨d,h⟩
  | x :: l, _, _, h => by
    obtain⟨d',h'⟩:=h.act z valid x;exact WF.aea l h'
theorem FF (l:List (Act S)):∃d',WF (u7 z valid (nz z) l) d':=WF.aea z valid l (WF.new z)
theorem DU (l:List (Act S)) (x:Act S) (F:ar S):u7 z valid F (l++[x])=kQ z valid (u7 z valid F l) x:=by simp[u7]
end
def cut (n:Int):Int:=min (max n (-1099511627776)) 1099511627776
def jq (n lo hi:Int):Int:=max (cut lo) (min (cut n) (cut hi))
theorem dT (n:Int):-1099511627776≤cut n∧cut n≤1099511627776:=by unfold cut;omega
theorem w7 {n:Int} (h:-1099511627776≤n) (h':n≤1099511627776):cut n=n:=by unfold cut;omega
theorem ml {n lo hi:Int} (h0:-1099511627776≤lo) (h1:lo≤hi) (h2:hi≤1099511627776):jq n lo hi=max lo (min n hi):=by
  unfold jq cut;omega
theorem bI (n:Int) (w:World):
    Calls Tryz.prog 60 #[.int .i64 n] w fun e w'=>e=.returned (.int .i64 (cut n))∧w=w':=by
  refine bK Tryz.func60 rfl Tryz.ntmps60 (by simp) ?_;refine eh ?_;refine sg (v:=.int .i64 (0)) rfl ?_;refine nl (oo ?_);refine eh ?_;refine lj rfl ?_;refine vl (Dv rfl rfl) ?_;refine vl (HP rfl rfl) ?_;refine IV rfl ?_;refine nl (oo ?_);exact WP.cP Tryz.results60 (fun _ h=>h) (fun w hw=>⟨rfl,hw.symm⟩)
theorem kN (n lo hi:Int) (w:World):
    Calls Tryz.prog 64 #[.int .i64 n,.int .i64 lo,.int .i64 hi] w fun e w'=>e=.returned (.int .i64 (jq n lo hi))∧w=w':=by
  refine bK Tryz.func64 rfl Tryz.ntmps64 (by simp) ?_;refine eh ?_;refine sg (v:=.int .i64 (0)) rfl ?_;refine nl (oo ?_);refine eh ?_;refine lj rfl ?_;refine vl (qC Tryz.call60 (fun w hw=>bI _ _)) ?_;refine lj rfl ?_;refine vl (qC Tryz.call60 (fun w hw=>bI _ _)) ?_;refine lj rfl ?_;refine vl (qC Tryz.call60 (fun w hw=>bI _ _)) ?_;refine vl (HP rfl rfl) ?_;refine vl (Dv rfl rfl) ?_;refine IV rfl ?_;refine nl (oo ?_);exact WP.cP Tryz.results64 (fun _ h=>h) (fun w hw=>⟨rfl,hw.symm⟩)
end Go.Proofs.YtbedndijejpcaaaGreat
