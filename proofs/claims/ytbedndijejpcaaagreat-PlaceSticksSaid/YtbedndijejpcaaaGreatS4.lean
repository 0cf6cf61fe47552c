/- Map TreePure TreeOps TreeAct Fix -/
import Derived.Test.YtbedndijejpcaaaGreatS3
set_option linter.unusedVariables false
set_option linter.unusedSimpArgs false
set_option linter.unusedSectionVars false
set_option maxRecDepth 100000
set_option maxHeartbeats 8000000
namespace Go.Proofs.YtbedndijejpcaaaGreat
open Go.RowKit
def lookM:List (Int×Value)→Int→Option Value
  | [],_=>none
  | p::m,k=>if p.1=k then some p.2 else lookM m k
def putM:List (Int×Value)→Int→Value→List (Int×Value)
  | [],k,v=>[(k,v)]
  | p::m,k,v=>if p.1=k then (k,v)::m else p::putM m k v
def delM:List (Int×Value)→Int→List (Int×Value)
  | [],_=>[]
  | p::m,k=>if p.1=k then m else p::delM m k
def entsL:List (Int×Value)→List Nat→List MapEntry
  | p::m,b::bs=>⟨.int .i64 p.1,p.2,b⟩::entsL m bs
  | _,_=>[]
def mapP (b:Nat) (m:List (Int×Value)) (w:World):Prop:=∃(bs:List Nat) (clock:Nat),bs.length=m.length∧bs.Nodup∧(∀s∈bs,s<clock)∧w.heap[b]?=some (.map (entsL m bs).toArray clock)
def mapI (b:Nat) (m:List (Int×Value)):HI:=.gen (fun k=>k=b) (mapP b m)
theorem mapP_local (b:Nat) (m:List (Int×Value)):Local (fun k=>k=b) (mapP b m):=
  ⟨fun w w' hk ⟨bs,c,h1,h2,h3,h4⟩=>⟨bs,c,h1,h2,h3,(hk b rfl).trans h4⟩,fun w ⟨bs,c,h1,h2,h3,h4⟩ k hk=>by subst hk;exact lt_of_some h4⟩
theorem entsL_len:∀{m:List (Int×Value)} {bs:List Nat},bs.length=m.length→(entsL m bs).length=m.length
  | [],[],_=>rfl
  | _::m,_::bs,h=>by simp only[entsL,List.length_cons];rw[entsL_len (by simpa using h)]
theorem findNow_int {q:IntKind} (k:Int):∀(m:List (Int×Value)) (bs:List Nat) (i:Nat),bs.length=m.length→
    ∃r,Instr.findNow (.int q) (.int .i64 k) (entsL m bs) i=some r∧r.map (·.2)=lookM m k∧(∀p,r=some p→∃j,p.1=i+j∧(∀v,putM m k v=m.set j (k,v))∧delM m k=m.eraseIdx j∧j<m.length∧∃u,m[j]?=some (k,u))∧(r=none→(∀v,putM m k v=m++[(k,v)])∧delM m k=m∧∀p∈m,p.1≠k)
  | [],[],i,_=>⟨none,rfl,rfl,fun p h=>(by cases h),fun _=>⟨fun _=>rfl,rfl,by simp⟩⟩
  | p :: m, b :: bs, i, h => by
    simp only[entsL,Instr.findNow,Instr.sameNow,if_true]
    by_cases e:p.1=k
    · have e' : (k == p.1) = true := by simp [e]
      rw[e'];refine⟨some (i,p.2),rfl,by simp[lookM,e],fun q hq=>?_,fun h=>(by cases h)⟩;cases hq;exact⟨0,rfl,fun v=>by simp[putM,e],by simp[delM,e],by simp,p.2,by rw[←e];rfl⟩
    · have e' : (k == p.1) = false := by simpa using fun h => e h.symm
      rw[e'];obtain⟨r,h1,h2,h3,h4⟩:=findNow_int k m bs (i+1) (by simpa using h);refine⟨r,h1,by rw[h2];simp[lookM,e],fun q hq=>?_,fun hn=>?_⟩
      · obtain ⟨j, hj, hp, hd, hl, u, hu⟩ := h3 q hq
        exact⟨j+1,by omega,fun v=>by simp[putM,e,hp v],by simp[delM,e,hd],by simp;omega,u,by simpa using hu⟩
      · obtain ⟨hp, hd, hall⟩ := h4 hn
        refine⟨fun v=>by simp[putM,e,hp v],by simp[delM,e,hd],fun x hx=>?_⟩
        rcases List.mem_cons.1 hx with rfl | hx
        · exact e
        · exact hall x hx
theorem entsL_set (k:Int) (v:Value):∀(m:List (Int×Value)) (bs:List Nat) (j:Nat),bs.length=m.length→(∃u,m[j]?=some (k,u))→(entsL m bs).modify j (fun e=>{e with key:=.int .i64 k,val:=v})=entsL (m.set j (k,v)) bs
  | [],[],j,_,⟨u,hu⟩=>by simp at hu
  | p::m,b::bs,0,_,⟨u,hu⟩=>by simp[entsL]
  | p :: m, b :: bs, j + 1, h, ⟨u, hu⟩ => by
    simp only[entsL,List.modify_succ_cons,List.set_cons_succ];rw[entsL_set k v m bs j (by simpa using h) ⟨u,by simpa using hu⟩]
theorem entsL_erase:∀(m:List (Int×Value)) (bs:List Nat) (j:Nat),bs.length=m.length→(entsL m bs).eraseIdx j=entsL (m.eraseIdx j) (bs.eraseIdx j)
  | [],[],j,_=>by simp[entsL]
  | p::m,b::bs,0,_=>by simp[entsL]
  | p :: m, b :: bs, j + 1, h => by
    simp only[entsL,List.eraseIdx_cons_succ];rw[entsL_erase m bs j (by simpa using h)]
theorem entsL_snoc (p:Int×Value) (s:Nat):∀(m:List (Int×Value)) (bs:List Nat),bs.length=m.length→entsL (m++[p]) (bs++[s])=entsL m bs++[⟨.int .i64 p.1,p.2,s⟩]
  | [],[],_=>rfl
  | q :: m, b :: bs, h => by
    simp only[List.cons_append,entsL];rw[entsL_snoc p s m bs (by simpa using h)]
section
variable {P:Program} {r:Option Nat} {S:World→Prop} {ρ:Env} {dst:Option Tmp} {ty:TypeId} {pos:String} {af:Array Edge} {g:Option (Nat×Bool)} {t kt et:TypeId} {x y v:Operand} {q:IntKind}
theorem run_checkKeyN {w:World} (e:Bool) (n:Nat) (hk:P.underlying kt=some (.int q)) (k:Int):(Instr.checkKey e (n+1) kt (.int .i64 k)).run P w=.ok () w:=by
  simp[Instr.checkKey,run_underlying hk]
theorem run_checkKey {w:World} (e:Bool) (hk:P.underlying kt=some (.int q)) (k:Int):(Instr.checkKey e 10000 kt (.int .i64 k)).run P w=.ok () w:=run_checkKeyN e 9999 hk k
theorem run_lookup {w:World} {b:Nat} {m:List (Int×Value)} {z:Value} (ht:P.underlying t=some (.map kt et)) (hk:P.underlying kt=some (.int q)) (hz:(zeroValue et).run P w=.ok z w) (hm:mapP b m w) (k:Int) (ok:Bool):
    (Instr.lookup t (.map (some b)) (.int .i64 k) ok).run P w=.ok (if ok then .tuple #[(lookM m k).getD z,.bool (lookM m k).isSome] else (lookM m k).getD z) w:=by
  obtain⟨bs,c,h1,h2,h3,h4⟩:=hm;obtain⟨rr,e1,e2,_,_⟩:=findNow_int (q:=q) k m bs 0 h1;have hf:(Instr.findKey kt (.int .i64 k) (entsL m bs).toArray.toList).run P w=.ok rr w:=by simp[Instr.findKey,run_underlying hk,e1]
  have hg:(getObj b).run P w=.ok (.map (entsL m bs).toArray c) w:=by simp[getObj,Sem.run,h4]
  simp only[Instr.lookup,Sem.run_bind,run_underlying ht,Result.andThen_ok,hg,Sem.run_pure,run_checkKey _ hk,hf];rw[←e2];cases rr with
  | none=>cases ok<;>simp[hz]
  | some p=>cases ok<;>simp
theorem v_lookup {b:Nat} {m:List (Int×Value)} {z:Value} {k:Int} (ht:P.underlying t=some (.map kt et)) (hk:P.underlying kt=some (.int q)) (hz:∀w,(zeroValue et).run P w=.ok z w) (hx:evo ρ x=.map (some b)) (hy:evo ρ y=.int .i64 k) (hm:∀w,S w→mapP b m w):
    OpV P S ⟨dst,.lookup t x y false,ty,pos,af,g⟩ ρ ((lookM m k).getD z):=v_run fun w hw=>by
  have h:=run_lookup ht hk (hz w) (hm w hw) k false;simp only[execOp,Sem.run_bind,hx,hy,Sem.run_pure,Result.andThen];rw[h];rfl
theorem v_lookupOk {b:Nat} {m:List (Int×Value)} {z:Value} {k:Int} (ht:P.underlying t=some (.map kt et)) (hk:P.underlying kt=some (.int q)) (hz:∀w,(zeroValue et).run P w=.ok z w) (hx:evo ρ x=.map (some b)) (hy:evo ρ y=.int .i64 k) (hm:∀w,S w→mapP b m w):
    OpV P S ⟨dst,.lookup t x y true,ty,pos,af,g⟩ ρ (.tuple #[(lookM m k).getD z,.bool (lookM m k).isSome]):=v_run fun w hw=>by
  have h:=run_lookup ht hk (hz w) (hm w hw) k true;simp only[execOp,Sem.run_bind,hx,hy,Sem.run_pure,Result.andThen];rw[h];rfl
theorem v_lenMap {b:Nat} {m:List (Int×Value)} (ht:P.underlying t=some (.map kt et)) (hx:evo ρ x=.map (some b)) (hm:∀w,S w→mapP b m w):OpV P S ⟨dst,.call ⟨.builtin .len,#[x],#[t]⟩,ty,pos,af,g⟩ ρ (.int .i64 (m.length:Int)):=v_run fun w hw=>by
  obtain⟨bs,c,h1,h2,h3,h4⟩:=hm w hw;have hg:(getObj b).run P w=.ok (.map (entsL m bs).toArray c) w:=by simp[getObj,Sem.run,h4]
  simp[execOp,resolve,invoke,builtin,hx,Builtin.len_,Result.andThen,goInt,run_underlying ht,hg,entsL_len h1]
theorem run_eqNilN {e:TypeId} {p:Option Addr} (n:Nat) (ht:P.underlying t=some (.pointer e)) (w:World):(Op.equalIn (n+1) t (.pointer p) (.pointer none)).run P w=.ok p.isNone w:=by
  cases p<;>simp[Op.equalIn,run_underlying ht]
theorem run_ptrNil {e:TypeId} {p:Option Addr} {t2:TypeId} (op:BinOp) (hop:op=.eql∨op=.neq) (ht:P.underlying t=some (.pointer e)) (hx:evo ρ x=.pointer p) (hy:evo ρ y=.pointer none) (w:World):
    (execOp (evo ρ) ⟨dst,.binOp op t x y t2,ty,pos,af,g⟩).run P w=.ok (.value (.bool (if op=.eql then p.isNone else p.isSome))) w:=by
  have e:(eqGuard op t x y (.pointer p) (.pointer none)).run P w=.ok () w:=by rcases hop with rfl | rfl<;>rfl
  have h1:(Op.equalIn 10000 t (.pointer p) (.pointer none)).run P w=.ok p.isNone w:=run_eqNilN 9999 ht w
  rcases hop with rfl | rfl
  · simp[execOp,hx,hy,e,binOp,Op.equal,Op.maxDepth,h1,Result.andThen]
  · simp[execOp,hx,hy,e,binOp,Op.equal,Op.maxDepth,h1,Result.andThen]
theorem v_eqNil {e:TypeId} {p:Option Addr} {t2:TypeId} (ht:P.underlying t=some (.pointer e)) (hx:evo ρ x=.pointer p) (hy:evo ρ y=.pointer none):OpV P S ⟨dst,.binOp .eql t x y t2,ty,pos,af,g⟩ ρ (.bool p.isNone):=v_run fun w _=>by
  have h:=run_ptrNil (P:=P) (dst:=dst) (ty:=ty) (pos:=pos) (af:=af) (g:=g) (t2:=t2) .eql (.inl rfl) ht hx hy w
  simpa using h
theorem v_neNil {e:TypeId} {p:Option Addr} {t2:TypeId} (ht:P.underlying t=some (.pointer e)) (hx:evo ρ x=.pointer p) (hy:evo ρ y=.pointer none):OpV P S ⟨dst,.binOp .neq t x y t2,ty,pos,af,g⟩ ρ (.bool p.isSome):=v_run fun w _=>by
  have h:=run_ptrNil (P:=P) (dst:=dst) (ty:=ty) (pos:=pos) (af:=af) (g:=g) (t2:=t2) .neq (.inr rfl) ht hx hy w
  simpa using h
section
variable {w0:World} {M:Nat→Prop} {σ σ':List HI}
theorem St.mapAt {w:World} {i b:Nat} {m:List (Int×Value)} (h:St w0 M σ w) (hi:σ[i]?=some (mapI b m)):mapP b m w:=(h.all _ (List.mem_of_getElem? hi)).2
theorem run_setObj {w:World} {b:Nat} {es:Array MapEntry} {c:Nat} {o':Obj} (h:w.heap[b]?=some (.map es c)):(setObj b o').run P w=.ok () (w.putObj b o'):=by
  simp[setObj,Sem.run,World.putObj,h]
theorem St.putMap {w:World} {i b:Nat} {m m':List (Int×Value)} {o':Obj} (h:St w0 M σ w) (hi:σ[i]?=some (mapI b m)) (hp:∀w',w'.heap[b]?=some o'→mapP b m' w'):St w0 M (σ.set i (mapI b m')) (w.putObj b o'):=by
  obtain⟨bs,c,h1,h2,h3,h4⟩:=h.mapAt hi;have hlt:=lt_of_some h4;refine h.upd hi (St.turn (fun k _ hn=>World.putObj_heap_other hn) ⟨mapP_local b m',hp _ (World.putObj_heap_same hlt)⟩ (fun _ hb=>.inr hb) rfl rfl rfl (by simp))
theorem x_mapPut {i b:Nat} {m:List (Int×Value)} {k:Int} {u:Value} (ht:P.underlying t=some (.map kt et)) (hk:P.underlying kt=some (.int q)) (hx:evo ρ x=.map (some b)) (hy:evo ρ y=.int .i64 k) (hv:evo ρ v=u) (hi:σ[i]?=some (mapI b m)) (hσ:σ.set i (mapI b (putM m k u))=σ'):
    OpX P r (St w0 M σ) ⟨dst,.mapUpdate t x y v,ty,pos,af,g⟩ ρ (X:=Unit) (fun _=>undef) (fun _=>St w0 M σ'):=OpX.of_skip rfl fun w hw=>by
  have hm:=hw.mapAt hi;obtain⟨bs,c,h1,h2,h3,h4⟩:=hm;obtain⟨rr,e1,_,e3,e4⟩:=findNow_int (q:=q) k m bs 0 h1;have hf:(Instr.findKey kt (.int .i64 k) (entsL m bs).toArray.toList).run P w=.ok rr w:=by simp[Instr.findKey,run_underlying hk,e1]
  have hg:(getObj b).run P w=.ok (.map (entsL m bs).toArray c) w:=by simp[getObj,Sem.run,h4]
  cases rr with
  | none =>
    obtain⟨hp,_,hall⟩:=e4 rfl;refine⟨w.putObj b (.map ((entsL m bs).toArray.push ⟨.int .i64 k,u,c⟩) (c+1)),?_,?_⟩
    · simp only[execOp,Sem.run_bind,hx,hy,hv,Sem.run_pure,Result.andThen,Instr.mapUpdate,run_underlying ht,hg,run_checkKey _ hk,hf,run_setObj h4]
    · rw [← hσ]
      refine hw.putMap hi fun w' hw'=>⟨bs++[c],c+1,by rw[hp];simp[h1],?_,fun s hs=>?_,?_⟩
      · rw [List.nodup_append]
        refine⟨h2,by simp,fun a ha d hd e=>?_⟩;have:=h3 a ha;simp at hd;omega
      · rcases List.mem_append.1 hs with hs | hs
        · have:=h3 s hs;omega
        · simp at hs;omega
      · rw [hp, entsL_snoc _ _ _ _ h1, hw']
        simp
  | some p =>
    obtain⟨j,hj,hp,hd,hl,u0,hu⟩:=e3 p rfl;have hj':p.1=j:=by omega
    have hent:∃en,(entsL m bs)[j]?=some en∧en.key=.int .i64 k:=by
      have key:∀(m:List (Int×Value)) (bs:List Nat) (j:Nat),bs.length=m.length→m[j]?=some (k,u0)→∃en,(entsL m bs)[j]?=some en∧en.key=.int .i64 k:=by
        intro m;induction m with
        | nil=>intro bs j _ h;simp at h
        | cons p m ih =>
          intro bs j hb h;cases bs with
          | nil=>simp at hb
          | cons b bs =>
            cases j with
            | zero=>simp at h;exact⟨_,rfl,by rw[h]⟩
            | succ j=>exact ih bs j (by simpa using hb) (by simpa using h)
      exact key m bs j h1 hu
    obtain⟨en,hen,henk⟩:=hent;refine⟨w.putObj b (.map ((entsL m bs).toArray.modify p.1 fun e=>{e with key:=.int .i64 k,val:=u}) c),?_,?_⟩
    · have hst:(Instr.keyThatStays ((((entsL m bs).toArray[p.1]?).map (·.key)).getD (.int .i64 k)) (.int .i64 k)).run P w=.ok (.int .i64 k) w:=by
        rw[hj',List.getElem?_toArray,hen];simp[henk,Instr.keyThatStays,Instr.sameBits]
      simp only[execOp,Sem.run_bind,hx,hy,hv,Sem.run_pure,Result.andThen,Instr.mapUpdate,run_underlying ht,hg,run_checkKey _ hk,hf,hst,run_setObj h4]
    · rw [← hσ]
      refine hw.putMap hi fun w' hw'=>⟨bs,c,by rw[hp];simp[h1],h2,h3,?_⟩;rw[hp,hw',hj',←entsL_set k u m bs j h1 ⟨u0,hu⟩];simp[List.modify_toArray]
theorem x_mapIns {i b:Nat} {m:List (Int×Value)} {k:Int} {u:Value} (ht:P.underlying t=some (.map kt et)) (hk:P.underlying kt=some (.int q)) (hx:evo ρ x=.map (some b)) (hy:evo ρ y=.int .i64 k) (hv:evo ρ v=u) (hi:σ[i]?=some (mapI b m)) (hσ:σ.set i (mapI b (putM m k u))=σ'):
    OpX P r (St w0 M σ) ⟨dst,.insert t x y v,ty,pos,af,g⟩ ρ (X:=Unit) (fun _=>undef) (fun _=>St w0 M σ'):=OpX.of_skip rfl fun w hw=>by
  have hm:=hw.mapAt hi;obtain⟨bs,c,h1,h2,h3,h4⟩:=hm;obtain⟨rr,e1,_,e3,e4⟩:=findNow_int (q:=q) k m bs 0 h1;have hf:(Instr.findKey kt (.int .i64 k) (entsL m bs).toArray.toList).run P w=.ok rr w:=by simp[Instr.findKey,run_underlying hk,e1]
  have hg:(getObj b).run P w=.ok (.map (entsL m bs).toArray c) w:=by simp[getObj,Sem.run,h4]
  cases rr with
  | none =>
    obtain⟨hp,_,hall⟩:=e4 rfl;refine⟨w.putObj b (.map ((entsL m bs).toArray.push ⟨.int .i64 k,u,c⟩) (c+1)),?_,?_⟩
    · simp only[execOp,Sem.run_bind,hx,hy,hv,Sem.run_pure,Result.andThen,Instr.mapUpdate,run_underlying ht,hg,run_checkKey _ hk,hf,run_setObj h4]
    · rw [← hσ]
      refine hw.putMap hi fun w' hw'=>⟨bs++[c],c+1,by rw[hp];simp[h1],?_,fun s hs=>?_,?_⟩
      · rw [List.nodup_append]
        refine⟨h2,by simp,fun a ha d hd e=>?_⟩;have:=h3 a ha;simp at hd;omega
      · rcases List.mem_append.1 hs with hs | hs
        · have:=h3 s hs;omega
        · simp at hs;omega
      · rw [hp, entsL_snoc _ _ _ _ h1, hw']
        simp
  | some p =>
    obtain⟨j,hj,hp,hd,hl,u0,hu⟩:=e3 p rfl;have hj':p.1=j:=by omega
    have hent:∃en,(entsL m bs)[j]?=some en∧en.key=.int .i64 k:=by
      have key:∀(m:List (Int×Value)) (bs:List Nat) (j:Nat),bs.length=m.length→m[j]?=some (k,u0)→∃en,(entsL m bs)[j]?=some en∧en.key=.int .i64 k:=by
        intro m;induction m with
        | nil=>intro bs j _ h;simp at h
        | cons p m ih =>
          intro bs j hb h;cases bs with
          | nil=>simp at hb
          | cons b bs =>
            cases j with
            | zero=>simp at h;exact⟨_,rfl,by rw[h]⟩
            | succ j=>exact ih bs j (by simpa using hb) (by simpa using h)
      exact key m bs j h1 hu
    obtain⟨en,hen,henk⟩:=hent;refine⟨w.putObj b (.map ((entsL m bs).toArray.modify p.1 fun e=>{e with key:=.int .i64 k,val:=u}) c),?_,?_⟩
    · have hst:(Instr.keyThatStays ((((entsL m bs).toArray[p.1]?).map (·.key)).getD (.int .i64 k)) (.int .i64 k)).run P w=.ok (.int .i64 k) w:=by
        rw[hj',List.getElem?_toArray,hen];simp[henk,Instr.keyThatStays,Instr.sameBits]
      simp only[execOp,Sem.run_bind,hx,hy,hv,Sem.run_pure,Result.andThen,Instr.mapUpdate,run_underlying ht,hg,run_checkKey _ hk,hf,hst,run_setObj h4]
    · rw [← hσ]
      refine hw.putMap hi fun w' hw'=>⟨bs,c,by rw[hp];simp[h1],h2,h3,?_⟩;rw[hp,hw',hj',←entsL_set k u m bs j h1 ⟨u0,hu⟩];simp[List.modify_toArray]
theorem x_mapDel {i b:Nat} {m:List (Int×Value)} {k:Int} (ht:P.underlying t=some (.map kt et)) (hk:P.underlying kt=some (.int q)) (hx:evo ρ x=.map (some b)) (hy:evo ρ y=.int .i64 k) (hi:σ[i]?=some (mapI b m)) (hσ:σ.set i (mapI b (delM m k))=σ') {t2:TypeId}:
    OpX P r (St w0 M σ) ⟨dst,.call ⟨.builtin .delete,#[x,y],#[t,t2]⟩,ty,pos,af,g⟩ ρ (X:=Unit) (fun _=>.tuple #[]) (fun _=>St w0 M σ'):=OpX.of_run rfl fun w hw=>by
  have hm:=hw.mapAt hi;obtain⟨bs,c,h1,h2,h3,h4⟩:=hm;obtain⟨rr,e1,_,e3,e4⟩:=findNow_int (q:=q) k m bs 0 h1;have hf:(Instr.findKey kt (.int .i64 k) (entsL m bs).toArray.toList).run P w=.ok rr w:=by simp[Instr.findKey,run_underlying hk,e1]
  have hg:(getObj b).run P w=.ok (.map (entsL m bs).toArray c) w:=by simp[getObj,Sem.run,h4]
  cases rr with
  | none =>
    obtain⟨_,hd,hall⟩:=e4 rfl;refine⟨(),w.putObj b (.map (entsL m bs).toArray c),?_,?_⟩
    · simp[execOp,resolve,invoke,builtin,hx,hy,Builtin.delete_,run_underlying ht,hg,run_checkKey _ hk,hf,run_setObj h4,Result.andThen]
    · rw [← hσ, hd]
      exact hw.putMap hi fun w' hw'=>⟨bs,c,h1,h2,h3,hw'⟩
  | some p =>
    obtain⟨j,hj,hp,hd,hl,u0,hu⟩:=e3 p rfl;have hj':p.1=j:=by omega
    refine⟨(),w.putObj b (.map ((entsL m bs).toArray.eraseIdxIfInBounds p.1) c),?_,?_⟩
    · simp[execOp,resolve,invoke,builtin,hx,hy,Builtin.delete_,run_underlying ht,hg,run_checkKey _ hk,hf,run_setObj h4,Result.andThen]
    · rw [← hσ, hd]
      refine hw.putMap hi fun w' hw'=>⟨bs.eraseIdx j,c,?_,h2.sublist (List.eraseIdx_sublist _ _),fun s hs=>h3 s (List.mem_of_mem_eraseIdx hs),?_⟩
      · rw[List.length_eraseIdx,List.length_eraseIdx,h1]
      · rw [hw', hj', ← entsL_erase m bs j h1]
        simp
theorem x_makeMap {σ':Nat→List HI} (hσ:∀b,σ++[mapI b []]=σ' b):OpX P r (St w0 M σ) ⟨dst,.makeMap t none,ty,pos,af,g⟩ ρ (X:=Nat) (fun b=>.map (some b)) (fun b=>St w0 M (σ' b)):=OpX.of_run rfl fun w hw=>by
  refine⟨w.heap.size,w.alloc (.map #[] 0),by simp[execOp,Instr.makeMap,newObj,Sem.run],?_⟩;rw[←hσ];refine hw.add ⟨rfl,rfl,rfl,by simp,fun b hb _=>Below.heap_alloc w _ b hb,?_,List.pairwise_singleton _ _,?_⟩
  · intro i hi
    obtain rfl:i=_:=by simpa using hi
    exact⟨mapP_local _ _,[],0,rfl,List.nodup_nil,by simp,World.alloc_heap_new w _⟩
  · intro i hi b hb
    obtain rfl:i=_:=by simpa using hi
    obtain rfl:b=w.heap.size:=hb;exact .inl (Nat.le_refl _)
end
end
end Go.Proofs.YtbedndijejpcaaaGreat
namespace Go.Proofs.YtbedndijejpcaaaGreat
structure TBox (S:Type) where
  up:Int
  kids:List Int
  sty:S
abbrev Forest (S:Type):=Int→Option (TBox S)
section
variable {S:Type} {F:Forest S} {d:Int→Nat}
def hasF (F:Forest S) (id:Int):Bool:=(F id).isSome
def upF (F:Forest S) (id:Int):Int:=match F id with | some b=>b.up | none=>-1
def kidsF (F:Forest S) (id:Int):List Int:=match F id with | some b=>b.kids | none=>[]
def styF (z:S) (F:Forest S) (id:Int):S:=match F id with | some b=>b.sty | none=>z
structure WF (F:Forest S) (d:Int→Nat):Prop where
  root:∃b,F 0=some b∧b.up= -1
  par:∀x b,F x=some b→x≠0→∃u,F b.up=some u∧x∈u.kids
  kid:∀x b,F x=some b→∀k∈b.kids,k≠0∧∃c,F k=some c∧c.up=x
  nodup:∀x b,F x=some b→b.kids.Nodup
  rank0:d 0=0
  rank:∀x b,F x=some b→x≠0→d x=d b.up+1
  deep:∀x b,F x=some b→d x≤63
  range:∀x b,F x=some b→0≤x∧x<4096
def insideF (F:Forest S):Nat→Int→List Int
  | 0,_=>[]
  | n+1,x=>if hasF F x then x::(kidsF F x).flatMap (insideF F n) else []
def sub (F:Forest S) (x:Int):List Int:=insideF F 64 x
def chainF (F:Forest S):Nat→Int→Nat
  | 0,_=>0
  | n+1,x=>if hasF F x then chainF F n (upF F x)+1 else 0
def depthF (F:Forest S) (x:Int):Int:=(chainF F 64 x:Int) - 1
inductive Anc (F:Forest S) (a:Int):Int→Prop
  | refl:hasF F a=true→Anc F a a
  | step {x:Int} {b:TBox S}:F x=some b→x≠0→Anc F a b.up→Anc F a x
theorem has_some {x:Int} {b:TBox S} (h:F x=some b):hasF F x=true:=by simp[hasF,h]
theorem some_has {x:Int} (h:hasF F x=true):∃b,F x=some b:=Option.isSome_iff_exists.1 h
theorem has_none {x:Int} (h:F x=none):hasF F x=false:=by simp[hasF,h]
theorem none_has {x:Int} (h:hasF F x=false):F x=none:=by simpa [hasF] using h
theorem kids_some {x:Int} {b:TBox S} (h:F x=some b):kidsF F x=b.kids:=by simp[kidsF,h]
theorem up_some {x:Int} {b:TBox S} (h:F x=some b):upF F x=b.up:=by simp[upF,h]
theorem WF.neg (h:WF F d) {x:Int} (hx:x<0):F x=none:=by
  cases e:F x with
  | none=>rfl
  | some b=>have:=(h.range x b e).1;omega
theorem WF.kid_rank (h:WF F d) {x:Int} {b:TBox S} (hx:F x=some b) {k:Int} (hk:k∈b.kids):d k=d x+1:=by
  obtain⟨h0,c,hc,hu⟩:=h.kid x b hx k hk;rw[h.rank k c hc h0,hu]
theorem inside_some (n:Nat) {x:Int} {b:TBox S} (hx:F x=some b):insideF F (n+1) x=x::b.kids.flatMap (insideF F n):=by
  rw[insideF,if_pos (has_some hx),kids_some hx]
theorem inside_none (n:Nat) {x:Int} (hx:F x=none):insideF F n x=[]:=by
  cases n with
  | zero=>rfl
  | succ n=>rw[insideF,if_neg (by simp[has_none hx])]
theorem flatMap_congr' {α β:Type} {f g:α→List β}:∀{l:List α},(∀x∈l,f x=g x)→l.flatMap f=l.flatMap g
  | [],_=>rfl
  | x::l,h=>by rw[List.flatMap_cons,List.flatMap_cons,h x (by simp),flatMap_congr' fun y hy=>h y (by simp[hy])]
theorem WF.inside_fuel (h:WF F d):∀(n m:Nat) (x:Int),64≤n+d x→64≤m+d x→insideF F n x=insideF F m x:=by
  intro n;induction n with
  | zero =>
    intro m x hn hm;cases e:F x with
    | none=>rw[inside_none _ e,inside_none _ e]
    | some b=>have:=h.deep x b e;omega
  | succ n ih =>
    intro m x hn hm;cases e:F x with
    | none=>rw[inside_none _ e,inside_none _ e]
    | some b =>
      have:=h.deep x b e;cases m with
      | zero=>omega
      | succ m =>
        rw[inside_some n e,inside_some m e]
        congr 1
        refine flatMap_congr' fun k hk=>?_;have:=h.kid_rank e hk;exact ih m k (by omega) (by omega)
theorem WF.sub_eq (h:WF F d) {x:Int} {b:TBox S} (hx:F x=some b):sub F x=x::b.kids.flatMap (sub F):=by
  unfold sub;rw[inside_some 63 hx]
  congr 1
  refine flatMap_congr' fun k hk=>?_;have:=h.kid_rank hx hk;exact h.inside_fuel 63 64 k (by omega) (by omega)
theorem sub_none {x:Int} (hx:F x=none):sub F x=[]:=inside_none 64 hx
theorem inside_has:∀(n:Nat) (x y:Int),y∈insideF F n x→hasF F y=true:=by
  intro n;induction n with
  | zero=>intro x y h;simp[insideF] at h
  | succ n ih =>
    intro x y h;rw[insideF] at h
    split at h
    · rename_i hx
      rcases List.mem_cons.1 h with rfl | h
      · exact hx
      · obtain ⟨k, _, hk⟩ := List.mem_flatMap.1 h
        exact ih k y hk
    · simp at h
theorem sub_has {x y:Int} (h:y∈sub F x):hasF F y=true:=inside_has 64 x y h
theorem Anc.has {a x:Int} (h:Anc F a x):hasF F a=true∧hasF F x=true:=by
  induction h with
  | refl h=>exact⟨h,h⟩
  | step hx _ _ ih=>exact⟨ih.1,has_some hx⟩
theorem WF.anc_le (h:WF F d) {a x:Int} (ha:Anc F a x):d a≤d x:=by
  induction ha with
  | refl _=>exact Nat.le_refl _
  | step hx h0 _ ih=>rw[h.rank _ _ hx h0];omega
theorem WF.anc_uniq (h:WF F d) {a b x:Int} (ha:Anc F a x) (hb:Anc F b x) (e:d a=d b):a=b:=by
  induction ha with
  | refl hx =>
    cases hb with
    | refl=>rfl
    | step hx' h0 hb' =>
      have h1:=h.anc_le hb';have h2:=h.rank _ _ hx' h0;omega
  | @step x c hx h0 ha' ih =>
    cases hb with
    | refl =>
      have h1:=h.anc_le ha';have h2:=h.rank _ _ hx h0;omega
    | step hx' h0' hb' =>
      rw[hx] at hx';cases hx';exact ih hb'
theorem Anc.trans {a b x:Int} (h1:Anc F a b) (h2:Anc F b x):Anc F a x:=by
  induction h2 with
  | refl=>exact h1
  | step hx h0 _ ih=>exact Anc.step hx h0 ih
theorem WF.anc_kid (h:WF F d) {x k:Int} {b:TBox S} (hx:F x=some b) (hk:k∈b.kids):Anc F x k:=by
  obtain⟨h0,c,hc,hu⟩:=h.kid x b hx k hk;refine Anc.step hc h0 ?_;rw[hu];exact Anc.refl (has_some hx)
theorem WF.inside_anc (h:WF F d):∀(n:Nat) (x y:Int),y∈insideF F n x→Anc F x y:=by
  intro n;induction n with
  | zero=>intro x y hy;simp[insideF] at hy
  | succ n ih =>
    intro x y hy;cases e:F x with
    | none=>rw[inside_none _ e] at hy;simp at hy
    | some b =>
      rw[inside_some n e] at hy
      rcases List.mem_cons.1 hy with rfl | hy
      · exact Anc.refl (has_some e)
      · obtain ⟨k, hk, hy⟩ := List.mem_flatMap.1 hy
        exact(h.anc_kid e hk).trans (ih k y hy)
theorem WF.anc_down (h:WF F d) {a y:Int} (ha:Anc F a y) {b:TBox S} (hb:F a=some b):y=a∨∃k∈b.kids,Anc F k y:=by
  induction ha with
  | refl=>exact .inl rfl
  | @step x c hx h0 ha' ih =>
    rcases ih with e | ⟨k,hk,hky⟩
    · obtain ⟨u, hu, hmem⟩ := h.par x c hx h0
      rw[e,hb] at hu;cases hu;exact .inr ⟨x,hmem,Anc.refl (has_some hx)⟩
    · exact .inr ⟨k,hk,Anc.step hx h0 hky⟩
theorem WF.mem_sub (h:WF F d) {x y:Int}:y∈sub F x↔Anc F x y:=by
  refine⟨h.inside_anc 64 x y,fun ha=>?_⟩;have key:∀(n:Nat) (x:Int),64≤n+d x→Anc F x y→y∈sub F x:=by
    intro n;induction n with
    | zero =>
      intro x hn ha;obtain⟨b,hb⟩:=some_has ha.has.1;have:=h.deep x b hb;omega
    | succ n ih =>
      intro x hn ha;obtain⟨b,hb⟩:=some_has ha.has.1;rw[h.sub_eq hb]
      rcases h.anc_down ha hb with rfl | ⟨k,hk,hky⟩
      · simp
      · refine List.mem_cons_of_mem _ (List.mem_flatMap.2 ⟨k, hk, ih k ?_ hky⟩)
        have:=h.kid_rank hb hk;omega
  exact key 64 x (by omega) ha
theorem nodup_flatMap {α β:Type} {f:α→List β}:∀{l:List α},l.Nodup→(∀x∈l,(f x).Nodup)→(∀x∈l,∀y∈l,x≠y→∀z∈f x,z∉f y)→(l.flatMap f).Nodup
  | [],_,_,_=>by simp
  | x :: l, hn, h1, h2 => by
    rw[List.nodup_cons] at hn;rw[List.flatMap_cons,List.nodup_append];refine⟨h1 x (by simp),nodup_flatMap hn.2 (fun y hy=>h1 y (by simp[hy])) fun y hy z hz=>h2 y (by simp[hy]) z (by simp[hz]),fun a ha b hb e=>?_⟩;obtain⟨y,hy,hby⟩:=List.mem_flatMap.1 hb;subst e;exact h2 x (by simp) y (by simp[hy]) (fun e=>hn.1 (by rw[e];exact hy)) a ha hby
theorem WF.sub_nodup (h:WF F d) (x:Int):(sub F x).Nodup:=by
  have key:∀(n:Nat) (x:Int),64≤n+d x→(sub F x).Nodup:=by
    intro n;induction n with
    | zero =>
      intro x hn;cases e:F x with
      | none=>rw[sub_none e];exact List.nodup_nil
      | some b=>have:=h.deep x b e;omega
    | succ n ih =>
      intro x hn;cases e:F x with
      | none=>rw[sub_none e];exact List.nodup_nil
      | some b =>
        rw[h.sub_eq e,List.nodup_cons];refine⟨fun hm=>?_,nodup_flatMap (h.nodup x b e) (fun k hk=>?_) fun k hk l hl hne z hz hz'=>?_⟩
        · obtain ⟨k, hk, hx⟩ := List.mem_flatMap.1 hm
          have h1:=h.anc_le (h.mem_sub.1 hx);have h2:=h.kid_rank e hk;omega
        · have := h.kid_rank e hk
          exact ih k (by omega)
        · exact hne (h.anc_uniq (h.mem_sub.1 hz) (h.mem_sub.1 hz') (by rw[h.kid_rank e hk,h.kid_rank e hl]))
  exact key 64 x (by omega)
theorem WF.anc_root (h:WF F d) {x:Int} (hx:hasF F x=true):Anc F 0 x:=by
  have key:∀(n:Nat) (x:Int),d x≤n→hasF F x=true→Anc F 0 x:=by
    intro n;induction n with
    | zero =>
      intro x hn hx;obtain⟨b,hb⟩:=some_has hx
      by_cases h0:x=0
      · subst h0;exact Anc.refl hx
      · have:=h.rank x b hb h0;omega
    | succ n ih =>
      intro x hn hx;obtain⟨b,hb⟩:=some_has hx
      by_cases h0:x=0
      · subst h0;exact Anc.refl hx
      · obtain ⟨u, hu, _⟩ := h.par x b hb h0
        have:=h.rank x b hb h0;exact Anc.step hb h0 (ih b.up (by omega) (has_some hu))
  exact key (d x) x (Nat.le_refl _) hx
def order (F:Forest S):List Int:=sub F 0
theorem WF.mem_order (h:WF F d) {x:Int}:x∈order F↔hasF F x=true:=⟨sub_has,fun hx=>h.mem_sub.2 (h.anc_root hx)⟩
theorem WF.order_nodup (h:WF F d):(order F).Nodup:=h.sub_nodup 0
theorem WF.chain (h:WF F d):∀(n:Nat) (x:Int),hasF F x=true→d x<n→chainF F n x=d x+1:=by
  intro n;induction n with
  | zero=>intro x _ hn;omega
  | succ n ih =>
    intro x hx hn;obtain⟨b,hb⟩:=some_has hx;rw[chainF,if_pos hx,up_some hb]
    by_cases h0:x=0
    · subst h0
      obtain⟨b',hb',hu⟩:=h.root;rw[hb] at hb';cases hb';rw[hu,h.rank0];cases n with
      | zero=>rfl
      | succ n=>rw[chainF,if_neg (by simp[has_none (h.neg (show (-1:Int)<0 by omega))])]
    · obtain ⟨u, hu, _⟩ := h.par x b hb h0
      have:=h.rank x b hb h0;rw[ih b.up (has_some hu) (by omega)];omega
theorem WF.depth (h:WF F d) {x:Int} (hx:hasF F x=true):depthF F x=d x:=by
  obtain⟨b,hb⟩:=some_has hx;have:=h.deep x b hb;unfold depthF;rw[h.chain 64 x hx (by omega)];omega
theorem nodup_len:∀{l m:List Int},l.Nodup→(∀x∈l,x∈m)→l.length≤m.length
  | [],_,_,_=>by simp
  | x :: l, m, hn, hs => by
    rw[List.nodup_cons] at hn;have hx:=hs x (by simp);have h1:=nodup_len (l:=l) (m:=m.erase x) hn.2 fun y hy=>(List.mem_erase_of_ne (fun(e:y=x)=>hn.1 (by rw[←e];exact hy))).2 (hs y (by simp[hy]));have h2:=List.length_erase_of_mem hx;have h3:0<m.length:=List.length_pos_of_mem hx;simp only[List.length_cons];omega
def leastF (F:Forest S):Nat→Int→Int
  | 0,i=>i
  | n+1,i=>if hasF F i then leastF F n (i+1) else i
theorem least_spec (F:Forest S):∀(n:Nat) (i:Int),i≤leastF F n i∧leastF F n i≤i+n∧(∀x,i≤x→x<leastF F n i→hasF F x=true)∧(leastF F n i<i+n→hasF F (leastF F n i)=false)
  | 0,i=>⟨by simp[leastF],by simp[leastF],fun x h1 h2=>by simp[leastF] at h2;omega,fun h=>by simp[leastF] at h⟩
  | n + 1, i => by
    rw[leastF]
    split
    · rename_i hi
      obtain⟨h1,h2,h3,h4⟩:=least_spec F n (i+1);refine⟨by omega,by omega,fun x hx hx'=>?_,fun h=>h4 (by omega)⟩
      by_cases e:x=i
      · subst e;exact hi
      · exact h3 x (by omega) hx'
    · rename_i hi
      exact⟨by omega,by omega,fun x h1 h2=>by omega,fun _=>by simpa using hi⟩
def least (F:Forest S):Int:=leastF F 4097 0
theorem WF.least_ok (h:WF F d):0≤least F∧least F≤4096∧hasF F (least F)=false∧∀x,0≤x→x<least F→hasF F x=true:=by
  obtain⟨h1,h2,h3,h4⟩:=least_spec F 4097 0;have h5:least F≤4096:=by
    rcases Int.lt_or_le 4096 (least F) with hl | hl
    · obtain ⟨b, hb⟩ := some_has (h3 4096 (by omega) hl)
      have:=(h.range _ _ hb).2;omega
    · exact hl
  exact⟨h1,h5,h4 (by unfold least at h5;omega),h3⟩
theorem WF.least_lt (h:WF F d) (hc:(order F).length<4096):least F<4096:=by
  obtain⟨h1,h2,h3,h4⟩:=h.least_ok
  rcases Int.lt_or_le (least F) 4096 with hl | hl
  · exact hl
  · have h5 := nodup_len (l := (List.range 4096).map fun n : Nat => (n : Int)) (m := order F) (by
      rw [List.nodup_iff_pairwise_ne, List.pairwise_map]
      exact List.Pairwise.imp (fun h e => h (Int.ofNat_inj.1 e)) (List.nodup_iff_pairwise_ne.1 List.nodup_range)) (fun x hx => by
      obtain ⟨n, hn, rfl⟩ := List.mem_map.1 hx
      rw [List.mem_range] at hn
      exact h.mem_order.2 (h4 n (by omega) (by omega)))
    simp at h5;omega
end
end Go.Proofs.YtbedndijejpcaaaGreat
namespace Go.Proofs.YtbedndijejpcaaaGreat
section
variable {S:Type} {F:Forest S} {d:Int→Nat}
def insAt (l:List Int) (k:Nat) (x:Int):List Int:=l.take k++x::l.drop k
def cutK (l:List Int) (x:Int):List Int:=l.filter fun y=>decide (y≠x)
theorem mem_insAt {l:List Int} {k:Nat} {x y:Int}:y∈insAt l k x↔y=x∨y∈l:=by
  unfold insAt;have:y∈l↔y∈l.take k∨y∈l.drop k:=by rw[←List.mem_append,List.take_append_drop]
  simp only[List.mem_append,List.mem_cons,this];constructor
  · rintro (h | h | h)<;>simp[h]
  · rintro (h | h | h)<;>simp[h]
theorem insAt_len {l:List Int} {k:Nat} {x:Int} (h:k≤l.length):(insAt l k x).length=l.length+1:=by
  simp[insAt];omega
theorem insAt_nodup {l:List Int} {k:Nat} {x:Int} (h:l.Nodup) (hx:x∉l):(insAt l k x).Nodup:=by
  have h1:(insAt l k x).Perm (x::l):=by
    unfold insAt;refine List.perm_middle.trans ?_;rw[List.take_append_drop]
  exact h1.nodup_iff.2 (List.nodup_cons.2 ⟨hx,h⟩)
theorem mem_cutK {l:List Int} {x y:Int}:y∈cutK l x↔y∈l∧y≠x:=by simp[cutK]
theorem cutK_nodup {l:List Int} {x:Int} (h:l.Nodup):(cutK l x).Nodup:=List.Pairwise.filter _ h
theorem cutK_of_not {l:List Int} {x:Int} (h:x∉l):cutK l x=l:=List.filter_eq_self.2 fun _ hy=>decide_eq_true fun e=>h (e▸hy)
theorem insAt_cut {l:List Int} {i:Nat} {x:Int} (h:l.Nodup) (hx:l[i]?=some x):insAt (cutK l x) i x=l:=by
  obtain⟨hi,e⟩:=List.getElem?_eq_some_iff.1 hx;have h1:l=l.take i++x::l.drop (i+1):=by
    conv=>lhs;rw[←List.take_append_drop i l]
    rw[List.drop_eq_getElem_cons hi,e]
  have h2:x∉l.take i∧x∉l.drop (i+1):=by
    rw[h1,List.nodup_append] at h;refine⟨fun hm=>h.2.2 x hm x (by simp) rfl,fun hm=>?_⟩;exact(List.nodup_cons.1 h.2.1).1 hm
  have h3:cutK l x=l.take i++l.drop (i+1):=by
    conv=>lhs;rw[h1]
    unfold cutK;rw[List.filter_append,List.filter_cons_of_neg (by simp)];show cutK _ x++cutK _ x=_;rw[cutK_of_not h2.1,cutK_of_not h2.2]
  rw[h3];unfold insAt;have hl:(l.take i).length=i:=by rw[List.length_take];omega
  rw[List.take_left' hl,List.drop_left' hl];exact h1.symm
theorem cutK_len {l:List Int} {x:Int} (h:l.Nodup) (hx:x∈l):(cutK l x).length+1=l.length:=by
  obtain⟨i,hi⟩:=List.getElem?_of_mem hx;have h1:=insAt_cut h hi;have h2:l.length=(insAt (cutK l x) i x).length:=by rw[h1]
  have h3:(insAt (cutK l x) i x).length=(cutK l x).length+1:=by
    unfold insAt;simp;have:(List.take i (cutK l x)).length+(List.drop i (cutK l x)).length=(cutK l x).length:=by
      rw[←List.length_append,List.take_append_drop]
    simp at this;omega
  omega
def addG (F:Forest S) (up:Int) (k:Nat) (id:Int) (z:S):Forest S:=fun x=>if x=up then (F up).map fun b=>{b with kids:=insAt b.kids k id} else if x=id then some ⟨up,[],z⟩ else F x
theorem WF.add (h:WF F d) {up id:Int} {b:TBox S} (hu:F up=some b) (hid:F id=none) (hr:0≤id∧id<4096) (k:Nat) (hd:d up<63) (z:S):
    WF (addG F up k id z) (fun x=>if x=id then d up+1 else d x):=by
  have hne:up≠id:=fun e=>by rw[e,hid] at hu;cases hu
  have h0:(0:Int)≠id:=fun e=>by obtain⟨r,hr,_⟩:=h.root;rw[e,hid] at hr;cases hr
  have hnk:∀x c,F x=some c→id∉c.kids:=fun x c hx hm=>by
    obtain⟨_,e,he,_⟩:=h.kid x c hx id hm;rw[hid] at he;cases he
  have hat:∀x,addG F up k id z x=if x=up then some {b with kids:=insAt b.kids k id} else if x=id then some ⟨up,[],z⟩ else F x:=fun x=>by
    simp only[addG,hu,Option.map_some]
  have hget:∀x c,addG F up k id z x=some c→(x=up∧c={b with kids:=insAt b.kids k id})∨(x≠up∧x=id∧c=⟨up,[],z⟩)∨(x≠up∧x≠id∧F x=some c):=fun x c hx=>by
    rw[hat] at hx
    split at hx
    · cases hx;exact .inl ⟨‹_›,rfl⟩
    · split at hx
      · cases hx;exact .inr (.inl ⟨‹_›,‹_›,rfl⟩)
      · exact .inr (.inr ⟨‹_›,‹_›,hx⟩)
  have hold:∀x c,F x=some c→∃c',addG F up k id z x=some c'∧c'.up=c.up∧∀y∈c.kids,y∈c'.kids:=fun x c hx=>by
    rw[hat]
    by_cases e:x=up
    · rw [if_pos e]
      subst e;rw[hu] at hx;cases hx;exact⟨_,rfl,rfl,fun y hy=>mem_insAt.2 (.inr hy)⟩
    · rw [if_neg e, if_neg (fun e' => by rw [e', hid] at hx; cases hx)]
      exact⟨c,hx,rfl,fun y hy=>hy⟩
  refine⟨?_,?_,?_,?_,?_,?_,?_,?_⟩
  · obtain ⟨r, hr, hru⟩ := h.root
    obtain⟨r',hr',e,_⟩:=hold 0 r hr;exact⟨r',hr',e.trans hru⟩
  · intro x c hx hx0
    rcases hget x c hx with ⟨rfl,rfl⟩ | ⟨_,rfl,rfl⟩ | ⟨_,_,hx'⟩
    · obtain ⟨u, hu', hm⟩ := h.par x b hu hx0
      obtain⟨u',h1,_,h2⟩:=hold _ u hu';exact⟨u',h1,h2 x hm⟩
    · refine⟨{b with kids:=insAt b.kids k x},by rw[hat,if_pos rfl],mem_insAt.2 (.inl rfl)⟩
    · obtain ⟨u, hu', hm⟩ := h.par x c hx' hx0
      obtain⟨u',h1,_,h2⟩:=hold _ u hu';exact⟨u',h1,h2 x hm⟩
  · intro x c hx y hy
    have hk:∀c0,F x=some c0→y∈c0.kids→y≠0∧∃c,addG F up k id z y=some c∧c.up=x:=fun c0 h1 h2=>by
      obtain⟨h3,e,he,hee⟩:=h.kid x c0 h1 y h2;obtain⟨e',h4,h5,_⟩:=hold y e he;exact⟨h3,e',h4,h5.trans hee⟩
    rcases hget x c hx with ⟨rfl,rfl⟩ | ⟨_,rfl,rfl⟩ | ⟨_,_,hx'⟩
    · rcases mem_insAt.1 hy with rfl | hy
      · exact⟨fun e=>h0 e.symm,⟨x,[],z⟩,by rw[hat,if_neg (fun e=>hne e.symm),if_pos rfl],rfl⟩
      · exact hk b hu hy
    · simp at hy
    · exact hk c hx' hy
  · intro x c hx
    rcases hget x c hx with ⟨rfl,rfl⟩ | ⟨_,rfl,rfl⟩ | ⟨_,_,hx'⟩
    · exact insAt_nodup (h.nodup x b hu) (hnk x b hu)
    · exact List.nodup_nil
    · exact h.nodup x c hx'
  · simp only[if_neg h0];exact h.rank0
  · intro x c hx hx0
    have hr':∀c0,F x=some c0→(if x=id then d up+1 else d x)=(if c0.up=id then d up+1 else d c0.up)+1:=fun c0 h1=>by
      rw[if_neg (fun e=>by rw[e,hid] at h1;cases h1)];obtain⟨u,hu',_⟩:=h.par x c0 h1 hx0;rw[if_neg (fun e=>by rw[e,hid] at hu';cases hu')];exact h.rank x c0 h1 hx0
    rcases hget x c hx with ⟨rfl,rfl⟩ | ⟨_,rfl,rfl⟩ | ⟨_,_,hx'⟩
    · exact hr' b hu
    · simp only[if_true,if_neg hne]
    · exact hr' c hx'
  · intro x c hx
    rcases hget x c hx with ⟨rfl,rfl⟩ | ⟨_,rfl,rfl⟩ | ⟨_,h2,hx'⟩
    · simp only[if_neg hne];exact h.deep x b hu
    · simp only[if_true];omega
    · simp only[if_neg h2];exact h.deep x c hx'
  · intro x c hx
    rcases hget x c hx with ⟨rfl,rfl⟩ | ⟨_,rfl,rfl⟩ | ⟨_,_,hx'⟩
    · exact h.range x b hu
    · exact hr
    · exact h.range x c hx'
def remG (F:Forest S) (id:Int):Forest S:=fun x=>if x∈sub F id then none else (F x).map fun b=>if x=upF F id then {b with kids:=cutK b.kids id} else b
theorem WF.rem (h:WF F d) {id:Int} {b:TBox S} (hid:F id=some b) (h0:id≠0):WF (remG F id) d:=by
  have hup:upF F id=b.up:=up_some hid;have hself:id∈sub F id:=h.mem_sub.2 (Anc.refl (has_some hid));have hget:∀x c,remG F id x=some c→x∉sub F id∧∃c0,F x=some c0∧c.up=c0.up∧c.kids=if x=b.up then cutK c0.kids id else c0.kids:=fun x c hx=>by
    unfold remG at hx
    split at hx
    · cases hx
    · rename_i hn
      obtain⟨c0,h1,h2⟩:=Option.map_eq_some_iff.1 hx;rw[hup] at h2;refine⟨hn,c0,h1,?_⟩
      split at h2
      · rename_i e;subst h2;rw[if_pos e];exact⟨rfl,rfl⟩
      · rename_i e;subst h2;rw[if_neg e];exact⟨rfl,rfl⟩
  have hold:∀x c0,F x=some c0→x∉sub F id→∃c,remG F id x=some c∧c.up=c0.up∧c.kids=if x=b.up then cutK c0.kids id else c0.kids:=fun x c0 h1 hn=>by
    unfold remG;rw[if_neg hn,h1,hup];refine⟨_,rfl,?_⟩
    split
    · exact⟨rfl,rfl⟩
    · exact⟨rfl,rfl⟩
  have hstep:∀x c0,F x=some c0→x≠0→x∉sub F id→c0.up∉sub F id:=fun x c0 h1 hx0 hn hm=>hn (h.mem_sub.2 (Anc.step h1 hx0 (h.mem_sub.1 hm)));have hdown:∀x c0,F x=some c0→x∈sub F id→x≠id→c0.up∈sub F id:=fun x c0 h1 hm hne=>by
    have ha:=h.mem_sub.1 hm;cases ha with
    | refl=>exact absurd rfl hne
    | step hx _ ha=>rw[h1] at hx;cases hx;exact h.mem_sub.2 ha
  refine⟨?_,?_,?_,?_,h.rank0,?_,?_,?_⟩
  · obtain ⟨r, hr, hru⟩ := h.root
    have hn : (0 : Int) ∉ sub F id := fun hm => h0 (by
      have := h.anc_le (h.mem_sub.1 hm)
      have h2 := h.rank0
      by_cases e : id = 0
      · exact e
      · have := h.rank id b hid e; omega)
    obtain⟨c,h1,h2,_⟩:=hold 0 r hr hn;exact⟨c,h1,h2.trans hru⟩
  · intro x c hx hx0
    obtain⟨hn,c0,h1,h2,h3⟩:=hget x c hx;obtain⟨u,hu,hm⟩:=h.par x c0 h1 hx0;obtain⟨u',h4,_,h6⟩:=hold c0.up u hu (hstep x c0 h1 hx0 hn);refine⟨u',by rw[h2];exact h4,?_⟩;rw[h6]
    split
    · exact mem_cutK.2 ⟨hm,fun e=>hn (e▸hself)⟩
    · exact hm
  · intro x c hx y hy
    obtain⟨hn,c0,h1,h2,h3⟩:=hget x c hx;have hy0:y∈c0.kids∧(x=b.up→y≠id):=by
      rw[h3] at hy
      split at hy
      · exact⟨(mem_cutK.1 hy).1,fun _=>(mem_cutK.1 hy).2⟩
      · exact⟨hy,fun e=>absurd e ‹_›⟩
    obtain⟨h4,e,he,hee⟩:=h.kid x c0 h1 y hy0.1;have hyn:y∉sub F id:=fun hm=>by
      by_cases e':y=id
      · subst e'
        rw[hid] at he;cases he;exact hy0.2 hee.symm rfl
      · have := hdown y e he hm e'
        rw[hee] at this;exact hn this
    obtain⟨c',h5,h6,_⟩:=hold y e he hyn;exact⟨h4,c',h5,h6.trans hee⟩
  · intro x c hx
    obtain⟨_,c0,h1,_,h3⟩:=hget x c hx;rw[h3]
    split
    · exact cutK_nodup (h.nodup x c0 h1)
    · exact h.nodup x c0 h1
  · intro x c hx hx0
    obtain⟨_,c0,h1,h2,_⟩:=hget x c hx;rw[h2];exact h.rank x c0 h1 hx0
  · intro x c hx
    obtain⟨_,c0,h1,_⟩:=hget x c hx;exact h.deep x c0 h1
  · intro x c hx
    obtain⟨_,c0,h1,_⟩:=hget x c hx;exact h.range x c0 h1
def movG (F:Forest S) (id up:Int) (k:Nat):Forest S:=fun x=>(F x).map fun b=>
  ⟨if x=id then up else b.up,(if x=up then insAt (if x=upF F id then cutK b.kids id else b.kids) k id else if x=upF F id then cutK b.kids id else b.kids),b.sty⟩
open Classical in
noncomputable def movD (F:Forest S) (d:Int→Nat) (id up:Int):Int→Nat:=fun x=>if x∈sub F id then d x - d id+d up+1 else d x
theorem WF.mov (h:WF F d) {id up:Int} {bi bu:TBox S} (hid:F id=some bi) (h0:id≠0) (hup:F up=some bu) (hcy:up∉sub F id) (k:Nat) (hd:∀x∈sub F id,d x - d id+d up+1≤63):
    WF (movG F id up k) (movD F d id up):=by
  have hui:upF F id=bi.up:=up_some hid;have hself:id∈sub F id:=h.mem_sub.2 (Anc.refl (has_some hid));have hne:up≠id:=fun e=>hcy (by rw[e];exact hself);have hdle:∀x∈sub F id,d id≤d x:=fun x hx=>h.anc_le (h.mem_sub.1 hx)
  have h0n : (0 : Int) ∉ sub F id := fun hm => h0 (by
    have := hdle 0 hm
    have h2 := h.rank0
    by_cases e : id = 0
    · exact e
    · have := h.rank id bi hid e; omega)
  have hbn:bi.up∉sub F id:=fun hm=>by
    have:=hdle _ hm;have:=h.rank id bi hid h0;omega
  let K:Int→TBox S→List Int:=fun x b=>if x=up then insAt (if x=bi.up then cutK b.kids id else b.kids) k id else if x=bi.up then cutK b.kids id else b.kids
  have hat:∀x b,F x=some b→movG F id up k x=some ⟨if x=id then up else b.up,K x b,b.sty⟩:=fun x b hx=>by
    simp only[movG,hx,Option.map_some,hui,K]
  have hget:∀x c,movG F id up k x=some c→∃b,F x=some b∧c=⟨if x=id then up else b.up,K x b,b.sty⟩:=fun x c hx=>by
    cases e:F x with
    | none=>simp[movG,e] at hx
    | some b=>rw[hat x b e] at hx;cases hx;exact⟨b,rfl,rfl⟩
  have hpar:∀x b,F x=some b→id∈b.kids→x=bi.up:=fun x b hx hm=>by
    obtain⟨_,c,hc,hcu⟩:=h.kid x b hx id hm;rw[hid] at hc;cases hc;exact hcu.symm
  have hmem:∀x b,F x=some b→∀y,y∈K x b↔(y=id∧x=up)∨(y≠id∧y∈b.kids):=fun x b hx y=>by
    have hc:∀y,(y∈if x=bi.up then cutK b.kids id else b.kids)↔(y≠id∧y∈b.kids):=fun y=>by
      split
      · rw[mem_cutK];exact And.comm
      · rename_i e
        refine⟨fun hy=>⟨fun e'=>e (hpar x b hx (e'▸hy)),hy⟩,fun hy=>hy.2⟩
    show y∈(if x=up then insAt (if x=bi.up then cutK b.kids id else b.kids) k id else if x=bi.up then cutK b.kids id else b.kids)↔_
    by_cases e:x=up
    · rw [if_pos e, mem_insAt, hc]
      exact⟨fun h=>h.imp (fun h=>⟨h,e⟩) fun h=>h,fun h=>h.imp (fun h=>h.1) fun h=>h⟩
    · rw [if_neg e, hc]
      exact⟨.inr,fun h=>h.elim (fun h=>absurd h.2 e) fun h=>h⟩
  have hstep:∀x c0,F x=some c0→x≠0→x≠id→(x∈sub F id↔c0.up∈sub F id):=fun x c0 h1 hx0 hne=>by
    refine⟨fun hm=>?_,fun hm=>h.mem_sub.2 (Anc.step h1 hx0 (h.mem_sub.1 hm))⟩;have ha:=h.mem_sub.1 hm;cases ha with
    | refl=>exact absurd rfl hne
    | step hx _ ha=>rw[h1] at hx;cases hx;exact h.mem_sub.2 ha
  refine⟨?_,?_,?_,?_,?_,?_,?_,?_⟩
  · obtain ⟨r, hr, hru⟩ := h.root
    exact⟨_,hat 0 r hr,by simp only[if_neg (fun e=>h0 (Eq.symm e))];exact hru⟩
  · intro x c hx hx0
    obtain⟨b,hb,rfl⟩:=hget x c hx
    by_cases e:x=id
    · subst e
      simp only[if_true];exact⟨_,hat up bu hup,(hmem up bu hup x).2 (.inl ⟨rfl,rfl⟩)⟩
    · simp only [if_neg e]
      obtain⟨u,hu,hm⟩:=h.par x b hb hx0;exact⟨_,hat b.up u hu,(hmem b.up u hu x).2 (.inr ⟨e,hm⟩)⟩
  · intro x c hx y hy
    obtain⟨b,hb,rfl⟩:=hget x c hx
    rcases(hmem x b hb y).1 hy with ⟨rfl,rfl⟩ | ⟨hyi,hyk⟩
    · exact⟨h0,_,hat y bi hid,by simp⟩
    · obtain ⟨h4, e, he, hee⟩ := h.kid x b hb y hyk
      exact⟨h4,_,hat y e he,by simp only[if_neg hyi];exact hee⟩
  · intro x c hx
    obtain⟨b,hb,rfl⟩:=hget x c hx;have hn:=h.nodup x b hb;have hc:(if x=bi.up then cutK b.kids id else b.kids).Nodup∧id∉(if x=bi.up then cutK b.kids id else b.kids):=by
      split
      · exact⟨cutK_nodup hn,fun hm=>(mem_cutK.1 hm).2 rfl⟩
      · rename_i e;exact⟨hn,fun hm=>e (hpar x b hb hm)⟩
    show (if x=up then insAt (if x=bi.up then cutK b.kids id else b.kids) k id else if x=bi.up then cutK b.kids id else b.kids).Nodup
    by_cases e:x=up
    · rw[if_pos e];exact insAt_nodup hc.1 hc.2
    · rw[if_neg e];exact hc.1
  · simp only[movD,if_neg h0n];exact h.rank0
  · intro x c hx hx0
    obtain⟨b,hb,rfl⟩:=hget x c hx
    by_cases e:x=id
    · subst e
      simp only[if_true,movD,if_pos hself,if_neg hcy];omega
    · simp only [if_neg e, movD]
      have hr:=h.rank x b hb hx0
      by_cases hm:x∈sub F id
      · have hm' := (hstep x b hb hx0 e).1 hm
        rw[if_pos hm,if_pos hm'];have:=hdle _ hm';omega
      · rw [if_neg hm, if_neg (fun hm' => hm ((hstep x b hb hx0 e).2 hm'))]
        exact hr
  · intro x c hx
    obtain⟨b,hb,rfl⟩:=hget x c hx;unfold movD
    split
    · exact hd x ‹_›
    · exact h.deep x b hb
  · intro x c hx
    obtain⟨b,hb,rfl⟩:=hget x c hx;exact h.range x b hb
def setG (F:Forest S) (id:Int) (s:S):Forest S:=fun x=>if x=id then (F id).map fun b=>{b with sty:=s} else F x
theorem set_at (F:Forest S) (id:Int) (s:S) (x:Int):(setG F id s x).map (fun b=>(b.up,b.kids))=(F x).map fun b=>(b.up,b.kids):=by
  unfold setG
  split
  · rename_i e;subst e;cases F x<;>rfl
  · rfl
theorem WF.like (h:WF F d) {G:Forest S} (hG:∀x,(G x).map (fun b=>(b.up,b.kids))=(F x).map fun b=>(b.up,b.kids)):WF G d:=by
  have hget:∀x c,G x=some c→∃b,F x=some b∧c.up=b.up∧c.kids=b.kids:=fun x c hx=>by
    have:=hG x;rw[hx] at this;obtain⟨b,hb,he⟩:=Option.map_eq_some_iff.1 this.symm;simp only[Prod.mk.injEq] at he;exact⟨b,hb,he.1.symm,he.2.symm⟩
  have hold:∀x b,F x=some b→∃c,G x=some c∧c.up=b.up∧c.kids=b.kids:=fun x b hx=>by
    have:=hG x;rw[hx] at this;obtain⟨c,hc,he⟩:=Option.map_eq_some_iff.1 this;simp only[Prod.mk.injEq] at he;exact⟨c,hc,he.1,he.2⟩
  refine⟨?_,?_,?_,?_,h.rank0,?_,?_,?_⟩
  · obtain ⟨r, hr, hru⟩ := h.root
    obtain⟨c,hc,e,_⟩:=hold 0 r hr;exact⟨c,hc,e.trans hru⟩
  · intro x c hx hx0
    obtain⟨b,hb,e1,e2⟩:=hget x c hx;obtain⟨u,hu,hm⟩:=h.par x b hb hx0;obtain⟨u',hu',_,e4⟩:=hold _ u hu;exact⟨u',by rw[e1];exact hu',by rw[e4];exact hm⟩
  · intro x c hx y hy
    obtain⟨b,hb,e1,e2⟩:=hget x c hx;obtain⟨h1,e,he,hee⟩:=h.kid x b hb y (by rw[←e2];exact hy);obtain⟨e',he',h3,_⟩:=hold y e he;exact⟨h1,e',he',h3.trans hee⟩
  · intro x c hx
    obtain⟨b,hb,e1,e2⟩:=hget x c hx;rw[e2];exact h.nodup x b hb
  · intro x c hx hx0
    obtain⟨b,hb,e1,e2⟩:=hget x c hx;rw[e1];exact h.rank x b hb hx0
  · intro x c hx
    obtain⟨b,hb,e1,e2⟩:=hget x c hx;exact h.deep x b hb
  · intro x c hx
    obtain⟨b,hb,e1,e2⟩:=hget x c hx;exact h.range x b hb
theorem WF.set (h:WF F d) (id:Int) (s:S):WF (setG F id s) d:=h.like (set_at F id s)
end
end Go.Proofs.YtbedndijejpcaaaGreat
namespace Go.Proofs.YtbedndijejpcaaaGreat
structure Act (S:Type) where
  k:Int
  a:Int
  b:Int
  c:Int
  sty:S
section
variable {S:Type} (z:S) (valid:S→Bool) {F:Forest S} {d:Int→Nat}
def deepF (F:Forest S) (id:Int):Int:=(sub F id).foldl (fun n x=>max n (depthF F x)) 0
def lenF (F:Forest S):Int:=((order F).length:Int)
def addR (F:Forest S) (up at_:Int):Forest S×Int×Int:=
  if hasF F up=false then (F,-1,2) else if at_<0∨((kidsF F up).length:Int)<at_ then (F,-1,1) else if 4096≤lenF F then (F,-1,4) else if 63≤depthF F up then (F,-1,5)
  else (addG F up at_.toNat (least F) z,least F,0)
def remR (F:Forest S) (id:Int):Forest S×Int×Int:=
  if hasF F id=false then (F,0,2) else if id=0 then (F,0,1) else (remG F id,((sub F id).length:Int),0)
def mostF (F:Forest S) (id up:Int):Int:=((kidsF F up).length:Int) - if upF F id=up then 1 else 0
def movR (F:Forest S) (id up at_:Int):Forest S×Int:=
  if hasF F id=false∨hasF F up=false then (F,2) else if id=0 then (F,1) else if up∈sub F id then (F,3) else if at_<0∨mostF F id up<at_ then (F,1)
  else if 64≤depthF F up+1+deepF F id - depthF F id then (F,5) else (movG F id up at_.toNat,0)
def setR (F:Forest S) (id:Int) (s:S):Forest S×Int:=
  if hasF F id=false then (F,2) else if valid s=false then (F,1) else (setG F id s,0)
def actR (F:Forest S) (x:Act S):Forest S:=
  if Int.tmod x.k 5=2 then (remR F x.a).1 else if Int.tmod x.k 5=3 then (movR F x.a x.b x.c).1 else if Int.tmod x.k 5=4 then (setR valid F x.a x.sty).1 else (addR z F x.a x.b).1
def actsR (F:Forest S) (l:List (Act S)):Forest S:=l.foldl (actR z valid) F
def newF:Forest S:=fun x=>if x=0 then some ⟨-1,[],z⟩ else none
theorem foldl_max_ge (f:Int→Int):∀(l:List Int) (n:Int),n≤l.foldl (fun n x=>max n (f x)) n∧∀x∈l,f x≤l.foldl (fun n x=>max n (f x)) n
  | [],n=>⟨Int.le_refl _,by simp⟩
  | y :: l, n => by
    obtain⟨h1,h2⟩:=foldl_max_ge f l (max n (f y));simp only[List.foldl_cons];refine⟨by omega,fun x hx=>?_⟩
    rcases List.mem_cons.1 hx with rfl | hx
    · omega
    · exact h2 x hx
theorem foldl_max_le (f:Int→Int) (m:Int):∀(l:List Int) (n:Int),n≤m→(∀x∈l,f x≤m)→l.foldl (fun n x=>max n (f x)) n≤m
  | [],n,h,_=>h
  | y :: l, n, h, hl => by
    simp only[List.foldl_cons];exact foldl_max_le f m l _ (by have:=hl y (by simp);omega) fun x hx=>hl x (by simp[hx])
theorem WF.new:WF (newF z) (fun _=>0):=by
  have hget:∀x b,newF z x=some b→x=0∧b=⟨-1,[],z⟩:=fun x b h=>by
    unfold newF at h
    split at h
    · cases h;exact⟨‹_›,rfl⟩
    · cases h
  refine⟨⟨_,if_pos rfl,rfl⟩,?_,?_,?_,rfl,?_,?_,?_⟩<;>intro x b h<;>obtain⟨rfl,rfl⟩:=hget x b h<;>simp
theorem WF.addR (h:WF F d) (up at_:Int):∃d',WF (addR z F up at_).1 d':=by
  unfold Go.Proofs.YtbedndijejpcaaaGreat.addR
  split
  · exact⟨d,h⟩
  · split
    · exact⟨d,h⟩
    · split
      · exact⟨d,h⟩
      · split
        · exact⟨d,h⟩
        · rename_i h1 h2 h3 h4
          obtain⟨b,hb⟩:=some_has (by simpa using h1:hasF F up=true);obtain⟨l1,l2,l3,l4⟩:=h.least_ok;have l5:=h.least_lt (by unfold lenF at h3;omega);rw[h.depth (has_some hb)] at h4;exact⟨_,h.add hb (none_has l3) ⟨l1,l5⟩ at_.toNat (by omega) z⟩
theorem WF.remR (h:WF F d) (id:Int):∃d',WF (remR F id).1 d':=by
  unfold Go.Proofs.YtbedndijejpcaaaGreat.remR
  split
  · exact⟨d,h⟩
  · split
    · exact⟨d,h⟩
    · rename_i h1 h2
      obtain⟨b,hb⟩:=some_has (by simpa using h1:hasF F id=true);exact⟨d,h.rem hb h2⟩
theorem WF.deep_iff (h:WF F d) {id up:Int} (hid:hasF F id=true) (hup:hasF F up=true):¬(64≤depthF F up+1+deepF F id - depthF F id)↔∀x∈sub F id,d x - d id+d up+1≤63:=by
  rw[h.depth hid,h.depth hup];have hge:=foldl_max_ge (depthF F) (sub F id) 0;have hself:id∈sub F id:=h.mem_sub.2 (Anc.refl hid);have hx:∀x∈sub F id,depthF F x=d x∧d id≤d x:=fun x hx=>⟨h.depth (sub_has hx),h.anc_le (h.mem_sub.1 hx)⟩;constructor
  · intro hn x hm
    have h1:=hge.2 x hm;have h2:=hx x hm;unfold deepF at hn;omega
  · intro hall
    have h1 := foldl_max_le (depthF F) ((d id : Int) + 62 - d up) (sub F id) 0 (by have := hall id hself; omega) (fun x hm => by
      have h2 := hx x hm
      have h3 := hall x hm
      omega)
    unfold deepF;omega
theorem WF.movR (h:WF F d) (id up at_:Int):∃d',WF (movR F id up at_).1 d':=by
  unfold Go.Proofs.YtbedndijejpcaaaGreat.movR
  split
  · exact⟨d,h⟩
  · split
    · exact⟨d,h⟩
    · split
      · exact⟨d,h⟩
      · split
        · exact⟨d,h⟩
        · split
          · exact⟨d,h⟩
          · rename_i h1 h2 h3 h4 h5
            simp only[not_or,Bool.not_eq_false] at h1;obtain⟨bi,hbi⟩:=some_has h1.1;obtain⟨bu,hbu⟩:=some_has h1.2;exact⟨_,h.mov hbi h2 hbu h3 at_.toNat ((h.deep_iff h1.1 h1.2).1 h5)⟩
theorem WF.setR (h:WF F d) (id:Int) (s:S):∃d',WF (setR valid F id s).1 d':=by
  unfold Go.Proofs.YtbedndijejpcaaaGreat.setR
  split
  · exact⟨d,h⟩
  · split
    · exact⟨d,h⟩
    · exact⟨d,h.set id s⟩
theorem WF.act (h:WF F d) (x:Act S):∃d',WF (actR z valid F x) d':=by
  unfold actR
  split
  · exact h.remR x.a
  · split
    · exact h.movR x.a x.b x.c
    · split
      · exact h.setR valid x.a x.sty
      · exact h.addR z x.a x.b
theorem WF.acts:∀(l:List (Act S)) {F:Forest S} {d:Int→Nat},WF F d→∃d',WF (actsR z valid F l) d'
  | [],_,d,h=>⟨d,h⟩
  | x :: l, _, _, h => by
    obtain⟨d',h'⟩:=h.act z valid x;exact WF.acts l h'
theorem acts_new (l:List (Act S)):∃d',WF (actsR z valid (newF z) l) d':=WF.acts z valid l (WF.new z)
theorem acts_snoc (l:List (Act S)) (x:Act S) (F:Forest S):actsR z valid F (l++[x])=actR z valid (actsR z valid F l) x:=by simp[actsR]
end
def cut (n:Int):Int:=min (max n (-1099511627776)) 1099511627776
def clamp (n lo hi:Int):Int:=max (cut lo) (min (cut n) (cut hi))
theorem cut_bd (n:Int):-1099511627776≤cut n∧cut n≤1099511627776:=by unfold cut;omega
theorem cut_id {n:Int} (h:-1099511627776≤n) (h':n≤1099511627776):cut n=n:=by unfold cut;omega
theorem clamp_in {n lo hi:Int} (h0:-1099511627776≤lo) (h1:lo≤hi) (h2:hi≤1099511627776):clamp n lo hi=max lo (min n hi):=by
  unfold clamp cut;omega
theorem cut_any (n:Int) (w:World):
    Calls Tryz.prog 60 #[.int .i64 n] w fun e w'=>e=.returned (.int .i64 (cut n))∧w=w':=by
  refine enter_pure Tryz.func60 rfl Tryz.ntmps60 (by simp) ?_;refine sqR ?_;refine sg (v:=.int .i64 (0)) rfl ?_;refine nl (oo ?_);refine sqR ?_;refine mvI rfl ?_;refine vl (v_max rfl rfl) ?_;refine vl (v_min rfl rfl) ?_;refine sgI rfl ?_;refine nl (oo ?_);exact WP.ret1 Tryz.results60 (fun _ h=>h) (fun w hw=>⟨rfl,hw.symm⟩)
theorem clamp_any (n lo hi:Int) (w:World):
    Calls Tryz.prog 64 #[.int .i64 n,.int .i64 lo,.int .i64 hi] w fun e w'=>e=.returned (.int .i64 (clamp n lo hi))∧w=w':=by
  refine enter_pure Tryz.func64 rfl Tryz.ntmps64 (by simp) ?_;refine sqR ?_;refine sg (v:=.int .i64 (0)) rfl ?_;refine nl (oo ?_);refine sqR ?_;refine mvI rfl ?_;refine vl (v_call Tryz.call60 (fun w hw=>cut_any _ _)) ?_;refine mvI rfl ?_;refine vl (v_call Tryz.call60 (fun w hw=>cut_any _ _)) ?_;refine mvI rfl ?_;refine vl (v_call Tryz.call60 (fun w hw=>cut_any _ _)) ?_;refine vl (v_min rfl rfl) ?_;refine vl (v_max rfl rfl) ?_;refine sgI rfl ?_;refine nl (oo ?_);exact WP.ret1 Tryz.results64 (fun _ h=>h) (fun w hw=>⟨rfl,hw.symm⟩)
end Go.Proofs.YtbedndijejpcaaaGreat
