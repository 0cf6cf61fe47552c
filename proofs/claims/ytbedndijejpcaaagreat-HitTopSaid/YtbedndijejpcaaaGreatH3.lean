/- Ops2 RefRow Range Iter -/
import Derived.Laws.StructEq
import Derived.ScopeJumps
import Derived.Test.YtbedndijejpcaaaGreatH2
set_option linter.unusedVariables false
set_option linter.unusedSimpArgs false
set_option linter.unusedSectionVars false
set_option maxRecDepth 100000
set_option maxHeartbeats 8000000
namespace Go.Proofs.YtbedndijejpcaaaGreat
open Go.RowKit
section
variable {P:Program} {r:Option Nat} {N:Nat} {Q:XP} {ρ:Env} {S:World→Prop} {fn:Func} {R:Value→World→Prop}
theorem qH {w:World} (t u ty e:TypeId) (k:IntKind) (i:TypeInfo) (z:Value) (ht:P.underlying t=some (.slice e)) (hu:P.underlying u=some (.int k)) (hi:P.info? e=some i) (hz:i.zero=some z) (hs:i.size≠0)
    (n:Nat) (h0:0<n) (h63:(n:Int)≤9223372036854775807) (h48:n*i.bytes≤281474976710656):
    (Builtin.append_ #[t,u] ty #[.slice none 0 0,.int .i64 (n:Int)]).run P w=
      .ok (.slice (some ⟨w.heap.size,0,none⟩) n (grownCap w n 0 e)) (w.drew.alloc (.cells (Builtin.zeroCells z.cells n++Builtin.zeroCells z.cells (grownCap w n 0 e - n)) e)):=by
  have hn:n≠0:=by omega
  have h63':¬(9223372036854775807<(n:Int)):=by omega
  have h48':¬(281474976710656<Builtin.nextslicecap n 0*i.bytes):=by rw[nextslicecap_zero h0];omega
  have hw:IntKind.i64.wrap (n:Int)=(n:Int):=by
    unfold IntKind.wrap;have e:((n:Int) % (2 ^ IntKind.i64.bits:Int))=n:=Int.emod_eq_of_lt (by omega) (by simp[IntKind.bits];omega);simp only[e];rw[if_neg (by simp[IntKind.signed,IntKind.bits];omega)]
  have hneg:¬((n:Int)<0):=by omega
  have hbig:¬(281474976710656<(n:Int)*(i.bytes:Int)):=by rw[←Int.natCast_mul];omega
  simp[Builtin.append_,run_underlying ht,run_underlying hu,sizeOf,typeInfo,zeroValue,hi,hz,asInt,asIntOf,hw,hneg,hbig,hn,h63',h48',Question.forced,run_firstCells_none,newRow,grownCap];intro h;exact absurd h (Nat.mul_ne_zero hn hs)
theorem Cs {w:World} {t:TypeId} {sz n cap k:Nat} {A:Option Addr} {xs:List Value} (h:(HI.row t sz A n cap xs).holds w) (hk:k≤n):(HI.row t sz A k cap (xs.take (k*sz))).holds w:=by
  obtain⟨hl,h2⟩:=h;have hks:k*sz≤n*sz:=Nat.mul_le_mul_right sz hk;refine⟨by rw[List.length_take];omega,?_⟩
  rcases h2 with ⟨hv,hn⟩ | ⟨gb,cap',cur,hv,hb,hh,hnc,hm,hsz,htake⟩
  · subst hn
    obtain rfl:k=0:=by omega
    exact .inl ⟨hv,rfl⟩
  · injection hv with e1 e2 e3
    subst e1 e3;refine .inr ⟨gb,cap,cur,rfl,hb,hh,by omega,hm,hsz,?_⟩;rw[←htake,List.take_take,Nat.min_eq_left hks]
theorem fQ (A:Option Addr) (m sz:Nat):dZ A 0 m sz=A:=by
  unfold dZ
  split
  · rfl
  · cases A with
    | none=>rfl
    | some a=>obtain⟨b,o,p⟩:=a;simp[Addr.add]
theorem Ha {w0:World} {M:Nat→Prop} {σ:List HI} {dst:Option Tmp} {ty:TypeId} {pos:String} {af:Array Edge} {g:Option (Nat×Bool)} {x y:Operand} {t u te:TypeId} {q:IntKind} {n sz bytes:Nat} {k:Int} {z:Value} {σ':Nat×Nat→List HI}
    (ht:P.underlying t=some (.slice te)) (hu:P.underlying u=some (.int q)) (hinfo:(P.info? te).map (fun i=>(i.zero,i.size,i.bytes))=some (some z,sz,bytes)) (hzs:z.cells.size=sz) (hsz:0<sz)
    (hx:evo ρ x=.slice none 0 0) (hy:evo ρ y=.int .i64 k) (hk:k=(n:Int)) (h0:0<n) (hn:n≤1000) (hb:bytes≤1000) (hσ:∀p:Nat×Nat,σ++[.row te sz (some ⟨p.1,0,none⟩) 0 p.2 []]=σ' p):
    cX P r (St w0 M σ) ⟨dst,.call ⟨.builtin .append,#[x,y],#[t,u]⟩,ty,pos,af,g⟩ ρ (X:=Nat×Nat) (fun p=>.slice (some ⟨p.1,0,none⟩) n p.2) (fun p w=>n≤p.2∧St w0 M (σ' p) w):=
  cX.gB rfl fun w hw=>by
    obtain⟨info,hf,hz,hs,hb'⟩:=info_parts hinfo;subst hk
    have hr := qH (P := P) (w := w) t u ty te q info z ht hu hf hz (by omega) n h0 (by omega) (by
      have h1 : n * info.bytes ≤ 1000 * 1000 := Nat.mul_le_mul hn (by omega)
      omega)
    have hge:=grownCap_ge w n 0 te;have hle:=grownCap_le_maxLen w n 0 te (by unfold maxLen;omega);refine⟨(w.heap.size,grownCap w n 0 te),w.drew.alloc (.cells (Builtin.zeroCells z.cells n++Builtin.zeroCells z.cells (grownCap w n 0 te - n)) te),?_,hge,?_⟩
    · simp only[execOp,Sem.run_bind,resolve,List.map_toArray,List.map_cons,List.map_nil,hx,hy,Sem.run_pure,Result.andThen,invoke,builtin,hr]
    · rw [← hσ]
      have hlen:(Builtin.zeroCells z.cells n++Builtin.zeroCells z.cells (grownCap w n 0 te - n)).size=grownCap w n 0 te*sz:=by
        rw[Array.size_append,size_zeroCells,size_zeroCells,hzs,←Nat.add_mul];congr 1;omega
      have h1:=St.newRow w.drew te sz (grownCap w n 0 te) (Builtin.zeroCells z.cells n++Builtin.zeroCells z.cells (grownCap w n 0 te - n)).toList (by simpa using hlen) hle;rw[Array.toArray_toList] at h1;have h2:=hw.drawn.add h1;refine⟨h2.os,h2.tape,h2.output,h2.size,h2.old,fun i hi=>?_,?_,fun i hi b hb=>?_⟩
      · rcases List.mem_append.1 hi with hi' | hi'
        · exact h2.all i (List.mem_append_left _ hi')
        · obtain rfl : i = _ := by simpa using hi'
          have h3:=Cs (k:=0) (h2.all _ (List.mem_append_right _ (List.mem_singleton_self _))) (Nat.zero_le _)
          simpa using h3
      · refine List.pairwise_append.2 ⟨(List.pairwise_append.1 h2.disj).1, List.pairwise_singleton _ _, fun i hi j hj b hb hbj => ?_⟩
        obtain rfl:j=_:=by simpa using hj
        exact(List.pairwise_append.1 h2.disj).2.2 i hi _ (List.mem_singleton_self _) b hb hbj
      · rcases List.mem_append.1 hi with hi' | hi'
        · exact h2.fresh i (List.mem_append_left _ hi') b hb
        · obtain rfl : i = _ := by simpa using hi'
          exact h2.fresh _ (List.mem_append_right _ (List.mem_singleton_self _)) b hb
theorem St.ki {w0 w:World} {M:Nat→Prop} {σ:List HI} {B:Option Addr} {m:Nat} {news:List Value} (h:St w0 M σ w) (hs:Src w0 B m news) (hM:∀a,B=some a→¬M a.block):Src w B m news:=by
  rcases hs with hs | ⟨b,o,rfl,hc⟩
  · exact .inl hs
  · exact .inr ⟨b,o,rfl,h.cW hc (hM _ rfl)⟩
theorem pE:∀(cs us:List Value),us.length=cs.length→setL cs 0 us=us:=by
  have key:∀(us zs bs:List Value),us.length=bs.length→setL (zs++bs) zs.length us=zs++us:=by
    intro us;induction us with
    | nil=>intro zs bs h;rw[List.eq_nil_of_length_eq_zero (l:=bs) (by simpa using h.symm)];rfl
    | cons u us ih =>
      intro zs bs h;cases bs with
      | nil=>simp at h
      | cons b bs =>
        have h1:=ih (zs++[u]) bs (by simpa using h);simp only[List.length_append,List.length_cons,List.length_nil,List.append_assoc,List.singleton_append] at h1;show setL ((zs++b::bs).set zs.length u) (zs.length+1) us=_;rw[List.set_append_right _ _ (Nat.le_refl _)]
        simpa using h1
  intro cs us h
  simpa using key us [] cs h
theorem ct {w0:World} {M:Nat→Prop} {σ σ':List HI} {dst:Option Tmp} {ty:TypeId} {pos:String} {af:Array Edge} {g:Option (Nat×Bool)} {x y:Operand} {t tc:TypeId} {i b k:Nat} {us cs:List Value} (hz:∀w,(sizeOf t).run P w=.ok k w) (hx:evo ρ x=.pointer (some ⟨b,0,none⟩)) (hy:evo ρ y=.agg us.toArray) (hi:σ[i]?=some (.cl b tc cs)) (ho:us.length=cs.length)
    (hσ:σ.set i (.cl b tc us)=σ') (h1:∀u∈us,u.oneCell'=true) (hk:us.length=k:=by rfl):cX P r (St w0 M σ) ⟨dst,.store t x y,ty,pos,af,g⟩ ρ (X:=Unit) (fun _=>undef) (fun _=>St w0 M σ'):=
  cy hz hx hy hi (by omega) (by rw[pE _ _ ho];exact hσ) h1 hk
theorem fL {o:Oper} {a b:Bool} (h:cw P S o ρ (.bool a)) (e:a=b):cw P S o ρ (.bool b):=by rw[←e];exact h
section
variable {dst:Option Tmp} {ty:TypeId} {pos:String} {af:Array Edge} {g:Option (Nat×Bool)} {t t2:TypeId} {x y:Operand} {a b:Bool}
theorem Ar (op:BinOp) (hop:op=.eql∨op=.neq) (ht:P.underlying t=some .bool) (hx:evo ρ x=.bool a) (hy:evo ρ y=.bool b) (w:World):
    (execOp (evo ρ) ⟨dst,.binOp op t x y t2,ty,pos,af,g⟩).run P w=.ok (.value (.bool (if op=.eql then a==b else a !=b))) w:=by
  have e:(eqGuard op t x y (.bool a) (.bool b)).run P w=.ok () w:=by rcases hop with rfl | rfl<;>rfl
  have h1:(Op.equalIn 10000 t (.bool a) (.bool b)).run P w=.ok (a==b) w:=run_equalIn_bool w 9999 t a b ht
  rcases hop with rfl | rfl
  · simp[execOp,hx,hy,e,binOp,Op.equal,Op.maxDepth,h1,Result.andThen]
  · simp [execOp, hx, hy, e, binOp, Op.equal, Op.maxDepth, h1, Result.andThen]
    cases a<;>cases b<;>rfl
theorem acD (ht:P.underlying t=some .bool) (hx:evo ρ x=.bool a) (hy:evo ρ y=.bool b):cw P S ⟨dst,.binOp .eql t x y t2,ty,pos,af,g⟩ ρ (.bool (a==b)):=ba fun w _=>by
  have h:=Ar (P:=P) (dst:=dst) (ty:=ty) (pos:=pos) (af:=af) (g:=g) (t2:=t2) .eql (.inl rfl) ht hx hy w
  simpa using h
theorem CZ (ht:P.underlying t=some .bool) (hx:evo ρ x=.bool a) (hy:evo ρ y=.bool b):cw P S ⟨dst,.binOp .neq t x y t2,ty,pos,af,g⟩ ρ (.bool (a !=b)):=ba fun w _=>by
  have h:=Ar (P:=P) (dst:=dst) (ty:=ty) (pos:=pos) (af:=af) (g:=g) (t2:=t2) .neq (.inr rfl) ht hx hy w
  simpa using h
end
theorem cB {dst:Option Tmp} {ty:TypeId} {pos:String} {af:Array Edge} {g:Option (Nat×Bool)} {t e:TypeId} {n sz:Nat} {z:Value} {zs us:List Value} {parts:List (Nat×Operand)} (ht:P.underlying t=some (.array n e)) (hz:∀w,(zeroValue t).run P w=.ok z w) (hse:∀w,(sizeOf e).run P w=.ok sz w) (hzs:z.cells=zs.toArray)
    (hf:fitsB (fun i=>some (i*sz,sz)) zs.length (parts.map fun p=>(p.1,(evo ρ p.2).cells.size))=true) (hu:fillL zs (parts.map fun p=>(p.1*sz,(evo ρ p.2).cells.toList))=us):
    cw P S ⟨dst,.build t parts.toArray,ty,pos,af,g⟩ ρ (.agg us.toArray):=CX fun w=>by
  have h2:=qP (fun i=>some (i*sz,sz)) (parts.map fun p=>(p.1,evo ρ p.2)) zs (by rw[List.map_map];exact hf);simp only[List.map_map,Function.comp_def,Option.map_some,Option.getD_some] at h2;rw[hu] at h2;simp only[Instr.build,Sem.run_bind,hz,run_underlying ht,Result.andThen,hzs,hse,List.map_toArray];rw[h2];rfl
end
theorem YA {P:Program} {S:World→Prop} {ρ:Env} {dst:Option Tmp} {ty:TypeId} {pos:String} {af:Array Edge} {g:Option (Nat×Bool)} {t t2:TypeId} {x y:Operand} {m n:Int} (hx:evo ρ x=.int .i64 m) (hy:evo ρ y=.int .i64 n) (h:n≠0):cw P S ⟨dst,.binOp .rem t x y t2,ty,pos,af,g⟩ ρ (.int .i64 (m.tmod n)):=
  ba fun w _=>gJ .rem t2 hx hy w _ (by simp[binOp,Op.intDiv,h])
section
variable {w0 w:World} {M:Nat→Prop} {σ σ':List HI}
theorem St.ad6 {i g n cap sz:Nat} {t:TypeId} {xs:List Value} (h:St w0 M σ w) (hi:σ[i]?=some (.row t sz (some ⟨g,0,none⟩) n cap xs)):∃rest:List Value,(xs.length=n*sz∧n*sz+rest.length=cap*sz∧n≤cap∧cap≤maxLen)∧St w0 M (σ.set i (.cl g t (xs++rest))) w:=by
  have h1:w.ownsRow 0 t sz (.slice (some ⟨g,0,none⟩) n cap) n xs:=h.all _ (List.mem_of_getElem? hi);obtain⟨hl,h2⟩:=h1
  rcases h2 with ⟨hv,_⟩ | ⟨gb,cap',cur,hv,_,hh,hnc,hm,hsz,htake⟩
  · cases hv
  · injection hv with e1 e2 e3
    injection e1 with e1
    injection e1 with e1
    subst e1 e3;have hcur:cur.toList.length=cap*sz:=by simpa using hsz
    have hle:n*sz≤cap*sz:=Nat.mul_le_mul_right _ hnc;refine⟨cur.toList.drop (n*sz),⟨hl,by rw[List.length_drop];omega,hnc,hm⟩,?_⟩;have e:xs++cur.toList.drop (n*sz)=cur.toList:=by rw[←htake];exact List.take_append_drop (n*sz) cur.toList
    rw[e];refine h.upd hi (St.l9 (fun _ _ _=>rfl) ?_ (fun b hb=>.inr ⟨_,rfl,hb⟩) rfl rfl rfl (Nat.le_refl _));show w.heap[g]?=some (.cells cur.toList.toArray t (0,0));rw[Array.toArray_toList];exact hh
theorem St.IP {i g n cap sz:Nat} {t:TypeId} {cs:List Value} (h:St w0 M σ w) (hi:σ[i]?=some (.cl g t cs)) (hl:cs.length=cap*sz) (hm:cap≤maxLen) (hn:n≤cap):St w0 M (σ.set i (.row t sz (some ⟨g,0,none⟩) n cap (cs.take (n*sz)))) w:=by
  have h1:w.heap[g]?=some (.cells cs.toArray t (0,0)):=h.all _ (List.mem_of_getElem? hi);have hle:n*sz≤cap*sz:=Nat.mul_le_mul_right _ hn;refine h.upd hi (St.l9 (fun _ _ _=>rfl) ?_ (fun b hb=>.inr (by obtain⟨a,ha,e⟩:=hb;cases ha;exact e)) rfl rfl rfl (Nat.le_refl _));exact⟨by rw[List.length_take];omega,.inr ⟨g,cap,cs.toArray,rfl,Nat.zero_le _,h1,hn,hm,by simp[hl],by simp⟩⟩
theorem lv (xs rest:List Value):∀(us:List Value) (xs:List Value) (o:Nat),o+us.length≤xs.length→setL (xs++rest) o us=setL xs o us++rest
  | [],xs,o,_=>rfl
  | u :: us, xs, o, h => by
    simp only[List.length_cons] at h;rw[setL,setL,List.set_append_left _ _ (by omega)];exact lv xs rest us _ _ (by rw[List.length_set];omega)
variable {P:Program} {r:Option Nat} {ρ:Env} {dst:Option Tmp} {ty:TypeId} {pos:String} {af:Array Edge} {g':Option (Nat×Bool)} {t:TypeId} {x y:Operand}
theorem jX {i g o n cap sz k:Nat} {us:List Value} {tc:TypeId} {xs:List Value} (hz:∀w,(sizeOf t).run P w=.ok k w) (hx:evo ρ x=.pointer (some ⟨g,o,none⟩)) (hy:evo ρ y=.agg us.toArray) (hi:σ[i]?=some (.row tc sz (some ⟨g,0,none⟩) n cap xs)) (ho:o+us.length≤xs.length)
    (hσ:σ.set i (.row tc sz (some ⟨g,0,none⟩) n cap (setL xs o us))=σ') (h1:∀u∈us,u.oneCell'=true) (hk:us.length=k:=by rfl):cX P r (St w0 M σ) ⟨dst,.store t x y,ty,pos,af,g'⟩ ρ (X:=Unit) (fun _=>undef) (fun _=>St w0 M σ'):=by
  intro w hw;obtain⟨rest,⟨a1,a2,a3,a4⟩,h2⟩:=hw.ad6 hi;have hlt:=(List.getElem?_eq_some_iff.1 hi).1;have h3:=cy (P:=P) (r:=r) (ρ:=ρ) (w0:=w0) (M:=M) (σ:=σ.set i (.cl g tc (xs++rest))) (σ':=(σ.set i (.cl g tc (xs++rest))).set i (.cl g tc (setL (xs++rest) o us))) (dst:=dst) (ty:=ty) (pos:=pos) (af:=af) (g:=g') hz hx hy (i:=i) (by rw[List.getElem?_set_self hlt]) (by rw[List.length_append];omega) rfl h1 hk w h2;intro a ha K Q hK;refine h3 a ha K Q fun u w' hw'=>hK u w' ?_;have h4:St w0 M (((σ.set i (.cl g tc (xs++rest))).set i (.cl g tc (setL (xs++rest) o us))).set i (.row tc sz (some ⟨g,0,none⟩) n cap ((setL (xs++rest) o us).take (n*sz)))) w':=
    St.IP hw' (i:=i) (by rw[List.getElem?_set_self (by rw[List.length_set];exact hlt)]) (by rw[cL,List.length_append];omega) a4 a3
  rw[List.set_set,List.set_set,lv xs rest us xs o ho,List.take_left' (by rw[cL];exact a1),hσ] at h4;exact h4
end
structure LK where
  fn:FuncId
  tmps:Array Value
  params:Array Tmp
  assign:Code
  body:Code
  defers:Nat
def LK.at (k:LK) (st:LoopState) (pe:Option Code):Loop:={state:=st,pending:=pe,fn:=k.fn,tmps:=k.tmps,params:=k.params,assign:=k.assign,body:=k.body,defers:=k.defers}
abbrev lp (l:Nat) (k:LK) (st:LoopState) (pe:Option Code):HI:=.ob l (.loop (k.at st pe))
abbrev iM (D:Nat):HI:=.ob D (.deferred (some []))
theorem St.wK {w0 w:World} {M:Nat→Prop} {σ:List HI} {i l:Nat} {o:Obj} (h:St w0 M σ w) (hi:σ[i]?=some (.ob l o)) (o':Obj):St w0 M (σ.set i (.ob l o')) (w.putObj l o'):=by
  have hl:w.heap[l]?=some o:=h.all _ (List.mem_of_getElem? hi);have hlt:l<w.heap.size:=cU hl;refine h.upd hi ⟨rfl,rfl,rfl,by simp,fun b _ hM=>?_,?_,by simp,?_⟩
  · have hb : b ≠ l := fun e => hM ⟨.ob l o, by simp, e⟩
    exact World.putObj_heap_other hb
  · intro j hj
    obtain rfl:j=.ob l o':=by simpa using hj
    exact World.putObj_heap_same hlt
  · intro j hj b hb
    obtain rfl:j=.ob l o':=by simpa using hj
    exact .inr ⟨.ob l o,by simp,hb⟩
section
variable {P:Program} {r:Option Nat} {N:Nat} {Q:XP} {ρ:Env} {ds:List Deferred} {S:World→Prop} {w0:World} {M:Nat→Prop} {σ:List HI}
theorem Cq {dst:Option Tmp} {ty:TypeId} {pos:String} {af:Array Edge} {g:Option (Nat×Bool)} {xs:List Operand} {ats:Array TypeId} {args:List Value} {l:Nat} {x:Operand} {X:Type} {v:X→Value} {T:X→World→Prop}
    (hy:∀w,S w→YieldAt (FW none) 0 P l args.toArray w fun e w'=>∃x,e=.returned (v x)∧T x w') (hx:evo ρ x=.func (.yield l) #[] #[]:=by rfl) (ha:xs.map (evo ρ)=args:=by rfl):
    cX P r S ⟨dst,.call ⟨.value x,xs.toArray,ats⟩,ty,pos,af,g⟩ ρ v T:=by
  intro w hw a hev K Q hK;obtain⟨fn,tmps,asg,body,hrun,hround⟩:=hy w hw;refine⟨fun _ _=>nO r _,?_⟩;rw[jn,Oper.semAt_eq r _ _ (by intro c e;cases e),hev];have h1:(execOp (evo ρ) ⟨dst,.call ⟨.value x,xs.toArray,ats⟩,ty,pos,af,g⟩).run P w=.ok (.round l fn tmps asg body) w:=by
    subst ha;simp[execOp,resolve,hx,Deferred.ofValue,invoke];exact hrun
  rw[h1];have h2:RoundIn (FW r) 0 P l fn tmps asg body w fun e w'=>∃x,e=.returned (v x)∧T x w':=by
    cases r with
    | none=>exact hround
    | some l'=>exact hround
  refine⟨mM r,h2.mono ?_⟩
  rintro e w' ⟨x,rfl,hT⟩
  exact hK x w' hT
def xH:List Tmp→List Value→Env→Env
  | p::ps,v::vs,ρ=>xH ps vs (upd ρ p v)
  | _,_,ρ=>ρ
def SE (P:Program) (l:Nat) (R:Ending→World→Prop) (e:Exit) (w:World):Prop:=
  match e with
  | .normal=>∃v w',(Instr.endRound l none).run P w=.ok v w'∧R (.returned v) w'
  | .ret=>∃v w',(Instr.endRound l (some .ret)).run P w=.ok v w'∧R (.returned v) w'
  | .exit id=>∃v w',(Instr.endRound l (some (.exit id))).run P w=.ok v w'∧R (.returned v) w'
  | .goto t=>∃v w',(Instr.endRound l (some (.goto t))).run P w=.ok v w'∧R (.returned v) w'
  | _=>False
structure fX (P:Program) (l:Nat) (R:Ending→World→Prop) (e:Exit) (ρ:Env) (ds:List Deferred) (w:World):Prop where
  ok:SE P l R e w
def begun (P:Program) (l N:Nat) (body:Code) (Q:XP):Env→List Deferred→World→Prop:=fun ρ ds w=>
  ∃w2,(Instr.beginRound l).run P w=.ok () w2∧WP P (some l) N body Q ρ ds (fun w'=>w'=w2)
def noE:XP:=fun _ _ _ _=>False
theorem iL {l i:Nat} {k:LK} {body:Code} (hi:σ[i]?=some (lp l k .ready none)) (h:WP P (some l) N body Q ρ ds (St w0 M (σ.set i (lp l k .busy none)))):∀w,St w0 M σ w→begun P l N body Q ρ ds w:=by
  intro w hw;have hl:w.heap[l]?=some (.loop (k.at .ready none)):=hw.all _ (List.mem_of_getElem? hi);refine⟨_,run_beginRound hl rfl,h.pre ?_⟩;intro w' e;subst e;exact hw.wK hi (.loop (k.at .busy none))
theorem fX.normal {l i:Nat} {k:LK} {R:Ending→World→Prop} {w:World} (hi:σ[i]?=some (lp l k .busy none)) (hw:St w0 M σ w) (h:∀w',St w0 M (σ.set i (lp l k .ready none)) w'→R (.returned (.bool true)) w'):fX P l R .normal ρ ds w:=by
  have hl:w.heap[l]?=some (.loop (k.at .busy none)):=hw.all _ (List.mem_of_getElem? hi);exact⟨⟨_,_,run_endRound none hl,h _ (hw.wK hi (.loop (k.at .ready none)))⟩⟩
theorem fX.jump {l i:Nat} {k:LK} {R:Ending→World→Prop} {w:World} {e:Exit} {c:Code} (he:(e=.ret∧c=.ret)∨(∃id,e=.exit id∧c=.exit id)) (hi:σ[i]?=some (lp l k .busy none)) (hw:St w0 M σ w) (h:∀w',St w0 M (σ.set i (lp l k .done (some c))) w'→R (.returned (.bool false)) w'):fX P l R e ρ ds w:=by
  have hl:w.heap[l]?=some (.loop (k.at .busy none)):=hw.all _ (List.mem_of_getElem? hi)
  rcases he with ⟨rfl,rfl⟩ | ⟨id,rfl,rfl⟩<;>exact⟨⟨_,_,run_endRound (some _) hl,h _ (hw.wK hi (.loop (k.at .done (some _))))⟩⟩
theorem wC {N:Nat}:∀(ps:List Tmp) (vs:List Value) (t:Array Value) (ρ:Env),(∀p∈ps,p<N)→Fr N ρ [] {tmps:=t,defers:=[]}→
    Fr N (xH ps vs ρ) [] {tmps:=(ps.zip vs).foldl (fun t (p,v)=>t.setIfInBounds p v) t,defers:=[]}
  | [],_,_,_,_,h=>h
  | _::_,[],_,_,_,h=>h
  | p :: ps, v :: vs, t, ρ, hp, h => by
    have h1:=h.put (dst:=some p) (v:=v) (fun d e=>by cases e;exact hp p (by simp));exact wC ps vs _ _ (fun q hq=>hp q (by simp[hq])) h1
theorem Yld.intro {l i:Nat} {k:LK} {ps:List Tmp} {asg body:Code} {args:List Value} {R:Ending→World→Prop} (hps:k.params=ps.toArray) (has:k.assign=asg) (hbd:k.body=body) (hfr:Fr N ρ [] {tmps:=k.tmps,defers:=[]})
    (hi:σ[i]?=some (lp l k .ready none)) (hlen:args.length=ps.length) (hN:∀p∈ps,p<N)
    (h:WP P (some l) N asg (kY (begun P l N body (fX P l R)) noE) (xH ps args ρ) [] (St w0 M σ)):∀w,St w0 M σ w→YieldAt (FW none) 0 P l args.toArray w R:=by
  subst has hbd;intro w hw;have hl:w.heap[l]?=some (.loop (k.at .ready none)):=hw.all _ (List.mem_of_getElem? hi);refine⟨_,_,_,_,run_yield hl (by simp[LK.at,hps,hlen]),roundIn_of_wpIn trivial ?_⟩;have h1:=wC ps args k.tmps ρ hN hfr;have e:((k.at .ready none).params.zip args.toArray).foldl (fun tmps (x:Tmp×Value)=>tmps.setIfInBounds x.1 x.2) (k.at .ready none).tmps=(ps.zip args).foldl (fun t (p,v)=>t.setIfInBounds p v) k.tmps:=by
    simp only[LK.at,hps];rw[List.zip_toArray,List.foldl_toArray]
  rw[show (Array.foldl (fun tmps (x:Tmp×Value)=>match x with | (t,a)=>tmps.setIfInBounds t a) (k.at .ready none).tmps ((k.at .ready none).params.zip args.toArray))=_ from e];refine Go.wpIn_mono (h w hw _ h1) ?_;intro e a w' hq;cases e<;>first
    | exact hq.elim
    | skip
  · obtain ⟨ρ1, ds1, hf1, w2, hb, hbody⟩ := hq
    refine⟨w2,hb,Go.wpIn_mono (hbody w2 rfl a hf1) ?_⟩;intro e a3 w3 hq3;cases e<;>first
      | exact hq3.elim
      | exact(let ⟨_,_,_,h⟩:=hq3;h.ok)
  all_goals exact(let ⟨_,_,_,h⟩:=hq;h.elim)
theorem St.newObj {w:World} (h:St w0 M σ w) (o:Obj):St w0 M (σ++[.ob w.heap.size o]) (w.alloc o):=by
  refine h.add ⟨rfl,rfl,rfl,by simp,fun b hb _=>Below.heap_alloc _ _ _ hb,?_,by simp,?_⟩
  · intro j hj
    obtain rfl:j=.ob w.heap.size o:=by simpa using hj
    exact World.alloc_heap_new w o
  · intro j hj b hb
    obtain rfl:j=.ob w.heap.size o:=by simpa using hj
    obtain rfl:b=w.heap.size:=hb;exact .inl (Nat.le_refl _)
theorem set_drop (τ:List HI) (x y:HI) (rest:List HI):(τ++rest).Sublist ((τ++x::rest).set τ.length y):=by
  have e:(τ++x::rest).set τ.length y=τ++y::rest:=by simp
  rw[e];exact(List.Sublist.refl τ).append (List.sublist_cons_self y rest)
theorem WP.uq {g:Operand} {ps:List Tmp} {asg body:Code} {gf:Nat} {first cap:List Value} (hg:evo ρ g=.func (.func gf) first.toArray cap.toArray) (eg:∀args w,(callFunc gf args).run P w=.ok (.enter gf args) w)
    {X:Type} {Fin:X→Prop} {τ:X→List HI} {Y:Type} {FinJ:Code→Y→Prop} {τJ:Y→List HI}
    (hc : ∀ (k : LK) (l D : Nat), k.params = ps.toArray → k.assign = asg → k.body = body → Fr N ρ [] { tmps := k.tmps, defers := [] } → ∀ w, St w0 M (σ ++ [lp l k .ready none, iM D]) w →
      Calls P gf (first ++ [Value.func (.yield l) #[] #[]] ++ cap).toArray w fun e w' => (∃ v, e = .returned v) ∧ ((∃ x, Fin x ∧ St w0 M (τ x ++ [lp l k .ready none, iM D]) w') ∨ (∃ c y, FinJ c y ∧ St w0 M (τJ y ++ [lp l k .done (some c), iM D]) w')))
    (hk:∀D x,Fin x→∀w,St w0 M (τ x++[iM D]) w→Q .normal ρ (mark D::ds) w)
    (hj:∀D c y,FinJ c y→WP P none N c Q ρ (mark D::ds) (St w0 M (τJ y++[iM D]))):
    WP P none N (.rangeFunc g ps.toArray asg body) Q ρ ds (St w0 M σ):=by
  intro w hw a ha;refine wpIn_rangeFunc ?_;intro fn _
  let k:LK:={fn:=fn,tmps:=a.tmps,params:=ps.toArray,assign:=asg,body:=body,defers:=w.heap.size}
  let W1:World:=(w.alloc (.deferred (some []))).alloc (.loop (k.at .ready none))
  have hs1:St w0 M (σ++[lp (w.heap.size+1) k .ready none,iM w.heap.size]) W1:=by
    have h1:=(hw.newObj (.deferred (some []))).newObj (.loop (k.at .ready none))
    have h2 := h1.perm (σ' := σ ++ [lp (w.heap.size + 1) k .ready none, iM w.heap.size]) (by
      rw [World.size_alloc, List.append_assoc]
      exact List.Perm.append_left σ (List.Perm.swap _ _ _))
    exact h2
  refine ⟨w.heap.size + 1, [mark w.heap.size], W1, { target := .fn (.func gf) cap.toArray, args := first.toArray ++ #[Value.func (.yield (w.heap.size + 1)) #[] #[]] }, W1, gf,
    (first ++ [Value.func (.yield (w.heap.size + 1)) #[] #[]] ++ cap).toArray, W1, ?_, ?_, fun _ _ => trivial, ?_, mM none, ?_⟩
  · exact run_enterLoop_outer _ _ _ _ _
  · have hga := (ha.DL g).trans hg
    simp[resolve,hga,Deferred.ofValue];rfl
  · simp[invoke,eg]
  · have hfr : Fr N ρ [] { tmps := k.tmps, defers := [] } := ⟨ha.size, ha.get, rfl⟩
    have h0:=lL (r:=none) (n:=0 - 1) (hc k (w.heap.size+1) w.heap.size rfl rfl rfl hfr W1 hs1);refine h0.mono ?_
    rintro e w2 ⟨⟨v,rfl⟩,h⟩
    have hlen:∀t:List HI,(t++[lp (w.heap.size+1) k .ready none,iM w.heap.size])[t.length]?=some (lp (w.heap.size+1) k .ready none):=fun t=>by simp
    have hfd:Fr N ρ (mark w.heap.size::ds) {a with defers:=[mark w.heap.size]++a.defers}:=⟨ha.size,ha.get,by simp[ha.defs]⟩
    rcases h with ⟨x,hx,h⟩ | ⟨c,y,hy,h⟩
    · have hl : w2.heap[w.heap.size + 1]? = some (.loop (k.at .ready none)) := h.all (lp (w.heap.size + 1) k .ready none) (by simp)
      refine⟨none,_,run_endLoop hl (by simp[LK.at]),ρ,mark w.heap.size::ds,hfd,hk _ x hx _ ?_⟩;have h2:=h.wK (i:=(τ x).length) (hlen _) (.loop {k.at .ready none with state:=.exhausted});exact h2.sub (set_drop _ _ _ _)
    · have hl : w2.heap[w.heap.size + 1]? = some (.loop (k.at .done (some c))) := h.all (lp (w.heap.size + 1) k .done (some c)) (by simp)
      refine⟨some c,_,run_endLoop hl (by simp[LK.at]),hj w.heap.size c y hy _ ?_ _ hfd⟩;have h2:=h.wK (i:=(τJ y).length) (l:=w.heap.size+1) (o:=.loop (k.at .done (some c))) (by simp) (.loop {k.at .done (some c) with state:=.exhausted});exact h2.sub (set_drop _ _ _ _)
theorem WP.rangeFunc {g:Operand} {ps:List Tmp} {asg body:Code} {gf:Nat} {first cap:List Value} (hg:evo ρ g=.func (.func gf) first.toArray cap.toArray) (eg:∀args w,(callFunc gf args).run P w=.ok (.enter gf args) w)
    {X:Type} {Fin:X→Prop} {τ:X→List HI}
    (hc : ∀ (k : LK) (l D : Nat), k.params = ps.toArray → k.assign = asg → k.body = body → Fr N ρ [] { tmps := k.tmps, defers := [] } → ∀ w, St w0 M (σ ++ [lp l k .ready none, iM D]) w →
      Calls P gf (first ++ [Value.func (.yield l) #[] #[]] ++ cap).toArray w fun e w' => (∃ v, e = .returned v) ∧ ∃ x, Fin x ∧ St w0 M (τ x ++ [lp l k .ready none, iM D]) w')
    (hk:∀D x,Fin x→∀w,St w0 M (τ x++[iM D]) w→Q .normal ρ (mark D::ds) w):WP P none N (.rangeFunc g ps.toArray asg body) Q ρ ds (St w0 M σ):=
  WP.uq hg eg (Fin:=Fin) (τ:=τ) (Y:=Unit) (FinJ:=fun _ _=>False) (τJ:=fun _=>[]) (fun k l D h1 h2 h3 h4 w hw=>(hc k l D h1 h2 h3 h4 w hw).mono fun _ _ h=>⟨h.1,.inl h.2⟩) hk (fun _ _ _ h=>h.elim)
theorem CL {τ:List HI}:∀(Ds:List Nat) (w:World),St w0 M (τ++Ds.map iM) w→St w0 M τ (jQ w Ds)
  | [],w,h=>by simpa [jQ] using h
  | D :: Ds, w, h => by
    have h1:=h.wK (i:=τ.length) (l:=D) (o:=.deferred (some [])) (by simp) (.deferred none);exact CL Ds _ (h1.sub (set_drop _ _ _ _))
theorem zg {τ:List HI}:∀(Ds:List Nat) (w:World),St w0 M (τ++Ds.map iM) w→Ds.Nodup:=by
  intro Ds w h;have h1:=(List.pairwise_append.1 h.disj).2.1;rw[List.pairwise_map] at h1;exact h1.imp fun {a b} hab e=>hab a rfl e
theorem da.marks {fn:Func} {R:Value→World→Prop} (Ds:List Nat) {τ:List HI} {w:World} (h:St w0 M (τ++Ds.map iM) w) (hr:∀w,St w0 M τ w→da P fn R .ret ρ [] w):da P fn R .ret ρ (Ds.map mark) w:=by
  have h1:=hr _ (CL Ds w h);have hn:=zg Ds w h;have hD:∀D∈Ds,w.heap[D]?=some (.deferred (some [])):=fun D hD=>h.all (iM D) (List.mem_append_right _ (List.mem_map.2 ⟨D,hD,rfl⟩));obtain⟨_,Ds',he,_,_,hx⟩:=h1;obtain rfl:Ds'=[]:=by
    cases Ds' with
    | nil=>rfl
    | cons _ _=>cases he
  exact⟨.inl rfl,Ds,rfl,hn,hD,hx⟩
theorem WP.AE {fn:Func} {R:Value→World→Prop} (Ds:List Nat) {τ:List HI} (hsub:∀w,St w0 M σ w→St w0 M (τ++Ds.map iM) w) (hq:∀w,da P fn R .ret ρ (Ds.map mark) w→Q .ret ρ (Ds.map mark) w)
    (hr:∀w,St w0 M τ w→da P fn R .ret ρ [] w):WP P r N .ret Q ρ (Ds.map mark) (St w0 M σ):=
  WP.ret fun w hw=>hq w (da.marks Ds (hsub w hw) hr)
def Di (l:Nat) (J:Env→List Deferred→World→Prop) (Q:XP):XP
  | .goto l',ρ,ds,w=>l'=l∧J ρ ds w
  | e,ρ,ds,w=>Q e ρ ds w
theorem WP.goto {l:Nat} (h:∀w,S w→Q (.goto l) ρ ds w):WP P r N (.goto l) Q ρ ds S:=fun w hw _ ha=>wpIn_goto ⟨ρ,ds,ha,h w hw⟩
theorem C6:∀{l m:List (Nat×Value)} {ρ:Env},Has l ρ→Has m ρ→Has (l++m) ρ
  | [],_,_,_,h=>h
  | _::_,_,_,h,h'=>⟨h.1,C6 h.2 h'⟩
open Classical in
theorem WP.IJ {X:Type} {c rest:Code} (l:Nat) (hf:findLabel c l=some (.seq .skip rest)) (keep:List Nat) (E:X→List (Nat×Value)) (Sx:X→World→Prop) (μ:X→Nat)
    (first : (∀ x ρ' S', Has (E x ++ keep.map fun t => (t, ρ t)) ρ' → (∀ w, S' w → Sx x w) → WP P none N (.seq (.label l) rest) (Di l (fun ρ' ds' w' => ds' = ds ∧ ∃ x, Has (E x ++ keep.map fun t => (t, ρ t)) ρ' ∧ Sx x w') Q) ρ' ds S') →
      WP P none N c (Di l (fun ρ' ds' w' => ds' = ds ∧ ∃ x, Has (E x ++ keep.map fun t => (t, ρ t)) ρ' ∧ Sx x w') Q) ρ ds S)
    (pass:∀x ρ0,WP P none N rest (Di l (fun ρ' ds' w'=>ds'=ds∧∃x',μ x'<μ x∧Has (E x'++keep.map fun t=>(t,ρ t)) ρ'∧Sx x' w') Q) (mR (E x++keep.map fun t=>(t,ρ t)) ρ0) ds (Sx x)):
    WP P none N (.scope c) Q ρ ds S:=by
  intro w hw a ha
  let V:Act→World→Nat→Prop:=fun a' w' k=>∃x ρ',μ x=k∧Fr N ρ' ds a'∧Has (E x++keep.map fun t=>(t,ρ t)) ρ'∧Sx x w'
  have h1 := first (fun x ρ' S' hE hS => WP.seq (WP.label (an (by
    have h := pass x ρ'
    rw [dW hE] at h
    refine (h.pre hS).mono ?_
    intro e ρ2 ds2 w2 hq
    cases e <;> first
      | exact hq
      | exact ⟨hq.1, hq.2.1, let ⟨x', _, h1, h2⟩ := hq.2.2; ⟨x', h1, h2⟩⟩)))) w hw a ha
  rw[CS] at h1 ⊢;rw[wpIn_wide] at h1 ⊢;refine wp_scope_jumps l (fun a' w'=>∃k,V a' w' k) (fun a' w'=>if h:∃k,V a' w' k then (gq h).choose else 0) hf (wp_mono h1 ?_) ?_
  · intro e a' w' hq
    cases e<;>first
      | exact hq.elim
      | exact hq
      | skip
    obtain⟨ρ2,ds2,hf2,rfl,rfl,x2,hE2,hx2⟩:=hq;exact⟨rfl,_,x2,ρ2,rfl,hf2,hE2,hx2⟩
  · intro a' w' hI
    obtain⟨⟨x,ρ',hk,hf',hE,hx⟩,_⟩:=(gq hI).choose_spec
    have h2 : WP P none N (.seq .skip rest) (Di l (fun ρ' ds' w' => ds' = ds ∧ ∃ x', μ x' < μ x ∧ Has (E x' ++ keep.map fun t => (t, ρ t)) ρ' ∧ Sx x' w') Q) ρ' ds (Sx x) := WP.seq (WP.skip (an (by
      have h := pass x ρ'
      rwa [dW hE] at h)))
    have h3:=h2 w' hx a' hf';rw[CS,wpIn_wide] at h3;refine wp_mono h3 ?_;intro e a2 w2 hq;cases e<;>first
      | exact hq.elim
      | exact hq
      | skip
    obtain⟨ρ2,ds2,hf2,rfl,rfl,x2,hlt,hE2,hx2⟩:=hq;have hI2:∃k,V a2 w2 k:=⟨_,x2,ρ2,rfl,hf2,hE2,hx2⟩;refine⟨rfl,hI2,?_⟩;rw[dif_pos hI,dif_pos hI2];have:=(gq hI2).choose_spec.2 (μ x2) ⟨x2,ρ2,rfl,hf2,hE2,hx2⟩;omega
end
abbrev sv (x y:HI):Prop:=∀b,x.foot b→¬y.foot b
def cN (τ:List HI):HI:=.gen (ay τ) (fun w=>(∀i∈τ,i.holds w)∧τ.Pairwise sv)
theorem xX (τ:List HI):Local (ay τ) (fun w=>(∀i∈τ,i.holds w)∧τ.Pairwise sv):=
  ⟨fun w w' hk h=>⟨fun i hi=>HI.keep (h.1 i hi) fun b hb=>hk b ⟨i,hi,hb⟩,h.2⟩,fun w h b ⟨i,hi,hb⟩=>HI.lt (h.1 i hi) hb⟩
theorem gP (τ F:List HI):ay (cN τ::F)=ay (τ++F):=by
  funext k
  apply propext;rw[BP,lx];exact Iff.rfl
section
variable {w0 w w1 w2:World} {M:Nat→Prop} {σ τ F:List HI}
theorem St.pack (h:St w0 M (τ++F) w):St w0 M (cN τ::F) w:=by
  obtain⟨hd1,hd2,hd3⟩:=List.pairwise_append.1 h.disj;refine⟨h.os,h.tape,h.output,h.size,h.old,fun i hi=>?_,List.pairwise_cons.2 ⟨fun j hj b hb=>?_,hd2⟩,fun i hi b hb=>?_⟩
  · rcases List.mem_cons.1 hi with rfl | hi
    · exact⟨xX τ,fun j hj=>h.all j (List.mem_append_left _ hj),hd1⟩
    · exact h.all i (List.mem_append_right _ hi)
  · obtain ⟨i, hi, hib⟩ := hb
    exact hd3 i hi j hj b hib
  · rcases List.mem_cons.1 hi with rfl | hi
    · obtain ⟨j, hj, hjb⟩ := hb
      exact h.fresh j (List.mem_append_left _ hj) b hjb
    · exact h.fresh i (List.mem_append_right _ hi) b hb
theorem St.unpack (h:St w0 M (cN τ::F) w):St w0 M (τ++F) w:=by
  have hb:=(h.all (cN τ) (by simp)).2;obtain⟨hd1,hd2⟩:=List.pairwise_cons.1 h.disj;refine⟨h.os,h.tape,h.output,h.size,h.old,fun i hi=>?_,List.pairwise_append.2 ⟨hb.2,hd2,fun i hi j hj b hib=>hd1 j hj b ⟨i,hi,hib⟩⟩,fun i hi b hib=>?_⟩
  · rcases List.mem_append.1 hi with hi | hi
    · exact hb.1 i hi
    · exact h.all i (List.mem_cons_of_mem _ hi)
  · rcases List.mem_append.1 hi with hi | hi
    · exact h.fresh (cN τ) (by simp) b ⟨i,hi,hib⟩
    · exact h.fresh i (List.mem_cons_of_mem _ hi) b hib
def ix (w0:World) (M:Nat→Prop):HI:=.gen (fun b=>b<w0.heap.size∧¬M b) (fun w=>∀b,b<w0.heap.size→¬M b→w.heap[b]?=w0.heap[b]?)
theorem Bh (w0:World) (M:Nat→Prop):Local (fun b=>b<w0.heap.size∧¬M b) (fun w=>∀b,b<w0.heap.size→¬M b→w.heap[b]?=w0.heap[b]?):=by
  refine⟨fun w w' hk h b hb hM=>(hk b ⟨hb,hM⟩).trans (h b hb hM),fun w h b hb=>?_⟩;have h1:=h b hb.1 hb.2;rw[Array.getElem?_eq_getElem hb.1] at h1;exact cU h1
theorem St.KA (h:St w0 M σ w):(∀i∈σ++[ix w0 M],i.holds w)∧(σ++[ix w0 M]).Pairwise sv:=by
  refine⟨fun i hi=>?_,List.pairwise_append.2 ⟨h.disj,List.pairwise_singleton _ _,fun i hi j hj b hb hb'=>?_⟩⟩
  · rcases List.mem_append.1 hi with hi | hi
    · exact h.all i hi
    · obtain rfl : i = _ := by simpa using hi
      exact⟨Bh w0 M,h.old⟩
  · obtain rfl : j = _ := by simpa using hj
    rcases h.fresh i hi b hb with h1 | h1
    · exact absurd hb'.1 (by omega)
    · exact hb'.2 h1
theorem St.TO (h:St w0 M σ w1) (k:St w1 (ay (σ++[ix w0 M])) (τ++[ix w0 M]) w2):St w0 M τ w2:=by
  obtain⟨hd1,_,hd3⟩:=List.pairwise_append.1 k.disj;refine⟨k.os.trans h.os,k.tape.trans h.tape,k.output.trans h.output,Nat.le_trans h.size k.size,(k.all (ix w0 M) (by simp)).2,fun i hi=>k.all i (List.mem_append_left _ hi),hd1,fun i hi b hb=>?_⟩
  rcases k.fresh i (List.mem_append_left _ hi) b hb with h1 | h1
  · exact .inl (Nat.le_trans h.size h1)
  · obtain ⟨j, hj, hjb⟩ := h1
    rcases List.mem_append.1 hj with hj | hj
    · exact h.fresh j hj b hjb
    · obtain rfl : j = _ := by simpa using hj
      exact absurd hjb (hd3 i hi _ (by simp) b hb)
theorem nU {F:Fence} {m:Nat} {P:Program} {l:Nat} {args:Array Value} {W:World} {R R':Ending→World→Prop} (h:YieldAt F m P l args W R) (hr:∀e w,R e w→R' e w):YieldAt F m P l args W R':=by
  obtain⟨fn,tmps,asg,body,h1,h2⟩:=h;exact⟨fn,tmps,asg,body,h1,h2.mono hr⟩
def Jp (P:Program) (l:Nat) (args:Array Value) (pre:List HI) {X:Type} (v:X→Value) (facts:X→Prop) (post:X→List HI):Prop:=
  ∀w,(∀i∈pre,i.holds w)→pre.Pairwise sv→YieldAt (FW none) 0 P l args w fun e w'=>∃x,e=.returned (v x)∧facts x∧St w (ay pre) (post x) w'
theorem Jp.apply {P:Program} {l:Nat} {args:Array Value} {pre:List HI} {X:Type} {v:X→Value} {facts:X→Prop} {post:X→List HI} (hc:Jp P l args pre v facts post) (idx rest:List Nat) (hn:(idx++rest).Nodup) (hp:sel σ idx=pre) {τ:X→List HI} (hτ:∀x,sel σ rest++post x=τ x) (w:World) (hw:St w0 M σ w):
    YieldAt (FW none) 0 P l args w fun e w'=>∃x,e=.returned (v x)∧facts x∧St w0 M (τ x) w':=by
  have h1:=hw.sel (idx++rest) hn;have e:sel σ (idx++rest)=pre++sel σ rest:=by rw[←hp];simp[sel]
  rw[e] at h1;refine nU (hc w (fun i hi=>h1.all i (List.mem_append_left _ hi)) (List.pairwise_append.1 h1.disj).1) ?_
  rintro e w' ⟨x,rfl,hf,hs⟩
  refine⟨x,rfl,hf,?_⟩;rw[←hτ];exact(h1.trans hs).perm List.perm_append_comm
theorem iF {P:Program} {r:Option Nat} {ρ:Env} {dst:Option Tmp} {ty:TypeId} {pos:String} {af:Array Edge} {g:Option (Nat×Bool)} {ys:List Operand} {ats:Array TypeId} {args:List Value} {l:Nat} {x:Operand} {pre:List HI} {X:Type} {v:X→Value} {facts:X→Prop} {post:X→List HI}
    (hc:Jp P l args.toArray pre v facts post) (idx rest:List Nat) (hp:sel σ idx=pre) {τ:X→List HI} (hτ:∀x,sel σ rest++post x=τ x) (hx:evo ρ x=.func (.yield l) #[] #[]:=by rfl) (ha:ys.map (evo ρ)=args:=by rfl) (hn:(idx++rest).Nodup:=by decide):
    cX P r (St w0 M σ) ⟨dst,.call ⟨.value x,ys.toArray,ats⟩,ty,pos,af,g⟩ ρ v (fun x w'=>facts x∧St w0 M (τ x) w'):=
  Cq (fun w hw=>hc.apply idx rest hn hp hτ w hw) hx ha
theorem Ct.x1 {P:Program} {f:FuncId} {args:Array Value} {ro F:List HI} {Fact:World→Prop} {X:Type} {v:X→Value} {facts:X→Prop} {G:X→List HI} (h:Ct P f args (ro++F) Fact v facts (fun x=>ro++G x)):Ct P f args (cN ro::F) Fact v facts (fun x=>cN ro::G x):=by
  intro w h1 h2 h3;have st:=(St.start h1 h2).unpack;refine(h w st.all st.disj h3).mono ?_
  rintro e w' ⟨x,rfl,hf,hs⟩
  refine⟨x,rfl,hf,?_⟩;rw[gP];exact hs.pack
theorem Jp.x1 {P:Program} {l:Nat} {args:Array Value} {ro F:List HI} {X:Type} {v:X→Value} {facts:X→Prop} {G:X→List HI} (h:Jp P l args (cN ro::F) v facts (fun x=>cN ro::G x)):Jp P l args (ro++F) v facts (fun x=>ro++G x):=by
  intro w h1 h2;have st:=(St.start h1 h2).pack;refine nU (h w st.all st.disj) ?_
  rintro e w' ⟨x,rfl,hf,hs⟩
  refine⟨x,rfl,hf,?_⟩;rw[←gP];exact hs.unpack
def HM {Z Y:Type} (H:Nat→Z→HI) (J:Nat→Y→HI) (k:Nat):Z ⊕ Y→HI
  | .inl z=>H (k+1) z
  | .inr y=>J k y
def KQ {Z Y:Type} (H:Nat→Z→HI) (J:Nat→Y→HI) (n:Nat):Z ⊕ (Nat×Y)→HI
  | .inl z=>H n z
  | .inr p=>J p.1 p.2
def gM (P:Program) (gf:Nat) (first cap:List Value) (ro:List HI) {α:Type} (args:α→List Value) (xs:List α):Prop:=
  ∀ (l : Nat) (Z Y : Type) (H : Nat → Z → HI) (J : Nat → Y → HI) (Inv : Nat → Z → Prop),
    (∀k x z,xs[k]?=some x→Inv k z→Jp P l (args x).toArray (ro++[H k z]) (X:=Z ⊕ Y) (fun o=>.bool o.isLeft) (fun o=>∀z',o=.inl z'→Inv (k+1) z') (fun o=>ro++[HM H J k o]))→
    ∀ z0, Inv 0 z0 → Ct P gf (first ++ [Value.func (.yield l) #[] #[]] ++ cap).toArray (ro ++ [H 0 z0]) (fun _ => True) (X := Z ⊕ (Nat × Y)) (fun _ => .tuple #[])
      (fun o=>(∀z,o=.inl z→Inv xs.length z)∧∀p,o=.inr p→p.1<xs.length) (fun o=>ro++[KQ H J xs.length o])
theorem gM.pack {P:Program} {gf:Nat} {first cap:List Value} {ro:List HI} {α:Type} {args:α→List Value} {xs:List α} (h:gM P gf first cap ro args xs):gM P gf first cap [cN ro] args xs:=
  fun l Z Y H J Inv hy z0 h0=>Ct.x1 (F:=[H 0 z0]) (G:=fun o=>[KQ H J xs.length o]) (h l Z Y H J Inv (fun k x z hx hz=>Jp.x1 (F:=[H k z]) (G:=fun o=>[HM H J k o]) (hy k x z hx hz)) z0 h0)
end
section
variable {P:Program} {r:Option Nat} {N:Nat} {Q:XP} {ρ:Env} {ds:List Deferred} {S:World→Prop} {w0:World} {M:Nat→Prop} {σ:List HI}
abbrev qz (ro own:List HI) (l D:Nat) (k:LK) (st:LoopState) (pe:Option Code) (w0:World) (M:Nat→Prop):List HI:=lp l k st pe::iM D::ix w0 M::(ro++own)
theorem tK (ro own:List HI) (l D:Nat) (k:LK) (st:LoopState) (pe:Option Code) (w0:World) (M:Nat→Prop):(qz ro own l D k st pe w0 M).Perm (ro++([lp l k st pe,iM D]++own++[ix w0 M])):=by
  have h1:(lp l k st pe::iM D::ix w0 M::(ro++own)).Perm ([lp l k st pe,iM D]++(ro++own++[ix w0 M])):=by
    refine List.Perm.cons _ (List.Perm.cons _ ?_);exact List.perm_append_comm (l₁:=[ix w0 M])
  refine h1.trans ?_;rw[List.append_assoc ro own];have h2:([lp l k st pe,iM D]++(ro++(own++[ix w0 M]))).Perm (ro++([lp l k st pe,iM D]++(own++[ix w0 M]))):=by
    rw[←List.append_assoc,←List.append_assoc ro];exact List.Perm.append_right _ List.perm_append_comm
  simpa [List.append_assoc] using h2
def Hz (w1:World) (M1:Nat→Prop) (ro:List HI) {Z:Type} (own:Nat→Z→List HI) (Inv:Nat→Z→Prop) {Y:Type} (FinJ:Code→Nat→Y→Prop) (ownJ:Y→List HI) (l D:Nat) (lk:LK) (w0:World) (M:Nat→Prop) (k:Nat):Ending→World→Prop:=fun e w'=>
  (∃z,e=.returned (.bool true)∧Inv (k+1) z∧St w1 M1 (qz ro (own (k+1) z) l D lk .ready none w0 M) w')∨(∃c y,e=.returned (.bool false)∧FinJ c k y∧St w1 M1 (qz ro (ownJ y) l D lk .done (some c) w0 M) w')
theorem WP.k9 {g:Operand} {ps:List Tmp} {asg body:Code} {gf:Nat} {first cap:List Value} (hg:evo ρ g=.func (.func gf) first.toArray cap.toArray) (eg:∀args w,(callFunc gf args).run P w=.ok (.enter gf args) w)
    {α:Type} {args:α→List Value} {xs:List α} {ro:List HI} (hit:gM P gf first cap ro args xs) {Z:Type} (own:Nat→Z→List HI) (Inv:Nat→Z→Prop) (z0:Z) (hz0:Inv 0 z0) (hσp:σ.Perm (ro++own 0 z0)) (hlen:∀x,(args x).length=ps.length) (hN:∀p∈ps,p<N)
    {Y:Type} (FinJ:Code→Nat→Y→Prop) (ownJ:Y→List HI)
    (hround : ∀ (lk : LK) (l D k : Nat) (x : α) (z : Z), xs[k]? = some x → Inv k z → ∀ w1 M1,
      WP P (some l) N asg (kY (begun P l N body (fX P l (Hz w1 M1 ro own Inv FinJ ownJ l D lk w0 M k))) noE) (xH ps (args x) ρ) [] (St w1 M1 (qz ro (own k z) l D lk .ready none w0 M)))
    (hend:∀D z,Inv xs.length z→∀w,St w0 M (ro++own xs.length z++[iM D]) w→Q .normal ρ (mark D::ds) w)
    (hjump:∀D c k y,FinJ c k y→k<xs.length→WP P none N c Q ρ (mark D::ds) (St w0 M (ro++ownJ y++[iM D]))):
    WP P none N (.rangeFunc g ps.toArray asg body) Q ρ ds (St w0 M σ):=by
  refine WP.uq hg eg (X:=Z) (Fin:=Inv xs.length) (τ:=fun z=>ro++own xs.length z) (Y:={p:Nat×Y // p.1<xs.length}) (FinJ:=fun c p=>FinJ c p.1.1 p.1.2) (τJ:=fun p=>ro++ownJ p.1.2) ?_ (fun D z hz w hw=>hend D z hz w hw) (fun D c p hf=>hjump D c p.1.1 p.1.2 hf p.2);intro lk l D hps has hbd hfr w hw
  let H:Nat→Z→HI:=fun k z=>cN ([lp l lk .ready none,iM D]++own k z++[ix w0 M])
  let J:Nat→{p:Nat×Code×Y // FinJ p.2.1 p.1 p.2.2∧p.1<xs.length}→HI:=fun _ q=>cN ([lp l lk .done (some q.1.2.1),iM D]++ownJ q.1.2.2++[ix w0 M])
  have hw2:St w0 M (ro++([lp l lk .ready none,iM D]++own 0 z0)) w:=by
    refine hw.perm ?_;refine(List.Perm.append_right _ hσp).trans ?_;rw[List.append_assoc];exact List.Perm.append_left _ List.perm_append_comm
  obtain⟨h1,h2⟩:=hw2.KA;have hfoot:ay (ro++[H 0 z0])=ay ((ro++([lp l lk .ready none,iM D]++own 0 z0))++[ix w0 M]):=by
    funext b
    apply propext;rw[lx,List.append_assoc,lx];exact or_congr Iff.rfl (by rw[show ay [H 0 z0] b↔ay ([lp l lk .ready none,iM D]++own 0 z0++[ix w0 M]) b from by rw[gP,List.append_nil]])
  have hst:St w (ay (ro++[H 0 z0])) (ro++[H 0 z0]) w:=by
    rw[hfoot];have h3:=St.start h1 h2;have h4:St w (ay ((ro++([lp l lk .ready none,iM D]++own 0 z0))++[ix w0 M])) (([lp l lk .ready none,iM D]++own 0 z0++[ix w0 M])++ro) w:=by
      refine h3.perm ?_;rw[List.append_assoc];exact List.perm_append_comm
    exact h4.pack.perm (List.perm_append_comm (l₁:=[H 0 z0]))
  -- the round,by contract
  have hy:∀k x z,xs[k]?=some x→Inv k z→Jp P l (args x).toArray (ro++[H k z]) (X:=Z ⊕ {p:Nat×Code×Y // FinJ p.2.1 p.1 p.2.2∧p.1<xs.length}) (fun o=>.bool o.isLeft) (fun o=>∀z',o=.inl z'→Inv (k+1) z') (fun o=>ro++[HM H J k o]):=by
    intro k x z hx hz v hv1 hv2;have h3:=St.start hv1 hv2;have h4:St v (ay (ro++[H k z])) (qz ro (own k z) l D lk .ready none w0 M) v:=by
      have h5:=(h3.perm (List.perm_append_comm (l₁:=ro) (l₂:=[H k z]))).unpack;exact h5.perm ((List.perm_append_comm).trans (tK ro (own k z) l D lk .ready none w0 M).symm)
    have h5:=Yld.intro (i:=0) (R:=Hz v (ay (ro++[H k z])) ro own Inv FinJ ownJ l D lk w0 M k) (args:=args x) hps has hbd hfr (by rfl) (hlen x) hN (hround lk l D k x z hx hz v (ay (ro++[H k z]))) v h4;refine nU h5 ?_;have back:∀(o:List HI) (st:LoopState) (pe:Option Code) (v':World),St v (ay (ro++[H k z])) (qz ro o l D lk st pe w0 M) v'→St v (ay (ro++[H k z])) (ro++[cN ([lp l lk st pe,iM D]++o++[ix w0 M])]) v':=fun o st pe v' h=>by
      have h6:=h.perm ((tK ro o l D lk st pe w0 M).trans List.perm_append_comm);exact h6.pack.perm (List.perm_append_comm (l₁:=[cN ([lp l lk st pe,iM D]++o++[ix w0 M])]))
    rintro e v' (⟨z',rfl,hz',h6⟩ | ⟨c,y,rfl,hf,h6⟩)
    · exact⟨.inl z',rfl,(fun _ e=>by cases e;exact hz'),back _ _ _ _ h6⟩
    · exact⟨.inr ⟨(k,c,y),hf,(List.getElem?_eq_some_iff.1 hx).1⟩,rfl,(fun _ e=>by cases e),back _ _ _ _ h6⟩
  have key:=hit l Z _ H J Inv hy z0 hz0 w hst.all hst.disj trivial;have fin:∀(o:List HI) (st:LoopState) (pe:Option Code) (w':World),St w (ay (ro++[H 0 z0])) (ro++[cN ([lp l lk st pe,iM D]++o++[ix w0 M])]) w'→St w0 M (ro++o++[lp l lk st pe,iM D]) w':=fun o st pe w' h=>by
    rw[hfoot] at h;have h6:=(h.perm (List.perm_append_comm (l₁:=ro))).unpack;have h7:St w (ay ((ro++([lp l lk .ready none,iM D]++own 0 z0))++[ix w0 M])) ((ro++o++[lp l lk st pe,iM D])++[ix w0 M]) w':=by
      refine h6.perm ?_;have e1:([lp l lk st pe,iM D]++o++[ix w0 M]++ro).Perm (ro++([lp l lk st pe,iM D]++o++[ix w0 M])):=List.perm_append_comm;refine e1.trans ?_;rw[List.append_assoc ro,List.append_assoc ro];refine List.Perm.append_left _ ?_;rw[List.append_assoc,List.append_assoc];refine(List.Perm.append_left _ (List.perm_append_comm (l₁:=o))).trans ?_;rw[←List.append_assoc];refine(List.perm_append_comm (l₁:=[lp l lk st pe,iM D]++[ix w0 M])).trans ?_;exact List.Perm.refl _
    exact hw2.TO h7
  refine key.mono ?_
  rintro e w' ⟨o,rfl,ho,h⟩
  refine⟨⟨_,rfl⟩,?_⟩;cases o with
  | inl z=>exact .inl ⟨z,ho.1 z rfl,fin _ _ _ _ h⟩
  | inr p=>exact .inr ⟨_,⟨(p.2.1.1,p.2.1.2.2),p.2.2.2⟩,p.2.2.1,fin _ _ _ _ h⟩
theorem sx {p:World→Prop} (h:∀w,S w→p w):∀w,S w→p w:=h
def j8 (Ds:List Nat):HI:=cN (Ds.map iM)
theorem St.mark {τ:List HI} {w:World} {D:Nat} {Ds:List Nat} (h:St w0 M (j8 Ds::iM D::τ) w):St w0 M (j8 (D::Ds)::τ) w:=by
  have h1:=h.unpack
  have h2 : St w0 M ((iM D :: Ds.map iM) ++ τ) w := h1.perm (by
    exact (List.perm_middle (l₁ := Ds.map iM)).trans (List.Perm.refl _))
  exact h2.pack
theorem St.DJ {w:World} (h:St w0 M σ w):St w0 M (j8 []::σ) w:=St.pack (τ:=[]) h
theorem da.IC {fn:Func} {R:Value→World→Prop} (Ds:List Nat) {τ:List HI} {w:World} {e:Exit} (he:e=.ret∨e=.normal) (h:St w0 M (τ++Ds.map iM) w) (hr:∀w,St w0 M τ w→da P fn R .ret ρ [] w):da P fn R e ρ (Ds.map mark) w:=by
  have h1:=da.marks Ds h hr;exact⟨he,h1.out⟩
theorem St.uk {τ:List HI} {w:World} {Ds:List Nat} (h:St w0 M (j8 Ds::τ) w):St w0 M (τ++Ds.map iM) w:=h.unpack.perm List.perm_append_comm
open Classical in
theorem WP.K7 {X:Type} {c:Code} (keep:List Nat) (E:X→List (Nat×Value)) (Sx:X→World→Prop) (dd:X→List Deferred) (μ:X→Nat) (x0:X) (h0:Has (E x0) ρ) (hd0:dd x0=ds) (hS0:∀w,S w→Sx x0 w)
    (hr:∀x ρ0,WP P r N c (kY (fun ρ' ds' w'=>∃x',μ x'<μ x∧ds'=dd x'∧Has (E x'++keep.map fun t=>(t,ρ t)) ρ'∧Sx x' w') Q) (mR (E x++keep.map fun t=>(t,ρ t)) ρ0) (dd x) (Sx x)):WP P r N (.loop c) Q ρ ds S:=by
  have hk:∀l:List Nat,Has (l.map fun t=>(t,ρ t)) ρ:=fun l=>by
    induction l with
    | nil=>trivial
    | cons t l ih=>exact⟨rfl,ih⟩
  intro w hw a ha
  let V:Act→World→Nat→Prop:=fun a' w' k=>∃x ρ',μ x=k∧Fr N ρ' (dd x) a'∧Has (E x++keep.map fun t=>(t,ρ t)) ρ'∧Sx x w'
  refine wpIn_loop (fun a' w'=>∃k,V a' w' k) (fun a' w'=>if h:∃k,V a' w' k then (gq h).choose else 0) ⟨_,x0,ρ,rfl,by rw[hd0];exact ha,C6 h0 (hk keep),hS0 w hw⟩ ?_;intro a' w' hI;obtain⟨⟨x,ρ',hk,hf,hE,hx⟩,_⟩:=(gq hI).choose_spec;have h1:=hr x ρ' w' hx a' (by rw[dW hE];exact hf);refine Go.wpIn_mono h1 ?_;intro e a2 w2 hq;cases e<;>first
    | exact hq.elim
    | exact hq
    | skip
  obtain⟨ρ2,ds2,hf2,x2,hlt,rfl,hE2,hx2⟩:=hq;have hI2:∃k,V a2 w2 k:=⟨_,x2,ρ2,rfl,hf2,hE2,hx2⟩;refine⟨hI2,?_⟩;rw[dif_pos hI,dif_pos hI2];have:=(gq hI2).choose_spec.2 (μ x2) ⟨x2,ρ2,rfl,hf2,hE2,hx2⟩;omega
end
end Go.Proofs.YtbedndijejpcaaaGreat
