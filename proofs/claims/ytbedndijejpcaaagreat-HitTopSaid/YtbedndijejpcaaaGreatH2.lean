/- Ops Call -/
import Derived.Test.YtbedndijejpcaaaGreatH1
set_option linter.unusedVariables false
set_option linter.unusedSimpArgs false
set_option linter.unusedSectionVars false
set_option maxRecDepth 100000
set_option maxHeartbeats 8000000
namespace Go.Proofs.YtbedndijejpcaaaGreat
open Go.RowKit
section
variable {P:Program} {r:Option Nat} {S:World→Prop} {ρ:Env} {dst:Option Tmp} {ty:TypeId} {pos:String} {af:Array Edge} {g:Option (Nat×Bool)}
theorem ba {o:Oper} {v:Value} (h:∀w,S w→(execOp (evo ρ) o).run P w=.ok (.value v) w):cw P S o ρ v:=fun w hw=>.inl (h w hw)
theorem aC {x:Operand} {v:Value} (h:evo ρ x=v):cw P S ⟨dst,.move x,ty,pos,af,g⟩ ρ v:=ba fun w _=>by subst h;rfl
theorem dB {x:Operand} {v:Value} (h:evo ρ x=v):cw P S ⟨dst,.assign x,ty,pos,af,g⟩ ρ v:=ba fun w _=>by subst h;rfl
section
variable {t t2:TypeId} {x y:Operand} {m n:Int}
theorem gJ (op:BinOp) (t2:TypeId) (hx:evo ρ x=.int .i64 m) (hy:evo ρ y=.int .i64 n) (w:World) (v:Value) (h:(binOp op t (.int .i64 m) (.int .i64 n)).run P w=.ok v w):
    (execOp (evo ρ) ⟨dst,.binOp op t x y t2,ty,pos,af,g⟩).run P w=.ok (.value v) w:=by
  have e:(eqGuard op t x y (.int .i64 m) (.int .i64 n)).run P w=.ok () w:=by cases op<;>rfl
  simp[execOp,hx,hy,e,h,Result.andThen]
theorem TF (hx:evo ρ x=.int .i64 m) (hy:evo ρ y=.int .i64 n):cw P S ⟨dst,.binOp .add t x y t2,ty,pos,af,g⟩ ρ (.int .i64 (wrap64 (m+n))):=
  ba fun w _=>gJ .add t2 hx hy w _ (by rw[←IntWalk.i64_left];rfl)
theorem L9 (hx:evo ρ x=.int .i64 m) (hy:evo ρ y=.int .i64 n):cw P S ⟨dst,.binOp .sub t x y t2,ty,pos,af,g⟩ ρ (.int .i64 (wrap64 (m - n))):=
  ba fun w _=>gJ .sub t2 hx hy w _ (by rw[←IntWalk.i64_left];rfl)
theorem L7 (hx:evo ρ x=.int .i64 m) (hy:evo ρ y=.int .i64 n):cw P S ⟨dst,.binOp .mul t x y t2,ty,pos,af,g⟩ ρ (.int .i64 (wrap64 (m*n))):=
  ba fun w _=>gJ .mul t2 hx hy w _ (by rw[←IntWalk.i64_left];rfl)
theorem zI (hx:evo ρ x=.int .i64 m) (hy:evo ρ y=.int .i64 n) (h:-9223372036854775808≤m+n∧m+n≤9223372036854775807):cw P S ⟨dst,.binOp .add t x y t2,ty,pos,af,g⟩ ρ (.int .i64 (m+n)):=by
  have:=TF (P:=P) (S:=S) (t:=t) (t2:=t2) (dst:=dst) (ty:=ty) (pos:=pos) (af:=af) (g:=g) hx hy
  rwa [IntWalk.wrap64_in _ h] at this
theorem jD (hx:evo ρ x=.int .i64 m) (hy:evo ρ y=.int .i64 n) (h:-9223372036854775808≤m - n∧m - n≤9223372036854775807):cw P S ⟨dst,.binOp .sub t x y t2,ty,pos,af,g⟩ ρ (.int .i64 (m - n)):=by
  have:=L9 (P:=P) (S:=S) (t:=t) (t2:=t2) (dst:=dst) (ty:=ty) (pos:=pos) (af:=af) (g:=g) hx hy
  rwa [IntWalk.wrap64_in _ h] at this
theorem Ad (hx:evo ρ x=.int .i64 m) (hy:evo ρ y=.int .i64 n) (h:-9223372036854775808≤m*n∧m*n≤9223372036854775807):cw P S ⟨dst,.binOp .mul t x y t2,ty,pos,af,g⟩ ρ (.int .i64 (m*n)):=by
  have:=L7 (P:=P) (S:=S) (t:=t) (t2:=t2) (dst:=dst) (ty:=ty) (pos:=pos) (af:=af) (g:=g) hx hy
  rwa [IntWalk.wrap64_in _ h] at this
theorem K2 (hx:evo ρ x=.int .i64 m) (hy:evo ρ y=.int .i64 n) (h0:0≤m) (h1:m≤9223372036854775807) (h2:1≤n):cw P S ⟨dst,.binOp .quo t x y t2,ty,pos,af,g⟩ ρ (.int .i64 (m / n)):=
  ba fun w _ => gJ .quo t2 hx hy w _ (by
    have h3 : n ≠ 0 := by omega
    have h4 := IntWalk.i64_quo m n ⟨h0, h1, h2⟩
    simp [binOp, Op.intDiv, h3, h4])
theorem nG (hx:evo ρ x=.int .i64 m) (hy:evo ρ y=.int .i64 n):cw P S ⟨dst,.binOp .lss t x y t2,ty,pos,af,g⟩ ρ (.bool (decide (m<n))):=ba fun w _=>gJ .lss t2 hx hy w _ rfl
theorem gn (hx:evo ρ x=.int .i64 m) (hy:evo ρ y=.int .i64 n):cw P S ⟨dst,.binOp .leq t x y t2,ty,pos,af,g⟩ ρ (.bool (decide (m≤n))):=ba fun w _=>gJ .leq t2 hx hy w _ rfl
theorem GV (hx:evo ρ x=.int .i64 m) (hy:evo ρ y=.int .i64 n):cw P S ⟨dst,.binOp .gtr t x y t2,ty,pos,af,g⟩ ρ (.bool (decide (n<m))):=ba fun w _=>gJ .gtr t2 hx hy w _ rfl
theorem oV (hx:evo ρ x=.int .i64 m) (hy:evo ρ y=.int .i64 n):cw P S ⟨dst,.binOp .geq t x y t2,ty,pos,af,g⟩ ρ (.bool (decide (n≤m))):=ba fun w _=>gJ .geq t2 hx hy w _ rfl
theorem dD (hx:evo ρ x=.int .i64 m) (hy:evo ρ y=.int .i64 n):cw P S ⟨dst,.binOp .eql t x y t2,ty,pos,af,g⟩ ρ (.bool (decide (m=n))):=ba fun w _=>gJ .eql t2 hx hy w _ (by simp[binOp,Op.intCmp];rfl)
theorem vr (hx:evo ρ x=.int .i64 m) (hy:evo ρ y=.int .i64 n):cw P S ⟨dst,.binOp .neq t x y t2,ty,pos,af,g⟩ ρ (.bool (decide (m≠n))):=ba fun w _=>gJ .neq t2 hx hy w _ (by simp[binOp,Op.intCmp];rfl)
theorem zX {o:Oper} {p:Prop} [Decidable p] {b:Bool} (h:cw P S o ρ (.bool (decide p))) (e:decide p=b):cw P S o ρ (.bool b):=by rw[←e];exact h
theorem qA {k:Int} (hx:evo ρ x=.int .i64 m) (hy:evo ρ y=.int .i64 n) (e:m+n=k:=by rfl) (h:-9223372036854775808≤k∧k≤9223372036854775807:=by omega):cw P S ⟨dst,.binOp .add t x y t2,ty,pos,af,g⟩ ρ (.int .i64 k):=by
  subst e;exact zI hx hy h
theorem pO (hx:evo ρ x=.int .i64 m) (h:-9223372036854775807≤m∧m≤9223372036854775807):cw P S ⟨dst,.unOp .neg t x,ty,pos,af,g⟩ ρ (.int .i64 (-m)):=ba fun w _=>by
  have:=IntWalk.i64_in (-m) (by omega);simp[execOp,hx,Op.unary,Op.intArith,this]
theorem GI {b:Bool} (hx:evo ρ x=.bool b):cw P S ⟨dst,.unOp .not t x,ty,pos,af,g⟩ ρ (.bool (!b)):=ba fun w _=>by simp[execOp,hx,Op.unary]
theorem fJ {c:Operand} {u:Value} (hc:evo ρ c=.bool true) (hx:evo ρ x=u):cw P S ⟨dst,.pick c x y,ty,pos,af,g⟩ ρ u:=ba fun w _=>by
  simp[execOp,hc,hx,asBool]
theorem eM {c:Operand} {v:Value} (hc:evo ρ c=.bool false) (hy:evo ρ y=v):cw P S ⟨dst,.pick c x y,ty,pos,af,g⟩ ρ v:=ba fun w _=>by
  simp[execOp,hc,hy,asBool]
theorem Dv {ats:Array TypeId} (hx:evo ρ x=.int .i64 m) (hy:evo ρ y=.int .i64 n):cw P S ⟨dst,.call ⟨.builtin .max,#[x,y],ats⟩,ty,pos,af,g⟩ ρ (.int .i64 (max m n)):=ba fun w _=>by
  have h:=GF P w ats ty m n;simp[execOp,resolve,invoke,builtin,hx,hy,h,Result.andThen]
theorem HP {ats:Array TypeId} (hx:evo ρ x=.int .i64 m) (hy:evo ρ y=.int .i64 n):cw P S ⟨dst,.call ⟨.builtin .min,#[x,y],ats⟩,ty,pos,af,g⟩ ρ (.int .i64 (min m n)):=ba fun w _=>by
  have h:=GD P w ats ty m n;simp[execOp,resolve,invoke,builtin,hx,hy,h,Result.andThen]
theorem acz {e:TypeId} {A:Option Addr} {k c:Nat} (ht:P.underlying t=some (.slice e)) (hx:evo ρ x=.slice A k c):cw P S ⟨dst,.call ⟨.builtin .len,#[x],#[t]⟩,ty,pos,af,g⟩ ρ (.int .i64 k):=ba fun w _=>by
  simp[execOp,resolve,invoke,builtin,hx,Builtin.len_,Result.andThen,goInt,run_underlying ht]
theorem x7 {e:TypeId} {A:Option Addr} {k c:Nat} (ht:P.underlying t=some (.slice e)) (hx:evo ρ x=.slice A k c):cw P S ⟨dst,.call ⟨.builtin .cap,#[x],#[t]⟩,ty,pos,af,g⟩ ρ (.int .i64 c):=ba fun w _=>by
  simp[execOp,resolve,invoke,builtin,hx,Builtin.cap_,Result.andThen,goInt,run_underlying ht]
theorem jO {a:Addr} (hx:evo ρ x=.pointer (some a)):cw P S ⟨dst,.nilCheck x,ty,pos,af,g⟩ ρ (.pointer (some a)):=ba fun w _=>by
  simp[execOp,hx]
theorem bR {k:Nat} {vs:Array Value} {v:Value} (hx:evo ρ x=.tuple vs) (hv:vs[k]?=some v):cw P S ⟨dst,.extract x k,ty,pos,af,g⟩ ρ v:=ba fun w _=>by
  simp[execOp,hx,Instr.extract,hv]
theorem eW {fn:Fn} {fs cs:List Operand}:cw P S ⟨dst,.makeFunc fn fs.toArray cs.toArray,ty,pos,af,g⟩ ρ (.func fn (fs.map (evo ρ)).toArray (cs.map (evo ρ)).toArray):=ba fun w _=>by
  simp[execOp,Instr.makeFunc]
theorem gp (b o n:Nat):(⟨b,o,none⟩:Addr).add n=⟨b,o+n,none⟩:=Addr.add_lit b o n
theorem e7 {fs:Array Field} {f:Field} {k fi b o off:Nat} (ht:P.underlying t=some (.struct fs)) (hf:fs[fi]?=some f) (hz:∀w,(sizeOf f.type).run P w=.ok k w) (hx:evo ρ x=.pointer (some ⟨b,o,none⟩)) (ho:f.offset=off:=by rfl) (hk:k≠0:=by decide):
    cw P S ⟨dst,.fieldAddr t x fi,ty,pos,af,g⟩ ρ (.pointer (some ⟨b,o+off,none⟩)):=ba fun w _=>by
  simp[execOp,Instr.fieldAt,run_underlying ht,hf,hx,Instr.sureAddr,fieldPlace,hz,hk,gp,ho]
theorem aS {fs:Array Field} {f:Field} {k fi b o o':Nat} (ht:P.underlying t=some (.struct fs)) (hf:fs[fi]?=some f) (hz:∀w,(sizeOf f.type).run P w=.ok k w) (hx:evo ρ x=.pointer (some ⟨b,o,none⟩)) (ho:o+f.offset=o') (hk:k≠0:=by decide):
    cw P S ⟨dst,.fieldAddr t x fi,ty,pos,af,g⟩ ρ (.pointer (some ⟨b,o',none⟩)):=ba fun w _=>by
  simp[execOp,Instr.fieldAt,run_underlying ht,hf,hx,Instr.sureAddr,fieldPlace,hz,hk,gp,ho]
theorem bG {e:TypeId} {sz b o n c j:Nat} {k:Int} (ht:P.underlying t=some (.slice e)) (hz:∀w,(sizeOf e).run P w=.ok sz w) (hx:evo ρ x=.slice (some ⟨b,o,none⟩) n c) (hy:evo ρ y=.int .i64 k) (hj:k=(j:Int)) (hlt:j<n):
    cw P S ⟨dst,.indexAddr t x y,ty,pos,af,g⟩ ρ (.pointer (some ⟨b,o+j*sz,none⟩)):=ba fun w _=>by
  subst hj;simp[execOp,Instr.indexAt,asIntOf,run_underlying ht,hx,hy,hlt,hz,gp]
theorem cE {e:TypeId} {N sz b o j:Nat} {k:Int} (ht:P.underlying t=some (.array N e)) (hz:∀w,(sizeOf e).run P w=.ok sz w) (hx:evo ρ x=.pointer (some ⟨b,o,none⟩)) (hy:evo ρ y=.int .i64 k) (hj:k=(j:Int)) (hlt:j<N):
    cw P S ⟨dst,.indexAddr t x y,ty,pos,af,g⟩ ρ (.pointer (some ⟨b,o+j*sz,none⟩)):=ba fun w _=>by
  subst hj;simp[execOp,Instr.indexAt,Instr.sureAddr,asIntOf,run_underlying ht,hx,hy,hlt,hz,gp]
def aJ (w:World) (b o:Nat) (cs:List Value):Prop:=∀j u,cs[j]?=some u→w.cell? ⟨b,o+j,none⟩=some u
theorem ai {b o:Nat} {u:Value} (ha:∀w,(isAgg t).run P w=.ok false w) (hx:evo ρ x=.pointer (some ⟨b,o,none⟩)) (hc:∀w,S w→aJ w b o [u]):cw P S ⟨dst,.load t x,ty,pos,af,g⟩ ρ u:=ba fun w hw=>by
  have h:=hc w hw 0 u rfl;simp only[Nat.add_zero] at h;simp[execOp,Instr.loadAt,Instr.sureAddr,hx,loadVar,ha,load,Sem.run,h]
theorem run_loadCellsFrom (P:Program) {w:World} (b o:Nat):∀(cs:List Value) (i:Nat) (acc:Array Value),aJ w b (o+i) cs→(loadCellsFrom ⟨b,o,none⟩ i cs.length acc).run P w=.ok (acc++cs.toArray) w
  | [],i,acc,_=>by simp[loadCellsFrom]
  | u :: cs, i, acc, h => by
    have h0:=h 0 u rfl;simp only[Nat.add_zero] at h0;have h1:=run_loadCellsFrom P b o cs (i+1) (acc.push u) (fun j v hj=>by have:=h (j+1) v (by simpa using hj);rw[←this];congr 2;omega);simp only[List.length_cons,loadCellsFrom,gp,load,Sem.run_bind];simp only[Sem.run,h0,Result.andThen,h1];simp
theorem run_loadCells (P:Program) {w:World} {b o:Nat} {cs:List Value} (h:aJ w b o cs):(loadCells ⟨b,o,none⟩ cs.length).run P w=.ok cs.toArray w:=by
  have:=run_loadCellsFrom P b o cs 0 #[] (by simpa using h)
  simpa [loadCells] using this
theorem au {b o k:Nat} {cs:List Value} (ha:∀w,(isAgg t).run P w=.ok true w) (hz:∀w,(sizeOf t).run P w=.ok k w) (hx:evo ρ x=.pointer (some ⟨b,o,none⟩)) (hc:∀w,S w→aJ w b o cs) (hk:cs.length=k:=by rfl):
    cw P S ⟨dst,.load t x,ty,pos,af,g⟩ ρ (.agg cs.toArray):=ba fun w hw=>by
  subst hk;simp[execOp,Instr.loadAt,Instr.sureAddr,hx,loadVar,ha,hz,run_loadCells P (hc w hw)]
section
variable {w0 w:World} {M:Nat→Prop} {σ:List HI}
theorem St.aq {i b:Nat} {t:TypeId} {cs:List Value} (h:St w0 M σ w) (hi:σ[i]?=some (.cl b t cs)) (o:Nat) {us:List Value} (hu:(cs.drop o).take us.length=us):aJ w b o us:=by
  have h1:w.heap[b]?=some (.cells cs.toArray t (0,0)):=h.all _ (List.mem_of_getElem? hi);intro j u hj;rw[cell_of_row w b (o+j) _ t (0,0) h1,List.getElem?_toArray];have hlt:j<us.length:=(List.getElem?_eq_some_iff.1 hj).1;rw[←hu,List.getElem?_take,if_pos hlt,List.getElem?_drop] at hj;exact hj
theorem St.dH {i g n cap sz:Nat} {t:TypeId} {xs:List Value} (h:St w0 M σ w) (hi:σ[i]?=some (.row t sz (some ⟨g,0,none⟩) n cap xs)) (o:Nat) {us:List Value} (hu:∀j u,us[j]?=some u→xs[o+j]?=some u):aJ w g o us:=by
  have h1:w.ownsRow 0 t sz (.slice (some ⟨g,0,none⟩) n cap) n xs:=h.all _ (List.mem_of_getElem? hi);intro j u hj;have h2:=hu j u hj;rw[h1.cellAt (o+j) (by have:=(List.getElem?_eq_some_iff.1 h2).1;have:=h1.1;omega)];exact h2
theorem St.bh {i gb n cap sz k o:Nat} {t:TypeId} {xs:List Value} {u:Value} (h:St w0 M σ w) (hi:σ[i]?=some (.row t sz (some ⟨gb,0,none⟩) n cap xs)) (hu:xs[k]?=some u) (ho:o=k):aJ w gb o [u]:=by
  subst ho;refine h.dH hi o fun j v hj=>?_;cases j with
  | zero=>simp at hj;subst hj;exact hu
  | succ j=>simp at hj
theorem St.cW {b o:Nat} {us:List Value} (h:St w0 M σ w) (hc:aJ w0 b o us) (hM:¬M b):aJ w b o us:=by
  intro j u hj;have h1:=hc j u hj;exact(World.cell?_of_block (h.old b (lP h1) hM)).trans h1
end
theorem CX {parts:Array (Nat×Operand)} {v:Value} (h:∀w,(Instr.build t (parts.map fun(i,x)=>(i,evo ρ x))).run P w=.ok v w):cw P S ⟨dst,.build t parts,ty,pos,af,g⟩ ρ v:=ba fun w _=>by
  have h1:=h w;simp only[execOp,Sem.run_bind,Sem.run_pure];rw[h1];rfl
def placesOf (P:Program) (fs:List Field):List (Nat×Nat):=fs.map fun f=>(f.offset,((P.info? f.type).map (·.size)).getD 0)
def fillL:List Value→List (Nat×List Value)→List Value
  | cs,[]=>cs
  | cs,p::l=>fillL (cs.take p.1++p.2++cs.drop (p.1+p.2.length)) l
theorem vy:∀(vs:List Value) (cs:List Value) (o i:Nat),o+i+vs.length≤cs.length→((vs.zipIdx i).foldl (fun(cs:Array Value) (p:Value×Nat)=>cs.setIfInBounds (o+p.2) p.1) cs.toArray)=(cs.take (o+i)++vs++cs.drop (o+i+vs.length)).toArray
  | [],cs,o,i,_=>by simp
  | v :: vs, cs, o, i, h => by
    simp only[List.length_cons] at h;have h1:=vy vs (cs.set (o+i) v) o (i+1) (by simp;omega);simp only[List.zipIdx_cons,List.foldl_cons,List.setIfInBounds_toArray,h1]
    congr 1
    have h2:(cs.set (o+i) v).take (o+(i+1))=cs.take (o+i)++[v]:=by
      rw[show o+(i+1)=(o+i)+1 by omega,List.take_succ_eq_append_getElem (by simp;omega),List.take_set_of_le (Nat.le_refl _)];simp
    have h3:(cs.set (o+i) v).drop (o+(i+1)+vs.length)=cs.drop (o+i+(vs.length+1)):=by
      rw[List.drop_set_of_lt (by omega)]
      congr 1
      omega
    rw[h2,h3];simp
theorem rj (v:Value) (cs:List Value) (o:Nat) (h:o+v.cells.size≤cs.length):v.cells.zipIdx.foldl (fun cs (p:Value×Nat)=>cs.setIfInBounds (o+p.2) p.1) cs.toArray=(cs.take o++v.cells.toList++cs.drop (o+v.cells.size)).toArray:=by
  have:=vy v.cells.toList cs o 0 (by simpa using h);simp only[Nat.add_zero,Array.length_toList] at this;rw[←this,←Array.foldl_toList];simp
def fitsB (place:Nat→Option (Nat×Nat)) (n:Nat):List (Nat×Nat)→Bool
  | []=>true
  | p::l=>(match place p.1 with | some (o,k)=>p.2==k&&decide (o+k≤n) | none=>false)&&fitsB place n l
theorem qP (place:Nat→Option (Nat×Nat)):∀(parts:List (Nat×Value)) (cs:List Value),fitsB place cs.length (parts.map fun p=>(p.1,p.2.cells.size))=true→
    Instr.fill place cs.toArray parts=some (fillL cs (parts.map fun p=>(((place p.1).map (·.1)).getD 0,p.2.cells.toList))).toArray
  | [],cs,_=>rfl
  | (i, v) :: l, cs, h => by
    simp only[List.map_cons,fitsB,Bool.and_eq_true] at h;cases hp:place i with
    | none=>simp[hp] at h
    | some q =>
      obtain⟨o,k⟩:=q;simp only[hp,Bool.and_eq_true,beq_iff_eq,decide_eq_true_eq] at h;obtain⟨⟨h1,h2⟩,h3⟩:=h;simp only[Instr.fill,hp];rw[if_neg (by simp;omega),rj v cs o (by omega)]
      rw [qP place l _ (by
        have e : (cs.take o ++ v.cells.toList ++ cs.drop (o + v.cells.size)).length = cs.length := by simp; omega
        rw [e]; exact h3)]
      simp[fillL,hp]
def placeOf (f:Field):Sem (Nat×Nat):=do pure (f.offset,←sizeOf f.type)
theorem run_places {P:Program}:∀(fs:List Field) (w:World),fs.all (fun f=>(P.info? f.type).isSome)=true→(fs.mapM placeOf).run P w=.ok (placesOf P fs) w
  | [],w,_=>rfl
  | f :: fs, w, h => by
    simp only[List.all_cons,Bool.and_eq_true] at h;obtain⟨i,hi⟩:=Option.isSome_iff_exists.1 h.1;have h1:=run_places fs w h.2;have h0:(placeOf f).run P w=.ok (f.offset,i.size) w:=by simp[placeOf,sizeOf,typeInfo,program,Sem.run,hi]
    simp only[List.mapM_cons,Sem.run_bind,Sem.run_pure,h0,h1,Result.andThen];simp[placesOf,hi]
theorem aV {fs:List Field} {z:Value} {zs us:List Value} {parts:List (Nat×Operand)} {pl:List (Nat×Nat)} (ht:P.underlying t=some (.struct fs.toArray)) (hz:∀w,(zeroValue t).run P w=.ok z w) (hzs:z.cells=zs.toArray) (hpl:placesOf P fs=pl)
    (hf:fitsB (fun i=>pl[i]?) zs.length (parts.map fun p=>(p.1,(evo ρ p.2).cells.size))=true) (hu:fillL zs (parts.map fun p=>((pl[p.1]?.map (·.1)).getD 0,(evo ρ p.2).cells.toList))=us) (hs:fs.all (fun f=>(P.info? f.type).isSome)=true):
    cw P S ⟨dst,.build t parts.toArray,ty,pos,af,g⟩ ρ (.agg us.toArray):=CX fun w=>by
  have h1:=run_places fs w hs;have h2:=qP (fun i=>pl[i]?) (parts.map fun p=>(p.1,evo ρ p.2)) zs (by rw[List.map_map];exact hf);simp only[List.map_map,Function.comp_def] at h2;rw[hu] at h2;rw[hpl] at h1;have h4:(fs.toArray.mapM placeOf).run P w=.ok pl.toArray w:=by
    rw[List.mapM_toArray];simp[h1]
  have h5:Instr.fill (fun i=>pl.toArray[i]?) zs.toArray (parts.map fun p=>(p.1,evo ρ p.2))=some us.toArray:=by
    simpa using h2
  simp only[Instr.build,Sem.run_bind,hz,run_underlying ht,Result.andThen,hzs];have h6:(fs.toArray.mapM fun f=>(do pure (f.offset,←sizeOf f.type):Sem (Nat×Nat))).run P w=.ok pl.toArray w:=h4;simp only[h6,List.map_toArray];rw[h5];rfl
theorem hR {fs:Array Field} {f:Field} {fi:Nat} {cs:Array Value} {u:Value} (ht:P.underlying t=some (.struct fs)) (hf:fs[fi]?=some f) (ha:∀w,(isAgg f.type).run P w=.ok false w) (hx:evo ρ x=.agg cs) (hu:cs[f.offset]?=some u):
    cw P S ⟨dst,.field t x fi,ty,pos,af,g⟩ ρ u:=ba fun w _=>by
  simp[execOp,Instr.field,run_underlying ht,hf,hx,part,ha,hu,asAgg]
theorem j3 {fs:Array Field} {f:Field} {fi k:Nat} {cs:Array Value} {us:Array Value} (ht:P.underlying t=some (.struct fs)) (hf:fs[fi]?=some f) (ha:∀w,(isAgg f.type).run P w=.ok true w) (hz:∀w,(sizeOf f.type).run P w=.ok k w)
    (hx:evo ρ x=.agg cs) (hu:cs.extract f.offset (f.offset+k)=us):cw P S ⟨dst,.field t x fi,ty,pos,af,g⟩ ρ (.agg us):=ba fun w _=>by
  simp[execOp,Instr.field,run_underlying ht,hf,hx,part,ha,hz,hu,asAgg]
def dZ (A:Option Addr) (l m sz:Nat):Option Addr:=if m=l then A else A.map fun a=>a.add (l*sz)
theorem cD {e:TypeId} {sz n c l h:Nat} {A:Option Addr} {lo hi:Option Operand} {kl kh:Int} (ht:P.underlying t=some (.slice e)) (hz:∀w,(sizeOf e).run P w=.ok sz w) (hx:evo ρ x=.slice A n c)
    (hl:match lo with | some o=>evo ρ o=.int .i64 kl∧kl=(l:Int) | none=>l=0) (hh:match hi with | some o=>evo ρ o=.int .i64 kh∧kh=(h:Int) | none=>h=n) (hlh:l≤h) (hhc:h≤c):
    cw P S ⟨dst,.slice t x lo hi none,ty,pos,af,g⟩ ρ (.slice (dZ A l c sz) (h - l) (c - l)):=ba fun w _=>by
  cases lo<;>cases hi<;>simp only at hl hh
  · subst hl; subst hh
    simp[execOp,Instr.sliceAt,Instr.slice,Instr.sliceBounds,run_underlying ht,hx,hz,dZ]
  · obtain ⟨h1, rfl⟩ := hh; subst hl
    simp[execOp,Instr.sliceAt,Instr.slice,Instr.sliceBounds,Instr.sliceBound,asIntOf,run_underlying ht,hx,hz,dZ,h1,hhc]
  · obtain ⟨h1, rfl⟩ := hl; subst hh
    simp[execOp,Instr.sliceAt,Instr.slice,Instr.sliceBounds,Instr.sliceBound,asIntOf,run_underlying ht,hx,hz,dZ,h1,hlh]
  · obtain ⟨h1, rfl⟩ := hl; obtain ⟨h2, rfl⟩ := hh
    simp[execOp,Instr.sliceAt,Instr.slice,Instr.sliceBounds,Instr.sliceBound,asIntOf,run_underlying ht,hx,hz,dZ,h1,h2,hlh,hhc]
theorem mN {e:TypeId} {N b o sz:Nat} (ht:P.underlying t=some (.array N e)) (hz:∀w,(sizeOf e).run P w=.ok sz w) (hx:evo ρ x=.pointer (some ⟨b,o,none⟩)):
    cw P S ⟨dst,.slice t x none none none,ty,pos,af,g⟩ ρ (.slice (some ⟨b,o,none⟩) N N):=ba fun w _=>by
  simp[execOp,Instr.sliceAt,Instr.sureAddr,Instr.sliceBounds,run_underlying ht,hx,hz,gp]
section
variable {w0 w w':World} {M:Nat→Prop} {σ σ':List HI}
theorem St.new (w:World) (t:TypeId) (cs:List Value):St w No [.cl w.heap.size t cs] (w.alloc (.cells cs.toArray t)):=by
  refine⟨rfl,rfl,rfl,by simp,fun b hb _=>Below.heap_alloc w _ b hb,?_,List.pairwise_singleton _ _,?_⟩
  · intro i hi
    obtain rfl:i=_:=by simpa using hi
    exact heap_alloc_new w _
  · intro i hi b hb
    obtain rfl:i=_:=by simpa using hi
    obtain rfl:b=w.heap.size:=hb;exact .inl (Nat.le_refl _)
theorem St.l9 {x y:HI} (hg:∀b,b<w.heap.size→¬x.foot b→w'.heap[b]?=w.heap[b]?) (hy:y.holds w') (hf:∀b,y.foot b→w.heap.size≤b∨x.foot b)
    (h1:w'.os=w.os) (h2:w'.tape=w.tape) (h3:w'.output=w.output) (h4:w.heap.size≤w'.heap.size):St w (ay [x]) [y] w':=by
  refine⟨h1,h2,h3,h4,fun b hb hn=>hg b hb fun hx=>hn ⟨x,by simp,hx⟩,?_,List.pairwise_singleton _ _,?_⟩
  · intro i hi
    obtain rfl:i=y:=by simpa using hi
    exact hy
  · intro i hi b hb
    obtain rfl:i=y:=by simpa using hi
    rcases hf b hb with h | h
    · exact .inl h
    · exact .inr ⟨x,by simp,h⟩
theorem fh {b o:Nat} {u:Value} {t:TypeId} {cs:List Value} (h:w.heap[b]?=some (.cells cs.toArray t (0,0))):(w.setCell ⟨b,o,none⟩ u).heap[b]?=some (.cells (cs.set o u).toArray t (0,0)):=by
  have h1:=heap_setCell_same w b o cs.toArray t u h;rw[h1];simp
theorem St.AG {b o:Nat} {t:TypeId} {cs:List Value} {u:Value} (h:(HI.cl b t cs).holds w):St w (ay [.cl b t cs]) [.cl b t (cs.set o u)] (w.setCell ⟨b,o,none⟩ u):=
  St.l9 (fun k _ hn=>Below.heap_setCell w _ u k (fun e=>hn e)) (fh h) (fun _ hb=>.inr hb) rfl rfl rfl (by simp[World.setCell])
theorem St.setRow {g o n cap sz:Nat} {t:TypeId} {xs:List Value} {u:Value} (h:(HI.row t sz (some ⟨g,0,none⟩) n cap xs).holds w):
    St w (ay [.row t sz (some ⟨g,0,none⟩) n cap xs]) [.row t sz (some ⟨g,0,none⟩) n cap (xs.set o u)] (w.setCell ⟨g,o,none⟩ u):=
  St.l9 (fun k _ hn=>Below.heap_setCell w _ u k (fun e=>hn ⟨_,rfl,e⟩)) (World.ownsRow.stored h o u).1 (fun _ hb=>.inr hb) rfl rfl rfl (by simp[World.setCell])
theorem lu {b o:Nat} {u v0:Value} (hz:∀w,(sizeOf t).run P w=.ok 1 w) (hx:evo ρ x=.pointer (some ⟨b,o,none⟩)) (hy:evo ρ y=u) (h1:u.oneCell'=true) (hc:w.cell? ⟨b,o,none⟩=some v0) (hf:w.frozen? ⟨b,o,none⟩=false):
    (execOp (evo ρ) ⟨dst,.store t x y,ty,pos,af,g⟩).run P w=.ok .skip (w.setCell ⟨b,o,none⟩ u):=by
  have e:u.cells=#[u]:=by cases u<;>first | rfl | simp[Value.oneCell'] at h1
  have hs:(store ⟨b,o,none⟩ u).run P w=.ok () (w.setCell ⟨b,o,none⟩ u):=by
    cases u<;>first | (simp[Value.oneCell'] at h1;done) | simp[store,Sem.run,hc,hf]
  simp[execOp,Instr.storeAt,Instr.sureAddr,hx,hy,storeVar,e,hz,storeCells,Addr.add,hs]
theorem cz {i b o:Nat} {u:Value} {tc:TypeId} {cs:List Value} (hz:∀w,(sizeOf t).run P w=.ok 1 w) (hx:evo ρ x=.pointer (some ⟨b,o,none⟩)) (hy:evo ρ y=u) (hi:σ[i]?=some (.cl b tc cs)) (ho:o<cs.length)
    (hσ:σ.set i (.cl b tc (cs.set o u))=σ') (h1:u.oneCell'=true:=by rfl):cX P r (St w0 M σ) ⟨dst,.store t x y,ty,pos,af,g⟩ ρ (X:=Unit) (fun _=>undef) (fun _=>St w0 M σ'):=
  cX.ji rfl fun w hw=>by
    have h:=hw.all _ (List.mem_of_getElem? hi);have hc:=hw.aq hi o (us:=[cs[o]]) (by rw[List.length_singleton,List.drop_eq_getElem_cons ho];rfl) 0 cs[o] rfl;have hf:w.frozen? ⟨b,o,none⟩=false:=frozen_of_row w b o _ tc h;exact⟨_,lu hz hx hy h1 hc hf,by rw[←hσ];exact hw.upd hi (St.AG h)⟩
theorem oC {i gb o n cap sz:Nat} {u:Value} {tc:TypeId} {xs:List Value} (hz:∀w,(sizeOf t).run P w=.ok 1 w) (hx:evo ρ x=.pointer (some ⟨gb,o,none⟩)) (hy:evo ρ y=u) (hi:σ[i]?=some (.row tc sz (some ⟨gb,0,none⟩) n cap xs)) (ho:o<xs.length)
    (hσ:σ.set i (.row tc sz (some ⟨gb,0,none⟩) n cap (xs.set o u))=σ') (h1:u.oneCell'=true:=by rfl):cX P r (St w0 M σ) ⟨dst,.store t x y,ty,pos,af,g⟩ ρ (X:=Unit) (fun _=>undef) (fun _=>St w0 M σ'):=
  cX.ji rfl fun w hw=>by
    have h:w.ownsRow 0 tc sz (.slice (some ⟨gb,0,none⟩) n cap) n xs:=hw.all _ (List.mem_of_getElem? hi);have hc:=hw.dH hi o (us:=[xs[o]]) (fun j u hj=>by cases j with | zero=>simp at hj;subst hj;simp | succ j=>simp at hj) 0 xs[o] rfl;exact⟨_,lu hz hx hy h1 hc (h.frozenAt o),by rw[←hσ];exact hw.upd hi (St.setRow h)⟩
theorem bU {i gb o n cap sz:Nat} {u:Value} {tc:TypeId} {xs xs':List Value} (hz:∀w,(sizeOf t).run P w=.ok 1 w) (hx:evo ρ x=.pointer (some ⟨gb,o,none⟩)) (hy:evo ρ y=u) (hi:σ[i]?=some (.row tc sz (some ⟨gb,0,none⟩) n cap xs)) (ho:o<xs.length)
    (hxs:xs.set o u=xs') (hσ:σ.set i (.row tc sz (some ⟨gb,0,none⟩) n cap xs')=σ') (h1:u.oneCell'=true:=by rfl):cX P r (St w0 M σ) ⟨dst,.store t x y,ty,pos,af,g⟩ ρ (X:=Unit) (fun _=>undef) (fun _=>St w0 M σ'):=
  oC hz hx hy hi ho (by rw[hxs];exact hσ) h1
def setL:List Value→Nat→List Value→List Value
  | cs,_,[]=>cs
  | cs,o,u::us=>setL (cs.set o u) (o+1) us
theorem cL:∀(us cs:List Value) (o:Nat),(setL cs o us).length=cs.length
  | [],_,_=>rfl
  | u::us,cs,o=>by simp[setL,cL us]
theorem de (P:Program) {b o:Nat} {t:TypeId}:∀(us:List Value) (i:Nat) (cs:List Value) (w:World),(HI.cl b t cs).holds w→o+i+us.length≤cs.length→(∀u∈us,u.oneCell'=true)→
    ∃w',(storeCells ⟨b,o,none⟩ us i).run P w=.ok () w'∧St w (ay [.cl b t cs]) [.cl b t (setL cs (o+i) us)] w'
  | [],i,cs,w,h,_,_=>⟨w,rfl,St.l9 (fun _ _ _=>rfl) h (fun _ hb=>.inr hb) rfl rfl rfl (Nat.le_refl _)⟩
  | u :: us, i, cs, w, h, hl, h1 => by
    simp only[List.length_cons] at hl;have hu:=h1 u (by simp);have hc:w.cell? ⟨b,o+i,none⟩=some (cs[o+i]'(by omega)):=by
      have h2:w.heap[b]?=some (.cells cs.toArray t (0,0)):=h;rw[cell_of_row w b (o+i) _ t (0,0) h2];simp
    have hf:w.frozen? ⟨b,o+i,none⟩=false:=frozen_of_row w b (o+i) _ t h;have hs:(store ⟨b,o+i,none⟩ u).run P w=.ok () (w.setCell ⟨b,o+i,none⟩ u):=by
      cases u<;>first | (simp[Value.oneCell'] at hu;done) | simp[store,Sem.run,hc,hf]
    obtain⟨w',h3,h4⟩:=de P (b:=b) (o:=o) (t:=t) us (i+1) (cs.set (o+i) u) (w.setCell ⟨b,o+i,none⟩ u) (fh h) (by simp;omega) (fun u' hu'=>h1 u' (by simp[hu']));refine⟨w',?_,?_⟩
    · simp only [storeCells, gp, Sem.run_bind, hs, Result.andThen]
      exact h3
    · have h5 := St.AG (w := w) (b := b) (o := o + i) (t := t) (cs := cs) (u := u) h
      have h6:St w (ay [.cl b t cs]) ([.cl b t (setL cs (o+i) (u::us))]++[]) w':=by
        refine St.trans (σ:=[.cl b t (cs.set (o+i) u)]) (F:=[]) (by simpa using h5) ?_;have e:setL cs (o+i) (u::us)=setL (cs.set (o+i) u) (o+(i+1)) us:=rfl;rw[e];exact h4
      simpa using h6
theorem cy {i b o k:Nat} {us:List Value} {tc:TypeId} {cs:List Value} (hz:∀w,(sizeOf t).run P w=.ok k w) (hx:evo ρ x=.pointer (some ⟨b,o,none⟩)) (hy:evo ρ y=.agg us.toArray) (hi:σ[i]?=some (.cl b tc cs)) (ho:o+us.length≤cs.length)
    (hσ:σ.set i (.cl b tc (setL cs o us))=σ') (h1:∀u∈us,u.oneCell'=true) (hk:us.length=k:=by rfl):cX P r (St w0 M σ) ⟨dst,.store t x y,ty,pos,af,g⟩ ρ (X:=Unit) (fun _=>undef) (fun _=>St w0 M σ'):=
  cX.ji rfl fun w hw=>by
    subst hk;have h:=hw.all _ (List.mem_of_getElem? hi);obtain⟨w',h2,h3⟩:=de P (o:=o) us 0 cs w h (by omega) h1;refine⟨w',?_,by rw[←hσ];exact hw.upd hi h3⟩;simp[execOp,Instr.storeAt,Instr.sureAddr,hx,hy,storeVar,Value.cells,hz,h2]
theorem uj {o:Oper} {us:List Value} {te:TypeId} {σ':Nat→List HI} (hd:bJ o=true) (hσ:∀b,σ++[.cl b te us]=σ' b) (h:∀w,(execOp (evo ρ) o).run P w=.ok (.value (.pointer (some ⟨w.heap.size,0,none⟩))) (w.alloc (.cells us.toArray te))):
    cX P r (St w0 M σ) o ρ (X:=Nat) (fun b=>.pointer (some ⟨b,0,none⟩)) (fun b=>St w0 M (σ' b)):=
  cX.gB hd fun w hw=>⟨w.heap.size,_,h w,by rw[←hσ];exact hw.add (St.new w te us)⟩
theorem eN {σ':Nat→List HI} {u:Value} (hx:evo ρ x=u) (hσ:∀b,σ++[.cl b t [u]]=σ' b) (h1:u.oneCell'=true:=by rfl):cX P r (St w0 M σ) ⟨dst,.box t x,ty,pos,af,g⟩ ρ (X:=Nat) (fun b=>.pointer (some ⟨b,0,none⟩)) (fun b=>St w0 M (σ' b)):=
  uj rfl hσ fun w=>by
    have e:u.cells=#[u]:=by cases u<;>first | rfl | simp[Value.oneCell'] at h1
    simp[execOp,Instr.box,hx,newVar,newRow,newObj,Sem.run,e]
theorem fw {σ':Nat→List HI} {us:List Value} (hx:evo ρ x=.agg us.toArray) (hσ:∀b,σ++[.cl b t us]=σ' b):cX P r (St w0 M σ) ⟨dst,.box t x,ty,pos,af,g⟩ ρ (X:=Nat) (fun b=>.pointer (some ⟨b,0,none⟩)) (fun b=>St w0 M (σ' b)):=
  uj rfl hσ fun w=>by simp[execOp,Instr.box,hx,newVar,newRow,newObj,Sem.run,Value.cells]
theorem cQ {σ':Nat→List HI} {z:Value} {us:List Value} (hz:∀w,(zeroValue t).run P w=.ok z w) (hu:z.cells=us.toArray) (hσ:∀b,σ++[.cl b t us]=σ' b):cX P r (St w0 M σ) ⟨dst,.alloc t,ty,pos,af,g⟩ ρ (X:=Nat) (fun b=>.pointer (some ⟨b,0,none⟩)) (fun b=>St w0 M (σ' b)):=
  uj rfl hσ fun w=>by simp[execOp,Instr.alloc,newVar,newRow,newObj,Sem.run,hz,hu]
theorem St.newRow (w:World) (t:TypeId) (sz n:Nat) (cs:List Value) (hl:cs.length=n*sz) (hm:n≤maxLen):St w No [.row t sz (some ⟨w.heap.size,0,none⟩) n n cs] (w.alloc (.cells cs.toArray t)):=by
  refine⟨rfl,rfl,rfl,by simp,fun b hb _=>Below.heap_alloc w _ b hb,?_,List.pairwise_singleton _ _,?_⟩
  · intro i hi
    obtain rfl:i=_:=by simpa using hi
    have:=World.ownsRow_lit (base:=0) (e:=t) (size:=sz) w cs.toArray n (Nat.zero_le _) hm (by simpa using hl)
    simpa [HI.holds] using this
  · intro i hi b hb
    obtain rfl:i=_:=by simpa using hi
    obtain⟨a,ha,rfl⟩:=hb;cases ha;exact .inl (Nat.le_refl _)
theorem mi {o:Oper} {us:List Value} {te:TypeId} {sz n:Nat} {σ':Nat→List HI} (hd:bJ o=true) (hl:us.length=n*sz) (hm:n≤maxLen) (hσ:∀b,σ++[.row te sz (some ⟨b,0,none⟩) n n us]=σ' b)
    (h:∀w,(execOp (evo ρ) o).run P w=.ok (.value (.slice (some ⟨w.heap.size,0,none⟩) n n)) (w.alloc (.cells us.toArray te))):
    cX P r (St w0 M σ) o ρ (X:=Nat) (fun b=>.slice (some ⟨b,0,none⟩) n n) (fun b=>St w0 M (σ' b)):=
  cX.gB hd fun w hw=>⟨w.heap.size,_,h w,by rw[←hσ];exact hw.add (St.newRow w te sz n us hl hm)⟩
theorem s9 (sz:Nat):∀(vs:List Value) (k:Nat) (A rest:List Value),(∀v∈vs,v.cells.size=sz)→A.length=k*sz→rest.length=vs.length*sz→
    Instr.fill (fun i=>some (i*sz,sz)) (A++rest).toArray ((List.range' k vs.length).zip vs)=some (A++vs.flatMap fun v=>v.cells.toList).toArray
  | [], k, A, rest, _, _, hr => by
    obtain rfl:rest=[]:=List.eq_nil_of_length_eq_zero (by simpa using hr);simp[Instr.fill]
  | v :: vs, k, A, rest, hv, hA, hr => by
    have h0:=hv v (by simp);simp only[List.length_cons,Nat.add_mul,Nat.one_mul] at hr;have hf:=rj v (A++rest) (k*sz) (by simp;omega);have e1:(A++rest).take (k*sz)=A:=by rw[←hA];exact List.take_left
    have e2:(A++rest).drop (k*sz+v.cells.size)=rest.drop sz:=by rw[h0,←hA];simp[List.drop_append]
    rw[e1,e2] at hf;have hi:=s9 sz vs (k+1) (A++v.cells.toList) (rest.drop sz) (fun u hu=>hv u (by simp[hu])) (by simp[hA,h0,Nat.add_mul]) (by simp;omega);simp only[List.length_cons,List.range'_succ,List.zip_cons_cons,Instr.fill];rw[if_neg (by simp[h0];omega),hf];simp only[List.append_assoc] at hi ⊢;rw[hi];simp
theorem cu {σ':Nat→List HI} {te:TypeId} {sz n:Nat} {z:Value} {us:List Value} {parts:List (Nat×Operand)} (ht:P.underlying t=some (.slice te)) (hz:∀w,(sizeOf te).run P w=.ok sz w) (hv:∀w,(zeroValue te).run P w=.ok z w)
    (hi:parts.map (·.1)=List.range' 0 n) (hc':parts.map (fun p=>(evo ρ p.2).cells.size)=List.replicate n sz) (hu:(parts.flatMap fun p=>(evo ρ p.2).cells.toList)=us) (hn:n*sz≤16777216) (h0:n*sz≠0)
    (hσ:∀b,σ++[.row te sz (some ⟨b,0,none⟩) n n us]=σ' b):
    cX P r (St w0 M σ) ⟨dst,.buildSlice t n parts.toArray,ty,pos,af,g⟩ ρ (X:=Nat) (fun b=>.slice (some ⟨b,0,none⟩) n n) (fun b=>St w0 M (σ' b)):=by
  have hl:parts.length=n:=by have:=congrArg List.length hi;simpa using this
  have hc:∀p∈parts,(evo ρ p.2).cells.size=sz:=fun p hp=>by
    have h1:(evo ρ p.2).cells.size∈parts.map (fun p=>(evo ρ p.2).cells.size):=List.mem_map.2 ⟨p,hp,rfl⟩;rw[hc'] at h1;exact List.eq_of_mem_replicate h1
  clear hc';have hul:us.length=n*sz:=by
    rw[←hu,←hl];clear hu hi hl hn h0;induction parts with
    | nil=>simp
    | cons p parts ih =>
      have h1:=hc p (by simp);have h2:=ih fun q hq=>hc q (by simp[hq]);simp only[List.flatMap_cons,List.length_append,Array.length_toList,h1,h2,List.length_cons,Nat.add_mul,Nat.one_mul];omega
  have hm:n≤maxLen:=by
    have : n ≤ n * sz := Nat.le_mul_of_pos_right n (by rcases Nat.eq_zero_or_pos sz with e | e; · simp [e] at h0
                                                       · exact e)
    unfold maxLen;omega
  refine mi rfl hul hm hσ fun w=>?_;have hmap:(parts.map fun x=>(x.1,evo ρ x.2))=(List.range' 0 (parts.map fun p=>evo ρ p.2).length).zip (parts.map fun p=>evo ρ p.2):=by
    rw[List.length_map,hl,←hi];clear hc hu hi hl hul hm;induction parts with
    | nil=>rfl
    | cons p parts ih=>simp[ih]
  have hcell:∃rest:List Value,((Array.range (n*sz)).map (z.cells[· % z.cells.size]!))=rest.toArray∧rest.length=n*sz:=⟨_,(Array.toArray_toList (xs:=(Array.range (n*sz)).map (z.cells[· % z.cells.size]!))).symm,by simp⟩;obtain⟨rest,hrest,hrl⟩:=hcell
  have hf := s9 sz (parts.map fun p => evo ρ p.2) 0 [] rest (fun v hv => by
    obtain ⟨p, hp, rfl⟩ := List.mem_map.1 hv
    exact hc p hp) (by simp) (by rw [hrl]; simp [hl])
  simp only[List.nil_append,List.flatMap_map] at hf;rw[hu,←hmap] at hf;have hlt:¬(16777216<n*sz):=by omega
  simp[execOp,Instr.buildSlice,run_underlying ht,hz,hv,hlt,h0,hrest,hf,newRow,newObj,Sem.run,Result.andThen]
theorem xy {σ':Nat→List HI} {te:TypeId} {z:Value} {n bytes:Nat} {k k':Int} (ht:P.underlying t=some (.slice te)) (hinfo:(P.info? te).map (fun i=>(i.zero,i.size,i.bytes))=some (some z,1,bytes)) (h1:z.cells=#[z])
    (hx:evo ρ x=.int .i64 k) (hy:evo ρ y=.int .i64 k') (hk:k=(n:Int)) (hk':k'=(n:Int)) (hn:bytes*n≤281474976710656) (hm:n≤9223372036854775807) (hσ:∀b,σ++[.row te 1 (some ⟨b,0,none⟩) n n (List.replicate n z)]=σ' b):
    cX P r (St w0 M σ) ⟨dst,.makeSlice t x y,ty,pos,af,g⟩ ρ (X:=Nat) (fun b=>.slice (some ⟨b,0,none⟩) n n) (fun b=>St w0 M (σ' b)):=by
  obtain⟨info,hi,hz,hs,hb⟩:=info_parts hinfo;subst hk;subst hk';refine mi rfl (by simp) (by unfold maxLen;omega) hσ fun w=>?_
  have hr := run_make (P := P) w t te info z ht hi hz .i64 .i64 n n (by omega) (by omega) (by rw [hb]; have : ((bytes * n : Nat) : Int) ≤ 281474976710656 := by omega
                                                                                              rwa [Int.natCast_mul] at this) (by omega)
  simp only[execOp,Sem.run_bind,Sem.run_pure,hx,hy,hr,Result.andThen,hs,Int.toNat_natCast,Nat.mul_one,h1];rw[←toList_madeCells_one z n]
def Src (w:World) (B:Option Addr) (m:Nat) (news:List Value):Prop:=(B=none∧m=0)∨∃b o,B=some ⟨b,o,none⟩∧aJ w b o news
theorem St.fk {i n cap sz:Nat} {t:TypeId} {A:Option Addr} {xs:List Value} (h:St w0 M σ w) (hi:σ[i]?=some (.row t sz A n cap xs)):Src w A n xs:=by
  have h1:w.ownsRow 0 t sz (.slice A n cap) n xs:=h.all _ (List.mem_of_getElem? hi)
  rcases h1.2 with ⟨hv,hn⟩ | ⟨gb,cap',cur,hv,_,hh,_,_,_,htake⟩
  · exact .inl ⟨by injection hv,hn⟩
  · have hA : A = some ⟨gb, 0, none⟩ := by injection hv
    subst hA;exact .inr ⟨gb,0,rfl,h.dH hi 0 fun j u hj=>by simpa using hj⟩
theorem rE (e:TypeId) (info:TypeInfo) (size:Nat) (ht:P.underlying t=some (.slice e)) (hi:P.info? e=some info)
    (v:Value) (n:Nat) (xs:List Value) (hown:w.ownsRow 0 e size v n xs) (c:Nat):(Builtin.append_ #[t,t] ty #[v,.slice none 0 c]).run P w=.ok v w:=by
  rcases hown.2 with ⟨rfl,rfl⟩ | ⟨gb,cap,cur,rfl,_,_,hnc,_⟩
  · simp[Builtin.append_,run_underlying ht,sizeOf,typeInfo,hi,Builtin.lenOf,Builtin.firstCells]
  · simp[Builtin.append_,run_underlying ht,sizeOf,typeInfo,hi,Builtin.lenOf,Builtin.firstCells,hnc,storeCells]
theorem cm {i n cap sz bytes m c:Nat} {te:TypeId} {A B:Option Addr} {xs news:List Value} {z:Value} {σ':Option Addr×Nat→List HI} (ht:P.underlying t=some (.slice te)) (hinfo:(P.info? te).map (fun i=>(i.zero,i.size,i.bytes))=some (some z,sz,bytes)) (hzs:z.cells.size=sz) (hsz:0<sz)
    (hx:evo ρ x=.slice A n cap) (hy:evo ρ y=.slice B m c) (hi:σ[i]?=some (.row te sz A n cap xs)) (hsrc:∀w,St w0 M σ w→Src w B m news) (hl:news.length=m*sz) (h1:∀u∈news,u.oneCell'=true)
    (hm:n+m≤9223372036854775807) (hby:(n+m)*bytes≤140737488355328) (hσ:∀p:Option Addr×Nat,σ.set i (.row te sz p.1 (n+m) p.2 (xs++news))=σ' p):
    cX P r (St w0 M σ) ⟨dst,.call ⟨.builtin .append,#[x,y],#[t,t]⟩,ty,pos,af,g⟩ ρ (X:=Option Addr×Nat) (fun p=>.slice p.1 (n+m) p.2) (fun p=>St w0 M (σ' p)):=
  cX.gB rfl fun w hw=>by
    obtain⟨info,hf,hz,hs,hb⟩:=info_parts hinfo;have h:w.ownsRow 0 te sz (.slice A n cap) n xs:=hw.all _ (List.mem_of_getElem? hi)
    rcases hsrc w hw with ⟨rfl,rfl⟩ | ⟨b,o,rfl,hc⟩
    · have e0 : news = [] := List.eq_nil_of_length_eq_zero (by simpa using hl)
      subst e0;refine⟨(A,cap),w,?_,?_⟩
      · have hc0 := rE (P := P) (t := t) (ty := ty) te info sz ht hf _ n xs h c
        simp only[execOp,Sem.run_bind,resolve,List.map_toArray,List.map_cons,List.map_nil,hx,hy,Sem.run_pure,Result.andThen,invoke,builtin,hc0,Nat.add_zero]
      · rw [← hσ]
        refine hw.upd hi ?_;simp only[Nat.add_zero,List.append_nil];exact St.l9 (fun _ _ _=>rfl) h (fun _ hb=>.inr hb) rfl rfl rfl (Nat.le_refl _)
    · obtain ⟨v', w', hr, h2, h3, h4, h5⟩ := run_append_own_at (P := P) w 0 t ty te info z sz bytes ht hf hz hs hb hzs hsz _ n xs h ⟨b, o, none⟩ m c news hl (fun j u hu => by rw [gp]; exact hc j u hu) h1 (by unfold maxLen; omega) hby (Nat.zero_le _)
      obtain⟨A',cap',rfl⟩:∃A' cap',v'=.slice A' (n+m) cap':=by
        rcases h2.2 with ⟨hv,hn⟩ | ⟨gb,cap',cur,hv,_⟩
        · exact⟨none,0,by rw[hv,hn]⟩
        · exact⟨_,_,hv⟩
      refine⟨(A',cap'),w',?_,?_⟩
      · simp only[execOp,Sem.run_bind,resolve,List.map_toArray,List.map_cons,List.map_nil,hx,hy,Sem.run_pure,Result.andThen,invoke,builtin,hr]
      · rw [← hσ]
        refine hw.upd hi (St.l9 (fun k hk hn=>h3.block k hk fun e=>hn ?_) h2 (fun k hk=>?_) h3.os h3.tape h3.output h3.size)
        · cases A with
          | none=>simp[Value.ownBlock] at e
          | some a=>simp[Value.ownBlock] at e;exact⟨a,rfl,e⟩
        · obtain ⟨a, rfl, rfl⟩ := hk
          rcases h5 with h5 | h5
          · cases A with
            | none=>simp[Value.ownBlock] at h5
            | some a0=>simp[Value.ownBlock] at h5;exact .inr ⟨a0,rfl,h5⟩
          · simp[Value.ownBlock] at h5;exact .inl (by omega)
theorem St.bB (h:St w0 M σ w) (t:TypeId) (sz:Nat):St w0 M (σ++[.row t sz none 0 0 []]) w:=
  h.add ⟨rfl, rfl, rfl, Nat.le_refl _, fun _ _ _ => rfl, fun i hi => by
    obtain rfl : i = _ := by simpa using hi
    exact World.ownsRow_nil w 0 t sz, List.pairwise_singleton _ _, fun i hi b hb => by
    obtain rfl : i = _ := by simpa using hi
    obtain ⟨a, ha, _⟩ := hb
    cases ha⟩
theorem St.aM {i n cap sz:Nat} {t:TypeId} {A:Option Addr} {xs:List Value} (h:St w0 M σ w) (hi:σ[i]?=some (.row t sz A n cap xs)) (hn:0<n):∃b,A=some ⟨b,0,none⟩:=by
  have h1:w.ownsRow 0 t sz (.slice A n cap) n xs:=h.all _ (List.mem_of_getElem? hi)
  rcases h1.2 with ⟨_,h0⟩ | ⟨gb,cap',cur,hv,_⟩
  · omega
  · exact⟨gb,by injection hv⟩
theorem St.r7 {i n cap sz:Nat} {t:TypeId} {A:Option Addr} {xs:List Value} (h:St w0 M σ w) (hi:σ[i]?=some (.row t sz A n cap xs)):xs.length=n*sz:=
  have h1:w.ownsRow 0 t sz (.slice A n cap) n xs:=h.all _ (List.mem_of_getElem? hi)
  h1.1
def jL {α:Type} (w:World) (A:Option Addr) (sz:Nat) (enc:α→List Value) (l:List α):Prop:=∀k x,l[k]?=some x→∃b o,A=some ⟨b,o,none⟩∧aJ w b (o+k*sz) (enc x)
abbrev encI:Int→List Value:=fun z=>[.int .i64 z]
abbrev vd (w:World) (A:Option Addr) (zs:List Int):Prop:=jL w A 1 encI zs
theorem aJ.p8 {b o:Nat} {us:List Value} (h:aJ w b o us) (hk:∀k v,w.cell? ⟨b,k,none⟩=some v→w'.cell? ⟨b,k,none⟩=some v):aJ w' b o us:=fun j u hj=>hk _ _ (h j u hj)
theorem jL.p8 {α:Type} {A:Option Addr} {sz:Nat} {enc:α→List Value} {l:List α} (h:jL w A sz enc l) (hk:∀b k v,w.cell? ⟨b,k,none⟩=some v→w'.cell? ⟨b,k,none⟩=some v):jL w' A sz enc l:=fun k x hx=>by
  obtain⟨b,o,e,hc⟩:=h k x hx;exact⟨b,o,e,hc.p8 (hk b)⟩
theorem St.rd {α:Type} {A:Option Addr} {sz:Nat} {enc:α→List Value} {l:List α} (h:St w0 M σ w) (hr:jL w0 A sz enc l) (hM:∀b,¬M b):jL w A sz enc l:=
  hr.p8 fun b _ _ hc=>(World.cell?_of_block (h.old b (lP hc) (hM b))).trans hc
theorem jL.nil {α:Type} (w:World) (A:Option Addr) (sz:Nat) (enc:α→List Value):jL w A sz enc []:=fun k x h=>by simp at h
theorem ax (b:Nat):¬ay [] b:=by simp[ay]
theorem St.eO {α:Type} {i n cap:Nat} {t:TypeId} {A:Option Addr} {l:List α} {f:α→Value} (h:St w0 M σ w) (hi:σ[i]?=some (.row t 1 A n cap (l.map f))):jL w A 1 (fun x=>[f x]) l:=fun k x hx=>by
  have hl:l.length=n:=by have:=h.r7 hi;simpa using this
  have hk:=(List.getElem?_eq_some_iff.1 hx).1;obtain⟨b,rfl⟩:=h.aM hi (by omega);exact⟨b,0,rfl,h.bh hi (k:=k) (by simp[hx]) (by omega)⟩
theorem jZ {α:Type} {enc:α→List Value} {sz:Nat} (hz:∀x,(enc x).length=sz):∀(l:List α) (k j:Nat) (x:α),l[k]?=some x→j<sz→(l.flatMap enc)[k*sz+j]?=(enc x)[j]?
  | [],k,j,x,h,_=>by simp at h
  | y :: l, 0, j, x, h, hj => by
    obtain rfl:y=x:=by simpa using h
    simp[List.getElem?_append,hz,hj]
  | y :: l, k + 1, j, x, h, hj => by
    have h1:=jZ hz l k j x (by simpa using h) hj;have h2:¬((k+1)*sz+j<(enc y).length):=by rw[hz,Nat.add_mul];omega
    have h3:(k+1)*sz+j - (enc y).length=k*sz+j:=by rw[hz,Nat.add_mul];omega
    rw[List.flatMap_cons,List.getElem?_append_right (by omega),h3,h1]
theorem St.ur {α:Type} {i n cap sz:Nat} {t:TypeId} {A:Option Addr} {l:List α} {enc:α→List Value} (h:St w0 M σ w) (hi:σ[i]?=some (.row t sz A n cap (l.flatMap enc))) (hn:l.length=n) (hz:∀x,(enc x).length=sz):jL w A sz enc l:=fun k x hx=>by
  have hk:=(List.getElem?_eq_some_iff.1 hx).1;obtain⟨b,rfl⟩:=h.aM hi (by omega);refine⟨b,0,rfl,h.dH hi _ fun j u hj=>?_⟩;rw[Nat.zero_add,jZ hz l k j x hx (by have:=(List.getElem?_eq_some_iff.1 hj).1;rw[hz] at this;exact this)];exact hj
end
end
end
theorem WP.dj {P:Program} {r:Option Nat} {N:Nat} {Q:XP} {ρ:Env} {ds:List Deferred} {w0:World} {M:Nat→Prop} {σ:List HI} {id:Nat} {l:List Oper} (fin:Option Nat) (idx:List Nat) (plan:List (Nat×Bool))
    (hm:P.follows .mixedOrders=true) (hB:qy l.toArray fin plan=true) (hN:gX N l=true) (h:aB P r N l fin (St w0 M (sel σ idx)) plan Q ρ ds (St w0 M σ)):WP P r N (.region id l.toArray true) Q ρ ds (St w0 M σ):=
  WP.draw fin (St w0 M (sel σ idx)) plan hm hB hN (fun _ h=>h.drawn) h
section
variable {P:Program} {r:Option Nat} {N d:Nat} {ops:Array Oper} {l rest:List Oper} {Q:XP} {ρ:Env} {ds:List Deferred} {S:World→Prop} {x y:Operand} {ty:TypeId} {pos:String} {af:Array Edge} {v:Value} {id:Nat} {c y':Code}
theorem mv (hx:evo ρ x=v) (k:aj P r N ops rest Q (upd ρ d v) ds S) (hN:d<N:=by decide):aj P r N ops (⟨some d,.move x,ty,pos,af,none⟩::rest) Q ρ ds S:=aj.val (aC hx) k rfl rfl hN rfl
theorem lj {z:Int} (hx:evo ρ x=.int .i64 z) (k:aj P r N ops rest Q (upd ρ d (.int .i64 z)) ds S) (hN:d<N:=by decide):aj P r N ops (⟨some d,.move x,ty,pos,af,none⟩::rest) Q ρ ds S:=mv hx k hN
theorem Fs {z:Bool} (hx:evo ρ x=.bool z) (k:aj P r N ops rest Q (upd ρ d (.bool z)) ds S) (hN:d<N:=by decide):aj P r N ops (⟨some d,.move x,ty,pos,af,none⟩::rest) Q ρ ds S:=mv hx k hN
theorem mvP {z:Option Addr} (hx:evo ρ x=.pointer z) (k:aj P r N ops rest Q (upd ρ d (.pointer z)) ds S) (hN:d<N:=by decide):aj P r N ops (⟨some d,.move x,ty,pos,af,none⟩::rest) Q ρ ds S:=mv hx k hN
theorem mvS {A:Option Addr} {n m:Nat} (hx:evo ρ x=.slice A n m) (k:aj P r N ops rest Q (upd ρ d (.slice A n m)) ds S) (hN:d<N:=by decide):aj P r N ops (⟨some d,.move x,ty,pos,af,none⟩::rest) Q ρ ds S:=mv hx k hN
theorem sg (hx:evo ρ x=v) (k:aj P r N ops rest Q (upd ρ d v) ds S) (hN:d<N:=by decide):aj P r N ops (⟨some d,.assign x,ty,pos,af,none⟩::rest) Q ρ ds S:=aj.val (dB hx) k rfl rfl hN rfl
theorem IV {z:Int} (hx:evo ρ x=.int .i64 z) (k:aj P r N ops rest Q (upd ρ d (.int .i64 z)) ds S) (hN:d<N:=by decide):aj P r N ops (⟨some d,.assign x,ty,pos,af,none⟩::rest) Q ρ ds S:=sg hx k hN
theorem oF {z:Bool} (hx:evo ρ x=.bool z) (k:aj P r N ops rest Q (upd ρ d (.bool z)) ds S) (hN:d<N:=by decide):aj P r N ops (⟨some d,.assign x,ty,pos,af,none⟩::rest) Q ρ ds S:=sg hx k hN
theorem sgP {z:Option Addr} (hx:evo ρ x=.pointer z) (k:aj P r N ops rest Q (upd ρ d (.pointer z)) ds S) (hN:d<N:=by decide):aj P r N ops (⟨some d,.assign x,ty,pos,af,none⟩::rest) Q ρ ds S:=sg hx k hN
theorem sgS {A:Option Addr} {n m:Nat} (hx:evo ρ x=.slice A n m) (k:aj P r N ops rest Q (upd ρ d (.slice A n m)) ds S) (hN:d<N:=by decide):aj P r N ops (⟨some d,.assign x,ty,pos,af,none⟩::rest) Q ρ ds S:=sg hx k hN
theorem vl {o:Oper} (h:cw P S o ρ v) (k:aj P r N ops rest Q (upd ρ d v) ds S) (hg:o.guard=none:=by rfl) (hd:o.dst=some d:=by rfl) (hN:d<N:=by decide) (hdf:bJ o=true:=by rfl):aj P r N ops (o::rest) Q ρ ds S:=aj.val h k hg hd hN hdf
theorem vg {o:Oper} (h:cw P S o ρ v) (k:aj P r N l.toArray rest Q (upd ρ d v) ds S) (hl:gX N l=true:=by decide) (hw:wants l.toArray ρ o=true:=by rfl) (hd:o.dst=some d:=by rfl) (hN:d<N:=by decide) (hdf:bJ o=true:=by rfl):aj P r N l.toArray (o::rest) Q ρ ds S:=aj.aec h k hl hw hd hN hdf
theorem sk {o:Oper} (k:aj P r N l.toArray rest Q (upd ρ d undef) ds S) (hl:gX N l=true:=by decide) (hw:wants l.toArray ρ o=false:=by rfl) (hd:o.dst=some d:=by rfl) (hN:d<N:=by decide):aj P r N l.toArray (o::rest) Q ρ ds S:=aj.K9 k hl hw hd hN
theorem nl (h:∀w,S w→Q .normal ρ ds w):aj P r N ops [] Q ρ ds S:=aj.nil h
theorem oo (h:WP P r N c Q ρ ds S):∀w,S w→Im P r N c Q ρ ds w:=an h
theorem sq (h:WP P r N c (kY (Im P r N y' Q) Q) ρ ds S):WP P r N (.seq c y') Q ρ ds S:=WP.seq h
theorem eh (h:aj P r N l.toArray l (kY (Im P r N y' Q) Q) ρ ds S):WP P r N (.seq (.region id l.toArray false) y') Q ρ ds S:=WP.seq (WP.region h)
end
def Ct (P:Program) (f:FuncId) (args:Array Value) (pre:List HI) (Fact:World→Prop) {X:Type} (v:X→Value) (facts:X→Prop) (post:X→List HI):Prop:=
  ∀ w, (∀ i ∈ pre, i.holds w) → pre.Pairwise (fun x y => ∀ b, x.foot b → ¬ y.foot b) → Fact w →
    Calls P f args w fun e w'=>∃x,e=.returned (v x)∧facts x∧St w (ay pre) (post x) w'
def mark (D:Nat):Deferred:={target:=.collected D,args:=#[]}
def jQ (w:World) (Ds:List Nat):World:=Ds.foldl (fun w D=>w.putObj D (.deferred none)) w
structure da (P:Program) (fn:Func) (R:Value→World→Prop) (e:Exit) (ρ:Env) (ds:List Deferred) (w:World):Prop where
  way:e=.ret∨e=.normal
  out:∃Ds:List Nat,ds=Ds.map mark∧Ds.Nodup∧(∀D∈Ds,w.heap[D]?=some (.deferred (some [])))∧
    ∀tmps:Array Value,(∀t,tmps.getD t undef=ρ t)→∃v,(results fn tmps).run P (jQ w Ds)=.ok v (jQ w Ds)∧R v (jQ w Ds)
theorem pa {P:Program} {fn:Func} {R:Value→World→Prop} {tmps:Array Value}:∀(Ds:List Nat) (w:World),Ds.Nodup→(∀D∈Ds,w.heap[D]?=some (.deferred (some [])))→
    (∃v,(results fn tmps).run P (jQ w Ds)=.ok v (jQ w Ds)∧R v (jQ w Ds))→
    LeavesInM Fence.wide 0 P fn tmps (fun e w'=>∃v,e=.returned v∧R v w') (Ds.map mark) .returning w
  | [], w, _, _, h => by
    obtain⟨v,h1,h2⟩:=h;exact⟨v,h1,v,rfl,h2⟩
  | D :: Ds, w, hn, hD, h => by
    rw[List.nodup_cons] at hn;refine⟨by simp,.inl ⟨D,_,rfl,run_takeDeferred (hD D (by simp)),pa Ds _ hn.2 (fun D' hD'=>?_) h⟩⟩;rw[World.putObj_heap_other (fun e:D'=D=>hn.1 (by rw[←e];exact hD'))];exact hD D' (by simp[hD'])
theorem enter {P:Program} {f:FuncId} {fn:Func} {c:Code} {N:Nat} {args:Array Value} {w:World} {R:Value→World→Prop} (hf:P.funcs[f]?=some fn) (hb:fn.body=some c) (hn:fn.ntmps=N) (ha:args.size≤N)
    (h:WP P none N c (da P fn R) (nT args.toList) [] (fun w'=>w'=w)):Calls P f args w fun e w'=>∃v,e=.returned v∧R v w':=by
  refine(callsIn_wide (n:=0)).1 (callsIn_of_wp_marks hf hb trivial ?_);have hfr:Fr N (nT args.toList) [] {tmps:=args++Array.replicate (fn.ntmps - args.size) undef,defers:=[]}:=by
    subst hn;refine⟨by simp;omega,fun t=>?_,rfl⟩;unfold nT;simp only[Array.getD_eq_getD_getElem?,List.getD_eq_getElem?_getD,Array.getElem?_toList]
    by_cases hlt:t<args.size
    · simp[Array.getElem?_append,hlt]
    · simp only [Array.getElem?_append, hlt, if_false]
      rw[Array.getElem?_eq_none (xs:=args) (by omega),Array.getElem?_replicate]
      split<;>rfl
  refine Go.wpIn_mono (h w rfl _ hfr) ?_;intro e a w' hq;cases e<;>first
    | exact hq.elim
    | skip
  all_goals
    obtain⟨ρ,ds,hf',he,Ds,rfl,hnd,hD,hr⟩:=hq
    first
      | (rcases he with he | he<;>cases he;done)
      | (show LeavesInM _ _ _ _ _ _ _ _ _
         rw [hf'.defs]
         exact pa Ds w' hnd hD (hr _ hf'.get))
theorem Ct.intro {P:Program} {f:FuncId} {fn:Func} {c:Code} {N:Nat} {args:Array Value} {pre:List HI} {Fact:World→Prop} {X:Type} {v:X→Value} {facts:X→Prop} {post:X→List HI} (hf:P.funcs[f]?=some fn) (hb:fn.body=some c) (hn:fn.ntmps=N) (ha:args.size≤N)
    (h:∀w,Fact w→WP P none N c (da P fn (fun u w'=>∃x,u=v x∧facts x∧St w (ay pre) (post x) w')) (nT args.toList) [] (St w (ay pre) pre)):Ct P f args pre Fact v facts post:=by
  intro w h1 h2 h3;refine(enter hf hb hn ha ((h w h3).pre fun w' e=>?_)).mono ?_
  · subst e;exact St.start h1 h2
  · rintro e w' ⟨u, rfl, x, rfl, hx, hs⟩
    exact⟨x,rfl,hx,hs⟩
theorem bK {P:Program} {f:FuncId} {fn:Func} {c:Code} {N:Nat} {args:Array Value} {w:World} {v:Value} (hf:P.funcs[f]?=some fn) (hb:fn.body=some c) (hn:fn.ntmps=N) (ha:args.size≤N)
    (h:WP P none N c (da P fn (fun u w'=>u=v∧w=w')) (nT args.toList) [] (fun w'=>w'=w)):Calls P f args w fun e w'=>e=.returned v∧w=w':=
  (enter hf hb hn ha h).mono fun e w' ⟨u,he,hu,hw⟩=>⟨by rw[he,hu],hw⟩
section
variable {P:Program} {r:Option Nat} {N:Nat} {Q:XP} {ρ:Env} {S:World→Prop} {fn:Func} {R:Value→World→Prop}
theorem da.T3 {t:Tmp} {w:World} {e:Exit} (hr:fn.results=#[.tmp t]) (he:e=.ret∨e=.normal) (h:R (ρ t) w):da P fn R e ρ [] w:=
  ⟨he,[],rfl,List.nodup_nil,by simp,fun tmps ht=>⟨_,results_tmp hr _ _ _,by rw[ht];exact h⟩⟩
theorem da.of2 {t u:Tmp} {w:World} {e:Exit} (hr:fn.results=#[.tmp t,.tmp u]) (he:e=.ret∨e=.normal) (h:R (.tuple #[ρ t,ρ u]) w):da P fn R e ρ [] w:=
  ⟨he,[],rfl,List.nodup_nil,by simp,fun tmps ht=>⟨_,results_tmp2 hr _ _ _,by rw[ht,ht];exact h⟩⟩
theorem da.of3 {t u s:Tmp} {w:World} {e:Exit} (hr:fn.results=#[.tmp t,.tmp u,.tmp s]) (he:e=.ret∨e=.normal) (h:R (.tuple #[ρ t,ρ u,ρ s]) w):da P fn R e ρ [] w:=
  ⟨he,[],rfl,List.nodup_nil,by simp,fun tmps ht=>⟨_,results_tmp3 hr _ _ _,by rw[ht,ht,ht];exact h⟩⟩
theorem da.IG {w:World} {e:Exit} (hr:fn.results=#[]) (he:e=.ret∨e=.normal) (h:R (.tuple #[]) w):da P fn R e ρ [] w:=
  ⟨he,[],rfl,List.nodup_nil,by simp,fun tmps _=>⟨_,results_none hr _ _ _,h⟩⟩
theorem da.ofC {t:Tmp} {ty:TypeId} {w:World} {e:Exit} {b o k:Nat} {us:List Value} (hr:fn.results=#[.cell t ty]) (he:e=.ret∨e=.normal) (hx:ρ t=.pointer (some ⟨b,o,none⟩)) (ha:∀w,(isAgg ty).run P w=.ok true w) (hz:∀w,(sizeOf ty).run P w=.ok k w)
    (hc:aJ w b o us) (hk:us.length=k) (h:R (.agg us.toArray) w):da P fn R e ρ [] w:=
  ⟨he, [], rfl, List.nodup_nil, by simp, fun tmps ht => ⟨.agg us.toArray, by
    subst hk
    show (results fn tmps).run P w = _
    simp [results, hr, ht, hx, loadVar, ha, hz, run_loadCells P hc, asAddr]
    rfl, h⟩⟩
theorem WP.cP {t:Tmp} (hr:fn.results=#[.tmp t]) (hq:∀w,da P fn R .ret ρ [] w→Q .ret ρ [] w) (h:∀w,S w→R (ρ t) w):WP P r N .ret Q ρ [] S:=
  WP.ret fun w hw=>hq w (da.T3 hr (.inl rfl) (h w hw))
theorem WP.IM {t u:Tmp} (hr:fn.results=#[.tmp t,.tmp u]) (hq:∀w,da P fn R .ret ρ [] w→Q .ret ρ [] w) (h:∀w,S w→R (.tuple #[ρ t,ρ u]) w):WP P r N .ret Q ρ [] S:=
  WP.ret fun w hw=>hq w (da.of2 hr (.inl rfl) (h w hw))
theorem WP.KJ {t u s:Tmp} (hr:fn.results=#[.tmp t,.tmp u,.tmp s]) (hq:∀w,da P fn R .ret ρ [] w→Q .ret ρ [] w) (h:∀w,S w→R (.tuple #[ρ t,ρ u,ρ s]) w):WP P r N .ret Q ρ [] S:=
  WP.ret fun w hw=>hq w (da.of3 hr (.inl rfl) (h w hw))
theorem WP.IB (hr:fn.results=#[]) (hq:∀w,da P fn R .ret ρ [] w→Q .ret ρ [] w) (h:∀w,S w→R (.tuple #[]) w):WP P r N .ret Q ρ [] S:=
  WP.ret fun w hw=>hq w (da.IG hr (.inl rfl) (h w hw))
theorem WP.Fp {t:Tmp} {ty:TypeId} {b o k:Nat} {us:List Value} (hr:fn.results=#[.cell t ty]) (hx:ρ t=.pointer (some ⟨b,o,none⟩)) (ha:∀w,(isAgg ty).run P w=.ok true w) (hz:∀w,(sizeOf ty).run P w=.ok k w)
    (hc:∀w,S w→aJ w b o us) (hk:us.length=k) (hq:∀w,da P fn R .ret ρ [] w→Q .ret ρ [] w) (h:∀w,S w→R (.agg us.toArray) w):WP P r N .ret Q ρ [] S:=
  WP.ret fun w hw=>hq w (da.ofC hr (.inl rfl) hx ha hz (hc w hw) hk (h w hw))
end
section
variable {P:Program} {r:Option Nat} {S:World→Prop} {ρ:Env} {dst:Option Tmp} {ty:TypeId} {pos:String} {af:Array Edge} {g:Option (Nat×Bool)} {f:FuncId} {xs:List Operand} {ats:Array TypeId} {args:List Value}
theorem pq (hf:∀args w,(callFunc f args).run P w=.ok (.enter f args) w) (ha:xs.map (evo ρ)=args) (w:World):(execOp (evo ρ) ⟨dst,.call ⟨.value (.func f),xs.toArray,ats⟩,ty,pos,af,g⟩).run P w=.ok (.enter f args.toArray) w:=by
  subst ha;simp[execOp,resolve,evo,Deferred.ofValue,invoke,hf]
theorem qe {x:Operand} {first cap:List Value} (hf:∀args w,(callFunc f args).run P w=.ok (.enter f args) w) (hx:evo ρ x=.func (.func f) first.toArray cap.toArray) (ha:first++xs.map (evo ρ)++cap=args) (w:World):
    (execOp (evo ρ) ⟨dst,.call ⟨.value x,xs.toArray,ats⟩,ty,pos,af,g⟩).run P w=.ok (.enter f args.toArray) w:=by
  subst ha;simp[execOp,resolve,hx,Deferred.ofValue,invoke,hf]
theorem qC {v:Value} (hf:∀args w,(callFunc f args).run P w=.ok (.enter f args) w) (hc:∀w,S w→Calls P f args.toArray w fun e w'=>e=.returned v∧w=w') (ha:xs.map (evo ρ)=args:=by rfl):cw P S ⟨dst,.call ⟨.value (.func f),xs.toArray,ats⟩,ty,pos,af,g⟩ ρ v:=
  fun w hw=>.inr ⟨f,args.toArray,pq hf ha w,hc w hw⟩
section
variable {w0:World} {M:Nat→Prop} {σ σ':List HI} {pre:List HI} {Fact:World→Prop} {X:Type} {v:X→Value} {facts:X→Prop} {post:X→List HI}
theorem Ct.apply (hc:Ct P f args.toArray pre Fact v facts post) (idx rest:List Nat) (hn:(idx++rest).Nodup) (hp:sel σ idx=pre) (hF:∀w,St w0 M σ w→Fact w) {τ:X→List HI} (hτ:∀x,sel σ rest++post x=τ x) (w:World) (hw:St w0 M σ w):
    Calls P f args.toArray w fun e w'=>∃x,e=.returned (v x)∧facts x∧St w0 M (τ x) w':=by
  have h1:=hw.sel (idx++rest) hn;have e:sel σ (idx++rest)=pre++sel σ rest:=by rw[←hp];simp[sel]
  rw[e] at h1;refine(hc w (fun i hi=>h1.all i (List.mem_append_left _ hi)) (List.pairwise_append.1 h1.disj).1 (hF w hw)).mono ?_
  rintro e w' ⟨x,rfl,hx,hs⟩
  refine⟨x,rfl,hx,?_⟩;rw[←hτ];exact(h1.trans hs).perm List.perm_append_comm
theorem ck (hf:∀args w,(callFunc f args).run P w=.ok (.enter f args) w) (hc:Ct P f args.toArray pre Fact v facts post) (idx rest:List Nat) (hp:sel σ idx=pre) (hF:∀w,St w0 M σ w→Fact w) {τ:X→List HI} (hτ:∀x,sel σ rest++post x=τ x)
    (ha:xs.map (evo ρ)=args:=by rfl) (hn:(idx++rest).Nodup:=by decide):
    cX P r (St w0 M σ) ⟨dst,.call ⟨.value (.func f),xs.toArray,ats⟩,ty,pos,af,g⟩ ρ v (fun x w'=>facts x∧St w0 M (τ x) w'):=
  cX.nx rfl (fun w _=>pq hf ha w) (fun w hw=>hc.apply idx rest hn hp hF hτ w hw)
theorem iq {x:Operand} {first cap:List Value} (hf:∀args w,(callFunc f args).run P w=.ok (.enter f args) w) (hc:Ct P f args.toArray pre Fact v facts post) (idx rest:List Nat) (hp:sel σ idx=pre) (hF:∀w,St w0 M σ w→Fact w)
    {τ:X→List HI} (hτ:∀x,sel σ rest++post x=τ x) (hx:evo ρ x=.func (.func f) first.toArray cap.toArray:=by rfl) (ha:first++xs.map (evo ρ)++cap=args:=by rfl) (hn:(idx++rest).Nodup:=by decide):
    cX P r (St w0 M σ) ⟨dst,.call ⟨.value x,xs.toArray,ats⟩,ty,pos,af,g⟩ ρ v (fun x w'=>facts x∧St w0 M (τ x) w'):=
  cX.nx rfl (fun w _=>qe hf hx ha w) (fun w hw=>hc.apply idx rest hn hp hF hτ w hw)
end
end
end Go.Proofs.YtbedndijejpcaaaGreat
