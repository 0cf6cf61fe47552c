/- Auto -/
import Derived.Test.YtbedndijejpcaaaGreatH5
set_option linter.unusedVariables false
set_option linter.unusedSimpArgs false
set_option linter.unusedSectionVars false
set_option maxRecDepth 100000
set_option maxHeartbeats 8000000
namespace Go.Proofs.YtbedndijejpcaaaGreat
open Go.RowKit
class eB (P:Program) (t:TypeId) (u:outParam TypeDesc):Prop where h:P.underlying t=some u
class eT (P:Program) (t:TypeId) (k:outParam Nat):Prop where
  h:∀w,(sizeOf t).run P w=.ok k w
  p:k≠0
class fl (P:Program) (t:TypeId) (b:outParam Bool):Prop where h:∀w,(isAgg t).run P w=.ok b w
class jc (P:Program) (t:TypeId) (v:outParam Value):Prop where h:∀w,(zeroValue t).run P w=.ok v w
class bf (P:Program) (f:FuncId):Prop where h:∀args w,(callFunc f args).run P w=.ok (.enter f args) w
class Zl (P:Program) (t:TypeId) (us:outParam (List Value)):Prop where h:∃z,(∀w,(zeroValue t).run P w=.ok z w)∧z.cells=us.toArray
class Ap {α:Type} (σ τ:List α) (ρ:outParam (List α)):Prop where h:σ++τ=ρ
instance {α:Type} {τ:List α}:Ap [] τ τ:=⟨rfl⟩
instance {α:Type} {x:α} {σ τ ρ:List α} [q:Ap σ τ ρ]:Ap (x::σ) τ (x::ρ):=⟨by rw[←q.h];rfl⟩
class Se {α:Type} (i:Nat) (σ:List α) (y:α) (τ:outParam (List α)):Prop where h:σ.set i y=τ
instance {α:Type} {x y:α} {σ:List α}:Se 0 (x::σ) y (y::σ):=⟨rfl⟩
instance {α:Type} {i:Nat} {x y:α} {σ τ:List α} [q:Se i σ y τ]:Se (i+1) (x::σ) y (x::τ):=⟨by rw[←q.h];rfl⟩
class Pk (x:HI) (σ:List HI) (τ:outParam (List HI)):Prop where h:σ.Perm (x::τ)
instance {x y:HI} {σ τ:List HI} [q:Pk x σ τ]:Pk x (y::σ) (y::τ):=⟨(q.h.cons y).trans (List.Perm.swap x y τ)⟩
instance {x:HI} {σ:List HI}:Pk x (x::σ) σ:=⟨List.Perm.refl _⟩
class O0 (π σ:List HI) (τ:outParam (List HI)):Prop where h:σ.Perm (π++τ)
instance {σ:List HI}:O0 [] σ σ:=⟨List.Perm.refl _⟩
instance {x:HI} {π σ σ' τ:List HI} [a:Pk x σ σ'] [b:O0 π σ' τ]:O0 (x::π) σ τ:=⟨a.h.trans (b.h.cons x)⟩
class Fi (b:Nat) (σ:List HI) (i:outParam Nat) (t:outParam TypeId) (cs:outParam (List Value)):Prop where h:σ[i]?=some (HI.cl b t cs)
instance {b i:Nat} {x:HI} {σ:List HI} {t:TypeId} {cs:List Value} [q:Fi b σ i t cs]:Fi b (x::σ) (i+1) t cs:=⟨q.h⟩
instance {b:Nat} {σ:List HI} {t:TypeId} {cs:List Value}:Fi b (.cl b t cs::σ) 0 t cs:=⟨rfl⟩
instance {α:Type} {σ π τ ρ ν:List α} [p:Ap σ π ν] [q:Ap ν τ ρ]:Ap (σ++π) τ ρ:=⟨by rw[p.h,q.h]⟩
instance {α:Type} {i:Nat} {y:α} {σ π τ ν:List α} [p:Ap σ π ν] [q:Se i ν y τ]:Se i (σ++π) y τ:=⟨by rw[p.h,q.h]⟩
instance {x:HI} {σ π τ ν:List HI} [p:Ap σ π ν] [q:Pk x ν τ]:Pk x (σ++π) τ:=⟨by rw[p.h];exact q.h⟩
instance {b i:Nat} {σ π ν:List HI} {t:TypeId} {cs:List Value} [p:Ap σ π ν] [q:Fi b ν i t cs]:Fi b (σ++π) i t cs:=⟨by rw[p.h];exact q.h⟩
class Li (l:List Oper) (i:Nat) (o:outParam Oper):Prop where h:l[i]?=some o
instance {o:Oper} {l:List Oper}:Li (o::l) 0 o:=⟨rfl⟩
instance {i:Nat} {o x:Oper} {l:List Oper} [q:Li l i o]:Li (x::l) (i+1) o:=⟨q.h⟩
theorem St.pk {w0 w:World} {M:Nat→Prop} {π σ τ:List HI} (h:St w0 M σ w) [q:O0 π σ τ]:St w0 M π w:=(h.perm q.h).sub (List.sublist_append_left _ _)
section
variable {P:Program} {r:Option Nat} {N d:Nat} {ops:Array Oper} {l rest:List Oper} {Q:XP} {ρ:Env} {ds:List Deferred} {S S':World→Prop} {x y:Operand} {ty t t2:TypeId} {pos:String} {af:Array Edge} {g:Option (Nat×Bool)} {dst:Option Tmp} {m n:Int} {b o o' k j c fi nn:Nat} {A:Option Addr} {w0:World} {M:Nat→Prop} {σ σ':List HI}
section
variable {f:FuncId} {xs:List Operand} {ats:Array TypeId} {args:List Value} {pre:List HI} {Fact:World→Prop} {X:Type} {v:X→Value} {facts:X→Prop} {post:X→List HI}
theorem Ct.app {τ':List HI} {τ:X→List HI} (hc:Ct P f args.toArray pre Fact v facts post) (hp:O0 pre σ τ') (hF:∀w,St w0 M σ w→Fact w) (hτ:∀x,Ap τ' (post x) (τ x)) (w:World) (hw:St w0 M σ w):
    Calls P f args.toArray w fun e w'=>∃x,e=.returned (v x)∧facts x∧St w0 M (τ x) w':=by
  have h1:=hw.perm hp.h;refine(hc w (fun i hi=>h1.all i (List.mem_append_left _ hi)) (List.pairwise_append.1 h1.disj).1 (hF w hw)).mono ?_
  rintro e w' ⟨x,rfl,hx,hs⟩
  refine⟨x,rfl,hx,?_⟩;rw[←(hτ x).h];exact(h1.trans hs).perm List.perm_append_comm
theorem xC {τ':List HI} {τ:X→List HI} (hc:Ct P f args.toArray pre Fact v facts post) (ha:xs.map (evo ρ)=args:=by rfl) (hF:∀w,St w0 M σ w→Fact w:=by exact fun _ _=>trivial) [hf:bf P f] [hp:O0 pre σ τ'] [hτ:∀x,Ap τ' (post x) (τ x)]:
    cX P r (St w0 M σ) ⟨dst,.call ⟨.value (.func f),xs.toArray,ats⟩,ty,pos,af,g⟩ ρ v (fun x w'=>facts x∧St w0 M (τ x) w'):=
  cX.nx rfl (fun w _=>pq hf.h ha w) (fun w hw=>hc.app hp hF hτ w hw)
theorem xV {τ':List HI} {τ:X→List HI} {z:Operand} {first cap:List Value} (hc:Ct P f args.toArray pre Fact v facts post) (hf:∀args w,(callFunc f args).run P w=.ok (.enter f args) w) (hF:∀w,St w0 M σ w→Fact w:=by exact fun _ _=>trivial) (hx:evo ρ z=.func (.func f) first.toArray cap.toArray:=by rfl) (ha:first++xs.map (evo ρ)++cap=args:=by rfl) [hp:O0 pre σ τ'] [hτ:∀x,Ap τ' (post x) (τ x)]:
    cX P r (St w0 M σ) ⟨dst,.call ⟨.value z,xs.toArray,ats⟩,ty,pos,af,g⟩ ρ v (fun x w'=>facts x∧St w0 M (τ x) w'):=
  cX.nx rfl (fun w _=>qe hf hx ha w) (fun w hw=>hc.app hp hF hτ w hw)
end
theorem cg {σ':Nat→List HI} {us:List Value} [hz:Zl P t us] [hσ:∀b,Ap σ [.cl b t us] (σ' b)]:cX P r (St w0 M σ) ⟨dst,.alloc t,ty,pos,af,g⟩ ρ (X:=Nat) (fun b=>.pointer (some ⟨b,0,none⟩)) (fun b=>St w0 M (σ' b)):=
  hz.h.elim fun _ h=>cQ h.1 h.2 fun b=>(hσ b).h
theorem xB {σ':Nat→List HI} {us:List Value} (hx:evo ρ x=.agg us.toArray:=by rfl) [hσ:∀b,Ap σ [.cl b t us] (σ' b)]:cX P r (St w0 M σ) ⟨dst,.box t x,ty,pos,af,g⟩ ρ (X:=Nat) (fun b=>.pointer (some ⟨b,0,none⟩)) (fun b=>St w0 M (σ' b)):=
  fw hx fun b=>(hσ b).h
theorem xW {τ:List HI} {i tc:Nat} {us cs:List Value} [hz:eT P t k] (hx:evo ρ x=.pointer (some ⟨b,0,none⟩)) (hy:evo ρ y=.agg us.toArray:=by rfl) (ho:us.length=cs.length:=by rfl) (h1:∀u∈us,u.oneCell'=true:=by simp[Value.oneCell']) (hk:us.length=k:=by rfl) [hi:Fi b σ i tc cs] [hσ:Se i σ (.cl b tc us) τ]:
    cX P r (St w0 M σ) ⟨dst,.store t x y,ty,pos,af,g⟩ ρ (X:=Unit) (fun _=>undef) (fun _=>St w0 M τ):=ct hz.h hx hy hi.h ho hσ.h h1 hk
theorem xS {τ:List HI} {i tc:Nat} {u:Value} {cs cs':List Value} (hx:evo ρ x=.pointer (some ⟨b,o,none⟩)) (hy:evo ρ y=u) (ho:Nat.blt o cs.length=true:=by rfl) (h1:u.oneCell'=true:=by rfl) [hz:eT P t 1] [hi:Fi b σ i tc cs] [hs:Se o cs u cs'] [hσ:Se i σ (.cl b tc cs') τ]:
    cX P r (St w0 M σ) ⟨dst,.store t x y,ty,pos,af,g⟩ ρ (X:=Unit) (fun _=>undef) (fun _=>St w0 M τ):=cz hz.h hx hy hi.h (by simpa using ho) (by rw[hs.h];exact hσ.h) h1
section
variable {l rest:List Oper} {Sh:World→Prop} {o:Oper} {X:Type} {v:X→Value} {T:X→World→Prop} {facts:X→Prop} {fin:Option Nat} {plan:List (Nat×Bool)} {i:Nat} {u:Value} {f q:Nat}
theorem eF (h:cX P r S o ρ v (fun x w=>facts x∧T x w)) (k:∀x,facts x→aj P r N ops rest Q (upd ρ d (v x)) ds (T x)) (hg:o.guard=none:=by rfl) (hd:o.dst=some d:=by rfl) (hN:d<N:=by decide):aj P r N ops (o::rest) Q ρ ds S:=
  aj.ef h (fun x=>aj.fact (k x)) hg hd hN
theorem hT_ {p:Prop} (h:p):p:=h
theorem dE [hi:Li l i o] (h:cX P r S o ρ v T) (k:∀x,aB P r N l fin Sh plan Q (upd ρ d (v x)) ds (T x)) (hT:some i≠fin→∀x w,T x w→Sh w:=by first | exact fun h=>absurd rfl h | exact fun _ _ _ h=>St.pk h) (hw:wants l.toArray ρ o=true:=by rfl) (hd:o.dst=some d:=by rfl):aB P r N l fin Sh ((i,false)::plan) Q ρ ds S:=
  aB.ef hi.h h hT k hw hd
theorem dG [hi:Li l i o] (h:cX P r S o ρ v (fun x w=>facts x∧T x w)) (k:∀x,facts x→aB P r N l fin Sh plan Q (upd ρ d (v x)) ds (T x)) (hT:some i≠fin→∀x w,T x w→Sh w:=by first | exact fun h=>absurd rfl h | exact fun _ _ _ h=>St.pk h) (hw:wants l.toArray ρ o=true:=by rfl) (hd:o.dst=some d:=by rfl):aB P r N l fin Sh ((i,false)::plan) Q ρ ds S:=
  aB.ef hi.h h (fun e x w hw=>hT e x w hw.2) (fun x=>aB.fact (k x)) hw hd
theorem uz [hi:Li l i o] (h:cX P r S o ρ v T) (k:∀x,aB P r N l fin Sh plan Q ρ ds (T x)) (hT:some i≠fin→∀x w,T x w→Sh w:=by first | exact fun h=>absurd rfl h | exact fun _ _ _ h=>St.pk h) (hw:wants l.toArray ρ o=true:=by rfl) (hd:o.dst=none:=by rfl):aB P r N l fin Sh ((i,false)::plan) Q ρ ds S:=
  aB.aX hi.h h hT k hw hd
theorem tD [hi:Li l i o] (hv:cw P Sh o ρ u) (k:aB P r N l fin Sh plan Q (upd ρ d u) ds S) (hS:∀w,S w→Sh w:=by first | exact fun _ h=>h | exact fun _ h=>St.pk h) (hif:some i≠fin:=by decide) (hw:wants l.toArray ρ o=true:=by rfl) (hd:o.dst=some d:=by rfl):aB P r N l fin Sh ((i,true)::plan) Q ρ ds S:=
  aB.take hi.h hv k hS hif hw hd
theorem tE (hi:l[i]?=some o) (hv:cw P Sh o ρ u) (k:aB P r N l fin Sh plan Q (upd ρ d u) ds S) (hS:∀w,S w→Sh w:=by first | exact fun _ h=>h | exact fun _ h=>St.pk h) (hif:some i≠fin:=by decide) (hw:wants l.toArray ρ o=true:=by rfl) (hd:o.dst=some d:=by rfl):aB P r N l fin Sh ((i,true)::plan) Q ρ ds S:=
  aB.take hi hv k hS hif hw hd
theorem tG (i:Nat) (hi:l[i]?=some o) (hv:cw P Sh o ρ u) (k:dP P r N l Sh f nn (q||| 2 ^ i) Q (upd ρ d u) ds S) (hS:∀w,S w→Sh w:=by first | exact fun _ h=>h | exact fun _ h=>St.pk h) (hc:KW l nn q (q||| 2 ^ i) i=true:=by kernel_rfl) (hw:wants l.toArray ρ o=true:=by rfl) (hd:o.dst=some d:=by rfl):dP P r N l Sh (f+1) nn q Q ρ ds S:=dP.tk _ i hc hi hv k hS hw hd
theorem fE [hi:Li l i o] (h:cX P r S o ρ v T) (k:∀x,dP P r N l Sh f nn (q||| 2 ^ i) Q (upd ρ d (v x)) ds (T x)) (hT:∀x w,T x w→Sh w:=by exact fun _ _ h=>St.pk h) (hc:za nn q (q||| 2 ^ i) i=true:=by kernel_rfl) (hw:wants l.toArray ρ o=true:=by rfl) (hd:o.dst=some d:=by rfl):ey P r N l Sh f nn q i Q ρ ds S:=ey.ef _ hc hi.h h hT k hw hd
theorem fF [hi:Li l i o] (h:cX P r S o ρ v (fun x w=>facts x∧T x w)) (k:∀x,facts x→dP P r N l Sh f nn (q||| 2 ^ i) Q (upd ρ d (v x)) ds (T x)) (hT:∀x w,T x w→Sh w:=by exact fun _ _ h=>St.pk h) (hc:za nn q (q||| 2 ^ i) i=true:=by kernel_rfl) (hw:wants l.toArray ρ o=true:=by rfl) (hd:o.dst=some d:=by rfl):ey P r N l Sh f nn q i Q ρ ds S:=ey.ef _ hc hi.h h (fun x w hw=>hT x w hw.2) (fun x=>dP.fact (k x)) hw hd
theorem nF [hi:Li l i o] (h:cX P r S o ρ v T) (k:∀x,dP P r N l Sh f nn (q||| 2 ^ i) Q ρ ds (T x)) (hT:∀x w,T x w→Sh w:=by exact fun _ _ h=>St.pk h) (hc:za nn q (q||| 2 ^ i) i=true:=by kernel_rfl) (hw:wants l.toArray ρ o=true:=by rfl) (hd:o.dst=none:=by rfl):ey P r N l Sh f nn q i Q ρ ds S:=ey.aX _ hc hi.h h hT k hw hd
theorem tF (i:Nat) [hi:Li l i o] (hv:cw P Sh o ρ u) (k:dP P r N l Sh f nn (q||| 2 ^ i) Q (upd ρ d u) ds S) (hS:∀w,S w→Sh w:=by first | exact fun _ h=>h | exact fun _ h=>St.pk h) (hc:KW l nn q (q||| 2 ^ i) i=true:=by kernel_rfl) (hw:wants l.toArray ρ o=true:=by rfl) (hd:o.dst=some d:=by rfl):dP P r N l Sh (f+1) nn q Q ρ ds S:=dP.tk _ i hc hi.h hv k hS hw hd
theorem fO (i:Nat) (h:ey P r N l Sh f nn q i Q ρ ds S) (hc:IW l nn q [i]=true:=by kernel_rfl):dP P r N l Sh (f+1) nn q Q ρ ds S:=dP.aeb hc h
theorem fK (i j:Nat) (h:ey P r N l Sh f nn q i Q ρ ds S) (h':ey P r N l Sh f nn q j Q ρ ds S) (hc:IW l nn q [i,j]=true:=by kernel_rfl):dP P r N l Sh (f+1) nn q Q ρ ds S:=dP.ad5 hc h h'
theorem fN (h:∀w,S w→Q .normal ρ ds w) (hc:IW l nn q []=true:=by kernel_rfl):dP P r N l Sh 0 nn q Q ρ ds S:=dP.nil hc h
class Ge (i:Nat) (σ:List HI) (x:outParam HI):Prop where h:σ[i]?=some x
instance {x:HI} {σ:List HI}:Ge 0 (x::σ) x:=⟨rfl⟩
instance {i:Nat} {x y:HI} {σ:List HI} [q:Ge i σ x]:Ge (i+1) (y::σ) x:=⟨q.h⟩
class Gs (l:List Nat) (σ:List HI) (π:outParam (List HI)):Prop where h:sel σ l=π
instance {σ:List HI}:Gs [] σ []:=⟨rfl⟩
instance {i:Nat} {l:List Nat} {x:HI} {σ π:List HI} [a:Ge i σ x] [b:Gs l σ π]:Gs (i::l) σ (x::π):=⟨by have h:=b.h;unfold sel at*;rw[List.filterMap_cons,a.h,h]⟩
theorem wG {id:Nat} {π:List HI} (idx:List Nat) [e:Gs idx σ π] (h:dP P r N l (St w0 M π) l.length l.length 0 Q ρ ds (St w0 M σ)) (hm:P.follows .mixedOrders=true:=by exact mixed) (hB:xr N l=true:=by kernel_rfl) (hn:idx.Nodup:=by decide):WP P r N (.region id l.toArray true) Q ρ ds (St w0 M σ):=
  dP.dj idx hm hB hn (by rw[e.h];exact h)
theorem wP {id:Nat} {π:List HI} (fin:Option Nat) (idx:List Nat) (plan:List (Nat×Bool)) [e:Gs idx σ π] (h:aB P r N l fin (St w0 M π) plan Q ρ ds (St w0 M σ)) (hm:P.follows .mixedOrders=true:=by exact mixed) (hB:qy l.toArray fin plan=true:=by kernel_rfl) (hN:gX N l=true:=by decide):WP P r N (.region id l.toArray true) Q ρ ds (St w0 M σ):=
  WP.dj fin idx plan hm hB hN (by rw[e.h];exact h)
end
end
abbrev pT (i:Nat):Nat×Bool:=(i,true)
abbrev pF (i:Nat):Nat×Bool:=(i,false)
structure Bx (B:Prop):Prop where h:B
structure qc (P:Program) (S:World→Prop) (o:Oper) (ρ:Env) (v:Value):Prop where h:cw P S o ρ v
section
variable {P:Program} {r:Option Nat} {N d:Nat} {ops:Array Oper} {l rest:List Oper} {Q:XP} {ρ:Env} {ds:List Deferred} {S S':World→Prop} {x y:Operand} {ty t t2:TypeId} {pos:String} {af:Array Edge} {g:Option (Nat×Bool)} {dst:Option Tmp} {v:Value} {m n:Int} {b o o' k j c fi nn:Nat} {A:Option Addr}
theorem jJ {z:Int} (h:v=.int .i64 z):v=.int .i64 z:=h
theorem T0 {z:Bool} (h:v=.bool z):v=.bool z:=h
theorem isP {z:Option Addr} (h:v=.pointer z):v=.pointer z:=h
theorem Fv {A:Option Addr} {n m:Nat} (h:v=.slice A n m):v=.slice A n m:=h
theorem J4 {fs:Array Field} {n1 n5 n6:String} {n2 n3 n7:Nat} {n4:Bool} {k:Nat} [hu:eB P t (.struct fs)] (hx:evo ρ x=.pointer (some ⟨b,o,none⟩)) (hf:fs[fi]?=some ⟨n1,n2,n3,n4,n5,n6,n7⟩) (hz:eT P n2 k) (ho:o+n3=o'):
    qc P S ⟨dst,.fieldAddr t x fi,ty,pos,af,g⟩ ρ (.pointer (some ⟨b,o',none⟩)):=⟨aS hu.h hf hz.h hx ho hz.p⟩
theorem rJ {e:TypeId} {N sz:Nat} {k:Int} [hu:eB P t (.array N e)] [hz:eT P e sz] (hx:evo ρ x=.pointer (some ⟨b,o,none⟩)) (hy:evo ρ y=.int .i64 k) (hj:k=(j:Int)) (hlt:j<N) (ho:o+j*sz=o'):
    qc P S ⟨dst,.indexAddr t x y,ty,pos,af,g⟩ ρ (.pointer (some ⟨b,o',none⟩)):=⟨ho▸cE hu.h hz.h hx hy hj hlt⟩
theorem Lr {w0:World} {M:Nat→Prop} {σ:List HI} {u:Value} {ty':TypeId} {cs:List Value} [ha:fl P t false] (hx:evo ρ x=.pointer (some ⟨b,o,none⟩)) (i:Nat) (hi:σ[i]?=some (.cl b ty' cs)) (hu:(cs.drop o).take 1=[u]):
    qc P (St w0 M σ) ⟨dst,.load t x,ty,pos,af,g⟩ ρ u:=⟨ai ha.h hx (fun _ hw=>hw.aq hi o hu)⟩
theorem l1I {l:List Value} {z:Int} (h:l=[.int .i64 z]):l=[.int .i64 z]:=h
theorem l1B {l:List Value} {z:Bool} (h:l=[.bool z]):l=[.bool z]:=h
theorem l1P {l:List Value} {z:Option Addr} (h:l=[.pointer z]):l=[.pointer z]:=h
theorem l1S {l:List Value} {A:Option Addr} {n m:Nat} (h:l=[.slice A n m]):l=[.slice A n m]:=h
theorem Zx {e:TypeId} {k c:Nat} [hu:eB P t (.slice e)] (hx:evo ρ x=.slice A k c):qc P S ⟨dst,.call ⟨.builtin .len,#[x],#[t]⟩,ty,pos,af,g⟩ ρ (.int .i64 k):=⟨acz hu.h hx⟩
theorem SO (h:evo ρ x=v):qc P S ⟨dst,.move x,ty,pos,af,g⟩ ρ v:=⟨aC h⟩
theorem HU (h:evo ρ x=v):qc P S ⟨dst,.assign x,ty,pos,af,g⟩ ρ v:=⟨dB h⟩
theorem VF (hx:evo ρ x=.int .i64 m) (hy:evo ρ y=.int .i64 n):qc P S ⟨dst,.binOp .lss t x y t2,ty,pos,af,g⟩ ρ (.bool (decide (m<n))):=⟨nG hx hy⟩
theorem ZV (hx:evo ρ x=.int .i64 m) (hy:evo ρ y=.int .i64 n):qc P S ⟨dst,.binOp .leq t x y t2,ty,pos,af,g⟩ ρ (.bool (decide (m≤n))):=⟨gn hx hy⟩
theorem X9 (hx:evo ρ x=.int .i64 m) (hy:evo ρ y=.int .i64 n):qc P S ⟨dst,.binOp .gtr t x y t2,ty,pos,af,g⟩ ρ (.bool (decide (n<m))):=⟨GV hx hy⟩
theorem Wy (hx:evo ρ x=.int .i64 m) (hy:evo ρ y=.int .i64 n):qc P S ⟨dst,.binOp .geq t x y t2,ty,pos,af,g⟩ ρ (.bool (decide (n≤m))):=⟨oV hx hy⟩
theorem aam (hx:evo ρ x=.int .i64 m) (hy:evo ρ y=.int .i64 n):qc P S ⟨dst,.binOp .eql t x y t2,ty,pos,af,g⟩ ρ (.bool (decide (m=n))):=⟨dD hx hy⟩
theorem Yx (hx:evo ρ x=.int .i64 m) (hy:evo ρ y=.int .i64 n):qc P S ⟨dst,.binOp .neq t x y t2,ty,pos,af,g⟩ ρ (.bool (decide (m≠n))):=⟨vr hx hy⟩
theorem ac9 {b:Bool} (hx:evo ρ x=.bool b):qc P S ⟨dst,.unOp .not t x,ty,pos,af,g⟩ ρ (.bool (!b)):=⟨GI hx⟩
theorem ab6 {ats:Array TypeId} (hx:evo ρ x=.int .i64 m) (hy:evo ρ y=.int .i64 n):qc P S ⟨dst,.call ⟨.builtin .max,#[x,y],ats⟩,ty,pos,af,g⟩ ρ (.int .i64 (max m n)):=⟨Dv hx hy⟩
theorem ab4 {ats:Array TypeId} (hx:evo ρ x=.int .i64 m) (hy:evo ρ y=.int .i64 n):qc P S ⟨dst,.call ⟨.builtin .min,#[x,y],ats⟩,ty,pos,af,g⟩ ρ (.int .i64 (min m n)):=⟨HP hx hy⟩
theorem X7 (hx:evo ρ x=.int .i64 m) (hy:evo ρ y=.int .i64 n) (h:-9223372036854775808≤m+n∧m+n≤9223372036854775807):qc P S ⟨dst,.binOp .add t x y t2,ty,pos,af,g⟩ ρ (.int .i64 (m+n)):=⟨zI hx hy h⟩
theorem aae (hx:evo ρ x=.int .i64 m) (hy:evo ρ y=.int .i64 n) (h:-9223372036854775808≤m - n∧m - n≤9223372036854775807):qc P S ⟨dst,.binOp .sub t x y t2,ty,pos,af,g⟩ ρ (.int .i64 (m - n)):=⟨jD hx hy h⟩
theorem Oe {z:Int} (hx:evo ρ x=.int .i64 m) (hy:evo ρ y=.int .i64 n) (e:m+n=z) (h:-9223372036854775808≤z∧z≤9223372036854775807):qc P S ⟨dst,.binOp .add t x y t2,ty,pos,af,g⟩ ρ (.int .i64 z):=⟨qA hx hy e h⟩
theorem Xx (hx:evo ρ x=.int .i64 m) (hy:evo ρ y=.int .i64 n) (h:-9223372036854775808≤m*n∧m*n≤9223372036854775807):qc P S ⟨dst,.binOp .mul t x y t2,ty,pos,af,g⟩ ρ (.int .i64 (m*n)):=⟨Ad hx hy h⟩
theorem yc {e:TypeId} {sz n c:Nat} {k:Int} [hu:eB P t (.slice e)] [hz:eT P e sz] (hx:evo ρ x=.slice (some ⟨b,o,none⟩) n c) (hy:evo ρ y=.int .i64 k) (hj:k=(j:Int)) (hlt:j<n):
    qc P S ⟨dst,.indexAddr t x y,ty,pos,af,g⟩ ρ (.pointer (some ⟨b,o+j*sz,none⟩)):=⟨bG hu.h hz.h hx hy hj hlt⟩
theorem I4 {c:Operand} (hc:evo ρ c=.bool true) (hx:evo ρ x=v):qc P S ⟨dst,.pick c x y,ty,pos,af,g⟩ ρ v:=⟨fJ hc hx⟩
theorem Kl {c:Operand} (hc:evo ρ c=.bool false) (hx:evo ρ y=v):qc P S ⟨dst,.pick c x y,ty,pos,af,g⟩ ρ v:=⟨eM hc hx⟩
theorem Ey {k:Nat} {vs:Array Value} (hx:evo ρ x=.tuple vs) (hv:vs[k]?=some v):qc P S ⟨dst,.extract x k,ty,pos,af,g⟩ ρ v:=⟨bR hx hv⟩
theorem JL {w0:World} {M:Nat→Prop} {σ:List HI} {us cs:List Value} {ty':TypeId} [ha:fl P t true] (hz:eT P t us.length) (hx:evo ρ x=.pointer (some ⟨b,o,none⟩)) (i:Nat) (hi:σ[i]?=some (.cl b ty' cs)) (hu:(cs.drop o).take us.length=us):
    qc P (St w0 M σ) ⟨dst,.load t x,ty,pos,af,g⟩ ρ (.agg us.toArray):=⟨au ha.h hz.h hx (fun _ hw=>hw.aq hi o hu)⟩
theorem adv {a:Addr} (hx:evo ρ x=.pointer (some a)):qc P S ⟨dst,.nilCheck x,ty,pos,af,g⟩ ρ (.pointer (some a)):=⟨jO hx⟩
structure QE (σ:List HI) (b:Nat) (ty:TypeId) (cs:List Value):Prop where h:∃i:Nat,σ[i]?=some (HI.cl b ty cs)
theorem fD {σ:List HI} {cs:List Value} (i:Nat) (h:σ[i]?=some (HI.cl b ty cs)):QE σ b ty cs:=⟨i,h⟩
theorem agm {w0:World} {M:Nat→Prop} {σ:List HI} {u:Value} {ty':TypeId} {cs:List Value} [ha:fl P t false] (hx:evo ρ x=.pointer (some ⟨b,o,none⟩)) (hi:QE σ b ty' cs) (hu:(cs.drop o).take 1=[u]):
    qc P (St w0 M σ) ⟨dst,.load t x,ty,pos,af,g⟩ ρ u:=hi.h.elim fun i hi=>Lr hx i hi hu
theorem C9 {w0:World} {M:Nat→Prop} {σ:List HI} {us cs:List Value} {ty':TypeId} {k:Nat} [ha:fl P t true] [hz:eT P t k] (hk:us.length=k) (hx:evo ρ x=.pointer (some ⟨b,o,none⟩)) (hi:QE σ b ty' cs) (hu:(cs.drop o).take us.length=us):
    qc P (St w0 M σ) ⟨dst,.load t x,ty,pos,af,g⟩ ρ (.agg us.toArray):=hi.h.elim fun i hi=>JL (hk▸hz) hx i hi hu
theorem sI {q:Option Value} {z:Int} (h:q=some (.int .i64 z)):q=some (.int .i64 z):=h
theorem sB {q:Option Value} {z:Bool} (h:q=some (.bool z)):q=some (.bool z):=h
theorem sP {q:Option Value} {z:Option Addr} (h:q=some (.pointer z)):q=some (.pointer z):=h
theorem sS {q:Option Value} {A:Option Addr} {n m:Nat} (h:q=some (.slice A n m)):q=some (.slice A n m):=h
theorem ov {o : Oper} (h : qc P S o ρ v := by first
    | (apply SO; first | exact jJ rfl | exact isP rfl | exact Fv rfl | exact T0 rfl)
    | (apply HU; first | exact jJ rfl | exact isP rfl | exact Fv rfl | exact T0 rfl)
    | (apply J4; exact rfl; exact rfl; infer_instance; (first | (simp only [Nat.reduceAdd, Nat.reduceMul]; exact rfl) | simp only [Nat.reduceAdd, Nat.reduceMul] | exact rfl))
    | (apply agm; exact rfl; (first | exact fD 0 rfl | exact fD 1 rfl | exact fD 2 rfl | exact fD 3 rfl | exact fD 4 rfl | exact fD 5 rfl | exact fD 6 rfl | exact fD 7 rfl | exact fD 8 rfl | exact fD 9 rfl | exact fD 10 rfl | exact fD 11 rfl | exact fD 12 rfl | exact fD 13 rfl); first | exact l1I rfl | exact l1P rfl | exact l1S rfl | exact l1B rfl)
    | (apply C9 (us := [.int .i64 _, .int .i64 _]); exact rfl; exact rfl; (first | exact fD 0 rfl | exact fD 1 rfl | exact fD 2 rfl | exact fD 3 rfl | exact fD 4 rfl | exact fD 5 rfl | exact fD 6 rfl | exact fD 7 rfl | exact fD 8 rfl | exact fD 9 rfl | exact fD 10 rfl | exact fD 11 rfl | exact fD 12 rfl | exact fD 13 rfl); exact rfl)
    | (apply C9 (us := [.int .i64 _, .int .i64 _, .int .i64 _, .int .i64 _]); exact rfl; exact rfl; (first | exact fD 0 rfl | exact fD 1 rfl | exact fD 2 rfl | exact fD 3 rfl | exact fD 4 rfl | exact fD 5 rfl | exact fD 6 rfl | exact fD 7 rfl | exact fD 8 rfl | exact fD 9 rfl | exact fD 10 rfl | exact fD 11 rfl | exact fD 12 rfl | exact fD 13 rfl); exact rfl)
    | (apply C9 (us := [.int .i64 _, .int .i64 _, .int .i64 _, .int .i64 _, .int .i64 _]); exact rfl; exact rfl; (first | exact fD 0 rfl | exact fD 1 rfl | exact fD 2 rfl | exact fD 3 rfl | exact fD 4 rfl | exact fD 5 rfl | exact fD 6 rfl | exact fD 7 rfl | exact fD 8 rfl | exact fD 9 rfl | exact fD 10 rfl | exact fD 11 rfl | exact fD 12 rfl | exact fD 13 rfl); exact rfl)
    | (apply C9 (us := [.int .i64 _, .int .i64 _, .int .i64 _, .int .i64 _, .int .i64 _, .slice _ _ _]); exact rfl; exact rfl; (first | exact fD 0 rfl | exact fD 1 rfl | exact fD 2 rfl | exact fD 3 rfl | exact fD 4 rfl | exact fD 5 rfl | exact fD 6 rfl | exact fD 7 rfl | exact fD 8 rfl | exact fD 9 rfl | exact fD 10 rfl | exact fD 11 rfl | exact fD 12 rfl | exact fD 13 rfl); exact rfl)
    | (apply rJ (j := 0); exact rfl; exact rfl; exact rfl; decide; (first | (simp only [Nat.reduceAdd, Nat.reduceMul]; exact rfl) | simp only [Nat.reduceAdd, Nat.reduceMul] | exact rfl))
    | (apply rJ (j := 1); exact rfl; exact rfl; exact rfl; decide; (first | (simp only [Nat.reduceAdd, Nat.reduceMul]; exact rfl) | simp only [Nat.reduceAdd, Nat.reduceMul] | exact rfl))
    | (apply rJ (j := 2); exact rfl; exact rfl; exact rfl; decide; (first | (simp only [Nat.reduceAdd, Nat.reduceMul]; exact rfl) | simp only [Nat.reduceAdd, Nat.reduceMul] | exact rfl))
    | (apply rJ (j := 3); exact rfl; exact rfl; exact rfl; decide; (first | (simp only [Nat.reduceAdd, Nat.reduceMul]; exact rfl) | simp only [Nat.reduceAdd, Nat.reduceMul] | exact rfl))
    | (apply yc; exact rfl; exact rfl; exact rfl; omega)
    | (apply yc (j := 0); exact rfl; exact rfl; exact rfl; omega)
    | (apply VF; exact rfl; exact rfl)
    | (apply Zx; exact rfl)
    | (apply adv; exact rfl)
    | (apply ZV; exact rfl; exact rfl)
    | (apply X9; exact rfl; exact rfl)
    | (apply Wy; exact rfl; exact rfl)
    | (apply aam; exact rfl; exact rfl)
    | (apply Yx; exact rfl; exact rfl)
    | (apply ac9; exact rfl)
    | (apply ab6; exact rfl; exact rfl)
    | (apply ab4; exact rfl; exact rfl)
    | (apply Oe; exact rfl; exact rfl; (first | (simp only [Int.reduceAdd]; exact rfl) | simp only [Int.reduceAdd]); omega)
    | (apply X7; exact rfl; exact rfl; omega)
    | (apply Xx; exact rfl; exact rfl; omega)
    | (apply aae; exact rfl; exact rfl; omega)
    | (apply I4; exact rfl; first | exact jJ rfl | exact isP rfl | exact Fv rfl | exact T0 rfl)
    | (apply Kl; exact rfl; first | exact jJ rfl | exact isP rfl | exact Fv rfl | exact T0 rfl)
    | (apply Ey; exact rfl; first | exact sI rfl | exact sP rfl | exact sS rfl | exact sB rfl)) : cw P S o ρ v := h.h
theorem av {o:Oper} (k:aj P r N ops rest Q (upd ρ d v) ds S) (hg:o.guard=none:=by rfl) (hd:o.dst=some d:=by rfl) (hN:d<N:=by decide) (h:cw P S o ρ v:=by exact ov) (hdf:bJ o=true:=by rfl):aj P r N ops (o::rest) Q ρ ds S:=aj.val h k hg hd hN hdf
theorem ag {o:Oper} (k:aj P r N l.toArray rest Q (upd ρ d v) ds S) (hw:wants l.toArray ρ o=true:=by rfl) (hd:o.dst=some d:=by rfl) (hN:d<N:=by decide) (hl:gX N l=true:=by decide) (h:cw P S o ρ v:=by exact ov) (hdf:bJ o=true:=by rfl):aj P r N l.toArray (o::rest) Q ρ ds S:=aj.aec h k hl hw hd hN hdf
theorem akk {o:Oper} (k:aj P r N l.toArray rest Q (upd ρ d undef) ds S) (hw:wants l.toArray ρ o=false:=by rfl) (hd:o.dst=some d:=by rfl) (hN:d<N:=by decide) (hl:gX N l=true:=by decide):aj P r N l.toArray (o::rest) Q ρ ds S:=aj.K9 k hl hw hd hN
theorem ad {l:List Oper} {fin:Option Nat} {Sh:World→Prop} {i:Nat} {plan:List (Nat×Bool)} {o:Oper} (k:aB P r N l fin Sh plan Q (upd ρ d v) ds S) (hi:l[i]?=some o:=by rfl) (hw:wants l.toArray ρ o=true:=by rfl) (hv:cw P Sh o ρ v:=by exact ov)
    (hS:∀w,S w→Sh w:=by first | exact fun _ h=>h | exact fun _ h=>St.pk h | exact fun _ h=>h.sel _ (by decide)) (hif:some i≠fin:=by decide) (hd:o.dst=some d:=by rfl):aB P r N l fin Sh ((i,true)::plan) Q ρ ds S:=aB.take hi hv k hS hif hw hd
theorem aF {l:List Oper} {Sh:World→Prop} {f n m:Nat} (m' i:Nat) {o:Oper} (k:dP P r N l Sh f n m' Q (upd ρ d v) ds S) (hc:KW l n m m' i=true:=by kernel_rfl) (hi:l[i]?=some o:=by rfl) (hw:wants l.toArray ρ o=true:=by rfl) (hv:cw P Sh o ρ v:=by exact ov)
    (hS:∀w,S w→Sh w:=by first | exact fun _ h=>h | exact fun _ h=>St.pk h | exact fun _ h=>h.sel _ (by decide)) (hd:o.dst=some d:=by rfl):dP P r N l Sh (f+1) n m Q ρ ds S:=dP.tk m' i hc hi hv k hS hw hd
theorem gg {A B : Prop} (k : B) (h : Bx B → A := by
    intro k
    repeat (first | refine av ?_ | refine ad ?_ | refine aB.nil (an ?_) | refine nl (oo ?_) | refine eh ?_ | refine sq ?_ | refine WP.skip (an ?_) | refine WP.region ?_ | refine WP.block ?_ | refine akk ?_ | refine ag ?_)
    exact k.h) : A := h ⟨k⟩
theorem gv {A B : Prop} (k : B) (h : Bx B → A := by
    intro k
    iterate 1 (first | refine av ?_ | refine ad ?_ | refine aB.nil (an ?_) | refine nl (oo ?_) | refine eh ?_ | refine sq ?_ | refine WP.skip (an ?_) | refine WP.region ?_ | refine WP.block ?_ | refine akk ?_ | refine ag ?_)
    exact k.h) : A := h ⟨k⟩
theorem bW {A B : Prop} (k : B) (h : Bx B → A := by
    intro k
    iterate 2 refine gv ?_
    exact k.h) : A := h ⟨k⟩
theorem cK {A B : Prop} (k : B) (h : Bx B → A := by
    intro k
    iterate 3 refine gv ?_
    exact k.h) : A := h ⟨k⟩
theorem bS {A B : Prop} (k : B) (h : Bx B → A := by
    intro k
    iterate 4 refine gv ?_
    exact k.h) : A := h ⟨k⟩
theorem cR {A B : Prop} (k : B) (h : Bx B → A := by
    intro k
    iterate 5 refine gv ?_
    exact k.h) : A := h ⟨k⟩
theorem iX {A B : Prop} (k : B) (h : Bx B → A := by
    intro k
    iterate 6 refine gv ?_
    exact k.h) : A := h ⟨k⟩
theorem qa {A B : Prop} (k : B) (h : Bx B → A := by
    intro k
    iterate 7 refine gv ?_
    exact k.h) : A := h ⟨k⟩
theorem uw {A B : Prop} (k : B) (h : Bx B → A := by
    intro k
    iterate 8 refine gv ?_
    exact k.h) : A := h ⟨k⟩
theorem JW {A B : Prop} (k : B) (h : Bx B → A := by
    intro k
    iterate 9 refine gv ?_
    exact k.h) : A := h ⟨k⟩
theorem Ja {A B : Prop} (k : B) (h : Bx B → A := by
    intro k
    iterate 10 refine gv ?_
    exact k.h) : A := h ⟨k⟩
theorem agk {A B : Prop} (k : B) (h : Bx B → A := by
    intro k
    iterate 11 refine gv ?_
    exact k.h) : A := h ⟨k⟩
theorem uE {A B : Prop} (k : B) (h : Bx B → A := by
    intro k
    iterate 12 refine gv ?_
    exact k.h) : A := h ⟨k⟩
theorem afh {A B : Prop} (k : B) (h : Bx B → A := by
    intro k
    iterate 13 refine gv ?_
    exact k.h) : A := h ⟨k⟩
theorem aha {A B : Prop} (k : B) (h : Bx B → A := by
    intro k
    iterate 14 refine gv ?_
    exact k.h) : A := h ⟨k⟩
theorem Lx {A B : Prop} (k : B) (h : Bx B → A := by
    intro k
    iterate 15 refine gv ?_
    exact k.h) : A := h ⟨k⟩
theorem agy {A B : Prop} (k : B) (h : Bx B → A := by
    intro k
    iterate 16 refine gv ?_
    exact k.h) : A := h ⟨k⟩
end
section
variable {P:Program} {ρ:Env} {S:World→Prop} {x y:Operand} {ty t t2:TypeId} {pos:String} {af:Array Edge} {g:Option (Nat×Bool)} {dst:Option Tmp} {m n:Int} {b o k c fi:Nat} {A:Option Addr} {w0:World} {M:Nat→Prop} {σ:List HI}
theorem vF {fs:Array Field} {n1 n5 n6:String} {n2 n3 n7:Nat} {n4:Bool} {k:Nat} [hu:eB P t (.struct fs)] (hx:evo ρ x=.pointer (some ⟨b,o,none⟩):=by rfl) (hf:fs[fi]?=some ⟨n1,n2,n3,n4,n5,n6,n7⟩:=by rfl) (hz:eT P n2 k:=by infer_instance):
    cw P S ⟨dst,.fieldAddr t x fi,ty,pos,af,g⟩ ρ (.pointer (some ⟨b,o+n3,none⟩)):=e7 hu.h hf hz.h hx rfl hz.p
theorem vX {e:TypeId} {sz n c:Nat} {k:Int} (j:Nat) [hu:eB P t (.slice e)] [hz:eT P e sz] (hx:evo ρ x=.slice (some ⟨b,o,none⟩) n c:=by rfl) (hy:evo ρ y=.int .i64 k:=by rfl) (hj:k=(j:Int):=by first | rfl | omega) (hlt:j<n:=by omega):
    cw P S ⟨dst,.indexAddr t x y,ty,pos,af,g⟩ ρ (.pointer (some ⟨b,o+j*sz,none⟩)):=bG hu.h hz.h hx hy hj hlt
theorem vL (k:Int) (hx:evo ρ x=.int .i64 m:=by rfl) (hy:evo ρ y=.int .i64 n:=by rfl) (e:m+n=k:=by rfl) (h:-9223372036854775808≤k∧k≤9223372036854775807:=by omega):cw P S ⟨dst,.binOp .add t x y t2,ty,pos,af,g⟩ ρ (.int .i64 k):=qA hx hy e h
theorem vM (hx:evo ρ x=.int .i64 m:=by rfl) (hy:evo ρ y=.int .i64 n:=by rfl) (h:-9223372036854775808≤m*n∧m*n≤9223372036854775807:=by omega):cw P S ⟨dst,.binOp .mul t x y t2,ty,pos,af,g⟩ ρ (.int .i64 (m*n)):=Ad hx hy h
theorem vC {f:FuncId} {xs:List Operand} {ats:Array TypeId} {args:List Value} {v:Value} (hc:∀{w:World},Calls P f args.toArray w fun e w'=>e=.returned v∧w=w') (ha:xs.map (evo ρ)=args:=by rfl) [hf:bf P f]:cw P S ⟨dst,.call ⟨.value (.func f),xs.toArray,ats⟩,ty,pos,af,g⟩ ρ v:=
  qC hf.h (fun _ _=>hc) ha
theorem vO {u:Value} (hc:aJ w0 b o [u]) (hx:evo ρ x=.pointer (some ⟨b,o,none⟩):=by rfl) [ha:fl P t false]:cw P (St w0 (ay []) σ) ⟨dst,.load t x,ty,pos,af,g⟩ ρ u:=ai ha.h hx (fun _ hw=>hw.cW hc (ax _))
theorem vW {cs:List Value} {i tc:Nat} (hl:cs.length=k) (hx:evo ρ x=.pointer (some ⟨b,0,none⟩):=by rfl) [ha:fl P t true] [hz:eT P t k] [hi:Fi b σ i tc cs]:cw P (St w0 M σ) ⟨dst,.load t x,ty,pos,af,g⟩ ρ (.agg cs.toArray):=au ha.h hz.h hx (fun _ hw=>hw.aq hi.h 0 (whole _)) hl
theorem vS {cs s:List Value} {i tc:Nat} (hs:bZ s) (k:Nat) (hx:evo ρ x=.pointer (some ⟨b,k,none⟩):=by rfl) (hk:k<55:=by decide) (hb:kP k=false:=by rfl) (e:cs=s:=by rfl) [ha:fl P t false] [hi:Fi b σ i tc cs]:cw P (St w0 M σ) ⟨dst,.load t x,ty,pos,af,g⟩ ρ (.int .i64 (val s k)):=
  ai ha.h hx (fun _ hw=>hw.aq (e▸hi.h) k (cell_of (bZ.int hs k hk hb)))
theorem gC {cs s:List Value} {i tc:Nat} (hs:bZ s) (k l:Nat) (hx:evo ρ x=.pointer (some ⟨b,k,none⟩):=by rfl) (hk:k+2≤55:=by decide) (hb:((List.range' k 2).all fun j=> !kP j)=true:=by rfl) (hl:k+1=l:=by rfl) (e:cs=s:=by rfl) [ha:fl P t true] [hz:eT P t 2] [hi:Fi b σ i tc cs]:
    cw P (St w0 M σ) ⟨dst,.load t x,ty,pos,af,g⟩ ρ (.agg [.int .i64 (val s k),.int .i64 (val s l)].toArray):=
  au ha.h hz.h hx (fun _ hw=>hw.aq (e▸hi.h) k (bZ.gu hs 2 k hk hb rfl (by subst hl;rfl)))
theorem IX {cs s:List Value} {i tc:Nat} (hs:bZ s) (k k1 k2 k3:Nat) (hx:evo ρ x=.pointer (some ⟨b,k,none⟩):=by rfl) (hk:k+4≤55:=by decide) (hb:((List.range' k 4).all fun j=> !kP j)=true:=by rfl) (h1:k+1=k1:=by rfl) (h2:k1+1=k2:=by rfl) (h3:k2+1=k3:=by rfl) (e:cs=s:=by rfl) [ha:fl P t true] [hz:eT P t 4] [hi:Fi b σ i tc cs]:
    cw P (St w0 M σ) ⟨dst,.load t x,ty,pos,af,g⟩ ρ (.agg [.int .i64 (val s k),.int .i64 (val s k1),.int .i64 (val s k2),.int .i64 (val s k3)].toArray):=
  au ha.h hz.h hx (fun _ hw=>hw.aq (e▸hi.h) k (bZ.gu hs 4 k hk hb rfl (by subst h1 h2 h3;rfl)))
theorem vR {tc sz gb nn cap:Nat} {z:Int} {xs:List Value} (i:Nat) [hi:Ge i σ (.row tc sz (some ⟨gb,0,none⟩) nn cap xs)] [ha:fl P t false] (hu:xs[k]?=some (.int .i64 z)) (hx:evo ρ x=.pointer (some ⟨gb,o,none⟩):=by rfl) (ho:o=k:=by omega):cw P (St w0 M σ) ⟨dst,.load t x,ty,pos,af,g⟩ ρ (.int .i64 z):=
  ai ha.h hx (fun _ hw=>hw.bh hi.h hu ho)
end
section
variable {P:Program} {r:Option Nat} {N d:Nat} {l:List Oper} {Q:XP} {ρ:Env} {ds:List Deferred} {S Sh:World→Prop} {o:Oper} {u:Value} {f q nn:Nat}
theorem aG (i:Nat) (k:dP P r N l Sh f nn (q||| 2 ^ i) Q (upd ρ d u) ds S) (hc:KW l nn q (q||| 2 ^ i) i=true:=by kernel_rfl) (hi:l[i]?=some o:=by rfl) (hw:wants l.toArray ρ o=true:=by rfl) (hv:cw P Sh o ρ u:=by exact ov)
    (hS:∀w,S w→Sh w:=by first | exact fun _ h=>h | exact fun _ h=>St.pk h) (hd:o.dst=some d:=by rfl):dP P r N l Sh (f+1) nn q Q ρ ds S:=dP.tk _ i hc hi hv k hS hw hd
end
section
variable {P:Program} {r:Option Nat} {N d:Nat} {l:List Oper} {Q:XP} {ρ:Env} {ds:List Deferred} {S Sh:World→Prop} {o:Oper} {fin:Option Nat} {plan:List (Nat×Bool)} {i:Nat}
theorem dS (k:aB P r N l fin Sh plan Q (upd ρ d undef) ds S) (hi:l[i]?=some o:=by rfl) (hw:wants l.toArray ρ o=false:=by rfl) (hS:∀w,S w→Sh w:=by first | exact fun _ h=>h | exact fun _ h=>St.pk h) (hif:some i≠fin:=by decide) (hd:o.dst=some d:=by rfl):aB P r N l fin Sh ((i,true)::plan) Q ρ ds S:=
  aB.skip hi k hS hif hw hd
end
abbrev agZ:=Zl.mk (us:=aR) ⟨_,Tryz.zeroValue42,rfl⟩
attribute [instance] agZ
theorem xZ {P:Program} {r:Option Nat} {ρ:Env} {w0:World} {M:Nat→Prop} {σ τ:List HI} {dst:Option Tmp} {ty:TypeId} {pos:String} {af:Array Edge} {g:Option (Nat×Bool)} {x y:Operand} {t tc:TypeId} {i b:Nat} {us:List Value} (hs:bZ us) (hx:evo ρ x=.pointer (some ⟨b,0,none⟩)) (hy:evo ρ y=.agg us.toArray:=by rfl) [hz:eT P t 55] [hi:Fi b σ i tc aR] [hσ:Se i σ (.cl b tc us) τ]:
    cX P r (St w0 M σ) ⟨dst,.store t x y,ty,pos,af,g⟩ ρ (X:=Unit) (fun _=>undef) (fun _=>St w0 M τ):=ct hz.h hx hy hi.h hs.len hσ.h hs.one hs.len
class aW (P:Program) (f:FuncId) (fn:outParam Func):Prop where h:P.funcs[f]?=some fn
class bd (fn:Func) (n:outParam Nat):Prop where h:fn.ntmps=n
class bM (fn:Func) (t:outParam Tmp):Prop where h:fn.results=#[.tmp t]
class AK (fn:Func) (t u:outParam Tmp):Prop where h:fn.results=#[.tmp t,.tmp u]
class mZ (fn:Func) (t:outParam Tmp) (ty:outParam TypeId):Prop where h:fn.results=#[.cell t ty]
class Fu (P:Program) (t:TypeId) (z:outParam Value) (sz bytes:outParam Nat):Prop where
  h:(P.info? t).map (fun i=>(i.zero,i.size,i.bytes))=some (some z,sz,bytes)
  s:z.cells.size=sz
  p:0<sz
class RQ (P:Program) (Q:XP) (fn:outParam Func) (R:outParam (Value→World→Prop)):Prop where h:∀ρ w,da P fn R .ret ρ [] w→Q .ret ρ [] w
instance {P:Program} {fn:Func} {R:Value→World→Prop}:RQ P (da P fn R) fn R:=⟨fun _ _ h=>h⟩
instance {P:Program} {K:Env→List Deferred→World→Prop} {Q:XP} {fn:Func} {R:Value→World→Prop} [q:RQ P Q fn R]:RQ P (kY K Q) fn R:=⟨fun ρ w h=>q.h ρ w h⟩
instance {P:Program} {i:Nat} {Q:XP} {fn:Func} {R:Value→World→Prop} [q:RQ P Q fn R]:RQ P (inB i Q) fn R:=⟨fun ρ w h=>q.h ρ w h⟩
section
variable {P:Program} {r:Option Nat} {N:Nat} {Q:XP} {ρ:Env} {S:World→Prop} {fn:Func} {R:Value→World→Prop} {t u:Tmp}
theorem aT [hq:RQ P Q fn R] [hr:bM fn t] (h:∀w,S w→R (ρ t) w):WP P r N .ret Q ρ [] S:=WP.cP hr.h (hq.h ρ) h
theorem rF [hq:RQ P Q fn R] [hr:AK fn t u] (h:∀w,S w→R (.tuple #[ρ t,ρ u]) w):WP P r N .ret Q ρ [] S:=WP.IM hr.h (hq.h ρ) h
theorem jf {w0:World} {M:Nat→Prop} {σ:List HI} {ty tc:TypeId} {b i k:Nat} {us:List Value} [hq:RQ P Q fn R] [hr:mZ fn t ty] [ha:fl P ty true] [hz:eT P ty k] (hx:ρ t=.pointer (some ⟨b,0,none⟩)) (h:∀w,St w0 M σ w→R (.agg us.toArray) w) (hk:us.length=k:=by rfl) [hi:Fi b σ i tc us]:WP P r N .ret Q ρ [] (St w0 M σ):=
  WP.Fp hr.h hx ha.h hz.h (fun w hw=>hw.aq hi.h 0 (by simp)) hk (hq.h ρ) h
theorem Ci {f:FuncId} {c:Code} {args:Array Value} {pre:List HI} {Fact:World→Prop} {X:Type} {v:X→Value} {facts:X→Prop} {post:X→List HI} [hf:aW P f fn] [hn:bd fn N]
    (h:∀w,Fact w→WP P none N c (da P fn (fun u w'=>∃x,u=v x∧facts x∧St w (ay pre) (post x) w')) (nT args.toList) [] (St w (ay pre) pre)) (hb:fn.body=some c:=by rfl) (ha:args.size≤N:=by simp):Ct P f args pre Fact v facts post:=Ct.intro hf.h hb hn.h ha h
end
section
variable {P:Program} {r:Option Nat} {ρ:Env} {w0:World} {M:Nat→Prop} {σ:List HI} {dst:Option Tmp} {ty:TypeId} {pos:String} {af:Array Edge} {g:Option (Nat×Bool)} {x y:Operand} {t te:TypeId}
theorem xN {σ':Nat→List HI} {sz n:Nat} {z:Value} {us:List Value} {parts:List (Nat×Operand)} [ht:eB P t (.slice te)] [hz:eT P te sz] [hv:jc P te z] (hu:(parts.flatMap fun p=>(evo ρ p.2).cells.toList)=us) (hi:parts.map (·.1)=List.range' 0 n:=by rfl) (hc':parts.map (fun p=>(evo ρ p.2).cells.size)=List.replicate n sz:=by rfl)
    (hn:n*sz≤16777216:=by decide) (h0:n*sz≠0:=by decide) [hσ:∀b,Ap σ [.row te sz (some ⟨b,0,none⟩) n n us] (σ' b)]:
    cX P r (St w0 M σ) ⟨dst,.buildSlice t n parts.toArray,ty,pos,af,g⟩ ρ (X:=Nat) (fun b=>.slice (some ⟨b,0,none⟩) n n) (fun b=>St w0 M (σ' b)):=cu ht.h hz.h hv.h hi hc' hu hn h0 fun b=>(hσ b).h
theorem L1 {l:List Value} {a:Int} (h:l=[.int .i64 a]):l=[.int .i64 a]:=h
theorem L2 {l:List Value} {a b:Int} (h:l=[.int .i64 a,.int .i64 b]):l=[.int .i64 a,.int .i64 b]:=h
theorem L5 {l:List Value} {a b c d e:Int} (h:l=[.int .i64 a,.int .i64 b,.int .i64 c,.int .i64 d,.int .i64 e]):l=[.int .i64 a,.int .i64 b,.int .i64 c,.int .i64 d,.int .i64 e]:=h
theorem LF {l:List Value} {a b c d e:Int} {A:Option Addr} {n m:Nat} (h:l=[.int .i64 a,.int .i64 b,.int .i64 c,.int .i64 d,.int .i64 e,.slice A n m]):l=[.int .i64 a,.int .i64 b,.int .i64 c,.int .i64 d,.int .i64 e,.slice A n m]:=h
theorem xP {n cap sz sz2 bytes m c2 c:Nat} {t2:TypeId} {A B:Option Addr} {xs news:List Value} {z:Value} {σ':Option Addr×Nat→List HI} (i j:Nat) [ht:eB P t (.slice te)] [hinfo:Fu P te z sz bytes] [hi:Ge i σ (.row te sz A n cap xs)] [hj:Ge j σ (.row t2 sz2 B m c2 news)]
    (hx:evo ρ x=.slice A n cap:=by rfl) (hy:evo ρ y=.slice B m c:=by rfl) (hl:news.length=m*sz:=by rfl) (h1:∀u∈news,u.oneCell'=true:=by simp[Value.oneCell']) (hm:n+m≤9223372036854775807:=by omega) (hby:(n+m)*bytes≤140737488355328:=by omega) [hσ:∀p:Option Addr×Nat,Se i σ (.row te sz p.1 (n+m) p.2 (xs++news)) (σ' p)]:
    cX P r (St w0 M σ) ⟨dst,.call ⟨.builtin .append,#[x,y],#[t,t]⟩,ty,pos,af,g⟩ ρ (X:=Option Addr×Nat) (fun p=>.slice p.1 (n+m) p.2) (fun p=>St w0 M (σ' p)):=
  cm ht.h hinfo.h hinfo.s hinfo.p hx hy hi.h (fun w hw=>hw.fk hj.h) hl h1 hm hby fun p=>(hσ p).h
end
theorem jI {a b:Value} {z:Int} (h:a=.int .i64 z:=by rfl) (h':Value.int .i64 z=b:=by rfl):a=b:=h.trans h'
theorem jB {a b:Value} {z:Bool} (h:a=.bool z:=by rfl) (h':Value.bool z=b:=by rfl):a=b:=h.trans h'
theorem jP {a b:Value} {z:Option Addr} (h:a=.pointer z:=by rfl) (h':Value.pointer z=b:=by rfl):a=b:=h.trans h'
theorem jS {a b:Value} {A:Option Addr} {n c:Nat} (h:a=.slice A n c:=by rfl) (h':Value.slice A n c=b:=by rfl):a=b:=h.trans h'
theorem sl {P:Program} {r:Option Nat} {N:Nat} {Q:XP} {ρ:Env} {ds:List Deferred} {c:Code} {w0:World} {M:Nat→Prop} {σ π:List HI} (l:List Nat) [e:Gs l σ π] (h:WP P r N c Q ρ ds (St w0 M π)) (hn:l.Nodup:=by decide):WP P r N c Q ρ ds (St w0 M σ):=
  WP.pre h fun _ hw=>e.h▸hw.sel l hn
abbrev T9:=bf.mk Tryz.call100
abbrev adF:=bf.mk Tryz.call101
abbrev ZD:=bf.mk Tryz.call102
abbrev Ya:=bf.mk Tryz.call103
abbrev abb:=bf.mk Tryz.call104
abbrev adY:=bf.mk Tryz.call105
abbrev aax:=bf.mk Tryz.call106
abbrev Zf:=bf.mk Tryz.call107
abbrev adA:=bf.mk Tryz.call108
abbrev ZC:=bf.mk Tryz.call109
abbrev acp:=bf.mk Tryz.call110
abbrev aa5:=bf.mk Tryz.call111
abbrev abX:=bf.mk Tryz.call112
abbrev Vf:=bf.mk Tryz.call113
abbrev Y9:=bf.mk Tryz.call114
abbrev ac6:=bf.mk Tryz.call115
abbrev aaY:=bf.mk Tryz.call116
abbrev Vi:=bf.mk Tryz.call117
abbrev Uv:=bf.mk Tryz.call118
abbrev Yh:=bf.mk Tryz.call119
abbrev U4:=bf.mk Tryz.call120
abbrev Xj:=bf.mk Tryz.call121
abbrev ab7:=bf.mk Tryz.call122
abbrev Wc:=bf.mk Tryz.call123
abbrev YS:=bf.mk Tryz.call124
abbrev acB:=bf.mk Tryz.call125
abbrev Vd:=bf.mk Tryz.call126
abbrev adH:=bf.mk Tryz.call127
abbrev Zn:=bf.mk Tryz.call128
abbrev abr:=bf.mk Tryz.call129
abbrev Vg:=bf.mk Tryz.call130
abbrev WC:=bf.mk Tryz.call133
abbrev Wk:=bf.mk Tryz.call134
abbrev adO:=bf.mk Tryz.call135
abbrev UB:=bf.mk Tryz.call136
abbrev Wt:=bf.mk Tryz.call137
abbrev ab5:=bf.mk Tryz.call138
abbrev XD:=bf.mk Tryz.call139
abbrev XJ:=bf.mk Tryz.call140
abbrev W9:=bf.mk Tryz.call141
abbrev T5:=bf.mk Tryz.call142
abbrev Vu:=bf.mk Tryz.call143
abbrev Wg:=bf.mk Tryz.call144
abbrev aar:=bf.mk Tryz.call145
abbrev X2:=bf.mk Tryz.call146
abbrev V0:=bf.mk Tryz.call147
abbrev ZJ:=bf.mk Tryz.call148
abbrev WI:=bf.mk Tryz.call149
abbrev aaD:=bf.mk Tryz.call150
abbrev ZX:=bf.mk Tryz.call151
abbrev YF:=bf.mk Tryz.call152
abbrev aan:=bf.mk Tryz.call153
abbrev X8:=bf.mk Tryz.call154
abbrev aaj:=bf.mk Tryz.call155
abbrev X6:=bf.mk Tryz.call156
abbrev aaa:=bf.mk Tryz.call157
abbrev We:=bf.mk Tryz.call158
abbrev Uz:=bf.mk Tryz.call159
abbrev ad0:=bf.mk Tryz.call160
abbrev XE:=bf.mk Tryz.call161
abbrev abh:=bf.mk Tryz.call162
abbrev aaZ:=bf.mk Tryz.call165
abbrev abz:=bf.mk Tryz.call167
abbrev VW:=bf.mk Tryz.call168
abbrev WS:=bf.mk Tryz.call169
abbrev ag4:=bf.mk Tryz.call17
abbrev YX:=bf.mk Tryz.call170
abbrev ZP:=bf.mk Tryz.call171
abbrev ZO:=bf.mk Tryz.call172
abbrev X4:=bf.mk Tryz.call173
abbrev U9:=bf.mk Tryz.call174
abbrev adp:=bf.mk Tryz.call175
abbrev aaA:=bf.mk Tryz.call176
abbrev ZR:=bf.mk Tryz.call177
abbrev abw:=bf.mk Tryz.call178
abbrev Ub:=bf.mk Tryz.call179
abbrev af7:=bf.mk Tryz.call18
abbrev XM:=bf.mk Tryz.call180
abbrev abf:=bf.mk Tryz.call181
abbrev Uj:=bf.mk Tryz.call182
abbrev Vt:=bf.mk Tryz.call183
abbrev Xh:=bf.mk Tryz.call184
abbrev adD:=bf.mk Tryz.call185
abbrev acW:=bf.mk Tryz.call186
abbrev afK:=bf.mk Tryz.call19
abbrev UP:=bf.mk Tryz.call198
abbrev WZ:=bf.mk Tryz.call199
abbrev af2:=bf.mk Tryz.call20
abbrev V1:=bf.mk Tryz.call200
abbrev W5:=bf.mk Tryz.call201
abbrev abT:=bf.mk Tryz.call202
abbrev VZ:=bf.mk Tryz.call203
abbrev Zu:=bf.mk Tryz.call204
abbrev WE:=bf.mk Tryz.call205
abbrev acH:=bf.mk Tryz.call206
abbrev UQ:=bf.mk Tryz.call207
abbrev adC:=bf.mk Tryz.call208
abbrev Y2:=bf.mk Tryz.call209
abbrev afT:=bf.mk Tryz.call21
abbrev UC:=bf.mk Tryz.call210
abbrev acL:=bf.mk Tryz.call211
abbrev VT:=bf.mk Tryz.call212
abbrev Vl:=bf.mk Tryz.call213
abbrev Xq:=bf.mk Tryz.call214
abbrev Vn:=bf.mk Tryz.call215
abbrev YD:=bf.mk Tryz.call216
abbrev Yc:=bf.mk Tryz.call217
abbrev afq:=bf.mk Tryz.call22
abbrev X0:=bf.mk Tryz.call227
abbrev Xv:=bf.mk Tryz.call228
abbrev aco:=bf.mk Tryz.call229
abbrev aap:=bf.mk Tryz.call230
abbrev ado:=bf.mk Tryz.call231
abbrev aav:=bf.mk Tryz.call232
abbrev adW:=bf.mk Tryz.call233
abbrev V6:=bf.mk Tryz.call234
abbrev acX:=bf.mk Tryz.call235
abbrev Wm:=bf.mk Tryz.call238
abbrev aat:=bf.mk Tryz.call239
abbrev afi:=bf.mk Tryz.call24
abbrev abP:=bf.mk Tryz.call240
abbrev acv:=bf.mk Tryz.call241
abbrev WW:=bf.mk Tryz.call242
abbrev aaC:=bf.mk Tryz.call243
abbrev acq:=bf.mk Tryz.call244
abbrev Xn:=bf.mk Tryz.call245
abbrev Yf:=bf.mk Tryz.call246
abbrev Yd:=bf.mk Tryz.call247
abbrev VM:=bf.mk Tryz.call248
abbrev aag:=bf.mk Tryz.call249
abbrev agF:=bf.mk Tryz.call25
abbrev YR:=bf.mk Tryz.call250
abbrev aaG:=bf.mk Tryz.call251
abbrev Wb:=bf.mk Tryz.call252
abbrev Wr:=bf.mk Tryz.call253
abbrev aay:=bf.mk Tryz.call254
abbrev aao:=bf.mk Tryz.call255
abbrev abk:=bf.mk Tryz.call256
abbrev ZB:=bf.mk Tryz.call257
abbrev Yn:=bf.mk Tryz.call258
abbrev af9:=bf.mk Tryz.call26
abbrev agT:=bf.mk Tryz.call27
abbrev agf:=bf.mk Tryz.call30
abbrev af6:=bf.mk Tryz.call31
abbrev aeK:=bf.mk Tryz.call32
abbrev afY:=bf.mk Tryz.call33
abbrev agS:=bf.mk Tryz.call34
abbrev ago:=bf.mk Tryz.call35
abbrev agC:=bf.mk Tryz.call36
abbrev ag1:=bf.mk Tryz.call37
abbrev afZ:=bf.mk Tryz.call38
abbrev agN:=bf.mk Tryz.call39
abbrev afw:=bf.mk Tryz.call40
abbrev afa:=bf.mk Tryz.call42
abbrev aeA:=bf.mk Tryz.call43
abbrev afn:=bf.mk Tryz.call44
abbrev agB:=bf.mk Tryz.call45
abbrev afG:=bf.mk Tryz.call46
abbrev ag5:=bf.mk Tryz.call47
abbrev aeE:=bf.mk Tryz.call48
abbrev aeI:=bf.mk Tryz.call49
abbrev agW:=bf.mk Tryz.call50
abbrev aeQ:=bf.mk Tryz.call51
abbrev agb:=bf.mk Tryz.call52
abbrev aep:=bf.mk Tryz.call53
abbrev ags:=bf.mk Tryz.call54
abbrev afC:=bf.mk Tryz.call55
abbrev agV:=bf.mk Tryz.call56
abbrev agu:=bf.mk Tryz.call57
abbrev agn:=bf.mk Tryz.call58
abbrev agR:=bf.mk Tryz.call59
abbrev ag3:=bf.mk Tryz.call60
abbrev afX:=bf.mk Tryz.call61
abbrev afs:=bf.mk Tryz.call62
abbrev aeG:=bf.mk Tryz.call63
abbrev ae5:=bf.mk Tryz.call64
abbrev afj:=bf.mk Tryz.call65
abbrev afk:=bf.mk Tryz.call66
abbrev aeL:=bf.mk Tryz.call67
abbrev aez:=bf.mk Tryz.call68
abbrev aeF:=bf.mk Tryz.call69
abbrev afv:=bf.mk Tryz.call70
abbrev agx:=bf.mk Tryz.call71
abbrev af5:=bf.mk Tryz.call72
abbrev afI:=bf.mk Tryz.call73
abbrev aeZ:=bf.mk Tryz.call74
abbrev afF:=bf.mk Tryz.call75
abbrev aga:=bf.mk Tryz.call76
abbrev af4:=bf.mk Tryz.call77
abbrev aeB:=bf.mk Tryz.call78
abbrev afH:=bf.mk Tryz.call79
abbrev ae9:=bf.mk Tryz.call80
abbrev aet:=bf.mk Tryz.call81
abbrev afd:=bf.mk Tryz.call82
abbrev afS:=bf.mk Tryz.call83
abbrev aeP:=bf.mk Tryz.call84
abbrev afV:=bf.mk Tryz.call85
abbrev aeM:=bf.mk Tryz.call86
abbrev afO:=bf.mk Tryz.call87
abbrev afQ:=bf.mk Tryz.call88
abbrev afe:=bf.mk Tryz.call89
abbrev afl:=bf.mk Tryz.call90
abbrev ae1:=bf.mk Tryz.call91
abbrev agw:=bf.mk Tryz.call92
abbrev agM:=bf.mk Tryz.call93
abbrev age:=bf.mk Tryz.call94
abbrev ae4:=bf.mk Tryz.call95
abbrev aer:=bf.mk Tryz.call96
abbrev aev:=bf.mk Tryz.call97
abbrev aeN:=bf.mk Tryz.call98
abbrev agK:=bf.mk Tryz.call99
abbrev ii0:=fl.mk Tryz.isAgg0
abbrev ZZ:=fl.mk Tryz.isAgg102
abbrev adT:=fl.mk Tryz.isAgg105
abbrev U7:=fl.mk Tryz.isAgg108
abbrev acs:=fl.mk Tryz.isAgg109
abbrev VP:=fl.mk Tryz.isAgg110
abbrev adl:=fl.mk Tryz.isAgg113
abbrev Zk:=fl.mk Tryz.isAgg115
abbrev abu:=fl.mk Tryz.isAgg124
abbrev abn:=fl.mk Tryz.isAgg136
abbrev UL:=fl.mk Tryz.isAgg141
abbrev YP:=fl.mk Tryz.isAgg143
abbrev XI:=fl.mk Tryz.isAgg153
abbrev adQ:=fl.mk Tryz.isAgg156
abbrev Ww:=fl.mk Tryz.isAgg173
abbrev WK:=fl.mk Tryz.isAgg186
abbrev abg:=fl.mk Tryz.isAgg189
abbrev adE:=fl.mk Tryz.isAgg191
abbrev adw:=fl.mk Tryz.isAgg223
abbrev ace:=fl.mk Tryz.isAgg224
abbrev XC:=fl.mk Tryz.isAgg229
abbrev afE:=fl.mk Tryz.isAgg24
abbrev adb:=fl.mk Tryz.isAgg243
abbrev Y0:=fl.mk Tryz.isAgg244
abbrev acb:=fl.mk Tryz.isAgg248
abbrev aaS:=fl.mk Tryz.isAgg251
abbrev WQ:=fl.mk Tryz.isAgg253
abbrev T7:=fl.mk Tryz.isAgg264
abbrev XG:=fl.mk Tryz.isAgg266
abbrev Zt:=fl.mk Tryz.isAgg268
abbrev aa7:=fl.mk Tryz.isAgg271
abbrev YJ:=fl.mk Tryz.isAgg278
abbrev agJ:=fl.mk Tryz.isAgg28
abbrev Ws:=fl.mk Tryz.isAgg282
abbrev afD:=fl.mk Tryz.isAgg29
abbrev adf:=fl.mk Tryz.isAgg292
abbrev adG:=fl.mk Tryz.isAgg296
abbrev UW:=fl.mk Tryz.isAgg298
abbrev ii3:=fl.mk Tryz.isAgg3
abbrev agr:=fl.mk Tryz.isAgg30
abbrev aci:=fl.mk Tryz.isAgg302
abbrev agd:=fl.mk Tryz.isAgg31
abbrev aej:=fl.mk Tryz.isAgg33
abbrev afR:=fl.mk Tryz.isAgg34
abbrev agv:=fl.mk Tryz.isAgg35
abbrev afg:=fl.mk Tryz.isAgg36
abbrev afr:=fl.mk Tryz.isAgg37
abbrev afc:=fl.mk Tryz.isAgg38
abbrev ae0:=fl.mk Tryz.isAgg39
abbrev ii4:=fl.mk Tryz.isAgg4
abbrev aem:=fl.mk Tryz.isAgg40
abbrev af0:=fl.mk Tryz.isAgg42
abbrev agP:=fl.mk Tryz.isAgg44
abbrev afu:=fl.mk Tryz.isAgg47
abbrev afW:=fl.mk Tryz.isAgg49
abbrev ii5:=fl.mk Tryz.isAgg5
abbrev aek:=fl.mk Tryz.isAgg52
abbrev af8:=fl.mk Tryz.isAgg59
abbrev aeu:=fl.mk Tryz.isAgg61
abbrev aeX:=fl.mk Tryz.isAgg63
abbrev ii9:=fl.mk Tryz.isAgg9
abbrev agX:=fl.mk Tryz.isAgg99
abbrev si0:=eT.mk Tryz.sizeOf0 (by decide)
abbrev aca:=eT.mk Tryz.sizeOf102 (by decide)
abbrev abc:=eT.mk Tryz.sizeOf105 (by decide)
abbrev Up:=eT.mk Tryz.sizeOf109 (by decide)
abbrev VH:=eT.mk Tryz.sizeOf110 (by decide)
abbrev UZ:=eT.mk Tryz.sizeOf113 (by decide)
abbrev adZ:=eT.mk Tryz.sizeOf115 (by decide)
abbrev abQ:=eT.mk Tryz.sizeOf124 (by decide)
abbrev Z7:=eT.mk Tryz.sizeOf133 (by decide)
abbrev Xb:=eT.mk Tryz.sizeOf135 (by decide)
abbrev ZT:=eT.mk Tryz.sizeOf136 (by decide)
abbrev U2:=eT.mk Tryz.sizeOf141 (by decide)
abbrev Xs:=eT.mk Tryz.sizeOf143 (by decide)
abbrev Zs:=eT.mk Tryz.sizeOf152 (by decide)
abbrev WY:=eT.mk Tryz.sizeOf153 (by decide)
abbrev ZY:=eT.mk Tryz.sizeOf156 (by decide)
abbrev aaU:=eT.mk Tryz.sizeOf173 (by decide)
abbrev adK:=eT.mk Tryz.sizeOf186 (by decide)
abbrev YT:=eT.mk Tryz.sizeOf189 (by decide)
abbrev YZ:=eT.mk Tryz.sizeOf191 (by decide)
abbrev VI:=eT.mk Tryz.sizeOf223 (by decide)
abbrev U5:=eT.mk Tryz.sizeOf224 (by decide)
abbrev Uw:=eT.mk Tryz.sizeOf229 (by decide)
abbrev agU:=eT.mk Tryz.sizeOf24 (by decide)
abbrev VS:=eT.mk Tryz.sizeOf243 (by decide)
abbrev aaP:=eT.mk Tryz.sizeOf244 (by decide)
abbrev Yz:=eT.mk Tryz.sizeOf248 (by decide)
abbrev acA:=eT.mk Tryz.sizeOf251 (by decide)
abbrev WG:=eT.mk Tryz.sizeOf253 (by decide)
abbrev Xm:=eT.mk Tryz.sizeOf264 (by decide)
abbrev XN:=eT.mk Tryz.sizeOf266 (by decide)
abbrev aal:=eT.mk Tryz.sizeOf268 (by decide)
abbrev abI:=eT.mk Tryz.sizeOf271 (by decide)
abbrev U8:=eT.mk Tryz.sizeOf278 (by decide)
abbrev ae7:=eT.mk Tryz.sizeOf28 (by decide)
abbrev aah:=eT.mk Tryz.sizeOf282 (by decide)
abbrev afm:=eT.mk Tryz.sizeOf29 (by decide)
abbrev Yu:=eT.mk Tryz.sizeOf292 (by decide)
abbrev Ur:=eT.mk Tryz.sizeOf298 (by decide)
abbrev si3:=eT.mk Tryz.sizeOf3 (by decide)
abbrev ag2:=eT.mk Tryz.sizeOf30 (by decide)
abbrev aaN:=eT.mk Tryz.sizeOf302 (by decide)
abbrev ag6:=eT.mk Tryz.sizeOf31 (by decide)
abbrev ae2:=eT.mk Tryz.sizeOf33 (by decide)
abbrev aeD:=eT.mk Tryz.sizeOf34 (by decide)
abbrev agL:=eT.mk Tryz.sizeOf35 (by decide)
abbrev ae8:=eT.mk Tryz.sizeOf36 (by decide)
abbrev aey:=eT.mk Tryz.sizeOf37 (by decide)
abbrev aff:=eT.mk Tryz.sizeOf38 (by decide)
abbrev aeo:=eT.mk Tryz.sizeOf39 (by decide)
abbrev si4:=eT.mk Tryz.sizeOf4 (by decide)
abbrev afU:=eT.mk Tryz.sizeOf40 (by decide)
abbrev agA:=eT.mk Tryz.sizeOf42 (by decide)
abbrev aeR:=eT.mk Tryz.sizeOf47 (by decide)
abbrev aft:=eT.mk Tryz.sizeOf49 (by decide)
abbrev si5:=eT.mk Tryz.sizeOf5 (by decide)
abbrev ag0:=eT.mk Tryz.sizeOf52 (by decide)
abbrev agG:=eT.mk Tryz.sizeOf59 (by decide)
abbrev aew:=eT.mk Tryz.sizeOf61 (by decide)
abbrev agh:=eT.mk Tryz.sizeOf63 (by decide)
abbrev si9:=eT.mk Tryz.sizeOf9 (by decide)
abbrev agQ:=eT.mk Tryz.sizeOf99 (by decide)
abbrev ui0:=eB.mk Tryz.underlying0
abbrev Wp:=eB.mk Tryz.underlying102
abbrev XU:=eB.mk Tryz.underlying104
abbrev acf:=eB.mk Tryz.underlying105
abbrev Vh:=eB.mk Tryz.underlying107
abbrev aaz:=eB.mk Tryz.underlying109
abbrev ZQ:=eB.mk Tryz.underlying110
abbrev Xk:=eB.mk Tryz.underlying112
abbrev VQ:=eB.mk Tryz.underlying113
abbrev ab0:=eB.mk Tryz.underlying115
abbrev Yy:=eB.mk Tryz.underlying122
abbrev acr:=eB.mk Tryz.underlying124
abbrev aba:=eB.mk Tryz.underlying128
abbrev ads:=eB.mk Tryz.underlying133
abbrev VG:=eB.mk Tryz.underlying135
abbrev Xt:=eB.mk Tryz.underlying136
abbrev Yi:=eB.mk Tryz.underlying141
abbrev UK:=eB.mk Tryz.underlying143
abbrev Vc:=eB.mk Tryz.underlying152
abbrev Zc:=eB.mk Tryz.underlying153
abbrev ac7:=eB.mk Tryz.underlying155
abbrev YG:=eB.mk Tryz.underlying156
abbrev Y3:=eB.mk Tryz.underlying173
abbrev YM:=eB.mk Tryz.underlying184
abbrev aa8:=eB.mk Tryz.underlying186
abbrev Vj:=eB.mk Tryz.underlying189
abbrev abW:=eB.mk Tryz.underlying191
abbrev W8:=eB.mk Tryz.underlying202
abbrev XQ:=eB.mk Tryz.underlying204
abbrev aai:=eB.mk Tryz.underlying210
abbrev afP:=eB.mk Tryz.underlying22
abbrev Vm:=eB.mk Tryz.underlying223
abbrev aaX:=eB.mk Tryz.underlying224
abbrev UE:=eB.mk Tryz.underlying229
abbrev agO:=eB.mk Tryz.underlying24
abbrev Xw:=eB.mk Tryz.underlying243
abbrev XZ:=eB.mk Tryz.underlying244
abbrev Ve:=eB.mk Tryz.underlying248
abbrev abv:=eB.mk Tryz.underlying251
abbrev acM:=eB.mk Tryz.underlying253
abbrev abS:=eB.mk Tryz.underlying261
abbrev Ue:=eB.mk Tryz.underlying264
abbrev YV:=eB.mk Tryz.underlying266
abbrev Xu:=eB.mk Tryz.underlying268
abbrev Zv:=eB.mk Tryz.underlying275
abbrev Z6:=eB.mk Tryz.underlying278
abbrev ae6:=eB.mk Tryz.underlying28
abbrev ac2:=eB.mk Tryz.underlying282
abbrev Yt:=eB.mk Tryz.underlying288
abbrev Um:=eB.mk Tryz.underlying292
abbrev Yl:=eB.mk Tryz.underlying298
abbrev ui3:=eB.mk Tryz.underlying3
abbrev acR:=eB.mk Tryz.underlying300
abbrev VC:=eB.mk Tryz.underlying302
abbrev Uo:=eB.mk Tryz.underlying304
abbrev afp:=eB.mk Tryz.underlying33
abbrev agI:=eB.mk Tryz.underlying34
abbrev aeC:=eB.mk Tryz.underlying35
abbrev ui4:=eB.mk Tryz.underlying4
abbrev afz:=eB.mk Tryz.underlying40
abbrev agY:=eB.mk Tryz.underlying42
abbrev afb:=eB.mk Tryz.underlying47
abbrev agH:=eB.mk Tryz.underlying49
abbrev ui5:=eB.mk Tryz.underlying5
abbrev aeH:=eB.mk Tryz.underlying52
abbrev aen:=eB.mk Tryz.underlying59
abbrev agq:=eB.mk Tryz.underlying61
abbrev aeS:=eB.mk Tryz.underlying63
abbrev agz:=eB.mk Tryz.underlying76
abbrev afB:=eB.mk Tryz.underlying77
abbrev ui9:=eB.mk Tryz.underlying9
abbrev aeq:=eB.mk Tryz.underlying99
abbrev zi0:=jc.mk Tryz.zeroValue0
abbrev T6:=jc.mk Tryz.zeroValue102
abbrev V4:=jc.mk Tryz.zeroValue104
abbrev UM:=jc.mk Tryz.zeroValue107
abbrev Xg:=jc.mk Tryz.zeroValue109
abbrev Zb:=jc.mk Tryz.zeroValue112
abbrev Zm:=jc.mk Tryz.zeroValue115
abbrev ZL:=jc.mk Tryz.zeroValue124
abbrev aaI:=jc.mk Tryz.zeroValue128
abbrev aac:=jc.mk Tryz.zeroValue135
abbrev V8:=jc.mk Tryz.zeroValue136
abbrev Zr:=jc.mk Tryz.zeroValue141
abbrev ac0:=jc.mk Tryz.zeroValue152
abbrev XW:=jc.mk Tryz.zeroValue155
abbrev abY:=jc.mk Tryz.zeroValue156
abbrev XV:=jc.mk Tryz.zeroValue173
abbrev Xz:=jc.mk Tryz.zeroValue186
abbrev adM:=jc.mk Tryz.zeroValue191
abbrev XK:=jc.mk Tryz.zeroValue209
abbrev T4:=jc.mk Tryz.zeroValue223
abbrev Ze:=jc.mk Tryz.zeroValue224
abbrev Z1:=jc.mk Tryz.zeroValue229
abbrev adS:=jc.mk Tryz.zeroValue243
abbrev aa4:=jc.mk Tryz.zeroValue244
abbrev ZA:=jc.mk Tryz.zeroValue248
abbrev acN:=jc.mk Tryz.zeroValue251
abbrev abl:=jc.mk Tryz.zeroValue253
abbrev Xy:=jc.mk Tryz.zeroValue264
abbrev Vr:=jc.mk Tryz.zeroValue266
abbrev adX:=jc.mk Tryz.zeroValue268
abbrev VD:=jc.mk Tryz.zeroValue271
abbrev Vv:=jc.mk Tryz.zeroValue275
abbrev XY:=jc.mk Tryz.zeroValue278
abbrev ZN:=jc.mk Tryz.zeroValue282
abbrev ZW:=jc.mk Tryz.zeroValue292
abbrev zi3:=jc.mk Tryz.zeroValue3
abbrev Ua:=jc.mk Tryz.zeroValue300
abbrev adh:=jc.mk Tryz.zeroValue302
abbrev agt:=jc.mk Tryz.zeroValue33
abbrev agE:=jc.mk Tryz.zeroValue35
abbrev zi4:=jc.mk Tryz.zeroValue4
abbrev aeJ:=jc.mk Tryz.zeroValue40
abbrev aeT:=jc.mk Tryz.zeroValue42
abbrev af3:=jc.mk Tryz.zeroValue49
abbrev zi5:=jc.mk Tryz.zeroValue5
abbrev afJ:=jc.mk Tryz.zeroValue52
abbrev agj:=jc.mk Tryz.zeroValue55
abbrev aeU:=jc.mk Tryz.zeroValue63
abbrev zi9:=jc.mk Tryz.zeroValue9
abbrev acY:=Zl.mk (us:=[_,_]) ⟨_,Tryz.zeroValue109,rfl⟩
abbrev acT:=Zl.mk (us:=[_,_,_,_,_,_]) ⟨_,Tryz.zeroValue115,rfl⟩
abbrev UO:=Zl.mk (us:=[_]) ⟨_,Tryz.zeroValue124,rfl⟩
abbrev ZK:=Zl.mk (us:=[_,_]) ⟨_,Tryz.zeroValue141,rfl⟩
abbrev aa3:=Zl.mk (us:=[_,_,_,_,_]) ⟨_,Tryz.zeroValue173,rfl⟩
abbrev acS:=Zl.mk (us:=[_,_,_]) ⟨_,Tryz.zeroValue186,rfl⟩
abbrev abM:=Zl.mk (us:=[_,_]) ⟨_,Tryz.zeroValue191,rfl⟩
abbrev ZG:=Zl.mk (us:=[_,_,_,_,_,_,_,_]) ⟨_,Tryz.zeroValue224,rfl⟩
abbrev Zp:=Zl.mk (us:=[_,_,_,_,_]) ⟨_,Tryz.zeroValue264,rfl⟩
abbrev UT:=Zl.mk (us:=[_]) ⟨_,Tryz.zeroValue268,rfl⟩
abbrev WB:=Zl.mk (us:=[_]) ⟨_,Tryz.zeroValue271,rfl⟩
abbrev zl3:=Zl.mk (us:=[_]) ⟨_,Tryz.zeroValue3,rfl⟩
abbrev YY:=Zl.mk (us:=[_,_,_,_,_,_,_]) ⟨_,Tryz.zeroValue302,rfl⟩
abbrev afM:=Zl.mk (us:=[_,_]) ⟨_,Tryz.zeroValue33,rfl⟩
abbrev agl:=Zl.mk (us:=[_,_,_,_]) ⟨_,Tryz.zeroValue35,rfl⟩
abbrev aeO:=Zl.mk (us:=[_,_]) ⟨_,Tryz.zeroValue40,rfl⟩
abbrev agi:=Zl.mk (us:=[_]) ⟨_,Tryz.zeroValue49,rfl⟩
abbrev ae3:=Zl.mk (us:=[_,_,_,_]) ⟨_,Tryz.zeroValue52,rfl⟩
abbrev afA:=Zl.mk (us:=[_,_,_,_,_,_,_,_]) ⟨_,Tryz.zeroValue63,rfl⟩
abbrev ac1:=aW.mk Tryz.func11
abbrev VU:=bd.mk Tryz.ntmps11
abbrev X3:=aW.mk Tryz.func12
abbrev UF:=bd.mk Tryz.ntmps12
abbrev Uh:=aW.mk Tryz.func13
abbrev aaR:=bd.mk Tryz.ntmps13
abbrev Zh:=aW.mk Tryz.func14
abbrev acu:=bd.mk Tryz.ntmps14
abbrev aaO:=aW.mk Tryz.func15
abbrev adU:=bd.mk Tryz.ntmps15
abbrev Zj:=aW.mk Tryz.func17
abbrev abE:=bd.mk Tryz.ntmps17
abbrev Vo:=aW.mk Tryz.func18
abbrev Xc:=bd.mk Tryz.ntmps18
abbrev Uc:=aW.mk Tryz.func19
abbrev Wu:=bd.mk Tryz.ntmps19
abbrev Vk:=aW.mk Tryz.func20
abbrev aas:=bd.mk Tryz.ntmps20
abbrev Zd:=aW.mk Tryz.func21
abbrev abJ:=bd.mk Tryz.ntmps21
abbrev Vw:=aW.mk Tryz.func22
abbrev Yg:=bd.mk Tryz.ntmps22
abbrev abL:=aW.mk Tryz.func24
abbrev acP:=bd.mk Tryz.ntmps24
abbrev Y5:=aW.mk Tryz.func25
abbrev XA:=bd.mk Tryz.ntmps25
abbrev Ut:=aW.mk Tryz.func26
abbrev YN:=bd.mk Tryz.ntmps26
abbrev abO:=aW.mk Tryz.func27
abbrev UJ:=bd.mk Tryz.ntmps27
abbrev Xl:=aW.mk Tryz.func30
abbrev abq:=bd.mk Tryz.ntmps30
abbrev YI:=aW.mk Tryz.func31
abbrev U6:=bd.mk Tryz.ntmps31
abbrev adr:=aW.mk Tryz.func32
abbrev YQ:=bd.mk Tryz.ntmps32
abbrev Un:=aW.mk Tryz.func33
abbrev ac3:=bd.mk Tryz.ntmps33
abbrev UN:=aW.mk Tryz.func34
abbrev Wq:=bd.mk Tryz.ntmps34
abbrev Ug:=aW.mk Tryz.func35
abbrev acF:=bd.mk Tryz.ntmps35
abbrev Uy:=aW.mk Tryz.func36
abbrev UR:=bd.mk Tryz.ntmps36
abbrev ady:=aW.mk Tryz.func37
abbrev Ye:=bd.mk Tryz.ntmps37
abbrev Yj:=aW.mk Tryz.func38
abbrev acE:=bd.mk Tryz.ntmps38
abbrev adB:=aW.mk Tryz.func39
abbrev aaJ:=bd.mk Tryz.ntmps39
abbrev abo:=aW.mk Tryz.func40
abbrev ab1:=bd.mk Tryz.ntmps40
abbrev XH:=aW.mk Tryz.func41
abbrev adz:=bd.mk Tryz.ntmps41
abbrev Ym:=aW.mk Tryz.func42
abbrev YU:=bd.mk Tryz.ntmps42
abbrev Wz:=aW.mk Tryz.func43
abbrev X5:=bd.mk Tryz.ntmps43
abbrev adx:=aW.mk Tryz.func44
abbrev Wn:=bd.mk Tryz.ntmps44
abbrev Z0:=aW.mk Tryz.func45
abbrev Xo:=bd.mk Tryz.ntmps45
abbrev Zg:=aW.mk Tryz.func46
abbrev adj:=bd.mk Tryz.ntmps46
abbrev adI:=aW.mk Tryz.func47
abbrev acw:=bd.mk Tryz.ntmps47
abbrev aaq:=aW.mk Tryz.func48
abbrev VY:=bd.mk Tryz.ntmps48
abbrev Z9:=aW.mk Tryz.func49
abbrev Va:=bd.mk Tryz.ntmps49
abbrev ab3:=aW.mk Tryz.func50
abbrev T8:=bd.mk Tryz.ntmps50
abbrev XB:=aW.mk Tryz.func51
abbrev aaB:=bd.mk Tryz.ntmps51
abbrev W7:=aW.mk Tryz.func52
abbrev Z8:=bd.mk Tryz.ntmps52
abbrev acx:=aW.mk Tryz.func53
abbrev abd:=bd.mk Tryz.ntmps53
abbrev acG:=aW.mk Tryz.func54
abbrev WU:=bd.mk Tryz.ntmps54
abbrev abV:=aW.mk Tryz.func55
abbrev Xd:=bd.mk Tryz.ntmps55
abbrev W6:=aW.mk Tryz.func56
abbrev XR:=bd.mk Tryz.ntmps56
abbrev Wl:=aW.mk Tryz.func57
abbrev U3:=bd.mk Tryz.ntmps57
abbrev WX:=aW.mk Tryz.func58
abbrev acJ:=bd.mk Tryz.ntmps58
abbrev Zq:=aW.mk Tryz.func59
abbrev Xr:=bd.mk Tryz.ntmps59
abbrev XX:=aW.mk Tryz.func60
abbrev WL:=bd.mk Tryz.ntmps60
abbrev Wv:=aW.mk Tryz.func61
abbrev abA:=bd.mk Tryz.ntmps61
abbrev ZF:=aW.mk Tryz.func62
abbrev WO:=bd.mk Tryz.ntmps62
abbrev Xi:=aW.mk Tryz.func63
abbrev Z5:=bd.mk Tryz.ntmps63
abbrev WV:=aW.mk Tryz.func64
abbrev Uq:=bd.mk Tryz.ntmps64
abbrev Yb:=aW.mk Tryz.func65
abbrev acC:=bd.mk Tryz.ntmps65
abbrev adV:=aW.mk Tryz.func66
abbrev Uu:=bd.mk Tryz.ntmps66
abbrev acg:=aW.mk Tryz.func67
abbrev V2:=bd.mk Tryz.ntmps67
abbrev abG:=aW.mk Tryz.func68
abbrev abj:=bd.mk Tryz.ntmps68
abbrev Y4:=aW.mk Tryz.func69
abbrev Wd:=bd.mk Tryz.ntmps69
abbrev VE:=aW.mk Tryz.func70
abbrev aaW:=bd.mk Tryz.ntmps70
abbrev Zy:=aW.mk Tryz.func71
abbrev aaw:=bd.mk Tryz.ntmps71
abbrev ZS:=aW.mk Tryz.func72
abbrev abm:=bd.mk Tryz.ntmps72
abbrev YC:=aW.mk Tryz.func73
abbrev VX:=bd.mk Tryz.ntmps73
abbrev abe:=aW.mk Tryz.func74
abbrev acd:=bd.mk Tryz.ntmps74
abbrev Zw:=aW.mk Tryz.func75
abbrev Xa:=bd.mk Tryz.ntmps75
abbrev aa9:=aW.mk Tryz.func76
abbrev abC:=bd.mk Tryz.ntmps76
abbrev Xe:=aW.mk Tryz.func77
abbrev WN:=bd.mk Tryz.ntmps77
abbrev ZM:=aW.mk Tryz.func78
abbrev aab:=bd.mk Tryz.ntmps78
abbrev Ul:=aW.mk Tryz.func79
abbrev Y7:=bd.mk Tryz.ntmps79
abbrev adn:=aW.mk Tryz.func80
abbrev VK:=bd.mk Tryz.ntmps80
abbrev acV:=aW.mk Tryz.func81
abbrev ab8:=bd.mk Tryz.ntmps81
abbrev Ux:=aW.mk Tryz.func82
abbrev adq:=bd.mk Tryz.ntmps82
abbrev adR:=aW.mk Tryz.func83
abbrev Us:=bd.mk Tryz.ntmps83
abbrev ZH:=aW.mk Tryz.func84
abbrev Xf:=bd.mk Tryz.ntmps84
abbrev adL:=aW.mk Tryz.func85
abbrev Wx:=bd.mk Tryz.ntmps85
abbrev acI:=aW.mk Tryz.func86
abbrev V5:=bd.mk Tryz.ntmps86
abbrev Za:=aW.mk Tryz.func87
abbrev VJ:=bd.mk Tryz.ntmps87
abbrev UY:=aW.mk Tryz.func88
abbrev Y8:=bd.mk Tryz.ntmps88
abbrev aaM:=aW.mk Tryz.func89
abbrev abZ:=bd.mk Tryz.ntmps89
abbrev acQ:=aW.mk Tryz.func90
abbrev Wh:=bd.mk Tryz.ntmps90
abbrev VA:=aW.mk Tryz.func91
abbrev Vb:=bd.mk Tryz.ntmps91
abbrev abp:=aW.mk Tryz.func92
abbrev acU:=bd.mk Tryz.ntmps92
abbrev aaQ:=aW.mk Tryz.func93
abbrev Vs:=bd.mk Tryz.ntmps93
abbrev ac5:=aW.mk Tryz.func94
abbrev acy:=bd.mk Tryz.ntmps94
abbrev aaK:=aW.mk Tryz.func95
abbrev Zi:=bd.mk Tryz.ntmps95
abbrev Zz:=aW.mk Tryz.func96
abbrev VV:=bd.mk Tryz.ntmps96
abbrev abK:=aW.mk Tryz.func97
abbrev adN:=bd.mk Tryz.ntmps97
abbrev Uf:=aW.mk Tryz.func98
abbrev acj:=bd.mk Tryz.ntmps98
abbrev WD:=aW.mk Tryz.func99
abbrev adu:=bd.mk Tryz.ntmps99
abbrev Sl:=aW.mk Tryz.func100
abbrev OS:=bd.mk Tryz.ntmps100
abbrev NC:=aW.mk Tryz.func101
abbrev Tr:=bd.mk Tryz.ntmps101
abbrev Lk:=aW.mk Tryz.func102
abbrev Mh:=bd.mk Tryz.ntmps102
abbrev Tl:=aW.mk Tryz.func103
abbrev Rt:=bd.mk Tryz.ntmps103
abbrev SC:=aW.mk Tryz.func104
abbrev Rl:=bd.mk Tryz.ntmps104
abbrev PK:=aW.mk Tryz.func105
abbrev Rs:=bd.mk Tryz.ntmps105
abbrev P8:=aW.mk Tryz.func106
abbrev QB:=bd.mk Tryz.ntmps106
abbrev PD:=aW.mk Tryz.func107
abbrev QX:=bd.mk Tryz.ntmps107
abbrev N7:=aW.mk Tryz.func108
abbrev Q5:=bd.mk Tryz.ntmps108
abbrev MI:=aW.mk Tryz.func109
abbrev LP:=bd.mk Tryz.ntmps109
abbrev MM:=aW.mk Tryz.func110
abbrev Sc:=bd.mk Tryz.ntmps110
abbrev OP:=aW.mk Tryz.func111
abbrev TG:=bd.mk Tryz.ntmps111
abbrev O3:=aW.mk Tryz.func112
abbrev Oj:=bd.mk Tryz.ntmps112
abbrev RG:=aW.mk Tryz.func113
abbrev Pp:=bd.mk Tryz.ntmps113
abbrev Mj:=aW.mk Tryz.func114
abbrev QQ:=bd.mk Tryz.ntmps114
abbrev Rm:=aW.mk Tryz.func115
abbrev P6:=bd.mk Tryz.ntmps115
abbrev MO:=aW.mk Tryz.func116
abbrev TK:=bd.mk Tryz.ntmps116
abbrev Qg:=aW.mk Tryz.func117
abbrev PI:=bd.mk Tryz.ntmps117
abbrev Nv:=aW.mk Tryz.func118
abbrev Ox:=bd.mk Tryz.ntmps118
abbrev OR:=aW.mk Tryz.func119
abbrev Sa:=bd.mk Tryz.ntmps119
abbrev NH:=aW.mk Tryz.func120
abbrev R4:=bd.mk Tryz.ntmps120
abbrev Nd:=aW.mk Tryz.func121
abbrev Pc:=bd.mk Tryz.ntmps121
abbrev TB:=aW.mk Tryz.func122
abbrev QY:=bd.mk Tryz.ntmps122
abbrev Lh:=aW.mk Tryz.func123
abbrev RJ:=bd.mk Tryz.ntmps123
abbrev R1:=aW.mk Tryz.func124
abbrev P4:=bd.mk Tryz.ntmps124
abbrev NZ:=aW.mk Tryz.func125
abbrev SV:=bd.mk Tryz.ntmps125
abbrev Ra:=aW.mk Tryz.func126
abbrev Tj:=bd.mk Tryz.ntmps126
abbrev RD:=aW.mk Tryz.func127
abbrev Mt:=bd.mk Tryz.ntmps127
abbrev PA:=aW.mk Tryz.func128
abbrev Pe:=aW.mk Tryz.func129
abbrev Re:=bd.mk Tryz.ntmps129
abbrev Q7:=aW.mk Tryz.func130
abbrev LD:=bd.mk Tryz.ntmps130
abbrev LO:=aW.mk Tryz.func131
abbrev ON:=aW.mk Tryz.func133
abbrev QF:=bd.mk Tryz.ntmps133
abbrev Qd:=aW.mk Tryz.func134
abbrev Lg:=bd.mk Tryz.ntmps134
abbrev Oo:=aW.mk Tryz.func135
abbrev ML:=bd.mk Tryz.ntmps135
abbrev M9:=aW.mk Tryz.func136
abbrev M8:=bd.mk Tryz.ntmps136
abbrev Nu:=aW.mk Tryz.func137
abbrev Qi:=bd.mk Tryz.ntmps137
abbrev PL:=aW.mk Tryz.func138
abbrev MD:=bd.mk Tryz.ntmps138
abbrev LG:=aW.mk Tryz.func139
abbrev RA:=bd.mk Tryz.ntmps139
abbrev Te:=aW.mk Tryz.func140
abbrev OX:=bd.mk Tryz.ntmps140
abbrev MV:=aW.mk Tryz.func141
abbrev TN:=bd.mk Tryz.ntmps141
abbrev SR:=aW.mk Tryz.func142
abbrev R6:=bd.mk Tryz.ntmps142
abbrev Tu:=aW.mk Tryz.func143
abbrev MH:=bd.mk Tryz.ntmps143
abbrev Qs:=aW.mk Tryz.func144
abbrev Q0:=bd.mk Tryz.ntmps144
abbrev Mv:=aW.mk Tryz.func145
abbrev Oa:=bd.mk Tryz.ntmps145
abbrev OJ:=aW.mk Tryz.func146
abbrev OA:=bd.mk Tryz.ntmps146
abbrev LV:=aW.mk Tryz.func147
abbrev Tf:=bd.mk Tryz.ntmps147
abbrev OE:=aW.mk Tryz.func148
abbrev NX:=bd.mk Tryz.ntmps148
abbrev SZ:=aW.mk Tryz.func149
abbrev TL:=bd.mk Tryz.ntmps149
abbrev OD:=aW.mk Tryz.func150
abbrev Nq:=bd.mk Tryz.ntmps150
abbrev NF:=aW.mk Tryz.func151
abbrev Qw:=bd.mk Tryz.ntmps151
abbrev Nz:=aW.mk Tryz.func152
abbrev Lu:=bd.mk Tryz.ntmps152
abbrev Ru:=aW.mk Tryz.func153
abbrev Lf:=bd.mk Tryz.ntmps153
abbrev Ts:=aW.mk Tryz.func154
abbrev M7:=bd.mk Tryz.ntmps154
abbrev PO:=aW.mk Tryz.func155
abbrev N2:=bd.mk Tryz.ntmps155
abbrev RL:=aW.mk Tryz.func156
abbrev Qy:=bd.mk Tryz.ntmps156
abbrev Ly:=aW.mk Tryz.func157
abbrev P9:=bd.mk Tryz.ntmps157
abbrev Mg:=aW.mk Tryz.func158
abbrev Tx:=bd.mk Tryz.ntmps158
abbrev SY:=aW.mk Tryz.func159
abbrev Qe:=bd.mk Tryz.ntmps159
abbrev Lq:=aW.mk Tryz.func160
abbrev Ny:=bd.mk Tryz.ntmps160
abbrev OY:=aW.mk Tryz.func161
abbrev Pr:=bd.mk Tryz.ntmps161
abbrev Pq:=aW.mk Tryz.func162
abbrev NT:=bd.mk Tryz.ntmps162
abbrev Nk:=aW.mk Tryz.func163
abbrev Ld:=aW.mk Tryz.func164
abbrev Me:=aW.mk Tryz.func165
abbrev NL:=bd.mk Tryz.ntmps165
abbrev Py:=aW.mk Tryz.func167
abbrev RO:=bd.mk Tryz.ntmps167
abbrev RK:=aW.mk Tryz.func168
abbrev Sq:=bd.mk Tryz.ntmps168
abbrev LC:=aW.mk Tryz.func169
abbrev LH:=bd.mk Tryz.ntmps169
abbrev Tc:=aW.mk Tryz.func170
abbrev L3:=bd.mk Tryz.ntmps170
abbrev Tv:=aW.mk Tryz.func171
abbrev QU:=bd.mk Tryz.ntmps171
abbrev P1:=aW.mk Tryz.func172
abbrev Mb:=bd.mk Tryz.ntmps172
abbrev OU:=aW.mk Tryz.func173
abbrev Ri:=bd.mk Tryz.ntmps173
abbrev P7:=aW.mk Tryz.func174
abbrev Pv:=bd.mk Tryz.ntmps174
abbrev Tp:=aW.mk Tryz.func175
abbrev MG:=bd.mk Tryz.ntmps175
abbrev O4:=aW.mk Tryz.func176
abbrev Q9:=bd.mk Tryz.ntmps176
abbrev Mo:=aW.mk Tryz.func177
abbrev Qm:=bd.mk Tryz.ntmps177
abbrev NJ:=aW.mk Tryz.func178
abbrev OQ:=bd.mk Tryz.ntmps178
abbrev Nh:=aW.mk Tryz.func179
abbrev Rx:=bd.mk Tryz.ntmps179
abbrev OT:=aW.mk Tryz.func180
abbrev QA:=bd.mk Tryz.ntmps180
abbrev Nw:=aW.mk Tryz.func181
abbrev P5:=bd.mk Tryz.ntmps181
abbrev QZ:=aW.mk Tryz.func182
abbrev Mq:=bd.mk Tryz.ntmps182
abbrev Ql:=aW.mk Tryz.func183
abbrev Ol:=bd.mk Tryz.ntmps183
abbrev SX:=aW.mk Tryz.func184
abbrev Qt:=bd.mk Tryz.ntmps184
abbrev LU:=aW.mk Tryz.func185
abbrev Rq:=bd.mk Tryz.ntmps185
abbrev NP:=aW.mk Tryz.func186
abbrev RN:=bd.mk Tryz.ntmps186
abbrev MZ:=aW.mk Tryz.func187
abbrev QL:=aW.mk Tryz.func188
abbrev Lb:=aW.mk Tryz.func189
abbrev MA:=aW.mk Tryz.func190
abbrev Oh:=aW.mk Tryz.func191
abbrev NY:=aW.mk Tryz.func192
abbrev Lc:=aW.mk Tryz.func193
abbrev Lm:=aW.mk Tryz.func194
abbrev S1:=aW.mk Tryz.func195
abbrev NV:=aW.mk Tryz.func196
abbrev O5:=aW.mk Tryz.func198
abbrev Po:=bd.mk Tryz.ntmps198
abbrev M5:=aW.mk Tryz.func199
abbrev Qh:=bd.mk Tryz.ntmps199
abbrev OH:=aW.mk Tryz.func200
abbrev P0:=bd.mk Tryz.ntmps200
abbrev RP:=aW.mk Tryz.func201
abbrev Th:=bd.mk Tryz.ntmps201
abbrev OK:=aW.mk Tryz.func202
abbrev PX:=bd.mk Tryz.ntmps202
abbrev Lj:=aW.mk Tryz.func203
abbrev Oq:=bd.mk Tryz.ntmps203
abbrev Sz:=aW.mk Tryz.func204
abbrev Mr:=bd.mk Tryz.ntmps204
abbrev QS:=aW.mk Tryz.func205
abbrev M3:=bd.mk Tryz.ntmps205
abbrev L4:=aW.mk Tryz.func206
abbrev SQ:=bd.mk Tryz.ntmps206
abbrev O2:=aW.mk Tryz.func207
abbrev QG:=bd.mk Tryz.ntmps207
abbrev On:=aW.mk Tryz.func208
abbrev Mu:=bd.mk Tryz.ntmps208
abbrev OF:=aW.mk Tryz.func209
abbrev PR:=bd.mk Tryz.ntmps209
abbrev MQ:=aW.mk Tryz.func210
abbrev QR:=bd.mk Tryz.ntmps210
abbrev Td:=aW.mk Tryz.func211
abbrev Ta:=bd.mk Tryz.ntmps211
abbrev MS:=aW.mk Tryz.func212
abbrev Mx:=bd.mk Tryz.ntmps212
abbrev Qn:=aW.mk Tryz.func213
abbrev NK:=bd.mk Tryz.ntmps213
abbrev Pz:=aW.mk Tryz.func214
abbrev QO:=bd.mk Tryz.ntmps214
abbrev PC:=aW.mk Tryz.func215
abbrev Tm:=bd.mk Tryz.ntmps215
abbrev PG:=aW.mk Tryz.func216
abbrev Qv:=bd.mk Tryz.ntmps216
abbrev Ls:=aW.mk Tryz.func217
abbrev QT:=bd.mk Tryz.ntmps217
abbrev Ob:=aW.mk Tryz.func218
abbrev LZ:=aW.mk Tryz.func219
abbrev Ms:=aW.mk Tryz.func220
abbrev RI:=aW.mk Tryz.func222
abbrev Od:=aW.mk Tryz.func223
abbrev RV:=aW.mk Tryz.func224
abbrev OL:=aW.mk Tryz.func225
abbrev MY:=aW.mk Tryz.func226
abbrev Lp:=aW.mk Tryz.func227
abbrev PH:=bd.mk Tryz.ntmps227
abbrev Sk:=aW.mk Tryz.func228
abbrev Rz:=bd.mk Tryz.ntmps228
abbrev Ni:=aW.mk Tryz.func229
abbrev Lw:=bd.mk Tryz.ntmps229
abbrev Tb:=aW.mk Tryz.func230
abbrev P2:=bd.mk Tryz.ntmps230
abbrev Nr:=aW.mk Tryz.func231
abbrev QC:=bd.mk Tryz.ntmps231
abbrev Tw:=aW.mk Tryz.func232
abbrev R7:=bd.mk Tryz.ntmps232
abbrev R8:=aW.mk Tryz.func233
abbrev MU:=bd.mk Tryz.ntmps233
abbrev NA:=aW.mk Tryz.func234
abbrev Ou:=bd.mk Tryz.ntmps234
abbrev S9:=aW.mk Tryz.func235
abbrev O6:=bd.mk Tryz.ntmps235
abbrev S6:=aW.mk Tryz.func237
abbrev NG:=aW.mk Tryz.func238
abbrev LN:=bd.mk Tryz.ntmps238
abbrev NI:=aW.mk Tryz.func239
abbrev Pm:=bd.mk Tryz.ntmps239
abbrev O8:=aW.mk Tryz.func240
abbrev Nb:=bd.mk Tryz.ntmps240
abbrev Qu:=aW.mk Tryz.func241
abbrev Ss:=bd.mk Tryz.ntmps241
abbrev Si:=aW.mk Tryz.func242
abbrev Tk:=bd.mk Tryz.ntmps242
abbrev Nx:=aW.mk Tryz.func243
abbrev MN:=bd.mk Tryz.ntmps243
abbrev NM:=aW.mk Tryz.func244
abbrev R0:=bd.mk Tryz.ntmps244
abbrev NR:=aW.mk Tryz.func245
abbrev Su:=bd.mk Tryz.ntmps245
abbrev To:=aW.mk Tryz.func246
abbrev TI:=bd.mk Tryz.ntmps246
abbrev Ml:=aW.mk Tryz.func247
abbrev Na:=bd.mk Tryz.ntmps247
abbrev Rh:=aW.mk Tryz.func248
abbrev Tg:=bd.mk Tryz.ntmps248
abbrev Pa:=aW.mk Tryz.func249
abbrev RY:=bd.mk Tryz.ntmps249
abbrev SD:=aW.mk Tryz.func250
abbrev TH:=bd.mk Tryz.ntmps250
abbrev Ps:=aW.mk Tryz.func251
abbrev M4:=bd.mk Tryz.ntmps251
abbrev LW:=aW.mk Tryz.func252
abbrev SP:=bd.mk Tryz.ntmps252
abbrev TD:=aW.mk Tryz.func253
abbrev Ty:=bd.mk Tryz.ntmps253
abbrev SB:=aW.mk Tryz.func254
abbrev Of:=bd.mk Tryz.ntmps254
abbrev Ow:=aW.mk Tryz.func255
abbrev Oz:=bd.mk Tryz.ntmps255
abbrev OW:=aW.mk Tryz.func256
abbrev OB:=bd.mk Tryz.ntmps256
abbrev S2:=aW.mk Tryz.func257
abbrev Pu:=bd.mk Tryz.ntmps257
abbrev Sv:=aW.mk Tryz.func258
abbrev QM:=bd.mk Tryz.ntmps258
abbrev adi:=bM.mk Tryz.results11
abbrev VL:=bM.mk Tryz.results12
abbrev Z3:=bM.mk Tryz.results13
abbrev UD:=bM.mk Tryz.results14
abbrev Uk:=bM.mk Tryz.results15
abbrev aa0:=bM.mk Tryz.results19
abbrev ZU:=bM.mk Tryz.results20
abbrev Y6:=bM.mk Tryz.results21
abbrev aaF:=bM.mk Tryz.results22
abbrev aaf:=bM.mk Tryz.results24
abbrev aa2:=bM.mk Tryz.results25
abbrev aa1:=bM.mk Tryz.results26
abbrev UI:=bM.mk Tryz.results27
abbrev aau:=bM.mk Tryz.results31
abbrev VO:=bM.mk Tryz.results32
abbrev aby:=bM.mk Tryz.results33
abbrev Ud:=bM.mk Tryz.results36
abbrev XO:=bM.mk Tryz.results37
abbrev aaT:=bM.mk Tryz.results41
abbrev Ys:=bM.mk Tryz.results43
abbrev ZE:=bM.mk Tryz.results44
abbrev WH:=bM.mk Tryz.results45
abbrev acn:=bM.mk Tryz.results46
abbrev Z4:=bM.mk Tryz.results47
abbrev abF:=bM.mk Tryz.results48
abbrev YO:=bM.mk Tryz.results49
abbrev aaH:=bM.mk Tryz.results51
abbrev adm:=bM.mk Tryz.results52
abbrev VN:=bM.mk Tryz.results53
abbrev aak:=bM.mk Tryz.results54
abbrev Wf:=bM.mk Tryz.results55
abbrev abt:=bM.mk Tryz.results56
abbrev abD:=bM.mk Tryz.results58
abbrev ac4:=bM.mk Tryz.results60
abbrev UG:=bM.mk Tryz.results61
abbrev WJ:=bM.mk Tryz.results62
abbrev ac8:=bM.mk Tryz.results63
abbrev aaE:=bM.mk Tryz.results64
abbrev ZI:=bM.mk Tryz.results66
abbrev adk:=bM.mk Tryz.results67
abbrev VB:=bM.mk Tryz.results68
abbrev adP:=bM.mk Tryz.results70
abbrev YL:=bM.mk Tryz.results71
abbrev XT:=bM.mk Tryz.results72
abbrev V3:=bM.mk Tryz.results73
abbrev YH:=bM.mk Tryz.results74
abbrev aaL:=bM.mk Tryz.results76
abbrev ack:=bM.mk Tryz.results77
abbrev abU:=bM.mk Tryz.results81
abbrev XS:=bM.mk Tryz.results82
abbrev V7:=bM.mk Tryz.results83
abbrev Yv:=bM.mk Tryz.results84
abbrev U1:=bM.mk Tryz.results85
abbrev Vz:=bM.mk Tryz.results86
abbrev Xp:=bM.mk Tryz.results87
abbrev VR:=bM.mk Tryz.results90
abbrev Y1:=bM.mk Tryz.results91
abbrev acZ:=bM.mk Tryz.results92
abbrev WM:=bM.mk Tryz.results94
abbrev V9:=bM.mk Tryz.results95
abbrev Vp:=bM.mk Tryz.results96
abbrev WR:=bM.mk Tryz.results97
abbrev ada:=bM.mk Tryz.results98
abbrev X1:=bM.mk Tryz.results99
abbrev OI:=bM.mk Tryz.results100
abbrev Qf:=bM.mk Tryz.results101
abbrev RS:=bM.mk Tryz.results102
abbrev SK:=bM.mk Tryz.results103
abbrev Nj:=bM.mk Tryz.results104
abbrev Qr:=bM.mk Tryz.results105
abbrev Q4:=bM.mk Tryz.results106
abbrev TE:=bM.mk Tryz.results107
abbrev MB:=bM.mk Tryz.results108
abbrev LM:=bM.mk Tryz.results109
abbrev L6:=bM.mk Tryz.results114
abbrev S3:=bM.mk Tryz.results115
abbrev QD:=bM.mk Tryz.results117
abbrev Mi:=bM.mk Tryz.results118
abbrev P3:=bM.mk Tryz.results119
abbrev S7:=bM.mk Tryz.results122
abbrev Q2:=bM.mk Tryz.results123
abbrev M0:=bM.mk Tryz.results124
abbrev NU:=bM.mk Tryz.results125
abbrev N4:=bM.mk Tryz.results126
abbrev My:=bM.mk Tryz.results127
abbrev RE:=bM.mk Tryz.results129
abbrev LQ:=bM.mk Tryz.results130
abbrev Qj:=bM.mk Tryz.results133
abbrev Pf:=bM.mk Tryz.results135
abbrev Nt:=bM.mk Tryz.results136
abbrev Mw:=bM.mk Tryz.results138
abbrev LY:=bM.mk Tryz.results139
abbrev Lo:=bM.mk Tryz.results140
abbrev Mn:=bM.mk Tryz.results141
abbrev LL:=bM.mk Tryz.results142
abbrev Rr:=bM.mk Tryz.results143
abbrev TJ:=bM.mk Tryz.results144
abbrev LI:=bM.mk Tryz.results145
abbrev Ns:=bM.mk Tryz.results146
abbrev MK:=bM.mk Tryz.results147
abbrev Pw:=bM.mk Tryz.results151
abbrev NQ:=bM.mk Tryz.results159
abbrev QP:=bM.mk Tryz.results161
abbrev S0:=bM.mk Tryz.results162
abbrev O7:=bM.mk Tryz.results167
abbrev Qo:=bM.mk Tryz.results168
abbrev N5:=bM.mk Tryz.results169
abbrev Qa:=bM.mk Tryz.results170
abbrev Pj:=bM.mk Tryz.results171
abbrev Oc:=bM.mk Tryz.results173
abbrev Ln:=bM.mk Tryz.results174
abbrev N9:=bM.mk Tryz.results175
abbrev QV:=bM.mk Tryz.results181
abbrev Qq:=bM.mk Tryz.results183
abbrev RF:=bM.mk Tryz.results184
abbrev OZ:=bM.mk Tryz.results185
abbrev Ro:=bM.mk Tryz.results186
abbrev LX:=bM.mk Tryz.results199
abbrev MT:=bM.mk Tryz.results200
abbrev SS:=bM.mk Tryz.results202
abbrev RZ:=bM.mk Tryz.results204
abbrev Oy:=bM.mk Tryz.results205
abbrev O9:=bM.mk Tryz.results206
abbrev L0:=bM.mk Tryz.results207
abbrev Mk:=bM.mk Tryz.results208
abbrev M6:=bM.mk Tryz.results211
abbrev Rw:=bM.mk Tryz.results212
abbrev NW:=bM.mk Tryz.results213
abbrev ME:=bM.mk Tryz.results214
abbrev Ov:=bM.mk Tryz.results215
abbrev Rb:=bM.mk Tryz.results216
abbrev Pd:=bM.mk Tryz.results217
abbrev QK:=bM.mk Tryz.results227
abbrev Qx:=bM.mk Tryz.results228
abbrev NB:=bM.mk Tryz.results229
abbrev Nc:=bM.mk Tryz.results230
abbrev QH:=bM.mk Tryz.results231
abbrev R9:=bM.mk Tryz.results232
abbrev Q8:=bM.mk Tryz.results233
abbrev Ll:=bM.mk Tryz.results234
abbrev MJ:=bM.mk Tryz.results235
abbrev LR:=bM.mk Tryz.results241
abbrev SU:=bM.mk Tryz.results243
abbrev Q6:=bM.mk Tryz.results244
abbrev O1:=bM.mk Tryz.results245
abbrev Sm:=bM.mk Tryz.results246
abbrev Px:=bM.mk Tryz.results247
abbrev PS:=bM.mk Tryz.results248
abbrev Rp:=bM.mk Tryz.results249
abbrev NO:=bM.mk Tryz.results250
abbrev PY:=bM.mk Tryz.results251
abbrev Ma:=bM.mk Tryz.results252
abbrev R3:=bM.mk Tryz.results254
abbrev S4:=bM.mk Tryz.results255
abbrev Ot:=bM.mk Tryz.results257
abbrev Ph:=bM.mk Tryz.results258
abbrev adg:=AK.mk Tryz.results38
abbrev adJ:=AK.mk Tryz.results50
abbrev Z2:=AK.mk Tryz.results75
abbrev acO:=AK.mk Tryz.results80
abbrev abR:=AK.mk Tryz.results88
abbrev YB:=AK.mk Tryz.results89
abbrev Yo:=AK.mk Tryz.results93
abbrev S8:=AK.mk Tryz.results176
abbrev Md:=AK.mk Tryz.results177
abbrev Qk:=AK.mk Tryz.results178
abbrev SJ:=AK.mk Tryz.results179
abbrev OG:=AK.mk Tryz.results201
abbrev La:=AK.mk Tryz.results203
abbrev Nf:=AK.mk Tryz.results210
abbrev Le:=AK.mk Tryz.results238
abbrev Vq:=mZ.mk Tryz.results30
abbrev abN:=mZ.mk Tryz.results34
abbrev abi:=mZ.mk Tryz.results35
abbrev Wo:=mZ.mk Tryz.results39
abbrev acK:=mZ.mk Tryz.results40
abbrev aaV:=mZ.mk Tryz.results42
abbrev Yp:=mZ.mk Tryz.results57
abbrev UX:=mZ.mk Tryz.results59
abbrev abx:=mZ.mk Tryz.results65
abbrev WT:=mZ.mk Tryz.results69
abbrev Wa:=mZ.mk Tryz.results78
abbrev ach:=mZ.mk Tryz.results79
abbrev MC:=mZ.mk Tryz.results110
abbrev TM:=mZ.mk Tryz.results113
abbrev Qb:=mZ.mk Tryz.results116
abbrev Lv:=mZ.mk Tryz.results120
abbrev Rn:=mZ.mk Tryz.results121
abbrev Np:=mZ.mk Tryz.results148
abbrev Rf:=mZ.mk Tryz.results149
abbrev MF:=mZ.mk Tryz.results150
abbrev Ng:=mZ.mk Tryz.results152
abbrev OV:=mZ.mk Tryz.results153
abbrev NS:=mZ.mk Tryz.results154
abbrev PW:=mZ.mk Tryz.results155
abbrev PJ:=mZ.mk Tryz.results156
abbrev PF:=mZ.mk Tryz.results157
abbrev RU:=mZ.mk Tryz.results158
abbrev RH:=mZ.mk Tryz.results160
abbrev Ti:=mZ.mk Tryz.results172
abbrev Mc:=mZ.mk Tryz.results180
abbrev Nl:=mZ.mk Tryz.results182
abbrev RR:=mZ.mk Tryz.results198
abbrev Sg:=mZ.mk Tryz.results239
theorem adt:(Tryz.prog.info? 33).map (fun i=>(i.zero,i.size,i.bytes))=some (some (.agg #[.int .i64 0,.int .i64 0]),2,16):=by kernel_rfl
abbrev Zo:=Fu.mk adt rfl (by decide)
theorem Mm:(Tryz.prog.info? 152).map (fun i=>(i.zero,i.size,i.bytes))=some (some (.agg #[.bool false,.int .i64 0,.slice none 0 0,.int .i64 0,.int .i64 0,.int .i64 0,.int .i64 0,.int .i64 0,.int .i64 0,.int .i64 0,.int .i64 0,.int .i64 0,.int .i64 0,.int .i64 0,.int .i64 0,.int .i64 0,.int .i64 0,.int .i64 0,.int .i64 0,.int .i64 0,.int .i64 0,.int .i64 0,.int .i64 0,.int .i64 0,.int .i64 0,.int .i64 0,.int .i64 0,.int .i64 0,.int .i64 0,.int .i64 0,.int .i64 0,.int .i64 0,.int .i64 0,.int .i64 0,.int .i64 0,.int .i64 0,.int .i64 0,.int .i64 0,.int .i64 0,.int .i64 0,.int .i64 0,.int .i64 0,.int .i64 0,.int .i64 0,.int .i64 0,.int .i64 0,.int .i64 0,.int .i64 0,.bool false,.int .i64 0,.bool false,.int .i64 0,.int .i64 0,.int .i64 0,.bool false,.bool false,.int .i64 0,.int .i64 0]),58,472):=by kernel_rfl
abbrev R2:=Fu.mk Mm rfl (by decide)
theorem NN:(Tryz.prog.info? 302).map (fun i=>(i.zero,i.size,i.bytes))=some (some (.agg #[.int .i64 0,.int .i64 0,.int .i64 0,.int .i64 0,.int .i64 0,.int .i64 0,.bool false]),7,56):=by kernel_rfl
abbrev SF:=Fu.mk NN rfl (by decide)
theorem aeY:(Tryz.prog.info? 4).map (fun i=>(i.zero,i.size,i.bytes))=some (some (.bool false),1,1):=by kernel_rfl
abbrev aes:=Fu.mk aeY rfl (by decide)
theorem YE:(Tryz.prog.info? 40).map (fun i=>(i.zero,i.size,i.bytes))=some (some (.agg #[.int .i64 0,.int .i64 0]),2,16):=by kernel_rfl
abbrev Ui:=Fu.mk YE rfl (by decide)
theorem Mz:(Tryz.prog.info? 115).map (fun i=>(i.zero,i.size,i.bytes))=some (some (.agg #[.int .i64 0,.int .i64 0,.int .i64 0,.int .i64 0,.int .i64 0,.slice none 0 0]),6,64):=by kernel_rfl
abbrev Sj:=Fu.mk Mz rfl (by decide)
theorem Pn:(Tryz.prog.info? 266).map (fun i=>(i.zero,i.size,i.bytes))=some (some (.agg #[.int .i64 0,.int .i64 0,.int .i64 0,.int .i64 0,.int .i64 0,.int .i64 0,.int .i64 0,.int .i64 0,.int .i64 0,.int .i64 0,.int .i64 0,.int .i64 0,.int .i64 0,.int .i64 0,.int .i64 0,.int .i64 0,.int .i64 0,.int .i64 0,.int .i64 0,.int .i64 0,.int .i64 0,.int .i64 0,.int .i64 0,.int .i64 0,.int .i64 0,.int .i64 0,.int .i64 0,.int .i64 0,.int .i64 0,.int .i64 0,.int .i64 0,.int .i64 0,.int .i64 0,.int .i64 0,.int .i64 0,.int .i64 0,.int .i64 0,.int .i64 0,.int .i64 0,.int .i64 0,.int .i64 0,.int .i64 0,.int .i64 0,.int .i64 0,.int .i64 0,.int .i64 0,.int .i64 0,.int .i64 0,.int .i64 0,.int .i64 0,.int .i64 0,.bool false,.int .i64 0,.bool false,.int .i64 0,.int .i64 0,.int .i64 0,.bool false,.bool false,.int .i64 0,.int .i64 0,.int .i64 0,.int .i64 0,.int .i64 0,.int .i64 0,.int .i64 0,.int .i64 0,.int .i64 0,.int .i64 0]),69,544):=by kernel_rfl
abbrev QN:=Fu.mk Pn rfl (by decide)
theorem Lz:(Tryz.prog.info? 264).map (fun i=>(i.zero,i.size,i.bytes))=some (some (.agg #[.int .i64 0,.int .i64 0,.int .i64 0,.int .i64 0,.int .i64 0]),5,40):=by kernel_rfl
abbrev Rk:=Fu.mk Lz rfl (by decide)
theorem Qz:(Tryz.prog.info? 186).map (fun i=>(i.zero,i.size,i.bytes))=some (some (.agg #[.int .i64 0,.bool false,.int .i64 0]),3,24):=by kernel_rfl
abbrev Pg:=Fu.mk Qz rfl (by decide)
theorem S5:(Tryz.prog.info? 135).map (fun i=>(i.zero,i.size,i.bytes))=some (some (.agg #[.int .i64 0,.complex .f64 0 0]),2,24):=by kernel_rfl
abbrev N1:=Fu.mk S5 rfl (by decide)
abbrev afL:=Fu.mk cT rfl (by decide)
attribute [instance] T9 adF ZD Ya abb adY aax Zf adA ZC acp aa5 abX Vf Y9 ac6 aaY Vi Uv Yh U4 Xj ab7 Wc YS acB Vd adH Zn abr
attribute [instance] Vg WC Wk adO UB Wt ab5 XD XJ W9 T5 Vu Wg aar X2 V0 ZJ WI aaD ZX YF aan X8 aaj X6 aaa We Uz ad0 XE
attribute [instance] abh aaZ abz VW WS ag4 YX ZP ZO X4 U9 adp aaA ZR abw Ub af7 XM abf Uj Vt Xh adD acW afK UP WZ af2 V1 W5
attribute [instance] abT VZ Zu WE acH UQ adC Y2 afT UC acL VT Vl Xq Vn YD Yc afq X0 Xv aco aap ado aav adW V6 acX Wm aat afi
attribute [instance] abP acv WW aaC acq Xn Yf Yd VM aag agF YR aaG Wb Wr aay aao abk ZB Yn af9 agT agf af6 aeK afY agS ago agC ag1
attribute [instance] afZ agN afw afa aeA afn agB afG ag5 aeE aeI agW aeQ agb aep ags afC agV agu agn agR ag3 afX afs aeG ae5 afj afk aeL aez
attribute [instance] aeF afv agx af5 afI aeZ afF aga af4 aeB afH ae9 aet afd afS aeP afV aeM afO afQ afe afl ae1 agw agM age ae4 aer aev aeN
attribute [instance] agK ii0 ZZ adT U7 acs VP adl Zk abu abn UL YP XI adQ Ww WK abg adE adw ace XC afE adb Y0 acb aaS WQ T7 XG
attribute [instance] Zt aa7 YJ agJ Ws afD adf adG UW ii3 agr aci agd aej afR agv afg afr afc ae0 ii4 aem af0 agP afu afW ii5 aek af8 aeu
attribute [instance] aeX ii9 agX si0 aca abc Up VH UZ adZ abQ Z7 Xb ZT U2 Xs Zs WY ZY aaU adK YT YZ VI U5 Uw agU VS aaP Yz
attribute [instance] acA WG Xm XN aal abI U8 ae7 aah afm Yu Ur si3 ag2 aaN ag6 ae2 aeD agL ae8 aey aff aeo si4 afU agA aeR aft si5 ag0
attribute [instance] agG aew agh si9 agQ ui0 Wp XU acf Vh aaz ZQ Xk VQ ab0 Yy acr aba ads VG Xt Yi UK Vc Zc ac7 YG Y3 YM aa8
attribute [instance] Vj abW W8 XQ aai afP Vm aaX UE agO Xw XZ Ve abv acM abS Ue YV Xu Zv Z6 ae6 ac2 Yt Um Yl ui3 acR VC Uo
attribute [instance] afp agI aeC ui4 afz agY afb agH ui5 aeH aen agq aeS agz afB ui9 aeq zi0 T6 V4 UM Xg Zb Zm ZL aaI aac V8 Zr ac0
attribute [instance] XW abY XV Xz adM XK T4 Ze Z1 adS aa4 ZA acN abl Xy Vr adX VD Vv XY ZN ZW zi3 Ua adh agt agE zi4 aeJ aeT
attribute [instance] af3 zi5 afJ agj aeU zi9 acY acT UO ZK aa3 acS abM ZG Zp UT WB zl3 YY afM agl aeO agi ae3 afA ac1 VU X3 UF Uh
attribute [instance] aaR Zh acu aaO adU Zj abE Vo Xc Uc Wu Vk aas Zd abJ Vw Yg abL acP Y5 XA Ut YN abO UJ Xl abq YI U6 adr
attribute [instance] YQ Un ac3 UN Wq Ug acF Uy UR ady Ye Yj acE adB aaJ abo ab1 XH adz Ym YU Wz X5 adx Wn Z0 Xo Zg adj adI
attribute [instance] acw aaq VY Z9 Va ab3 T8 XB aaB W7 Z8 acx abd acG WU abV Xd W6 XR Wl U3 WX acJ Zq Xr XX WL Wv abA ZF
attribute [instance] WO Xi Z5 WV Uq Yb acC adV Uu acg V2 abG abj Y4 Wd VE aaW Zy aaw ZS abm YC VX abe acd Zw Xa aa9 abC Xe
attribute [instance] WN ZM aab Ul Y7 adn VK acV ab8 Ux adq adR Us ZH Xf adL Wx acI V5 Za VJ UY Y8 aaM abZ acQ Wh VA Vb abp
attribute [instance] acU aaQ Vs ac5 acy aaK Zi Zz VV abK adN Uf acj WD adu Sl OS NC Tr Lk Mh Tl Rt SC Rl PK Rs P8 QB PD
attribute [instance] QX N7 Q5 MI LP MM Sc OP TG O3 Oj RG Pp Mj QQ Rm P6 MO TK Qg PI Nv Ox OR Sa NH R4 Nd Pc TB
attribute [instance] QY Lh RJ R1 P4 NZ SV Ra Tj RD Mt PA Pe Re Q7 LD LO ON QF Qd Lg Oo ML M9 M8 Nu Qi PL MD LG
attribute [instance] RA Te OX MV TN SR R6 Tu MH Qs Q0 Mv Oa OJ OA LV Tf OE NX SZ TL OD Nq NF Qw Nz Lu Ru Lf Ts
attribute [instance] M7 PO N2 RL Qy Ly P9 Mg Tx SY Qe Lq Ny OY Pr Pq NT Nk Ld Me NL Py RO RK Sq LC LH Tc L3 Tv
attribute [instance] QU P1 Mb OU Ri P7 Pv Tp MG O4 Q9 Mo Qm NJ OQ Nh Rx OT QA Nw P5 QZ Mq Ql Ol SX Qt LU Rq NP
attribute [instance] RN MZ QL Lb MA Oh NY Lc Lm S1 NV O5 Po M5 Qh OH P0 RP Th OK PX Lj Oq Sz Mr QS M3 L4 SQ O2
attribute [instance] QG On Mu OF PR MQ QR Td Ta MS Mx Qn NK Pz QO PC Tm PG Qv Ls QT Ob LZ Ms RI Od RV OL MY Lp
attribute [instance] PH Sk Rz Ni Lw Tb P2 Nr QC Tw R7 R8 MU NA Ou S9 O6 S6 NG LN NI Pm O8 Nb Qu Ss Si Tk Nx MN
attribute [instance] NM R0 NR Su To TI Ml Na Rh Tg Pa RY SD TH Ps M4 LW SP TD Ty SB Of Ow Oz OW OB S2 Pu Sv QM
attribute [instance] adi VL Z3 UD Uk aa0 ZU Y6 aaF aaf aa2 aa1 UI aau VO aby Ud XO aaT Ys ZE WH acn Z4 abF YO aaH adm VN aak
attribute [instance] Wf abt abD ac4 UG WJ ac8 aaE ZI adk VB adP YL XT V3 YH aaL ack abU XS V7 Yv U1 Vz Xp VR Y1 acZ WM V9
attribute [instance] Vp WR ada X1 OI Qf RS SK Nj Qr Q4 TE MB LM L6 S3 QD Mi P3 S7 Q2 M0 NU N4 My RE LQ Qj Pf Nt
attribute [instance] Mw LY Lo Mn LL Rr TJ LI Ns MK Pw NQ QP S0 O7 Qo N5 Qa Pj Oc Ln N9 QV Qq RF OZ Ro LX MT SS
attribute [instance] RZ Oy O9 L0 Mk M6 Rw NW ME Ov Rb Pd QK Qx NB Nc QH R9 Q8 Ll MJ LR SU Q6 O1 Sm Px PS Rp NO
attribute [instance] PY Ma R3 S4 Ot Ph adg adJ Z2 acO abR YB Yo S8 Md Qk SJ OG La Nf Le Vq abN abi Wo acK aaV Yp UX abx
attribute [instance] WT Wa ach MC TM Qb Lv Rn Np Rf MF Ng OV NS PW PJ PF RU RH Ti Mc Nl RR Sg Zo R2 SF aes Ui Sj
attribute [instance] QN Rk Pg N1 afL
end Go.Proofs.YtbedndijejpcaaaGreat
