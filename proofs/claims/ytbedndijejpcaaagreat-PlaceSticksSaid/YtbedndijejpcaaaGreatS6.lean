/- Auto -/
import Derived.Test.YtbedndijejpcaaaGreatS5
set_option linter.unusedVariables false
set_option linter.unusedSimpArgs false
set_option linter.unusedSectionVars false
set_option maxRecDepth 100000
set_option maxHeartbeats 8000000
namespace Go.Proofs.YtbedndijejpcaaaGreat
open Go.RowKit
class Und (P:Program) (t:TypeId) (u:outParam TypeDesc):Prop where h:P.underlying t=some u
class Siz (P:Program) (t:TypeId) (k:outParam Nat):Prop where
  h:∀w,(sizeOf t).run P w=.ok k w
  p:k≠0
class IsA (P:Program) (t:TypeId) (b:outParam Bool):Prop where h:∀w,(isAgg t).run P w=.ok b w
class Zer (P:Program) (t:TypeId) (v:outParam Value):Prop where h:∀w,(zeroValue t).run P w=.ok v w
class Cal (P:Program) (f:FuncId):Prop where h:∀args w,(callFunc f args).run P w=.ok (.enter f args) w
class Zl (P:Program) (t:TypeId) (us:outParam (List Value)):Prop where h:∃z,(∀w,(zeroValue t).run P w=.ok z w)∧z.cells=us.toArray
class Ap {α:Type} (σ τ:List α) (ρ:outParam (List α)):Prop where h:σ++τ=ρ
instance {α:Type} {τ:List α}:Ap [] τ τ:=⟨rfl⟩
instance {α:Type} {x:α} {σ τ ρ:List α} [q:Ap σ τ ρ]:Ap (x::σ) τ (x::ρ):=⟨by rw[←q.h];rfl⟩
class Se {α:Type} (i:Nat) (σ:List α) (y:α) (τ:outParam (List α)):Prop where h:σ.set i y=τ
instance {α:Type} {x y:α} {σ:List α}:Se 0 (x::σ) y (y::σ):=⟨rfl⟩
instance {α:Type} {i:Nat} {x y:α} {σ τ:List α} [q:Se i σ y τ]:Se (i+1) (x::σ) y (x::τ):=⟨by rw[←q.h];rfl⟩
class Pk (x:HI) (σ:List HI) (τ:outParam (List HI)):Prop where h:σ.Perm (x::τ)
instance {x y:HI} {σ τ:List HI} [q:Pk x σ τ]:Pk x (y::σ) (y::τ):=⟨(q.h.cons y).trans (List.Perm.swap x y τ)⟩
instance {x:HI} {σ:List HI}:Pk x (x::σ) σ:=⟨List.Perm.refl _⟩
class Pks (π σ:List HI) (τ:outParam (List HI)):Prop where h:σ.Perm (π++τ)
instance {σ:List HI}:Pks [] σ σ:=⟨List.Perm.refl _⟩
instance {x:HI} {π σ σ' τ:List HI} [a:Pk x σ σ'] [b:Pks π σ' τ]:Pks (x::π) σ τ:=⟨a.h.trans (b.h.cons x)⟩
class Fi (b:Nat) (σ:List HI) (i:outParam Nat) (t:outParam TypeId) (cs:outParam (List Value)):Prop where h:σ[i]?=some (HI.cl b t cs)
instance {b i:Nat} {x:HI} {σ:List HI} {t:TypeId} {cs:List Value} [q:Fi b σ i t cs]:Fi b (x::σ) (i+1) t cs:=⟨q.h⟩
instance {b:Nat} {σ:List HI} {t:TypeId} {cs:List Value}:Fi b (.cl b t cs::σ) 0 t cs:=⟨rfl⟩
instance {α:Type} {σ π τ ρ ν:List α} [p:Ap σ π ν] [q:Ap ν τ ρ]:Ap (σ++π) τ ρ:=⟨by rw[p.h,q.h]⟩
instance {α:Type} {i:Nat} {y:α} {σ π τ ν:List α} [p:Ap σ π ν] [q:Se i ν y τ]:Se i (σ++π) y τ:=⟨by rw[p.h,q.h]⟩
instance {x:HI} {σ π τ ν:List HI} [p:Ap σ π ν] [q:Pk x ν τ]:Pk x (σ++π) τ:=⟨by rw[p.h];exact q.h⟩
instance {b i:Nat} {σ π ν:List HI} {t:TypeId} {cs:List Value} [p:Ap σ π ν] [q:Fi b ν i t cs]:Fi b (σ++π) i t cs:=⟨by rw[p.h];exact q.h⟩
class Li (l:List Oper) (i:Nat) (o:outParam Oper):Prop where h:l[i]?=some o
instance {o:Oper} {l:List Oper}:Li (o::l) 0 o:=⟨rfl⟩
instance {i:Nat} {o x:Oper} {l:List Oper} [q:Li l i o]:Li (x::l) (i+1) o:=⟨q.h⟩
theorem St.pk {w0 w:World} {M:Nat→Prop} {π σ τ:List HI} (h:St w0 M σ w) [q:Pks π σ τ]:St w0 M π w:=(h.perm q.h).sub (List.sublist_append_left _ _)
section
variable {P:Program} {r:Option Nat} {N d:Nat} {ops:Array Oper} {l rest:List Oper} {Q:XP} {ρ:Env} {ds:List Deferred} {S S':World→Prop} {x y:Operand} {ty t t2:TypeId} {pos:String} {af:Array Edge} {g:Option (Nat×Bool)} {dst:Option Tmp} {m n:Int} {b o o' k j c fi nn:Nat} {A:Option Addr} {w0:World} {M:Nat→Prop} {σ σ':List HI}
section
variable {f:FuncId} {xs:List Operand} {ats:Array TypeId} {args:List Value} {pre:List HI} {Fact:World→Prop} {X:Type} {v:X→Value} {facts:X→Prop} {post:X→List HI}
theorem Ct.app {τ':List HI} {τ:X→List HI} (hc:Ct P f args.toArray pre Fact v facts post) (hp:Pks pre σ τ') (hF:∀w,St w0 M σ w→Fact w) (hτ:∀x,Ap τ' (post x) (τ x)) (w:World) (hw:St w0 M σ w):
    Calls P f args.toArray w fun e w'=>∃x,e=.returned (v x)∧facts x∧St w0 M (τ x) w':=by
  have h1:=hw.perm hp.h;refine(hc w (fun i hi=>h1.all i (List.mem_append_left _ hi)) (List.pairwise_append.1 h1.disj).1 (hF w hw)).mono ?_
  rintro e w' ⟨x,rfl,hx,hs⟩
  refine⟨x,rfl,hx,?_⟩;rw[←(hτ x).h];exact(h1.trans hs).perm List.perm_append_comm
theorem xC {τ':List HI} {τ:X→List HI} (hc:Ct P f args.toArray pre Fact v facts post) (ha:xs.map (evo ρ)=args:=by rfl) (hF:∀w,St w0 M σ w→Fact w:=by exact fun _ _=>trivial) [hf:Cal P f] [hp:Pks pre σ τ'] [hτ:∀x,Ap τ' (post x) (τ x)]:
    OpX P r (St w0 M σ) ⟨dst,.call ⟨.value (.func f),xs.toArray,ats⟩,ty,pos,af,g⟩ ρ v (fun x w'=>facts x∧St w0 M (τ x) w'):=
  OpX.of_call rfl (fun w _=>run_call hf.h ha w) (fun w hw=>hc.app hp hF hτ w hw)
theorem xV {τ':List HI} {τ:X→List HI} {z:Operand} {first cap:List Value} (hc:Ct P f args.toArray pre Fact v facts post) (hf:∀args w,(callFunc f args).run P w=.ok (.enter f args) w) (hF:∀w,St w0 M σ w→Fact w:=by exact fun _ _=>trivial) (hx:evo ρ z=.func (.func f) first.toArray cap.toArray:=by rfl) (ha:first++xs.map (evo ρ)++cap=args:=by rfl) [hp:Pks pre σ τ'] [hτ:∀x,Ap τ' (post x) (τ x)]:
    OpX P r (St w0 M σ) ⟨dst,.call ⟨.value z,xs.toArray,ats⟩,ty,pos,af,g⟩ ρ v (fun x w'=>facts x∧St w0 M (τ x) w'):=
  OpX.of_call rfl (fun w _=>run_callV hf hx ha w) (fun w hw=>hc.app hp hF hτ w hw)
end
theorem xAl {σ':Nat→List HI} {us:List Value} [hz:Zl P t us] [hσ:∀b,Ap σ [.cl b t us] (σ' b)]:OpX P r (St w0 M σ) ⟨dst,.alloc t,ty,pos,af,g⟩ ρ (X:=Nat) (fun b=>.pointer (some ⟨b,0,none⟩)) (fun b=>St w0 M (σ' b)):=
  hz.h.elim fun _ h=>x_alloc h.1 h.2 fun b=>(hσ b).h
theorem xB {σ':Nat→List HI} {us:List Value} (hx:evo ρ x=.agg us.toArray:=by rfl) [hσ:∀b,Ap σ [.cl b t us] (σ' b)]:OpX P r (St w0 M σ) ⟨dst,.box t x,ty,pos,af,g⟩ ρ (X:=Nat) (fun b=>.pointer (some ⟨b,0,none⟩)) (fun b=>St w0 M (σ' b)):=
  x_boxA hx fun b=>(hσ b).h
theorem xW {τ:List HI} {i tc:Nat} {us cs:List Value} [hz:Siz P t k] (hx:evo ρ x=.pointer (some ⟨b,0,none⟩)) (hy:evo ρ y=.agg us.toArray:=by rfl) (ho:us.length=cs.length:=by rfl) (h1:∀u∈us,u.oneCell'=true:=by simp[Value.oneCell']) (hk:us.length=k:=by rfl) [hi:Fi b σ i tc cs] [hσ:Se i σ (.cl b tc us) τ]:
    OpX P r (St w0 M σ) ⟨dst,.store t x y,ty,pos,af,g⟩ ρ (X:=Unit) (fun _=>undef) (fun _=>St w0 M τ):=x_storeW hz.h hx hy hi.h ho hσ.h h1 hk
theorem xS {τ:List HI} {i tc:Nat} {u:Value} {cs cs':List Value} (hx:evo ρ x=.pointer (some ⟨b,o,none⟩)) (hy:evo ρ y=u) (ho:Nat.blt o cs.length=true:=by rfl) (h1:u.oneCell'=true:=by rfl) [hz:Siz P t 1] [hi:Fi b σ i tc cs] [hs:Se o cs u cs'] [hσ:Se i σ (.cl b tc cs') τ]:
    OpX P r (St w0 M σ) ⟨dst,.store t x y,ty,pos,af,g⟩ ρ (X:=Unit) (fun _=>undef) (fun _=>St w0 M τ):=x_store hz.h hx hy hi.h (by simpa using ho) (by rw[hs.h];exact hσ.h) h1
section
variable {l rest:List Oper} {Sh:World→Prop} {o:Oper} {X:Type} {v:X→Value} {T:X→World→Prop} {facts:X→Prop} {fin:Option Nat} {plan:List (Nat×Bool)} {i:Nat} {u:Value} {f q:Nat}
theorem eF (h:OpX P r S o ρ v (fun x w=>facts x∧T x w)) (k:∀x,facts x→WPL P r N ops rest Q (upd ρ d (v x)) ds (T x)) (hg:o.guard=none:=by rfl) (hd:o.dst=some d:=by rfl) (hN:d<N:=by decide):WPL P r N ops (o::rest) Q ρ ds S:=
  WPL.ef h (fun x=>WPL.fact (k x)) hg hd hN
theorem hT_ {p:Prop} (h:p):p:=h
theorem dE [hi:Li l i o] (h:OpX P r S o ρ v T) (k:∀x,WPD P r N l fin Sh plan Q (upd ρ d (v x)) ds (T x)) (hT:some i≠fin→∀x w,T x w→Sh w:=by first | exact fun h=>absurd rfl h | exact fun _ _ _ h=>St.pk h) (hw:wants l.toArray ρ o=true:=by rfl) (hd:o.dst=some d:=by rfl):WPD P r N l fin Sh ((i,false)::plan) Q ρ ds S:=
  WPD.ef hi.h h hT k hw hd
theorem dG [hi:Li l i o] (h:OpX P r S o ρ v (fun x w=>facts x∧T x w)) (k:∀x,facts x→WPD P r N l fin Sh plan Q (upd ρ d (v x)) ds (T x)) (hT:some i≠fin→∀x w,T x w→Sh w:=by first | exact fun h=>absurd rfl h | exact fun _ _ _ h=>St.pk h) (hw:wants l.toArray ρ o=true:=by rfl) (hd:o.dst=some d:=by rfl):WPD P r N l fin Sh ((i,false)::plan) Q ρ ds S:=
  WPD.ef hi.h h (fun e x w hw=>hT e x w hw.2) (fun x=>WPD.fact (k x)) hw hd
theorem dE0 [hi:Li l i o] (h:OpX P r S o ρ v T) (k:∀x,WPD P r N l fin Sh plan Q ρ ds (T x)) (hT:some i≠fin→∀x w,T x w→Sh w:=by first | exact fun h=>absurd rfl h | exact fun _ _ _ h=>St.pk h) (hw:wants l.toArray ρ o=true:=by rfl) (hd:o.dst=none:=by rfl):WPD P r N l fin Sh ((i,false)::plan) Q ρ ds S:=
  WPD.ef0 hi.h h hT k hw hd
theorem tD [hi:Li l i o] (hv:OpV P Sh o ρ u) (k:WPD P r N l fin Sh plan Q (upd ρ d u) ds S) (hS:∀w,S w→Sh w:=by first | exact fun _ h=>h | exact fun _ h=>St.pk h) (hif:some i≠fin:=by decide) (hw:wants l.toArray ρ o=true:=by rfl) (hd:o.dst=some d:=by rfl):WPD P r N l fin Sh ((i,true)::plan) Q ρ ds S:=
  WPD.take hi.h hv k hS hif hw hd
theorem tE (hi:l[i]?=some o) (hv:OpV P Sh o ρ u) (k:WPD P r N l fin Sh plan Q (upd ρ d u) ds S) (hS:∀w,S w→Sh w:=by first | exact fun _ h=>h | exact fun _ h=>St.pk h) (hif:some i≠fin:=by decide) (hw:wants l.toArray ρ o=true:=by rfl) (hd:o.dst=some d:=by rfl):WPD P r N l fin Sh ((i,true)::plan) Q ρ ds S:=
  WPD.take hi hv k hS hif hw hd
theorem tG (i:Nat) (hi:l[i]?=some o) (hv:OpV P Sh o ρ u) (k:WPF P r N l Sh f nn (q||| 2 ^ i) Q (upd ρ d u) ds S) (hS:∀w,S w→Sh w:=by first | exact fun _ h=>h | exact fun _ h=>St.pk h) (hc:tkB l nn q (q||| 2 ^ i) i=true:=by kernel_rfl) (hw:wants l.toArray ρ o=true:=by rfl) (hd:o.dst=some d:=by rfl):WPF P r N l Sh (f+1) nn q Q ρ ds S:=WPF.tk _ i hc hi hv k hS hw hd
theorem fE [hi:Li l i o] (h:OpX P r S o ρ v T) (k:∀x,WPF P r N l Sh f nn (q||| 2 ^ i) Q (upd ρ d (v x)) ds (T x)) (hT:∀x w,T x w→Sh w:=by exact fun _ _ h=>St.pk h) (hc:setB nn q (q||| 2 ^ i) i=true:=by kernel_rfl) (hw:wants l.toArray ρ o=true:=by rfl) (hd:o.dst=some d:=by rfl):WPFi P r N l Sh f nn q i Q ρ ds S:=WPFi.ef _ hc hi.h h hT k hw hd
theorem fF [hi:Li l i o] (h:OpX P r S o ρ v (fun x w=>facts x∧T x w)) (k:∀x,facts x→WPF P r N l Sh f nn (q||| 2 ^ i) Q (upd ρ d (v x)) ds (T x)) (hT:∀x w,T x w→Sh w:=by exact fun _ _ h=>St.pk h) (hc:setB nn q (q||| 2 ^ i) i=true:=by kernel_rfl) (hw:wants l.toArray ρ o=true:=by rfl) (hd:o.dst=some d:=by rfl):WPFi P r N l Sh f nn q i Q ρ ds S:=WPFi.ef _ hc hi.h h (fun x w hw=>hT x w hw.2) (fun x=>WPF.fact (k x)) hw hd
theorem fE0 [hi:Li l i o] (h:OpX P r S o ρ v T) (k:∀x,WPF P r N l Sh f nn (q||| 2 ^ i) Q ρ ds (T x)) (hT:∀x w,T x w→Sh w:=by exact fun _ _ h=>St.pk h) (hc:setB nn q (q||| 2 ^ i) i=true:=by kernel_rfl) (hw:wants l.toArray ρ o=true:=by rfl) (hd:o.dst=none:=by rfl):WPFi P r N l Sh f nn q i Q ρ ds S:=WPFi.ef0 _ hc hi.h h hT k hw hd
theorem tF (i:Nat) [hi:Li l i o] (hv:OpV P Sh o ρ u) (k:WPF P r N l Sh f nn (q||| 2 ^ i) Q (upd ρ d u) ds S) (hS:∀w,S w→Sh w:=by first | exact fun _ h=>h | exact fun _ h=>St.pk h) (hc:tkB l nn q (q||| 2 ^ i) i=true:=by kernel_rfl) (hw:wants l.toArray ρ o=true:=by rfl) (hd:o.dst=some d:=by rfl):WPF P r N l Sh (f+1) nn q Q ρ ds S:=WPF.tk _ i hc hi.h hv k hS hw hd
theorem fO (i:Nat) (h:WPFi P r N l Sh f nn q i Q ρ ds S) (hc:onB l nn q [i]=true:=by kernel_rfl):WPF P r N l Sh (f+1) nn q Q ρ ds S:=WPF.only1 hc h
theorem fK (i j:Nat) (h:WPFi P r N l Sh f nn q i Q ρ ds S) (h':WPFi P r N l Sh f nn q j Q ρ ds S) (hc:onB l nn q [i,j]=true:=by kernel_rfl):WPF P r N l Sh (f+1) nn q Q ρ ds S:=WPF.fork2 hc h h'
theorem fN (h:∀w,S w→Q .normal ρ ds w) (hc:onB l nn q []=true:=by kernel_rfl):WPF P r N l Sh 0 nn q Q ρ ds S:=WPF.nil hc h
class Ge (i:Nat) (σ:List HI) (x:outParam HI):Prop where h:σ[i]?=some x
instance {x:HI} {σ:List HI}:Ge 0 (x::σ) x:=⟨rfl⟩
instance {i:Nat} {x y:HI} {σ:List HI} [q:Ge i σ x]:Ge (i+1) (y::σ) x:=⟨q.h⟩
class Gs (l:List Nat) (σ:List HI) (π:outParam (List HI)):Prop where h:sel σ l=π
instance {σ:List HI}:Gs [] σ []:=⟨rfl⟩
instance {i:Nat} {l:List Nat} {x:HI} {σ π:List HI} [a:Ge i σ x] [b:Gs l σ π]:Gs (i::l) σ (x::π):=⟨by have h:=b.h;unfold sel at*;rw[List.filterMap_cons,a.h,h]⟩
theorem wG {id:Nat} {π:List HI} (idx:List Nat) [e:Gs idx σ π] (h:WPF P r N l (St w0 M π) l.length l.length 0 Q ρ ds (St w0 M σ)) (hm:P.follows .mixedOrders=true:=by exact mixed) (hB:startB N l=true:=by kernel_rfl) (hn:idx.Nodup:=by decide):WP P r N (.region id l.toArray true) Q ρ ds (St w0 M σ):=
  WPF.drawSel idx hm hB hn (by rw[e.h];exact h)
theorem wP {id:Nat} {π:List HI} (fin:Option Nat) (idx:List Nat) (plan:List (Nat×Bool)) [e:Gs idx σ π] (h:WPD P r N l fin (St w0 M π) plan Q ρ ds (St w0 M σ)) (hm:P.follows .mixedOrders=true:=by exact mixed) (hB:orderB l.toArray fin plan=true:=by kernel_rfl) (hN:dstsB N l=true:=by decide):WP P r N (.region id l.toArray true) Q ρ ds (St w0 M σ):=
  WP.drawSel fin idx plan hm hB hN (by rw[e.h];exact h)
end
end
abbrev pT (i:Nat):Nat×Bool:=(i,true)
abbrev pF (i:Nat):Nat×Bool:=(i,false)
structure Bx (B:Prop):Prop where h:B
structure OpA (P:Program) (S:World→Prop) (o:Oper) (ρ:Env) (v:Value):Prop where h:OpV P S o ρ v
section
variable {P:Program} {r:Option Nat} {N d:Nat} {ops:Array Oper} {l rest:List Oper} {Q:XP} {ρ:Env} {ds:List Deferred} {S S':World→Prop} {x y:Operand} {ty t t2:TypeId} {pos:String} {af:Array Edge} {g:Option (Nat×Bool)} {dst:Option Tmp} {v:Value} {m n:Int} {b o o' k j c fi nn:Nat} {A:Option Addr}
theorem isI {z:Int} (h:v=.int .i64 z):v=.int .i64 z:=h
theorem isB {z:Bool} (h:v=.bool z):v=.bool z:=h
theorem isP {z:Option Addr} (h:v=.pointer z):v=.pointer z:=h
theorem isS {A:Option Addr} {n m:Nat} (h:v=.slice A n m):v=.slice A n m:=h
theorem a_field {fs:Array Field} {n1 n5 n6:String} {n2 n3 n7:Nat} {n4:Bool} {k:Nat} [hu:Und P t (.struct fs)] (hx:evo ρ x=.pointer (some ⟨b,o,none⟩)) (hf:fs[fi]?=some ⟨n1,n2,n3,n4,n5,n6,n7⟩) (hz:Siz P n2 k) (ho:o+n3=o'):
    OpA P S ⟨dst,.fieldAddr t x fi,ty,pos,af,g⟩ ρ (.pointer (some ⟨b,o',none⟩)):=⟨v_fieldL hu.h hf hz.h hx ho hz.p⟩
theorem a_index {e:TypeId} {N sz:Nat} {k:Int} [hu:Und P t (.array N e)] [hz:Siz P e sz] (hx:evo ρ x=.pointer (some ⟨b,o,none⟩)) (hy:evo ρ y=.int .i64 k) (hj:k=(j:Int)) (hlt:j<N) (ho:o+j*sz=o'):
    OpA P S ⟨dst,.indexAddr t x y,ty,pos,af,g⟩ ρ (.pointer (some ⟨b,o',none⟩)):=⟨ho▸v_indexA hu.h hz.h hx hy hj hlt⟩
theorem a_load {w0:World} {M:Nat→Prop} {σ:List HI} {u:Value} {ty':TypeId} {cs:List Value} [ha:IsA P t false] (hx:evo ρ x=.pointer (some ⟨b,o,none⟩)) (i:Nat) (hi:σ[i]?=some (.cl b ty' cs)) (hu:(cs.drop o).take 1=[u]):
    OpA P (St w0 M σ) ⟨dst,.load t x,ty,pos,af,g⟩ ρ u:=⟨v_load1 ha.h hx (fun _ hw=>hw.cl_at hi o hu)⟩
theorem l1I {l:List Value} {z:Int} (h:l=[.int .i64 z]):l=[.int .i64 z]:=h
theorem l1B {l:List Value} {z:Bool} (h:l=[.bool z]):l=[.bool z]:=h
theorem l1P {l:List Value} {z:Option Addr} (h:l=[.pointer z]):l=[.pointer z]:=h
theorem l1S {l:List Value} {A:Option Addr} {n m:Nat} (h:l=[.slice A n m]):l=[.slice A n m]:=h
theorem a_len {e:TypeId} {k c:Nat} [hu:Und P t (.slice e)] (hx:evo ρ x=.slice A k c):OpA P S ⟨dst,.call ⟨.builtin .len,#[x],#[t]⟩,ty,pos,af,g⟩ ρ (.int .i64 k):=⟨v_len hu.h hx⟩
theorem a_move (h:evo ρ x=v):OpA P S ⟨dst,.move x,ty,pos,af,g⟩ ρ v:=⟨v_move h⟩
theorem a_assign (h:evo ρ x=v):OpA P S ⟨dst,.assign x,ty,pos,af,g⟩ ρ v:=⟨v_assign h⟩
theorem a_lss (hx:evo ρ x=.int .i64 m) (hy:evo ρ y=.int .i64 n):OpA P S ⟨dst,.binOp .lss t x y t2,ty,pos,af,g⟩ ρ (.bool (decide (m<n))):=⟨v_lss hx hy⟩
theorem a_leq (hx:evo ρ x=.int .i64 m) (hy:evo ρ y=.int .i64 n):OpA P S ⟨dst,.binOp .leq t x y t2,ty,pos,af,g⟩ ρ (.bool (decide (m≤n))):=⟨v_leq hx hy⟩
theorem a_gtr (hx:evo ρ x=.int .i64 m) (hy:evo ρ y=.int .i64 n):OpA P S ⟨dst,.binOp .gtr t x y t2,ty,pos,af,g⟩ ρ (.bool (decide (n<m))):=⟨v_gtr hx hy⟩
theorem a_geq (hx:evo ρ x=.int .i64 m) (hy:evo ρ y=.int .i64 n):OpA P S ⟨dst,.binOp .geq t x y t2,ty,pos,af,g⟩ ρ (.bool (decide (n≤m))):=⟨v_geq hx hy⟩
theorem a_eql (hx:evo ρ x=.int .i64 m) (hy:evo ρ y=.int .i64 n):OpA P S ⟨dst,.binOp .eql t x y t2,ty,pos,af,g⟩ ρ (.bool (decide (m=n))):=⟨v_eql hx hy⟩
theorem a_neq (hx:evo ρ x=.int .i64 m) (hy:evo ρ y=.int .i64 n):OpA P S ⟨dst,.binOp .neq t x y t2,ty,pos,af,g⟩ ρ (.bool (decide (m≠n))):=⟨v_neq hx hy⟩
theorem a_not {b:Bool} (hx:evo ρ x=.bool b):OpA P S ⟨dst,.unOp .not t x,ty,pos,af,g⟩ ρ (.bool (!b)):=⟨v_not hx⟩
theorem a_max {ats:Array TypeId} (hx:evo ρ x=.int .i64 m) (hy:evo ρ y=.int .i64 n):OpA P S ⟨dst,.call ⟨.builtin .max,#[x,y],ats⟩,ty,pos,af,g⟩ ρ (.int .i64 (max m n)):=⟨v_max hx hy⟩
theorem a_min {ats:Array TypeId} (hx:evo ρ x=.int .i64 m) (hy:evo ρ y=.int .i64 n):OpA P S ⟨dst,.call ⟨.builtin .min,#[x,y],ats⟩,ty,pos,af,g⟩ ρ (.int .i64 (min m n)):=⟨v_min hx hy⟩
theorem a_add (hx:evo ρ x=.int .i64 m) (hy:evo ρ y=.int .i64 n) (h:-9223372036854775808≤m+n∧m+n≤9223372036854775807):OpA P S ⟨dst,.binOp .add t x y t2,ty,pos,af,g⟩ ρ (.int .i64 (m+n)):=⟨v_add hx hy h⟩
theorem a_sub (hx:evo ρ x=.int .i64 m) (hy:evo ρ y=.int .i64 n) (h:-9223372036854775808≤m - n∧m - n≤9223372036854775807):OpA P S ⟨dst,.binOp .sub t x y t2,ty,pos,af,g⟩ ρ (.int .i64 (m - n)):=⟨v_sub hx hy h⟩
theorem a_addL {z:Int} (hx:evo ρ x=.int .i64 m) (hy:evo ρ y=.int .i64 n) (e:m+n=z) (h:-9223372036854775808≤z∧z≤9223372036854775807):OpA P S ⟨dst,.binOp .add t x y t2,ty,pos,af,g⟩ ρ (.int .i64 z):=⟨v_addL hx hy e h⟩
theorem a_mul (hx:evo ρ x=.int .i64 m) (hy:evo ρ y=.int .i64 n) (h:-9223372036854775808≤m*n∧m*n≤9223372036854775807):OpA P S ⟨dst,.binOp .mul t x y t2,ty,pos,af,g⟩ ρ (.int .i64 (m*n)):=⟨v_mul hx hy h⟩
theorem a_indexS {e:TypeId} {sz n c:Nat} {k:Int} [hu:Und P t (.slice e)] [hz:Siz P e sz] (hx:evo ρ x=.slice (some ⟨b,o,none⟩) n c) (hy:evo ρ y=.int .i64 k) (hj:k=(j:Int)) (hlt:j<n):
    OpA P S ⟨dst,.indexAddr t x y,ty,pos,af,g⟩ ρ (.pointer (some ⟨b,o+j*sz,none⟩)):=⟨v_index hu.h hz.h hx hy hj hlt⟩
theorem a_pickT {c:Operand} (hc:evo ρ c=.bool true) (hx:evo ρ x=v):OpA P S ⟨dst,.pick c x y,ty,pos,af,g⟩ ρ v:=⟨v_pickT hc hx⟩
theorem a_pickF {c:Operand} (hc:evo ρ c=.bool false) (hx:evo ρ y=v):OpA P S ⟨dst,.pick c x y,ty,pos,af,g⟩ ρ v:=⟨v_pickF hc hx⟩
theorem a_extract {k:Nat} {vs:Array Value} (hx:evo ρ x=.tuple vs) (hv:vs[k]?=some v):OpA P S ⟨dst,.extract x k,ty,pos,af,g⟩ ρ v:=⟨v_extract hx hv⟩
theorem a_loadA {w0:World} {M:Nat→Prop} {σ:List HI} {us cs:List Value} {ty':TypeId} [ha:IsA P t true] (hz:Siz P t us.length) (hx:evo ρ x=.pointer (some ⟨b,o,none⟩)) (i:Nat) (hi:σ[i]?=some (.cl b ty' cs)) (hu:(cs.drop o).take us.length=us):
    OpA P (St w0 M σ) ⟨dst,.load t x,ty,pos,af,g⟩ ρ (.agg us.toArray):=⟨v_loadA ha.h hz.h hx (fun _ hw=>hw.cl_at hi o hu)⟩
theorem a_nil {a:Addr} (hx:evo ρ x=.pointer (some a)):OpA P S ⟨dst,.nilCheck x,ty,pos,af,g⟩ ρ (.pointer (some a)):=⟨v_nil hx⟩
structure InCl (σ:List HI) (b:Nat) (ty:TypeId) (cs:List Value):Prop where h:∃i:Nat,σ[i]?=some (HI.cl b ty cs)
theorem lkk {σ:List HI} {cs:List Value} (i:Nat) (h:σ[i]?=some (HI.cl b ty cs)):InCl σ b ty cs:=⟨i,h⟩
theorem a_ld {w0:World} {M:Nat→Prop} {σ:List HI} {u:Value} {ty':TypeId} {cs:List Value} [ha:IsA P t false] (hx:evo ρ x=.pointer (some ⟨b,o,none⟩)) (hi:InCl σ b ty' cs) (hu:(cs.drop o).take 1=[u]):
    OpA P (St w0 M σ) ⟨dst,.load t x,ty,pos,af,g⟩ ρ u:=hi.h.elim fun i hi=>a_load hx i hi hu
theorem a_ldA {w0:World} {M:Nat→Prop} {σ:List HI} {us cs:List Value} {ty':TypeId} {k:Nat} [ha:IsA P t true] [hz:Siz P t k] (hk:us.length=k) (hx:evo ρ x=.pointer (some ⟨b,o,none⟩)) (hi:InCl σ b ty' cs) (hu:(cs.drop o).take us.length=us):
    OpA P (St w0 M σ) ⟨dst,.load t x,ty,pos,af,g⟩ ρ (.agg us.toArray):=hi.h.elim fun i hi=>a_loadA (hk▸hz) hx i hi hu
theorem sI {q:Option Value} {z:Int} (h:q=some (.int .i64 z)):q=some (.int .i64 z):=h
theorem sB {q:Option Value} {z:Bool} (h:q=some (.bool z)):q=some (.bool z):=h
theorem sP {q:Option Value} {z:Option Addr} (h:q=some (.pointer z)):q=some (.pointer z):=h
theorem sS {q:Option Value} {A:Option Addr} {n m:Nat} (h:q=some (.slice A n m)):q=some (.slice A n m):=h
theorem ov {o : Oper} (h : OpA P S o ρ v := by first
    | (apply a_move; first | exact isI rfl | exact isP rfl | exact isS rfl | exact isB rfl)
    | (apply a_assign; first | exact isI rfl | exact isP rfl | exact isS rfl | exact isB rfl)
    | (apply a_field; exact rfl; exact rfl; infer_instance; (first | (simp only [Nat.reduceAdd, Nat.reduceMul]; exact rfl) | simp only [Nat.reduceAdd, Nat.reduceMul] | exact rfl))
    | (apply a_ld; exact rfl; (first | exact lkk 0 rfl | exact lkk 1 rfl | exact lkk 2 rfl | exact lkk 3 rfl | exact lkk 4 rfl | exact lkk 5 rfl | exact lkk 6 rfl | exact lkk 7 rfl | exact lkk 8 rfl | exact lkk 9 rfl | exact lkk 10 rfl | exact lkk 11 rfl | exact lkk 12 rfl | exact lkk 13 rfl); first | exact l1I rfl | exact l1P rfl | exact l1S rfl | exact l1B rfl)
    | (apply a_ldA (us := [.int .i64 _, .int .i64 _]); exact rfl; exact rfl; (first | exact lkk 0 rfl | exact lkk 1 rfl | exact lkk 2 rfl | exact lkk 3 rfl | exact lkk 4 rfl | exact lkk 5 rfl | exact lkk 6 rfl | exact lkk 7 rfl | exact lkk 8 rfl | exact lkk 9 rfl | exact lkk 10 rfl | exact lkk 11 rfl | exact lkk 12 rfl | exact lkk 13 rfl); exact rfl)
    | (apply a_ldA (us := [.int .i64 _, .int .i64 _, .int .i64 _, .int .i64 _]); exact rfl; exact rfl; (first | exact lkk 0 rfl | exact lkk 1 rfl | exact lkk 2 rfl | exact lkk 3 rfl | exact lkk 4 rfl | exact lkk 5 rfl | exact lkk 6 rfl | exact lkk 7 rfl | exact lkk 8 rfl | exact lkk 9 rfl | exact lkk 10 rfl | exact lkk 11 rfl | exact lkk 12 rfl | exact lkk 13 rfl); exact rfl)
    | (apply a_ldA (us := [.int .i64 _, .int .i64 _, .int .i64 _, .int .i64 _, .int .i64 _]); exact rfl; exact rfl; (first | exact lkk 0 rfl | exact lkk 1 rfl | exact lkk 2 rfl | exact lkk 3 rfl | exact lkk 4 rfl | exact lkk 5 rfl | exact lkk 6 rfl | exact lkk 7 rfl | exact lkk 8 rfl | exact lkk 9 rfl | exact lkk 10 rfl | exact lkk 11 rfl | exact lkk 12 rfl | exact lkk 13 rfl); exact rfl)
    | (apply a_ldA (us := [.int .i64 _, .int .i64 _, .int .i64 _, .int .i64 _, .int .i64 _, .slice _ _ _]); exact rfl; exact rfl; (first | exact lkk 0 rfl | exact lkk 1 rfl | exact lkk 2 rfl | exact lkk 3 rfl | exact lkk 4 rfl | exact lkk 5 rfl | exact lkk 6 rfl | exact lkk 7 rfl | exact lkk 8 rfl | exact lkk 9 rfl | exact lkk 10 rfl | exact lkk 11 rfl | exact lkk 12 rfl | exact lkk 13 rfl); exact rfl)
    | (apply a_index (j := 0); exact rfl; exact rfl; exact rfl; decide; (first | (simp only [Nat.reduceAdd, Nat.reduceMul]; exact rfl) | simp only [Nat.reduceAdd, Nat.reduceMul] | exact rfl))
    | (apply a_index (j := 1); exact rfl; exact rfl; exact rfl; decide; (first | (simp only [Nat.reduceAdd, Nat.reduceMul]; exact rfl) | simp only [Nat.reduceAdd, Nat.reduceMul] | exact rfl))
    | (apply a_index (j := 2); exact rfl; exact rfl; exact rfl; decide; (first | (simp only [Nat.reduceAdd, Nat.reduceMul]; exact rfl) | simp only [Nat.reduceAdd, Nat.reduceMul] | exact rfl))
    | (apply a_index (j := 3); exact rfl; exact rfl; exact rfl; decide; (first | (simp only [Nat.reduceAdd, Nat.reduceMul]; exact rfl) | simp only [Nat.reduceAdd, Nat.reduceMul] | exact rfl))
    | (apply a_indexS; exact rfl; exact rfl; exact rfl; omega)
    | (apply a_indexS (j := 0); exact rfl; exact rfl; exact rfl; omega)
    | (apply a_lss; exact rfl; exact rfl)
    | (apply a_len; exact rfl)
    | (apply a_nil; exact rfl)
    | (apply a_leq; exact rfl; exact rfl)
    | (apply a_gtr; exact rfl; exact rfl)
    | (apply a_geq; exact rfl; exact rfl)
    | (apply a_eql; exact rfl; exact rfl)
    | (apply a_neq; exact rfl; exact rfl)
    | (apply a_not; exact rfl)
    | (apply a_max; exact rfl; exact rfl)
    | (apply a_min; exact rfl; exact rfl)
    | (apply a_addL; exact rfl; exact rfl; (first | (simp only [Int.reduceAdd]; exact rfl) | simp only [Int.reduceAdd]); omega)
    | (apply a_add; exact rfl; exact rfl; omega)
    | (apply a_mul; exact rfl; exact rfl; omega)
    | (apply a_sub; exact rfl; exact rfl; omega)
    | (apply a_pickT; exact rfl; first | exact isI rfl | exact isP rfl | exact isS rfl | exact isB rfl)
    | (apply a_pickF; exact rfl; first | exact isI rfl | exact isP rfl | exact isS rfl | exact isB rfl)
    | (apply a_extract; exact rfl; first | exact sI rfl | exact sP rfl | exact sS rfl | exact sB rfl)) : OpV P S o ρ v := h.h
theorem av {o:Oper} (k:WPL P r N ops rest Q (upd ρ d v) ds S) (hg:o.guard=none:=by rfl) (hd:o.dst=some d:=by rfl) (hN:d<N:=by decide) (h:OpV P S o ρ v:=by exact ov) (hdf:notDefer o=true:=by rfl):WPL P r N ops (o::rest) Q ρ ds S:=WPL.val h k hg hd hN hdf
theorem ag {o:Oper} (k:WPL P r N l.toArray rest Q (upd ρ d v) ds S) (hw:wants l.toArray ρ o=true:=by rfl) (hd:o.dst=some d:=by rfl) (hN:d<N:=by decide) (hl:dstsB N l=true:=by decide) (h:OpV P S o ρ v:=by exact ov) (hdf:notDefer o=true:=by rfl):WPL P r N l.toArray (o::rest) Q ρ ds S:=WPL.valG h k hl hw hd hN hdf
theorem akk {o:Oper} (k:WPL P r N l.toArray rest Q (upd ρ d undef) ds S) (hw:wants l.toArray ρ o=false:=by rfl) (hd:o.dst=some d:=by rfl) (hN:d<N:=by decide) (hl:dstsB N l=true:=by decide):WPL P r N l.toArray (o::rest) Q ρ ds S:=WPL.skipG k hl hw hd hN
theorem ad {l:List Oper} {fin:Option Nat} {Sh:World→Prop} {i:Nat} {plan:List (Nat×Bool)} {o:Oper} (k:WPD P r N l fin Sh plan Q (upd ρ d v) ds S) (hi:l[i]?=some o:=by rfl) (hw:wants l.toArray ρ o=true:=by rfl) (hv:OpV P Sh o ρ v:=by exact ov)
    (hS:∀w,S w→Sh w:=by first | exact fun _ h=>h | exact fun _ h=>St.pk h | exact fun _ h=>h.sel _ (by decide)) (hif:some i≠fin:=by decide) (hd:o.dst=some d:=by rfl):WPD P r N l fin Sh ((i,true)::plan) Q ρ ds S:=WPD.take hi hv k hS hif hw hd
theorem aF {l:List Oper} {Sh:World→Prop} {f n m:Nat} (m' i:Nat) {o:Oper} (k:WPF P r N l Sh f n m' Q (upd ρ d v) ds S) (hc:tkB l n m m' i=true:=by kernel_rfl) (hi:l[i]?=some o:=by rfl) (hw:wants l.toArray ρ o=true:=by rfl) (hv:OpV P Sh o ρ v:=by exact ov)
    (hS:∀w,S w→Sh w:=by first | exact fun _ h=>h | exact fun _ h=>St.pk h | exact fun _ h=>h.sel _ (by decide)) (hd:o.dst=some d:=by rfl):WPF P r N l Sh (f+1) n m Q ρ ds S:=WPF.tk m' i hc hi hv k hS hw hd
theorem gg {A B : Prop} (k : B) (h : Bx B → A := by
    intro k
    repeat (first | refine av ?_ | refine ad ?_ | refine WPD.nil (onto_of ?_) | refine nl (oo ?_) | refine sqR ?_ | refine sq ?_ | refine WP.skip (onto_of ?_) | refine WP.region ?_ | refine WP.block ?_ | refine akk ?_ | refine ag ?_)
    exact k.h) : A := h ⟨k⟩
theorem n1 {A B : Prop} (k : B) (h : Bx B → A := by
    intro k
    iterate 1 (first | refine av ?_ | refine ad ?_ | refine WPD.nil (onto_of ?_) | refine nl (oo ?_) | refine sqR ?_ | refine sq ?_ | refine WP.skip (onto_of ?_) | refine WP.region ?_ | refine WP.block ?_ | refine akk ?_ | refine ag ?_)
    exact k.h) : A := h ⟨k⟩
theorem n2 {A B : Prop} (k : B) (h : Bx B → A := by
    intro k
    iterate 2 refine n1 ?_
    exact k.h) : A := h ⟨k⟩
theorem n3 {A B : Prop} (k : B) (h : Bx B → A := by
    intro k
    iterate 3 refine n1 ?_
    exact k.h) : A := h ⟨k⟩
theorem n4 {A B : Prop} (k : B) (h : Bx B → A := by
    intro k
    iterate 4 refine n1 ?_
    exact k.h) : A := h ⟨k⟩
theorem n5 {A B : Prop} (k : B) (h : Bx B → A := by
    intro k
    iterate 5 refine n1 ?_
    exact k.h) : A := h ⟨k⟩
theorem n6 {A B : Prop} (k : B) (h : Bx B → A := by
    intro k
    iterate 6 refine n1 ?_
    exact k.h) : A := h ⟨k⟩
theorem n7 {A B : Prop} (k : B) (h : Bx B → A := by
    intro k
    iterate 7 refine n1 ?_
    exact k.h) : A := h ⟨k⟩
theorem n8 {A B : Prop} (k : B) (h : Bx B → A := by
    intro k
    iterate 8 refine n1 ?_
    exact k.h) : A := h ⟨k⟩
theorem n9 {A B : Prop} (k : B) (h : Bx B → A := by
    intro k
    iterate 9 refine n1 ?_
    exact k.h) : A := h ⟨k⟩
theorem n10 {A B : Prop} (k : B) (h : Bx B → A := by
    intro k
    iterate 10 refine n1 ?_
    exact k.h) : A := h ⟨k⟩
theorem n11 {A B : Prop} (k : B) (h : Bx B → A := by
    intro k
    iterate 11 refine n1 ?_
    exact k.h) : A := h ⟨k⟩
theorem n12 {A B : Prop} (k : B) (h : Bx B → A := by
    intro k
    iterate 12 refine n1 ?_
    exact k.h) : A := h ⟨k⟩
theorem n13 {A B : Prop} (k : B) (h : Bx B → A := by
    intro k
    iterate 13 refine n1 ?_
    exact k.h) : A := h ⟨k⟩
theorem n14 {A B : Prop} (k : B) (h : Bx B → A := by
    intro k
    iterate 14 refine n1 ?_
    exact k.h) : A := h ⟨k⟩
theorem n15 {A B : Prop} (k : B) (h : Bx B → A := by
    intro k
    iterate 15 refine n1 ?_
    exact k.h) : A := h ⟨k⟩
theorem n16 {A B : Prop} (k : B) (h : Bx B → A := by
    intro k
    iterate 16 refine n1 ?_
    exact k.h) : A := h ⟨k⟩
end
section
variable {P:Program} {ρ:Env} {S:World→Prop} {x y:Operand} {ty t t2:TypeId} {pos:String} {af:Array Edge} {g:Option (Nat×Bool)} {dst:Option Tmp} {m n:Int} {b o k c fi:Nat} {A:Option Addr} {w0:World} {M:Nat→Prop} {σ:List HI}
theorem vF {fs:Array Field} {n1 n5 n6:String} {n2 n3 n7:Nat} {n4:Bool} {k:Nat} [hu:Und P t (.struct fs)] (hx:evo ρ x=.pointer (some ⟨b,o,none⟩):=by rfl) (hf:fs[fi]?=some ⟨n1,n2,n3,n4,n5,n6,n7⟩:=by rfl) (hz:Siz P n2 k:=by infer_instance):
    OpV P S ⟨dst,.fieldAddr t x fi,ty,pos,af,g⟩ ρ (.pointer (some ⟨b,o+n3,none⟩)):=v_field hu.h hf hz.h hx rfl hz.p
theorem vX {e:TypeId} {sz n c:Nat} {k:Int} (j:Nat) [hu:Und P t (.slice e)] [hz:Siz P e sz] (hx:evo ρ x=.slice (some ⟨b,o,none⟩) n c:=by rfl) (hy:evo ρ y=.int .i64 k:=by rfl) (hj:k=(j:Int):=by first | rfl | omega) (hlt:j<n:=by omega):
    OpV P S ⟨dst,.indexAddr t x y,ty,pos,af,g⟩ ρ (.pointer (some ⟨b,o+j*sz,none⟩)):=v_index hu.h hz.h hx hy hj hlt
theorem vL (k:Int) (hx:evo ρ x=.int .i64 m:=by rfl) (hy:evo ρ y=.int .i64 n:=by rfl) (e:m+n=k:=by rfl) (h:-9223372036854775808≤k∧k≤9223372036854775807:=by omega):OpV P S ⟨dst,.binOp .add t x y t2,ty,pos,af,g⟩ ρ (.int .i64 k):=v_addL hx hy e h
theorem vM (hx:evo ρ x=.int .i64 m:=by rfl) (hy:evo ρ y=.int .i64 n:=by rfl) (h:-9223372036854775808≤m*n∧m*n≤9223372036854775807:=by omega):OpV P S ⟨dst,.binOp .mul t x y t2,ty,pos,af,g⟩ ρ (.int .i64 (m*n)):=v_mul hx hy h
theorem vC {f:FuncId} {xs:List Operand} {ats:Array TypeId} {args:List Value} {v:Value} (hc:∀{w:World},Calls P f args.toArray w fun e w'=>e=.returned v∧w=w') (ha:xs.map (evo ρ)=args:=by rfl) [hf:Cal P f]:OpV P S ⟨dst,.call ⟨.value (.func f),xs.toArray,ats⟩,ty,pos,af,g⟩ ρ v:=
  v_call hf.h (fun _ _=>hc) ha
theorem vO {u:Value} (hc:CellsAt w0 b o [u]) (hx:evo ρ x=.pointer (some ⟨b,o,none⟩):=by rfl) [ha:IsA P t false]:OpV P (St w0 (foots []) σ) ⟨dst,.load t x,ty,pos,af,g⟩ ρ u:=v_load1 ha.h hx (fun _ hw=>hw.old_at hc (not_foots_nil _))
theorem vW {cs:List Value} {i tc:Nat} (hl:cs.length=k) (hx:evo ρ x=.pointer (some ⟨b,0,none⟩):=by rfl) [ha:IsA P t true] [hz:Siz P t k] [hi:Fi b σ i tc cs]:OpV P (St w0 M σ) ⟨dst,.load t x,ty,pos,af,g⟩ ρ (.agg cs.toArray):=v_loadA ha.h hz.h hx (fun _ hw=>hw.cl_at hi.h 0 (whole _)) hl
theorem vS {cs s:List Value} {i tc:Nat} (hs:SOk s) (k:Nat) (hx:evo ρ x=.pointer (some ⟨b,k,none⟩):=by rfl) (hk:k<55:=by decide) (hb:isBit k=false:=by rfl) (e:cs=s:=by rfl) [ha:IsA P t false] [hi:Fi b σ i tc cs]:OpV P (St w0 M σ) ⟨dst,.load t x,ty,pos,af,g⟩ ρ (.int .i64 (val s k)):=
  v_load1 ha.h hx (fun _ hw=>hw.cl_at (e▸hi.h) k (cell_of (SOk.int hs k hk hb)))
theorem vS2 {cs s:List Value} {i tc:Nat} (hs:SOk s) (k l:Nat) (hx:evo ρ x=.pointer (some ⟨b,k,none⟩):=by rfl) (hk:k+2≤55:=by decide) (hb:((List.range' k 2).all fun j=> !isBit j)=true:=by rfl) (hl:k+1=l:=by rfl) (e:cs=s:=by rfl) [ha:IsA P t true] [hz:Siz P t 2] [hi:Fi b σ i tc cs]:
    OpV P (St w0 M σ) ⟨dst,.load t x,ty,pos,af,g⟩ ρ (.agg [.int .i64 (val s k),.int .i64 (val s l)].toArray):=
  v_loadA ha.h hz.h hx (fun _ hw=>hw.cl_at (e▸hi.h) k (SOk.segE hs 2 k hk hb rfl (by subst hl;rfl)))
theorem vS4 {cs s:List Value} {i tc:Nat} (hs:SOk s) (k k1 k2 k3:Nat) (hx:evo ρ x=.pointer (some ⟨b,k,none⟩):=by rfl) (hk:k+4≤55:=by decide) (hb:((List.range' k 4).all fun j=> !isBit j)=true:=by rfl) (h1:k+1=k1:=by rfl) (h2:k1+1=k2:=by rfl) (h3:k2+1=k3:=by rfl) (e:cs=s:=by rfl) [ha:IsA P t true] [hz:Siz P t 4] [hi:Fi b σ i tc cs]:
    OpV P (St w0 M σ) ⟨dst,.load t x,ty,pos,af,g⟩ ρ (.agg [.int .i64 (val s k),.int .i64 (val s k1),.int .i64 (val s k2),.int .i64 (val s k3)].toArray):=
  v_loadA ha.h hz.h hx (fun _ hw=>hw.cl_at (e▸hi.h) k (SOk.segE hs 4 k hk hb rfl (by subst h1 h2 h3;rfl)))
theorem vR {tc sz gb nn cap:Nat} {z:Int} {xs:List Value} (i:Nat) [hi:Ge i σ (.row tc sz (some ⟨gb,0,none⟩) nn cap xs)] [ha:IsA P t false] (hu:xs[k]?=some (.int .i64 z)) (hx:evo ρ x=.pointer (some ⟨gb,o,none⟩):=by rfl) (ho:o=k:=by omega):OpV P (St w0 M σ) ⟨dst,.load t x,ty,pos,af,g⟩ ρ (.int .i64 z):=
  v_load1 ha.h hx (fun _ hw=>hw.row_at1 hi.h hu ho)
end
section
variable {P:Program} {r:Option Nat} {N d:Nat} {l:List Oper} {Q:XP} {ρ:Env} {ds:List Deferred} {S Sh:World→Prop} {o:Oper} {u:Value} {f q nn:Nat}
theorem aG (i:Nat) (k:WPF P r N l Sh f nn (q||| 2 ^ i) Q (upd ρ d u) ds S) (hc:tkB l nn q (q||| 2 ^ i) i=true:=by kernel_rfl) (hi:l[i]?=some o:=by rfl) (hw:wants l.toArray ρ o=true:=by rfl) (hv:OpV P Sh o ρ u:=by exact ov)
    (hS:∀w,S w→Sh w:=by first | exact fun _ h=>h | exact fun _ h=>St.pk h) (hd:o.dst=some d:=by rfl):WPF P r N l Sh (f+1) nn q Q ρ ds S:=WPF.tk _ i hc hi hv k hS hw hd
end
section
variable {P:Program} {r:Option Nat} {N d:Nat} {l:List Oper} {Q:XP} {ρ:Env} {ds:List Deferred} {S Sh:World→Prop} {o:Oper} {fin:Option Nat} {plan:List (Nat×Bool)} {i:Nat}
theorem dS (k:WPD P r N l fin Sh plan Q (upd ρ d undef) ds S) (hi:l[i]?=some o:=by rfl) (hw:wants l.toArray ρ o=false:=by rfl) (hS:∀w,S w→Sh w:=by first | exact fun _ h=>h | exact fun _ h=>St.pk h) (hif:some i≠fin:=by decide) (hd:o.dst=some d:=by rfl):WPD P r N l fin Sh ((i,true)::plan) Q ρ ds S:=
  WPD.skip hi k hS hif hw hd
end
abbrev zl42:=Zl.mk (us:=zeroS) ⟨_,Tryz.zeroValue42,rfl⟩
attribute [instance] zl42
theorem xZ {P:Program} {r:Option Nat} {ρ:Env} {w0:World} {M:Nat→Prop} {σ τ:List HI} {dst:Option Tmp} {ty:TypeId} {pos:String} {af:Array Edge} {g:Option (Nat×Bool)} {x y:Operand} {t tc:TypeId} {i b:Nat} {us:List Value} (hs:SOk us) (hx:evo ρ x=.pointer (some ⟨b,0,none⟩)) (hy:evo ρ y=.agg us.toArray:=by rfl) [hz:Siz P t 55] [hi:Fi b σ i tc zeroS] [hσ:Se i σ (.cl b tc us) τ]:
    OpX P r (St w0 M σ) ⟨dst,.store t x y,ty,pos,af,g⟩ ρ (X:=Unit) (fun _=>undef) (fun _=>St w0 M τ):=x_storeW hz.h hx hy hi.h hs.len hσ.h hs.one hs.len
class Fnc (P:Program) (f:FuncId) (fn:outParam Func):Prop where h:P.funcs[f]?=some fn
class Ntm (fn:Func) (n:outParam Nat):Prop where h:fn.ntmps=n
class Rs1 (fn:Func) (t:outParam Tmp):Prop where h:fn.results=#[.tmp t]
class Rs2 (fn:Func) (t u:outParam Tmp):Prop where h:fn.results=#[.tmp t,.tmp u]
class RsC (fn:Func) (t:outParam Tmp) (ty:outParam TypeId):Prop where h:fn.results=#[.cell t ty]
class Inf (P:Program) (t:TypeId) (z:outParam Value) (sz bytes:outParam Nat):Prop where
  h:(P.info? t).map (fun i=>(i.zero,i.size,i.bytes))=some (some z,sz,bytes)
  s:z.cells.size=sz
  p:0<sz
class RQ (P:Program) (Q:XP) (fn:outParam Func) (R:outParam (Value→World→Prop)):Prop where h:∀ρ w,RetQ P fn R .ret ρ [] w→Q .ret ρ [] w
instance {P:Program} {fn:Func} {R:Value→World→Prop}:RQ P (RetQ P fn R) fn R:=⟨fun _ _ h=>h⟩
instance {P:Program} {K:Env→List Deferred→World→Prop} {Q:XP} {fn:Func} {R:Value→World→Prop} [q:RQ P Q fn R]:RQ P (thenE K Q) fn R:=⟨fun ρ w h=>q.h ρ w h⟩
instance {P:Program} {i:Nat} {Q:XP} {fn:Func} {R:Value→World→Prop} [q:RQ P Q fn R]:RQ P (inB i Q) fn R:=⟨fun ρ w h=>q.h ρ w h⟩
section
variable {P:Program} {r:Option Nat} {N:Nat} {Q:XP} {ρ:Env} {S:World→Prop} {fn:Func} {R:Value→World→Prop} {t u:Tmp}
theorem rt1 [hq:RQ P Q fn R] [hr:Rs1 fn t] (h:∀w,S w→R (ρ t) w):WP P r N .ret Q ρ [] S:=WP.ret1 hr.h (hq.h ρ) h
theorem rt2 [hq:RQ P Q fn R] [hr:Rs2 fn t u] (h:∀w,S w→R (.tuple #[ρ t,ρ u]) w):WP P r N .ret Q ρ [] S:=WP.ret2 hr.h (hq.h ρ) h
theorem rtC {w0:World} {M:Nat→Prop} {σ:List HI} {ty tc:TypeId} {b i k:Nat} {us:List Value} [hq:RQ P Q fn R] [hr:RsC fn t ty] [ha:IsA P ty true] [hz:Siz P ty k] (hx:ρ t=.pointer (some ⟨b,0,none⟩)) (h:∀w,St w0 M σ w→R (.agg us.toArray) w) (hk:us.length=k:=by rfl) [hi:Fi b σ i tc us]:WP P r N .ret Q ρ [] (St w0 M σ):=
  WP.retC hr.h hx ha.h hz.h (fun w hw=>hw.cl_at hi.h 0 (by simp)) hk (hq.h ρ) h
theorem Ci {f:FuncId} {c:Code} {args:Array Value} {pre:List HI} {Fact:World→Prop} {X:Type} {v:X→Value} {facts:X→Prop} {post:X→List HI} [hf:Fnc P f fn] [hn:Ntm fn N]
    (h:∀w,Fact w→WP P none N c (RetQ P fn (fun u w'=>∃x,u=v x∧facts x∧St w (foots pre) (post x) w')) (argEnv args.toList) [] (St w (foots pre) pre)) (hb:fn.body=some c:=by rfl) (ha:args.size≤N:=by simp):Ct P f args pre Fact v facts post:=Ct.intro hf.h hb hn.h ha h
end
section
variable {P:Program} {r:Option Nat} {ρ:Env} {w0:World} {M:Nat→Prop} {σ:List HI} {dst:Option Tmp} {ty:TypeId} {pos:String} {af:Array Edge} {g:Option (Nat×Bool)} {x y:Operand} {t te:TypeId}
theorem xN {σ':Nat→List HI} {sz n:Nat} {z:Value} {us:List Value} {parts:List (Nat×Operand)} [ht:Und P t (.slice te)] [hz:Siz P te sz] [hv:Zer P te z] (hu:(parts.flatMap fun p=>(evo ρ p.2).cells.toList)=us) (hi:parts.map (·.1)=List.range' 0 n:=by rfl) (hc':parts.map (fun p=>(evo ρ p.2).cells.size)=List.replicate n sz:=by rfl)
    (hn:n*sz≤16777216:=by decide) (h0:n*sz≠0:=by decide) [hσ:∀b,Ap σ [.row te sz (some ⟨b,0,none⟩) n n us] (σ' b)]:
    OpX P r (St w0 M σ) ⟨dst,.buildSlice t n parts.toArray,ty,pos,af,g⟩ ρ (X:=Nat) (fun b=>.slice (some ⟨b,0,none⟩) n n) (fun b=>St w0 M (σ' b)):=x_buildSlice ht.h hz.h hv.h hi hc' hu hn h0 fun b=>(hσ b).h
theorem L1 {l:List Value} {a:Int} (h:l=[.int .i64 a]):l=[.int .i64 a]:=h
theorem L2 {l:List Value} {a b:Int} (h:l=[.int .i64 a,.int .i64 b]):l=[.int .i64 a,.int .i64 b]:=h
theorem L5 {l:List Value} {a b c d e:Int} (h:l=[.int .i64 a,.int .i64 b,.int .i64 c,.int .i64 d,.int .i64 e]):l=[.int .i64 a,.int .i64 b,.int .i64 c,.int .i64 d,.int .i64 e]:=h
theorem LF {l:List Value} {a b c d e:Int} {A:Option Addr} {n m:Nat} (h:l=[.int .i64 a,.int .i64 b,.int .i64 c,.int .i64 d,.int .i64 e,.slice A n m]):l=[.int .i64 a,.int .i64 b,.int .i64 c,.int .i64 d,.int .i64 e,.slice A n m]:=h
theorem xP {n cap sz sz2 bytes m c2 c:Nat} {t2:TypeId} {A B:Option Addr} {xs news:List Value} {z:Value} {σ':Option Addr×Nat→List HI} (i j:Nat) [ht:Und P t (.slice te)] [hinfo:Inf P te z sz bytes] [hi:Ge i σ (.row te sz A n cap xs)] [hj:Ge j σ (.row t2 sz2 B m c2 news)]
    (hx:evo ρ x=.slice A n cap:=by rfl) (hy:evo ρ y=.slice B m c:=by rfl) (hl:news.length=m*sz:=by rfl) (h1:∀u∈news,u.oneCell'=true:=by simp[Value.oneCell']) (hm:n+m≤9223372036854775807:=by omega) (hby:(n+m)*bytes≤140737488355328:=by omega) [hσ:∀p:Option Addr×Nat,Se i σ (.row te sz p.1 (n+m) p.2 (xs++news)) (σ' p)]:
    OpX P r (St w0 M σ) ⟨dst,.call ⟨.builtin .append,#[x,y],#[t,t]⟩,ty,pos,af,g⟩ ρ (X:=Option Addr×Nat) (fun p=>.slice p.1 (n+m) p.2) (fun p=>St w0 M (σ' p)):=
  x_append ht.h hinfo.h hinfo.s hinfo.p hx hy hi.h (fun w hw=>hw.src_row hj.h) hl h1 hm hby fun p=>(hσ p).h
end
theorem jI {a b:Value} {z:Int} (h:a=.int .i64 z:=by rfl) (h':Value.int .i64 z=b:=by rfl):a=b:=h.trans h'
theorem jB {a b:Value} {z:Bool} (h:a=.bool z:=by rfl) (h':Value.bool z=b:=by rfl):a=b:=h.trans h'
theorem jP {a b:Value} {z:Option Addr} (h:a=.pointer z:=by rfl) (h':Value.pointer z=b:=by rfl):a=b:=h.trans h'
theorem jS {a b:Value} {A:Option Addr} {n c:Nat} (h:a=.slice A n c:=by rfl) (h':Value.slice A n c=b:=by rfl):a=b:=h.trans h'
theorem sl {P:Program} {r:Option Nat} {N:Nat} {Q:XP} {ρ:Env} {ds:List Deferred} {c:Code} {w0:World} {M:Nat→Prop} {σ π:List HI} (l:List Nat) [e:Gs l σ π] (h:WP P r N c Q ρ ds (St w0 M π)) (hn:l.Nodup:=by decide):WP P r N c Q ρ ds (St w0 M σ):=
  WP.pre h fun _ hw=>e.h▸hw.sel l hn
abbrev ci100:=Cal.mk Tryz.call100
abbrev ci101:=Cal.mk Tryz.call101
abbrev ci102:=Cal.mk Tryz.call102
abbrev ci103:=Cal.mk Tryz.call103
abbrev ci104:=Cal.mk Tryz.call104
abbrev ci105:=Cal.mk Tryz.call105
abbrev ci106:=Cal.mk Tryz.call106
abbrev ci107:=Cal.mk Tryz.call107
abbrev ci108:=Cal.mk Tryz.call108
abbrev ci109:=Cal.mk Tryz.call109
abbrev ci110:=Cal.mk Tryz.call110
abbrev ci111:=Cal.mk Tryz.call111
abbrev ci112:=Cal.mk Tryz.call112
abbrev ci113:=Cal.mk Tryz.call113
abbrev ci114:=Cal.mk Tryz.call114
abbrev ci115:=Cal.mk Tryz.call115
abbrev ci116:=Cal.mk Tryz.call116
abbrev ci117:=Cal.mk Tryz.call117
abbrev ci118:=Cal.mk Tryz.call118
abbrev ci119:=Cal.mk Tryz.call119
abbrev ci120:=Cal.mk Tryz.call120
abbrev ci133:=Cal.mk Tryz.call133
abbrev ci134:=Cal.mk Tryz.call134
abbrev ci135:=Cal.mk Tryz.call135
abbrev ci136:=Cal.mk Tryz.call136
abbrev ci137:=Cal.mk Tryz.call137
abbrev ci138:=Cal.mk Tryz.call138
abbrev ci139:=Cal.mk Tryz.call139
abbrev ci140:=Cal.mk Tryz.call140
abbrev ci141:=Cal.mk Tryz.call141
abbrev ci142:=Cal.mk Tryz.call142
abbrev ci143:=Cal.mk Tryz.call143
abbrev ci144:=Cal.mk Tryz.call144
abbrev ci145:=Cal.mk Tryz.call145
abbrev ci146:=Cal.mk Tryz.call146
abbrev ci147:=Cal.mk Tryz.call147
abbrev ci148:=Cal.mk Tryz.call148
abbrev ci149:=Cal.mk Tryz.call149
abbrev ci150:=Cal.mk Tryz.call150
abbrev ci151:=Cal.mk Tryz.call151
abbrev ci152:=Cal.mk Tryz.call152
abbrev ci153:=Cal.mk Tryz.call153
abbrev ci154:=Cal.mk Tryz.call154
abbrev ci155:=Cal.mk Tryz.call155
abbrev ci156:=Cal.mk Tryz.call156
abbrev ci157:=Cal.mk Tryz.call157
abbrev ci158:=Cal.mk Tryz.call158
abbrev ci159:=Cal.mk Tryz.call159
abbrev ci160:=Cal.mk Tryz.call160
abbrev ci161:=Cal.mk Tryz.call161
abbrev ci167:=Cal.mk Tryz.call167
abbrev ci168:=Cal.mk Tryz.call168
abbrev ci169:=Cal.mk Tryz.call169
abbrev ci17:=Cal.mk Tryz.call17
abbrev ci170:=Cal.mk Tryz.call170
abbrev ci171:=Cal.mk Tryz.call171
abbrev ci172:=Cal.mk Tryz.call172
abbrev ci173:=Cal.mk Tryz.call173
abbrev ci174:=Cal.mk Tryz.call174
abbrev ci175:=Cal.mk Tryz.call175
abbrev ci176:=Cal.mk Tryz.call176
abbrev ci177:=Cal.mk Tryz.call177
abbrev ci178:=Cal.mk Tryz.call178
abbrev ci179:=Cal.mk Tryz.call179
abbrev ci18:=Cal.mk Tryz.call18
abbrev ci180:=Cal.mk Tryz.call180
abbrev ci181:=Cal.mk Tryz.call181
abbrev ci182:=Cal.mk Tryz.call182
abbrev ci183:=Cal.mk Tryz.call183
abbrev ci184:=Cal.mk Tryz.call184
abbrev ci185:=Cal.mk Tryz.call185
abbrev ci186:=Cal.mk Tryz.call186
abbrev ci19:=Cal.mk Tryz.call19
abbrev ci198:=Cal.mk Tryz.call198
abbrev ci199:=Cal.mk Tryz.call199
abbrev ci20:=Cal.mk Tryz.call20
abbrev ci200:=Cal.mk Tryz.call200
abbrev ci201:=Cal.mk Tryz.call201
abbrev ci202:=Cal.mk Tryz.call202
abbrev ci203:=Cal.mk Tryz.call203
abbrev ci204:=Cal.mk Tryz.call204
abbrev ci205:=Cal.mk Tryz.call205
abbrev ci206:=Cal.mk Tryz.call206
abbrev ci207:=Cal.mk Tryz.call207
abbrev ci208:=Cal.mk Tryz.call208
abbrev ci209:=Cal.mk Tryz.call209
abbrev ci21:=Cal.mk Tryz.call21
abbrev ci210:=Cal.mk Tryz.call210
abbrev ci211:=Cal.mk Tryz.call211
abbrev ci212:=Cal.mk Tryz.call212
abbrev ci213:=Cal.mk Tryz.call213
abbrev ci214:=Cal.mk Tryz.call214
abbrev ci215:=Cal.mk Tryz.call215
abbrev ci216:=Cal.mk Tryz.call216
abbrev ci217:=Cal.mk Tryz.call217
abbrev ci22:=Cal.mk Tryz.call22
abbrev ci227:=Cal.mk Tryz.call227
abbrev ci228:=Cal.mk Tryz.call228
abbrev ci229:=Cal.mk Tryz.call229
abbrev ci23:=Cal.mk Tryz.call23
abbrev ci230:=Cal.mk Tryz.call230
abbrev ci231:=Cal.mk Tryz.call231
abbrev ci232:=Cal.mk Tryz.call232
abbrev ci233:=Cal.mk Tryz.call233
abbrev ci234:=Cal.mk Tryz.call234
abbrev ci235:=Cal.mk Tryz.call235
abbrev ci238:=Cal.mk Tryz.call238
abbrev ci239:=Cal.mk Tryz.call239
abbrev ci24:=Cal.mk Tryz.call24
abbrev ci240:=Cal.mk Tryz.call240
abbrev ci241:=Cal.mk Tryz.call241
abbrev ci242:=Cal.mk Tryz.call242
abbrev ci243:=Cal.mk Tryz.call243
abbrev ci244:=Cal.mk Tryz.call244
abbrev ci245:=Cal.mk Tryz.call245
abbrev ci246:=Cal.mk Tryz.call246
abbrev ci247:=Cal.mk Tryz.call247
abbrev ci248:=Cal.mk Tryz.call248
abbrev ci249:=Cal.mk Tryz.call249
abbrev ci25:=Cal.mk Tryz.call25
abbrev ci250:=Cal.mk Tryz.call250
abbrev ci251:=Cal.mk Tryz.call251
abbrev ci252:=Cal.mk Tryz.call252
abbrev ci253:=Cal.mk Tryz.call253
abbrev ci254:=Cal.mk Tryz.call254
abbrev ci255:=Cal.mk Tryz.call255
abbrev ci256:=Cal.mk Tryz.call256
abbrev ci257:=Cal.mk Tryz.call257
abbrev ci258:=Cal.mk Tryz.call258
abbrev ci26:=Cal.mk Tryz.call26
abbrev ci27:=Cal.mk Tryz.call27
abbrev ci30:=Cal.mk Tryz.call30
abbrev ci31:=Cal.mk Tryz.call31
abbrev ci32:=Cal.mk Tryz.call32
abbrev ci33:=Cal.mk Tryz.call33
abbrev ci34:=Cal.mk Tryz.call34
abbrev ci35:=Cal.mk Tryz.call35
abbrev ci36:=Cal.mk Tryz.call36
abbrev ci37:=Cal.mk Tryz.call37
abbrev ci39:=Cal.mk Tryz.call39
abbrev ci40:=Cal.mk Tryz.call40
abbrev ci42:=Cal.mk Tryz.call42
abbrev ci48:=Cal.mk Tryz.call48
abbrev ci49:=Cal.mk Tryz.call49
abbrev ci50:=Cal.mk Tryz.call50
abbrev ci51:=Cal.mk Tryz.call51
abbrev ci52:=Cal.mk Tryz.call52
abbrev ci53:=Cal.mk Tryz.call53
abbrev ci54:=Cal.mk Tryz.call54
abbrev ci55:=Cal.mk Tryz.call55
abbrev ci56:=Cal.mk Tryz.call56
abbrev ci57:=Cal.mk Tryz.call57
abbrev ci58:=Cal.mk Tryz.call58
abbrev ci59:=Cal.mk Tryz.call59
abbrev ci60:=Cal.mk Tryz.call60
abbrev ci61:=Cal.mk Tryz.call61
abbrev ci62:=Cal.mk Tryz.call62
abbrev ci63:=Cal.mk Tryz.call63
abbrev ci64:=Cal.mk Tryz.call64
abbrev ci65:=Cal.mk Tryz.call65
abbrev ci66:=Cal.mk Tryz.call66
abbrev ci67:=Cal.mk Tryz.call67
abbrev ci68:=Cal.mk Tryz.call68
abbrev ci69:=Cal.mk Tryz.call69
abbrev ci70:=Cal.mk Tryz.call70
abbrev ci71:=Cal.mk Tryz.call71
abbrev ci72:=Cal.mk Tryz.call72
abbrev ci73:=Cal.mk Tryz.call73
abbrev ci74:=Cal.mk Tryz.call74
abbrev ci75:=Cal.mk Tryz.call75
abbrev ci76:=Cal.mk Tryz.call76
abbrev ci77:=Cal.mk Tryz.call77
abbrev ci78:=Cal.mk Tryz.call78
abbrev ci79:=Cal.mk Tryz.call79
abbrev ci83:=Cal.mk Tryz.call83
abbrev ci84:=Cal.mk Tryz.call84
abbrev ci85:=Cal.mk Tryz.call85
abbrev ci86:=Cal.mk Tryz.call86
abbrev ci87:=Cal.mk Tryz.call87
abbrev ci88:=Cal.mk Tryz.call88
abbrev ci89:=Cal.mk Tryz.call89
abbrev ci90:=Cal.mk Tryz.call90
abbrev ci91:=Cal.mk Tryz.call91
abbrev ci92:=Cal.mk Tryz.call92
abbrev ci93:=Cal.mk Tryz.call93
abbrev ci94:=Cal.mk Tryz.call94
abbrev ci95:=Cal.mk Tryz.call95
abbrev ci96:=Cal.mk Tryz.call96
abbrev ci97:=Cal.mk Tryz.call97
abbrev ci98:=Cal.mk Tryz.call98
abbrev ci99:=Cal.mk Tryz.call99
abbrev ii102:=IsA.mk Tryz.isAgg102
abbrev ii105:=IsA.mk Tryz.isAgg105
abbrev ii108:=IsA.mk Tryz.isAgg108
abbrev ii109:=IsA.mk Tryz.isAgg109
abbrev ii110:=IsA.mk Tryz.isAgg110
abbrev ii113:=IsA.mk Tryz.isAgg113
abbrev ii115:=IsA.mk Tryz.isAgg115
abbrev ii124:=IsA.mk Tryz.isAgg124
abbrev ii141:=IsA.mk Tryz.isAgg141
abbrev ii153:=IsA.mk Tryz.isAgg153
abbrev ii156:=IsA.mk Tryz.isAgg156
abbrev ii173:=IsA.mk Tryz.isAgg173
abbrev ii223:=IsA.mk Tryz.isAgg223
abbrev ii224:=IsA.mk Tryz.isAgg224
abbrev ii24:=IsA.mk Tryz.isAgg24
abbrev ii264:=IsA.mk Tryz.isAgg264
abbrev ii266:=IsA.mk Tryz.isAgg266
abbrev ii268:=IsA.mk Tryz.isAgg268
abbrev ii271:=IsA.mk Tryz.isAgg271
abbrev ii28:=IsA.mk Tryz.isAgg28
abbrev ii282:=IsA.mk Tryz.isAgg282
abbrev ii29:=IsA.mk Tryz.isAgg29
abbrev ii296:=IsA.mk Tryz.isAgg296
abbrev ii298:=IsA.mk Tryz.isAgg298
abbrev ii3:=IsA.mk Tryz.isAgg3
abbrev ii30:=IsA.mk Tryz.isAgg30
abbrev ii302:=IsA.mk Tryz.isAgg302
abbrev ii31:=IsA.mk Tryz.isAgg31
abbrev ii33:=IsA.mk Tryz.isAgg33
abbrev ii34:=IsA.mk Tryz.isAgg34
abbrev ii35:=IsA.mk Tryz.isAgg35
abbrev ii36:=IsA.mk Tryz.isAgg36
abbrev ii37:=IsA.mk Tryz.isAgg37
abbrev ii38:=IsA.mk Tryz.isAgg38
abbrev ii39:=IsA.mk Tryz.isAgg39
abbrev ii4:=IsA.mk Tryz.isAgg4
abbrev ii40:=IsA.mk Tryz.isAgg40
abbrev ii42:=IsA.mk Tryz.isAgg42
abbrev ii44:=IsA.mk Tryz.isAgg44
abbrev ii47:=IsA.mk Tryz.isAgg47
abbrev ii49:=IsA.mk Tryz.isAgg49
abbrev ii52:=IsA.mk Tryz.isAgg52
abbrev ii59:=IsA.mk Tryz.isAgg59
abbrev ii61:=IsA.mk Tryz.isAgg61
abbrev ii63:=IsA.mk Tryz.isAgg63
abbrev ii99:=IsA.mk Tryz.isAgg99
abbrev si102:=Siz.mk Tryz.sizeOf102 (by decide)
abbrev si105:=Siz.mk Tryz.sizeOf105 (by decide)
abbrev si109:=Siz.mk Tryz.sizeOf109 (by decide)
abbrev si110:=Siz.mk Tryz.sizeOf110 (by decide)
abbrev si113:=Siz.mk Tryz.sizeOf113 (by decide)
abbrev si115:=Siz.mk Tryz.sizeOf115 (by decide)
abbrev si124:=Siz.mk Tryz.sizeOf124 (by decide)
abbrev si141:=Siz.mk Tryz.sizeOf141 (by decide)
abbrev si152:=Siz.mk Tryz.sizeOf152 (by decide)
abbrev si153:=Siz.mk Tryz.sizeOf153 (by decide)
abbrev si156:=Siz.mk Tryz.sizeOf156 (by decide)
abbrev si173:=Siz.mk Tryz.sizeOf173 (by decide)
abbrev si223:=Siz.mk Tryz.sizeOf223 (by decide)
abbrev si224:=Siz.mk Tryz.sizeOf224 (by decide)
abbrev si24:=Siz.mk Tryz.sizeOf24 (by decide)
abbrev si264:=Siz.mk Tryz.sizeOf264 (by decide)
abbrev si266:=Siz.mk Tryz.sizeOf266 (by decide)
abbrev si268:=Siz.mk Tryz.sizeOf268 (by decide)
abbrev si271:=Siz.mk Tryz.sizeOf271 (by decide)
abbrev si28:=Siz.mk Tryz.sizeOf28 (by decide)
abbrev si282:=Siz.mk Tryz.sizeOf282 (by decide)
abbrev si29:=Siz.mk Tryz.sizeOf29 (by decide)
abbrev si298:=Siz.mk Tryz.sizeOf298 (by decide)
abbrev si3:=Siz.mk Tryz.sizeOf3 (by decide)
abbrev si30:=Siz.mk Tryz.sizeOf30 (by decide)
abbrev si302:=Siz.mk Tryz.sizeOf302 (by decide)
abbrev si31:=Siz.mk Tryz.sizeOf31 (by decide)
abbrev si33:=Siz.mk Tryz.sizeOf33 (by decide)
abbrev si34:=Siz.mk Tryz.sizeOf34 (by decide)
abbrev si35:=Siz.mk Tryz.sizeOf35 (by decide)
abbrev si36:=Siz.mk Tryz.sizeOf36 (by decide)
abbrev si37:=Siz.mk Tryz.sizeOf37 (by decide)
abbrev si38:=Siz.mk Tryz.sizeOf38 (by decide)
abbrev si39:=Siz.mk Tryz.sizeOf39 (by decide)
abbrev si4:=Siz.mk Tryz.sizeOf4 (by decide)
abbrev si40:=Siz.mk Tryz.sizeOf40 (by decide)
abbrev si42:=Siz.mk Tryz.sizeOf42 (by decide)
abbrev si47:=Siz.mk Tryz.sizeOf47 (by decide)
abbrev si49:=Siz.mk Tryz.sizeOf49 (by decide)
abbrev si52:=Siz.mk Tryz.sizeOf52 (by decide)
abbrev si59:=Siz.mk Tryz.sizeOf59 (by decide)
abbrev si61:=Siz.mk Tryz.sizeOf61 (by decide)
abbrev si63:=Siz.mk Tryz.sizeOf63 (by decide)
abbrev si99:=Siz.mk Tryz.sizeOf99 (by decide)
abbrev ui102:=Und.mk Tryz.underlying102
abbrev ui104:=Und.mk Tryz.underlying104
abbrev ui105:=Und.mk Tryz.underlying105
abbrev ui107:=Und.mk Tryz.underlying107
abbrev ui109:=Und.mk Tryz.underlying109
abbrev ui110:=Und.mk Tryz.underlying110
abbrev ui112:=Und.mk Tryz.underlying112
abbrev ui113:=Und.mk Tryz.underlying113
abbrev ui115:=Und.mk Tryz.underlying115
abbrev ui122:=Und.mk Tryz.underlying122
abbrev ui128:=Und.mk Tryz.underlying128
abbrev ui141:=Und.mk Tryz.underlying141
abbrev ui152:=Und.mk Tryz.underlying152
abbrev ui153:=Und.mk Tryz.underlying153
abbrev ui155:=Und.mk Tryz.underlying155
abbrev ui156:=Und.mk Tryz.underlying156
abbrev ui173:=Und.mk Tryz.underlying173
abbrev ui202:=Und.mk Tryz.underlying202
abbrev ui204:=Und.mk Tryz.underlying204
abbrev ui210:=Und.mk Tryz.underlying210
abbrev ui22:=Und.mk Tryz.underlying22
abbrev ui223:=Und.mk Tryz.underlying223
abbrev ui224:=Und.mk Tryz.underlying224
abbrev ui24:=Und.mk Tryz.underlying24
abbrev ui253:=Und.mk Tryz.underlying253
abbrev ui261:=Und.mk Tryz.underlying261
abbrev ui264:=Und.mk Tryz.underlying264
abbrev ui266:=Und.mk Tryz.underlying266
abbrev ui268:=Und.mk Tryz.underlying268
abbrev ui275:=Und.mk Tryz.underlying275
abbrev ui28:=Und.mk Tryz.underlying28
abbrev ui288:=Und.mk Tryz.underlying288
abbrev ui298:=Und.mk Tryz.underlying298
abbrev ui3:=Und.mk Tryz.underlying3
abbrev ui300:=Und.mk Tryz.underlying300
abbrev ui302:=Und.mk Tryz.underlying302
abbrev ui304:=Und.mk Tryz.underlying304
abbrev ui33:=Und.mk Tryz.underlying33
abbrev ui34:=Und.mk Tryz.underlying34
abbrev ui35:=Und.mk Tryz.underlying35
abbrev ui4:=Und.mk Tryz.underlying4
abbrev ui40:=Und.mk Tryz.underlying40
abbrev ui42:=Und.mk Tryz.underlying42
abbrev ui47:=Und.mk Tryz.underlying47
abbrev ui49:=Und.mk Tryz.underlying49
abbrev ui52:=Und.mk Tryz.underlying52
abbrev ui59:=Und.mk Tryz.underlying59
abbrev ui61:=Und.mk Tryz.underlying61
abbrev ui63:=Und.mk Tryz.underlying63
abbrev ui99:=Und.mk Tryz.underlying99
abbrev zi102:=Zer.mk Tryz.zeroValue102
abbrev zi104:=Zer.mk Tryz.zeroValue104
abbrev zi107:=Zer.mk Tryz.zeroValue107
abbrev zi109:=Zer.mk Tryz.zeroValue109
abbrev zi112:=Zer.mk Tryz.zeroValue112
abbrev zi115:=Zer.mk Tryz.zeroValue115
abbrev zi124:=Zer.mk Tryz.zeroValue124
abbrev zi128:=Zer.mk Tryz.zeroValue128
abbrev zi141:=Zer.mk Tryz.zeroValue141
abbrev zi152:=Zer.mk Tryz.zeroValue152
abbrev zi155:=Zer.mk Tryz.zeroValue155
abbrev zi156:=Zer.mk Tryz.zeroValue156
abbrev zi173:=Zer.mk Tryz.zeroValue173
abbrev zi209:=Zer.mk Tryz.zeroValue209
abbrev zi223:=Zer.mk Tryz.zeroValue223
abbrev zi224:=Zer.mk Tryz.zeroValue224
abbrev zi264:=Zer.mk Tryz.zeroValue264
abbrev zi266:=Zer.mk Tryz.zeroValue266
abbrev zi268:=Zer.mk Tryz.zeroValue268
abbrev zi271:=Zer.mk Tryz.zeroValue271
abbrev zi275:=Zer.mk Tryz.zeroValue275
abbrev zi282:=Zer.mk Tryz.zeroValue282
abbrev zi3:=Zer.mk Tryz.zeroValue3
abbrev zi300:=Zer.mk Tryz.zeroValue300
abbrev zi302:=Zer.mk Tryz.zeroValue302
abbrev zi33:=Zer.mk Tryz.zeroValue33
abbrev zi35:=Zer.mk Tryz.zeroValue35
abbrev zi40:=Zer.mk Tryz.zeroValue40
abbrev zi42:=Zer.mk Tryz.zeroValue42
abbrev zi49:=Zer.mk Tryz.zeroValue49
abbrev zi52:=Zer.mk Tryz.zeroValue52
abbrev zi55:=Zer.mk Tryz.zeroValue55
abbrev zi63:=Zer.mk Tryz.zeroValue63
abbrev zl109:=Zl.mk (us:=[_,_]) ⟨_,Tryz.zeroValue109,rfl⟩
abbrev zl115:=Zl.mk (us:=[_,_,_,_,_,_]) ⟨_,Tryz.zeroValue115,rfl⟩
abbrev zl124:=Zl.mk (us:=[_]) ⟨_,Tryz.zeroValue124,rfl⟩
abbrev zl141:=Zl.mk (us:=[_,_]) ⟨_,Tryz.zeroValue141,rfl⟩
abbrev zl173:=Zl.mk (us:=[_,_,_,_,_]) ⟨_,Tryz.zeroValue173,rfl⟩
abbrev zl224:=Zl.mk (us:=[_,_,_,_,_,_,_,_]) ⟨_,Tryz.zeroValue224,rfl⟩
abbrev zl264:=Zl.mk (us:=[_,_,_,_,_]) ⟨_,Tryz.zeroValue264,rfl⟩
abbrev zl268:=Zl.mk (us:=[_]) ⟨_,Tryz.zeroValue268,rfl⟩
abbrev zl271:=Zl.mk (us:=[_]) ⟨_,Tryz.zeroValue271,rfl⟩
abbrev zl3:=Zl.mk (us:=[_]) ⟨_,Tryz.zeroValue3,rfl⟩
abbrev zl302:=Zl.mk (us:=[_,_,_,_,_,_,_]) ⟨_,Tryz.zeroValue302,rfl⟩
abbrev zl33:=Zl.mk (us:=[_,_]) ⟨_,Tryz.zeroValue33,rfl⟩
abbrev zl35:=Zl.mk (us:=[_,_,_,_]) ⟨_,Tryz.zeroValue35,rfl⟩
abbrev zl40:=Zl.mk (us:=[_,_]) ⟨_,Tryz.zeroValue40,rfl⟩
abbrev zl49:=Zl.mk (us:=[_]) ⟨_,Tryz.zeroValue49,rfl⟩
abbrev zl52:=Zl.mk (us:=[_,_,_,_]) ⟨_,Tryz.zeroValue52,rfl⟩
abbrev zl63:=Zl.mk (us:=[_,_,_,_,_,_,_,_]) ⟨_,Tryz.zeroValue63,rfl⟩
abbrev fni6:=Fnc.mk Tryz.func6
abbrev nti6:=Ntm.mk Tryz.ntmps6
abbrev fni17:=Fnc.mk Tryz.func17
abbrev nti17:=Ntm.mk Tryz.ntmps17
abbrev fni18:=Fnc.mk Tryz.func18
abbrev nti18:=Ntm.mk Tryz.ntmps18
abbrev fni19:=Fnc.mk Tryz.func19
abbrev nti19:=Ntm.mk Tryz.ntmps19
abbrev fni20:=Fnc.mk Tryz.func20
abbrev nti20:=Ntm.mk Tryz.ntmps20
abbrev fni21:=Fnc.mk Tryz.func21
abbrev nti21:=Ntm.mk Tryz.ntmps21
abbrev fni22:=Fnc.mk Tryz.func22
abbrev nti22:=Ntm.mk Tryz.ntmps22
abbrev fni23:=Fnc.mk Tryz.func23
abbrev nti23:=Ntm.mk Tryz.ntmps23
abbrev fni24:=Fnc.mk Tryz.func24
abbrev nti24:=Ntm.mk Tryz.ntmps24
abbrev fni25:=Fnc.mk Tryz.func25
abbrev nti25:=Ntm.mk Tryz.ntmps25
abbrev fni26:=Fnc.mk Tryz.func26
abbrev nti26:=Ntm.mk Tryz.ntmps26
abbrev fni27:=Fnc.mk Tryz.func27
abbrev nti27:=Ntm.mk Tryz.ntmps27
abbrev fni30:=Fnc.mk Tryz.func30
abbrev nti30:=Ntm.mk Tryz.ntmps30
abbrev fni31:=Fnc.mk Tryz.func31
abbrev nti31:=Ntm.mk Tryz.ntmps31
abbrev fni32:=Fnc.mk Tryz.func32
abbrev nti32:=Ntm.mk Tryz.ntmps32
abbrev fni33:=Fnc.mk Tryz.func33
abbrev nti33:=Ntm.mk Tryz.ntmps33
abbrev fni34:=Fnc.mk Tryz.func34
abbrev nti34:=Ntm.mk Tryz.ntmps34
abbrev fni35:=Fnc.mk Tryz.func35
abbrev nti35:=Ntm.mk Tryz.ntmps35
abbrev fni36:=Fnc.mk Tryz.func36
abbrev nti36:=Ntm.mk Tryz.ntmps36
abbrev fni37:=Fnc.mk Tryz.func37
abbrev nti37:=Ntm.mk Tryz.ntmps37
abbrev fni39:=Fnc.mk Tryz.func39
abbrev nti39:=Ntm.mk Tryz.ntmps39
abbrev fni40:=Fnc.mk Tryz.func40
abbrev nti40:=Ntm.mk Tryz.ntmps40
abbrev fni41:=Fnc.mk Tryz.func41
abbrev nti41:=Ntm.mk Tryz.ntmps41
abbrev fni42:=Fnc.mk Tryz.func42
abbrev nti42:=Ntm.mk Tryz.ntmps42
abbrev fni48:=Fnc.mk Tryz.func48
abbrev nti48:=Ntm.mk Tryz.ntmps48
abbrev fni49:=Fnc.mk Tryz.func49
abbrev nti49:=Ntm.mk Tryz.ntmps49
abbrev fni50:=Fnc.mk Tryz.func50
abbrev nti50:=Ntm.mk Tryz.ntmps50
abbrev fni51:=Fnc.mk Tryz.func51
abbrev nti51:=Ntm.mk Tryz.ntmps51
abbrev fni52:=Fnc.mk Tryz.func52
abbrev nti52:=Ntm.mk Tryz.ntmps52
abbrev fni53:=Fnc.mk Tryz.func53
abbrev nti53:=Ntm.mk Tryz.ntmps53
abbrev fni54:=Fnc.mk Tryz.func54
abbrev nti54:=Ntm.mk Tryz.ntmps54
abbrev fni55:=Fnc.mk Tryz.func55
abbrev nti55:=Ntm.mk Tryz.ntmps55
abbrev fni56:=Fnc.mk Tryz.func56
abbrev nti56:=Ntm.mk Tryz.ntmps56
abbrev fni57:=Fnc.mk Tryz.func57
abbrev nti57:=Ntm.mk Tryz.ntmps57
abbrev fni58:=Fnc.mk Tryz.func58
abbrev nti58:=Ntm.mk Tryz.ntmps58
abbrev fni59:=Fnc.mk Tryz.func59
abbrev nti59:=Ntm.mk Tryz.ntmps59
abbrev fni60:=Fnc.mk Tryz.func60
abbrev nti60:=Ntm.mk Tryz.ntmps60
abbrev fni61:=Fnc.mk Tryz.func61
abbrev nti61:=Ntm.mk Tryz.ntmps61
abbrev fni62:=Fnc.mk Tryz.func62
abbrev nti62:=Ntm.mk Tryz.ntmps62
abbrev fni63:=Fnc.mk Tryz.func63
abbrev nti63:=Ntm.mk Tryz.ntmps63
abbrev fni64:=Fnc.mk Tryz.func64
abbrev nti64:=Ntm.mk Tryz.ntmps64
abbrev fni65:=Fnc.mk Tryz.func65
abbrev nti65:=Ntm.mk Tryz.ntmps65
abbrev fni66:=Fnc.mk Tryz.func66
abbrev nti66:=Ntm.mk Tryz.ntmps66
abbrev fni67:=Fnc.mk Tryz.func67
abbrev nti67:=Ntm.mk Tryz.ntmps67
abbrev fni68:=Fnc.mk Tryz.func68
abbrev nti68:=Ntm.mk Tryz.ntmps68
abbrev fni69:=Fnc.mk Tryz.func69
abbrev nti69:=Ntm.mk Tryz.ntmps69
abbrev fni70:=Fnc.mk Tryz.func70
abbrev nti70:=Ntm.mk Tryz.ntmps70
abbrev fni71:=Fnc.mk Tryz.func71
abbrev nti71:=Ntm.mk Tryz.ntmps71
abbrev fni72:=Fnc.mk Tryz.func72
abbrev nti72:=Ntm.mk Tryz.ntmps72
abbrev fni73:=Fnc.mk Tryz.func73
abbrev nti73:=Ntm.mk Tryz.ntmps73
abbrev fni74:=Fnc.mk Tryz.func74
abbrev nti74:=Ntm.mk Tryz.ntmps74
abbrev fni75:=Fnc.mk Tryz.func75
abbrev nti75:=Ntm.mk Tryz.ntmps75
abbrev fni76:=Fnc.mk Tryz.func76
abbrev nti76:=Ntm.mk Tryz.ntmps76
abbrev fni77:=Fnc.mk Tryz.func77
abbrev nti77:=Ntm.mk Tryz.ntmps77
abbrev fni78:=Fnc.mk Tryz.func78
abbrev nti78:=Ntm.mk Tryz.ntmps78
abbrev fni79:=Fnc.mk Tryz.func79
abbrev nti79:=Ntm.mk Tryz.ntmps79
abbrev fni83:=Fnc.mk Tryz.func83
abbrev nti83:=Ntm.mk Tryz.ntmps83
abbrev fni84:=Fnc.mk Tryz.func84
abbrev nti84:=Ntm.mk Tryz.ntmps84
abbrev fni85:=Fnc.mk Tryz.func85
abbrev nti85:=Ntm.mk Tryz.ntmps85
abbrev fni86:=Fnc.mk Tryz.func86
abbrev nti86:=Ntm.mk Tryz.ntmps86
abbrev fni87:=Fnc.mk Tryz.func87
abbrev nti87:=Ntm.mk Tryz.ntmps87
abbrev fni88:=Fnc.mk Tryz.func88
abbrev nti88:=Ntm.mk Tryz.ntmps88
abbrev fni89:=Fnc.mk Tryz.func89
abbrev nti89:=Ntm.mk Tryz.ntmps89
abbrev fni90:=Fnc.mk Tryz.func90
abbrev nti90:=Ntm.mk Tryz.ntmps90
abbrev fni91:=Fnc.mk Tryz.func91
abbrev nti91:=Ntm.mk Tryz.ntmps91
abbrev fni92:=Fnc.mk Tryz.func92
abbrev nti92:=Ntm.mk Tryz.ntmps92
abbrev fni93:=Fnc.mk Tryz.func93
abbrev nti93:=Ntm.mk Tryz.ntmps93
abbrev fni94:=Fnc.mk Tryz.func94
abbrev nti94:=Ntm.mk Tryz.ntmps94
abbrev fni95:=Fnc.mk Tryz.func95
abbrev nti95:=Ntm.mk Tryz.ntmps95
abbrev fni96:=Fnc.mk Tryz.func96
abbrev nti96:=Ntm.mk Tryz.ntmps96
abbrev fni97:=Fnc.mk Tryz.func97
abbrev nti97:=Ntm.mk Tryz.ntmps97
abbrev fni98:=Fnc.mk Tryz.func98
abbrev nti98:=Ntm.mk Tryz.ntmps98
abbrev fni99:=Fnc.mk Tryz.func99
abbrev nti99:=Ntm.mk Tryz.ntmps99
abbrev fni100:=Fnc.mk Tryz.func100
abbrev nti100:=Ntm.mk Tryz.ntmps100
abbrev fni101:=Fnc.mk Tryz.func101
abbrev nti101:=Ntm.mk Tryz.ntmps101
abbrev fni102:=Fnc.mk Tryz.func102
abbrev nti102:=Ntm.mk Tryz.ntmps102
abbrev fni103:=Fnc.mk Tryz.func103
abbrev nti103:=Ntm.mk Tryz.ntmps103
abbrev fni104:=Fnc.mk Tryz.func104
abbrev nti104:=Ntm.mk Tryz.ntmps104
abbrev fni105:=Fnc.mk Tryz.func105
abbrev nti105:=Ntm.mk Tryz.ntmps105
abbrev fni106:=Fnc.mk Tryz.func106
abbrev nti106:=Ntm.mk Tryz.ntmps106
abbrev fni107:=Fnc.mk Tryz.func107
abbrev nti107:=Ntm.mk Tryz.ntmps107
abbrev fni108:=Fnc.mk Tryz.func108
abbrev nti108:=Ntm.mk Tryz.ntmps108
abbrev fni109:=Fnc.mk Tryz.func109
abbrev nti109:=Ntm.mk Tryz.ntmps109
abbrev fni110:=Fnc.mk Tryz.func110
abbrev nti110:=Ntm.mk Tryz.ntmps110
abbrev fni111:=Fnc.mk Tryz.func111
abbrev nti111:=Ntm.mk Tryz.ntmps111
abbrev fni112:=Fnc.mk Tryz.func112
abbrev nti112:=Ntm.mk Tryz.ntmps112
abbrev fni113:=Fnc.mk Tryz.func113
abbrev nti113:=Ntm.mk Tryz.ntmps113
abbrev fni114:=Fnc.mk Tryz.func114
abbrev nti114:=Ntm.mk Tryz.ntmps114
abbrev fni115:=Fnc.mk Tryz.func115
abbrev nti115:=Ntm.mk Tryz.ntmps115
abbrev fni116:=Fnc.mk Tryz.func116
abbrev nti116:=Ntm.mk Tryz.ntmps116
abbrev fni117:=Fnc.mk Tryz.func117
abbrev nti117:=Ntm.mk Tryz.ntmps117
abbrev fni118:=Fnc.mk Tryz.func118
abbrev nti118:=Ntm.mk Tryz.ntmps118
abbrev fni119:=Fnc.mk Tryz.func119
abbrev nti119:=Ntm.mk Tryz.ntmps119
abbrev fni120:=Fnc.mk Tryz.func120
abbrev nti120:=Ntm.mk Tryz.ntmps120
abbrev fni131:=Fnc.mk Tryz.func131
abbrev fni133:=Fnc.mk Tryz.func133
abbrev nti133:=Ntm.mk Tryz.ntmps133
abbrev fni134:=Fnc.mk Tryz.func134
abbrev nti134:=Ntm.mk Tryz.ntmps134
abbrev fni135:=Fnc.mk Tryz.func135
abbrev nti135:=Ntm.mk Tryz.ntmps135
abbrev fni136:=Fnc.mk Tryz.func136
abbrev nti136:=Ntm.mk Tryz.ntmps136
abbrev fni137:=Fnc.mk Tryz.func137
abbrev nti137:=Ntm.mk Tryz.ntmps137
abbrev fni138:=Fnc.mk Tryz.func138
abbrev nti138:=Ntm.mk Tryz.ntmps138
abbrev fni139:=Fnc.mk Tryz.func139
abbrev nti139:=Ntm.mk Tryz.ntmps139
abbrev fni140:=Fnc.mk Tryz.func140
abbrev nti140:=Ntm.mk Tryz.ntmps140
abbrev fni141:=Fnc.mk Tryz.func141
abbrev nti141:=Ntm.mk Tryz.ntmps141
abbrev fni142:=Fnc.mk Tryz.func142
abbrev nti142:=Ntm.mk Tryz.ntmps142
abbrev fni143:=Fnc.mk Tryz.func143
abbrev nti143:=Ntm.mk Tryz.ntmps143
abbrev fni144:=Fnc.mk Tryz.func144
abbrev nti144:=Ntm.mk Tryz.ntmps144
abbrev fni145:=Fnc.mk Tryz.func145
abbrev nti145:=Ntm.mk Tryz.ntmps145
abbrev fni146:=Fnc.mk Tryz.func146
abbrev nti146:=Ntm.mk Tryz.ntmps146
abbrev fni147:=Fnc.mk Tryz.func147
abbrev nti147:=Ntm.mk Tryz.ntmps147
abbrev fni148:=Fnc.mk Tryz.func148
abbrev nti148:=Ntm.mk Tryz.ntmps148
abbrev fni149:=Fnc.mk Tryz.func149
abbrev nti149:=Ntm.mk Tryz.ntmps149
abbrev fni150:=Fnc.mk Tryz.func150
abbrev nti150:=Ntm.mk Tryz.ntmps150
abbrev fni151:=Fnc.mk Tryz.func151
abbrev nti151:=Ntm.mk Tryz.ntmps151
abbrev fni152:=Fnc.mk Tryz.func152
abbrev nti152:=Ntm.mk Tryz.ntmps152
abbrev fni153:=Fnc.mk Tryz.func153
abbrev nti153:=Ntm.mk Tryz.ntmps153
abbrev fni154:=Fnc.mk Tryz.func154
abbrev nti154:=Ntm.mk Tryz.ntmps154
abbrev fni155:=Fnc.mk Tryz.func155
abbrev nti155:=Ntm.mk Tryz.ntmps155
abbrev fni156:=Fnc.mk Tryz.func156
abbrev nti156:=Ntm.mk Tryz.ntmps156
abbrev fni157:=Fnc.mk Tryz.func157
abbrev nti157:=Ntm.mk Tryz.ntmps157
abbrev fni158:=Fnc.mk Tryz.func158
abbrev nti158:=Ntm.mk Tryz.ntmps158
abbrev fni159:=Fnc.mk Tryz.func159
abbrev nti159:=Ntm.mk Tryz.ntmps159
abbrev fni160:=Fnc.mk Tryz.func160
abbrev nti160:=Ntm.mk Tryz.ntmps160
abbrev fni161:=Fnc.mk Tryz.func161
abbrev nti161:=Ntm.mk Tryz.ntmps161
abbrev fni167:=Fnc.mk Tryz.func167
abbrev nti167:=Ntm.mk Tryz.ntmps167
abbrev fni168:=Fnc.mk Tryz.func168
abbrev nti168:=Ntm.mk Tryz.ntmps168
abbrev fni169:=Fnc.mk Tryz.func169
abbrev nti169:=Ntm.mk Tryz.ntmps169
abbrev fni170:=Fnc.mk Tryz.func170
abbrev nti170:=Ntm.mk Tryz.ntmps170
abbrev fni171:=Fnc.mk Tryz.func171
abbrev nti171:=Ntm.mk Tryz.ntmps171
abbrev fni172:=Fnc.mk Tryz.func172
abbrev nti172:=Ntm.mk Tryz.ntmps172
abbrev fni173:=Fnc.mk Tryz.func173
abbrev nti173:=Ntm.mk Tryz.ntmps173
abbrev fni174:=Fnc.mk Tryz.func174
abbrev nti174:=Ntm.mk Tryz.ntmps174
abbrev fni175:=Fnc.mk Tryz.func175
abbrev nti175:=Ntm.mk Tryz.ntmps175
abbrev fni176:=Fnc.mk Tryz.func176
abbrev nti176:=Ntm.mk Tryz.ntmps176
abbrev fni177:=Fnc.mk Tryz.func177
abbrev nti177:=Ntm.mk Tryz.ntmps177
abbrev fni178:=Fnc.mk Tryz.func178
abbrev nti178:=Ntm.mk Tryz.ntmps178
abbrev fni179:=Fnc.mk Tryz.func179
abbrev nti179:=Ntm.mk Tryz.ntmps179
abbrev fni180:=Fnc.mk Tryz.func180
abbrev nti180:=Ntm.mk Tryz.ntmps180
abbrev fni181:=Fnc.mk Tryz.func181
abbrev nti181:=Ntm.mk Tryz.ntmps181
abbrev fni182:=Fnc.mk Tryz.func182
abbrev nti182:=Ntm.mk Tryz.ntmps182
abbrev fni183:=Fnc.mk Tryz.func183
abbrev nti183:=Ntm.mk Tryz.ntmps183
abbrev fni184:=Fnc.mk Tryz.func184
abbrev nti184:=Ntm.mk Tryz.ntmps184
abbrev fni185:=Fnc.mk Tryz.func185
abbrev nti185:=Ntm.mk Tryz.ntmps185
abbrev fni186:=Fnc.mk Tryz.func186
abbrev nti186:=Ntm.mk Tryz.ntmps186
abbrev fni198:=Fnc.mk Tryz.func198
abbrev nti198:=Ntm.mk Tryz.ntmps198
abbrev fni199:=Fnc.mk Tryz.func199
abbrev nti199:=Ntm.mk Tryz.ntmps199
abbrev fni200:=Fnc.mk Tryz.func200
abbrev nti200:=Ntm.mk Tryz.ntmps200
abbrev fni201:=Fnc.mk Tryz.func201
abbrev nti201:=Ntm.mk Tryz.ntmps201
abbrev fni202:=Fnc.mk Tryz.func202
abbrev nti202:=Ntm.mk Tryz.ntmps202
abbrev fni203:=Fnc.mk Tryz.func203
abbrev nti203:=Ntm.mk Tryz.ntmps203
abbrev fni204:=Fnc.mk Tryz.func204
abbrev nti204:=Ntm.mk Tryz.ntmps204
abbrev fni205:=Fnc.mk Tryz.func205
abbrev nti205:=Ntm.mk Tryz.ntmps205
abbrev fni206:=Fnc.mk Tryz.func206
abbrev nti206:=Ntm.mk Tryz.ntmps206
abbrev fni207:=Fnc.mk Tryz.func207
abbrev nti207:=Ntm.mk Tryz.ntmps207
abbrev fni208:=Fnc.mk Tryz.func208
abbrev nti208:=Ntm.mk Tryz.ntmps208
abbrev fni209:=Fnc.mk Tryz.func209
abbrev nti209:=Ntm.mk Tryz.ntmps209
abbrev fni210:=Fnc.mk Tryz.func210
abbrev nti210:=Ntm.mk Tryz.ntmps210
abbrev fni211:=Fnc.mk Tryz.func211
abbrev nti211:=Ntm.mk Tryz.ntmps211
abbrev fni212:=Fnc.mk Tryz.func212
abbrev nti212:=Ntm.mk Tryz.ntmps212
abbrev fni213:=Fnc.mk Tryz.func213
abbrev nti213:=Ntm.mk Tryz.ntmps213
abbrev fni214:=Fnc.mk Tryz.func214
abbrev nti214:=Ntm.mk Tryz.ntmps214
abbrev fni215:=Fnc.mk Tryz.func215
abbrev nti215:=Ntm.mk Tryz.ntmps215
abbrev fni216:=Fnc.mk Tryz.func216
abbrev nti216:=Ntm.mk Tryz.ntmps216
abbrev fni217:=Fnc.mk Tryz.func217
abbrev nti217:=Ntm.mk Tryz.ntmps217
abbrev fni218:=Fnc.mk Tryz.func218
abbrev fni219:=Fnc.mk Tryz.func219
abbrev fni220:=Fnc.mk Tryz.func220
abbrev fni227:=Fnc.mk Tryz.func227
abbrev nti227:=Ntm.mk Tryz.ntmps227
abbrev fni228:=Fnc.mk Tryz.func228
abbrev nti228:=Ntm.mk Tryz.ntmps228
abbrev fni229:=Fnc.mk Tryz.func229
abbrev nti229:=Ntm.mk Tryz.ntmps229
abbrev fni230:=Fnc.mk Tryz.func230
abbrev nti230:=Ntm.mk Tryz.ntmps230
abbrev fni231:=Fnc.mk Tryz.func231
abbrev nti231:=Ntm.mk Tryz.ntmps231
abbrev fni232:=Fnc.mk Tryz.func232
abbrev nti232:=Ntm.mk Tryz.ntmps232
abbrev fni233:=Fnc.mk Tryz.func233
abbrev nti233:=Ntm.mk Tryz.ntmps233
abbrev fni234:=Fnc.mk Tryz.func234
abbrev nti234:=Ntm.mk Tryz.ntmps234
abbrev fni235:=Fnc.mk Tryz.func235
abbrev nti235:=Ntm.mk Tryz.ntmps235
abbrev fni238:=Fnc.mk Tryz.func238
abbrev nti238:=Ntm.mk Tryz.ntmps238
abbrev fni239:=Fnc.mk Tryz.func239
abbrev nti239:=Ntm.mk Tryz.ntmps239
abbrev fni240:=Fnc.mk Tryz.func240
abbrev nti240:=Ntm.mk Tryz.ntmps240
abbrev fni241:=Fnc.mk Tryz.func241
abbrev nti241:=Ntm.mk Tryz.ntmps241
abbrev fni242:=Fnc.mk Tryz.func242
abbrev nti242:=Ntm.mk Tryz.ntmps242
abbrev fni243:=Fnc.mk Tryz.func243
abbrev nti243:=Ntm.mk Tryz.ntmps243
abbrev fni244:=Fnc.mk Tryz.func244
abbrev nti244:=Ntm.mk Tryz.ntmps244
abbrev fni245:=Fnc.mk Tryz.func245
abbrev nti245:=Ntm.mk Tryz.ntmps245
abbrev fni246:=Fnc.mk Tryz.func246
abbrev nti246:=Ntm.mk Tryz.ntmps246
abbrev fni247:=Fnc.mk Tryz.func247
abbrev nti247:=Ntm.mk Tryz.ntmps247
abbrev fni248:=Fnc.mk Tryz.func248
abbrev nti248:=Ntm.mk Tryz.ntmps248
abbrev fni249:=Fnc.mk Tryz.func249
abbrev nti249:=Ntm.mk Tryz.ntmps249
abbrev fni250:=Fnc.mk Tryz.func250
abbrev nti250:=Ntm.mk Tryz.ntmps250
abbrev fni251:=Fnc.mk Tryz.func251
abbrev nti251:=Ntm.mk Tryz.ntmps251
abbrev fni252:=Fnc.mk Tryz.func252
abbrev nti252:=Ntm.mk Tryz.ntmps252
abbrev fni253:=Fnc.mk Tryz.func253
abbrev nti253:=Ntm.mk Tryz.ntmps253
abbrev fni254:=Fnc.mk Tryz.func254
abbrev nti254:=Ntm.mk Tryz.ntmps254
abbrev fni255:=Fnc.mk Tryz.func255
abbrev nti255:=Ntm.mk Tryz.ntmps255
abbrev fni256:=Fnc.mk Tryz.func256
abbrev nti256:=Ntm.mk Tryz.ntmps256
abbrev fni257:=Fnc.mk Tryz.func257
abbrev nti257:=Ntm.mk Tryz.ntmps257
abbrev fni258:=Fnc.mk Tryz.func258
abbrev nti258:=Ntm.mk Tryz.ntmps258
abbrev r1i6:=Rs1.mk Tryz.results6
abbrev r1i19:=Rs1.mk Tryz.results19
abbrev r1i20:=Rs1.mk Tryz.results20
abbrev r1i21:=Rs1.mk Tryz.results21
abbrev r1i22:=Rs1.mk Tryz.results22
abbrev r1i23:=Rs1.mk Tryz.results23
abbrev r1i24:=Rs1.mk Tryz.results24
abbrev r1i25:=Rs1.mk Tryz.results25
abbrev r1i26:=Rs1.mk Tryz.results26
abbrev r1i27:=Rs1.mk Tryz.results27
abbrev r1i31:=Rs1.mk Tryz.results31
abbrev r1i32:=Rs1.mk Tryz.results32
abbrev r1i33:=Rs1.mk Tryz.results33
abbrev r1i36:=Rs1.mk Tryz.results36
abbrev r1i37:=Rs1.mk Tryz.results37
abbrev r1i41:=Rs1.mk Tryz.results41
abbrev r1i48:=Rs1.mk Tryz.results48
abbrev r1i49:=Rs1.mk Tryz.results49
abbrev r1i51:=Rs1.mk Tryz.results51
abbrev r1i52:=Rs1.mk Tryz.results52
abbrev r1i53:=Rs1.mk Tryz.results53
abbrev r1i54:=Rs1.mk Tryz.results54
abbrev r1i55:=Rs1.mk Tryz.results55
abbrev r1i56:=Rs1.mk Tryz.results56
abbrev r1i58:=Rs1.mk Tryz.results58
abbrev r1i60:=Rs1.mk Tryz.results60
abbrev r1i61:=Rs1.mk Tryz.results61
abbrev r1i62:=Rs1.mk Tryz.results62
abbrev r1i63:=Rs1.mk Tryz.results63
abbrev r1i64:=Rs1.mk Tryz.results64
abbrev r1i66:=Rs1.mk Tryz.results66
abbrev r1i67:=Rs1.mk Tryz.results67
abbrev r1i68:=Rs1.mk Tryz.results68
abbrev r1i70:=Rs1.mk Tryz.results70
abbrev r1i71:=Rs1.mk Tryz.results71
abbrev r1i72:=Rs1.mk Tryz.results72
abbrev r1i73:=Rs1.mk Tryz.results73
abbrev r1i74:=Rs1.mk Tryz.results74
abbrev r1i76:=Rs1.mk Tryz.results76
abbrev r1i77:=Rs1.mk Tryz.results77
abbrev r1i83:=Rs1.mk Tryz.results83
abbrev r1i84:=Rs1.mk Tryz.results84
abbrev r1i85:=Rs1.mk Tryz.results85
abbrev r1i86:=Rs1.mk Tryz.results86
abbrev r1i87:=Rs1.mk Tryz.results87
abbrev r1i90:=Rs1.mk Tryz.results90
abbrev r1i91:=Rs1.mk Tryz.results91
abbrev r1i92:=Rs1.mk Tryz.results92
abbrev r1i94:=Rs1.mk Tryz.results94
abbrev r1i95:=Rs1.mk Tryz.results95
abbrev r1i96:=Rs1.mk Tryz.results96
abbrev r1i97:=Rs1.mk Tryz.results97
abbrev r1i98:=Rs1.mk Tryz.results98
abbrev r1i99:=Rs1.mk Tryz.results99
abbrev r1i100:=Rs1.mk Tryz.results100
abbrev r1i101:=Rs1.mk Tryz.results101
abbrev r1i102:=Rs1.mk Tryz.results102
abbrev r1i103:=Rs1.mk Tryz.results103
abbrev r1i104:=Rs1.mk Tryz.results104
abbrev r1i105:=Rs1.mk Tryz.results105
abbrev r1i106:=Rs1.mk Tryz.results106
abbrev r1i107:=Rs1.mk Tryz.results107
abbrev r1i108:=Rs1.mk Tryz.results108
abbrev r1i109:=Rs1.mk Tryz.results109
abbrev r1i114:=Rs1.mk Tryz.results114
abbrev r1i115:=Rs1.mk Tryz.results115
abbrev r1i117:=Rs1.mk Tryz.results117
abbrev r1i118:=Rs1.mk Tryz.results118
abbrev r1i119:=Rs1.mk Tryz.results119
abbrev r1i133:=Rs1.mk Tryz.results133
abbrev r1i135:=Rs1.mk Tryz.results135
abbrev r1i136:=Rs1.mk Tryz.results136
abbrev r1i138:=Rs1.mk Tryz.results138
abbrev r1i139:=Rs1.mk Tryz.results139
abbrev r1i140:=Rs1.mk Tryz.results140
abbrev r1i141:=Rs1.mk Tryz.results141
abbrev r1i142:=Rs1.mk Tryz.results142
abbrev r1i143:=Rs1.mk Tryz.results143
abbrev r1i144:=Rs1.mk Tryz.results144
abbrev r1i145:=Rs1.mk Tryz.results145
abbrev r1i146:=Rs1.mk Tryz.results146
abbrev r1i147:=Rs1.mk Tryz.results147
abbrev r1i151:=Rs1.mk Tryz.results151
abbrev r1i159:=Rs1.mk Tryz.results159
abbrev r1i161:=Rs1.mk Tryz.results161
abbrev r1i167:=Rs1.mk Tryz.results167
abbrev r1i168:=Rs1.mk Tryz.results168
abbrev r1i169:=Rs1.mk Tryz.results169
abbrev r1i170:=Rs1.mk Tryz.results170
abbrev r1i171:=Rs1.mk Tryz.results171
abbrev r1i173:=Rs1.mk Tryz.results173
abbrev r1i174:=Rs1.mk Tryz.results174
abbrev r1i175:=Rs1.mk Tryz.results175
abbrev r1i181:=Rs1.mk Tryz.results181
abbrev r1i183:=Rs1.mk Tryz.results183
abbrev r1i184:=Rs1.mk Tryz.results184
abbrev r1i185:=Rs1.mk Tryz.results185
abbrev r1i186:=Rs1.mk Tryz.results186
abbrev r1i199:=Rs1.mk Tryz.results199
abbrev r1i200:=Rs1.mk Tryz.results200
abbrev r1i202:=Rs1.mk Tryz.results202
abbrev r1i204:=Rs1.mk Tryz.results204
abbrev r1i205:=Rs1.mk Tryz.results205
abbrev r1i206:=Rs1.mk Tryz.results206
abbrev r1i207:=Rs1.mk Tryz.results207
abbrev r1i208:=Rs1.mk Tryz.results208
abbrev r1i211:=Rs1.mk Tryz.results211
abbrev r1i212:=Rs1.mk Tryz.results212
abbrev r1i213:=Rs1.mk Tryz.results213
abbrev r1i214:=Rs1.mk Tryz.results214
abbrev r1i215:=Rs1.mk Tryz.results215
abbrev r1i216:=Rs1.mk Tryz.results216
abbrev r1i217:=Rs1.mk Tryz.results217
abbrev r1i227:=Rs1.mk Tryz.results227
abbrev r1i228:=Rs1.mk Tryz.results228
abbrev r1i229:=Rs1.mk Tryz.results229
abbrev r1i230:=Rs1.mk Tryz.results230
abbrev r1i231:=Rs1.mk Tryz.results231
abbrev r1i232:=Rs1.mk Tryz.results232
abbrev r1i233:=Rs1.mk Tryz.results233
abbrev r1i234:=Rs1.mk Tryz.results234
abbrev r1i235:=Rs1.mk Tryz.results235
abbrev r1i241:=Rs1.mk Tryz.results241
abbrev r1i243:=Rs1.mk Tryz.results243
abbrev r1i244:=Rs1.mk Tryz.results244
abbrev r1i245:=Rs1.mk Tryz.results245
abbrev r1i246:=Rs1.mk Tryz.results246
abbrev r1i247:=Rs1.mk Tryz.results247
abbrev r1i248:=Rs1.mk Tryz.results248
abbrev r1i249:=Rs1.mk Tryz.results249
abbrev r1i250:=Rs1.mk Tryz.results250
abbrev r1i251:=Rs1.mk Tryz.results251
abbrev r1i252:=Rs1.mk Tryz.results252
abbrev r1i254:=Rs1.mk Tryz.results254
abbrev r1i255:=Rs1.mk Tryz.results255
abbrev r1i257:=Rs1.mk Tryz.results257
abbrev r1i258:=Rs1.mk Tryz.results258
abbrev r2i50:=Rs2.mk Tryz.results50
abbrev r2i75:=Rs2.mk Tryz.results75
abbrev r2i88:=Rs2.mk Tryz.results88
abbrev r2i89:=Rs2.mk Tryz.results89
abbrev r2i93:=Rs2.mk Tryz.results93
abbrev r2i176:=Rs2.mk Tryz.results176
abbrev r2i177:=Rs2.mk Tryz.results177
abbrev r2i178:=Rs2.mk Tryz.results178
abbrev r2i179:=Rs2.mk Tryz.results179
abbrev r2i201:=Rs2.mk Tryz.results201
abbrev r2i203:=Rs2.mk Tryz.results203
abbrev r2i210:=Rs2.mk Tryz.results210
abbrev r2i238:=Rs2.mk Tryz.results238
abbrev rCi30:=RsC.mk Tryz.results30
abbrev rCi34:=RsC.mk Tryz.results34
abbrev rCi35:=RsC.mk Tryz.results35
abbrev rCi39:=RsC.mk Tryz.results39
abbrev rCi40:=RsC.mk Tryz.results40
abbrev rCi42:=RsC.mk Tryz.results42
abbrev rCi57:=RsC.mk Tryz.results57
abbrev rCi59:=RsC.mk Tryz.results59
abbrev rCi65:=RsC.mk Tryz.results65
abbrev rCi69:=RsC.mk Tryz.results69
abbrev rCi78:=RsC.mk Tryz.results78
abbrev rCi79:=RsC.mk Tryz.results79
abbrev rCi110:=RsC.mk Tryz.results110
abbrev rCi113:=RsC.mk Tryz.results113
abbrev rCi116:=RsC.mk Tryz.results116
abbrev rCi120:=RsC.mk Tryz.results120
abbrev rCi148:=RsC.mk Tryz.results148
abbrev rCi149:=RsC.mk Tryz.results149
abbrev rCi150:=RsC.mk Tryz.results150
abbrev rCi152:=RsC.mk Tryz.results152
abbrev rCi153:=RsC.mk Tryz.results153
abbrev rCi154:=RsC.mk Tryz.results154
abbrev rCi155:=RsC.mk Tryz.results155
abbrev rCi156:=RsC.mk Tryz.results156
abbrev rCi157:=RsC.mk Tryz.results157
abbrev rCi158:=RsC.mk Tryz.results158
abbrev rCi160:=RsC.mk Tryz.results160
abbrev rCi172:=RsC.mk Tryz.results172
abbrev rCi180:=RsC.mk Tryz.results180
abbrev rCi182:=RsC.mk Tryz.results182
abbrev rCi198:=RsC.mk Tryz.results198
abbrev rCi239:=RsC.mk Tryz.results239
theorem inf33:(Tryz.prog.info? 33).map (fun i=>(i.zero,i.size,i.bytes))=some (some (.agg #[.int .i64 0,.int .i64 0]),2,16):=by kernel_rfl
abbrev ini33:=Inf.mk inf33 rfl (by decide)
theorem inf152:(Tryz.prog.info? 152).map (fun i=>(i.zero,i.size,i.bytes))=some (some (.agg #[.bool false,.int .i64 0,.slice none 0 0,.int .i64 0,.int .i64 0,.int .i64 0,.int .i64 0,.int .i64 0,.int .i64 0,.int .i64 0,.int .i64 0,.int .i64 0,.int .i64 0,.int .i64 0,.int .i64 0,.int .i64 0,.int .i64 0,.int .i64 0,.int .i64 0,.int .i64 0,.int .i64 0,.int .i64 0,.int .i64 0,.int .i64 0,.int .i64 0,.int .i64 0,.int .i64 0,.int .i64 0,.int .i64 0,.int .i64 0,.int .i64 0,.int .i64 0,.int .i64 0,.int .i64 0,.int .i64 0,.int .i64 0,.int .i64 0,.int .i64 0,.int .i64 0,.int .i64 0,.int .i64 0,.int .i64 0,.int .i64 0,.int .i64 0,.int .i64 0,.int .i64 0,.int .i64 0,.int .i64 0,.bool false,.int .i64 0,.bool false,.int .i64 0,.int .i64 0,.int .i64 0,.bool false,.bool false,.int .i64 0,.int .i64 0]),58,472):=by kernel_rfl
abbrev ini152:=Inf.mk inf152 rfl (by decide)
theorem inf302:(Tryz.prog.info? 302).map (fun i=>(i.zero,i.size,i.bytes))=some (some (.agg #[.int .i64 0,.int .i64 0,.int .i64 0,.int .i64 0,.int .i64 0,.int .i64 0,.bool false]),7,56):=by kernel_rfl
abbrev ini302:=Inf.mk inf302 rfl (by decide)
theorem inf4:(Tryz.prog.info? 4).map (fun i=>(i.zero,i.size,i.bytes))=some (some (.bool false),1,1):=by kernel_rfl
abbrev ini4:=Inf.mk inf4 rfl (by decide)
theorem inf40:(Tryz.prog.info? 40).map (fun i=>(i.zero,i.size,i.bytes))=some (some (.agg #[.int .i64 0,.int .i64 0]),2,16):=by kernel_rfl
abbrev ini40:=Inf.mk inf40 rfl (by decide)
theorem inf115:(Tryz.prog.info? 115).map (fun i=>(i.zero,i.size,i.bytes))=some (some (.agg #[.int .i64 0,.int .i64 0,.int .i64 0,.int .i64 0,.int .i64 0,.slice none 0 0]),6,64):=by kernel_rfl
abbrev ini115:=Inf.mk inf115 rfl (by decide)
theorem inf266:(Tryz.prog.info? 266).map (fun i=>(i.zero,i.size,i.bytes))=some (some (.agg #[.int .i64 0,.int .i64 0,.int .i64 0,.int .i64 0,.int .i64 0,.int .i64 0,.int .i64 0,.int .i64 0,.int .i64 0,.int .i64 0,.int .i64 0,.int .i64 0,.int .i64 0,.int .i64 0,.int .i64 0,.int .i64 0,.int .i64 0,.int .i64 0,.int .i64 0,.int .i64 0,.int .i64 0,.int .i64 0,.int .i64 0,.int .i64 0,.int .i64 0,.int .i64 0,.int .i64 0,.int .i64 0,.int .i64 0,.int .i64 0,.int .i64 0,.int .i64 0,.int .i64 0,.int .i64 0,.int .i64 0,.int .i64 0,.int .i64 0,.int .i64 0,.int .i64 0,.int .i64 0,.int .i64 0,.int .i64 0,.int .i64 0,.int .i64 0,.int .i64 0,.int .i64 0,.int .i64 0,.int .i64 0,.int .i64 0,.int .i64 0,.int .i64 0,.bool false,.int .i64 0,.bool false,.int .i64 0,.int .i64 0,.int .i64 0,.bool false,.bool false,.int .i64 0,.int .i64 0,.int .i64 0,.int .i64 0,.int .i64 0,.int .i64 0,.int .i64 0,.int .i64 0,.int .i64 0,.int .i64 0]),69,544):=by kernel_rfl
abbrev ini266:=Inf.mk inf266 rfl (by decide)
theorem inf264:(Tryz.prog.info? 264).map (fun i=>(i.zero,i.size,i.bytes))=some (some (.agg #[.int .i64 0,.int .i64 0,.int .i64 0,.int .i64 0,.int .i64 0]),5,40):=by kernel_rfl
abbrev ini264:=Inf.mk inf264 rfl (by decide)
abbrev ini3:=Inf.mk int_info rfl (by decide)
attribute [instance] ci100 ci101 ci102 ci103 ci104 ci105 ci106 ci107 ci108 ci109 ci110 ci111 ci112 ci113 ci114 ci115 ci116 ci117 ci118 ci119 ci120 ci133 ci134 ci135 ci136 ci137 ci138 ci139 ci140 ci141
attribute [instance] ci142 ci143 ci144 ci145 ci146 ci147 ci148 ci149 ci150 ci151 ci152 ci153 ci154 ci155 ci156 ci157 ci158 ci159 ci160 ci161 ci167 ci168 ci169 ci17 ci170 ci171 ci172 ci173 ci174 ci175
attribute [instance] ci176 ci177 ci178 ci179 ci18 ci180 ci181 ci182 ci183 ci184 ci185 ci186 ci19 ci198 ci199 ci20 ci200 ci201 ci202 ci203 ci204 ci205 ci206 ci207 ci208 ci209 ci21 ci210 ci211 ci212
attribute [instance] ci213 ci214 ci215 ci216 ci217 ci22 ci227 ci228 ci229 ci23 ci230 ci231 ci232 ci233 ci234 ci235 ci238 ci239 ci24 ci240 ci241 ci242 ci243 ci244 ci245 ci246 ci247 ci248 ci249 ci25
attribute [instance] ci250 ci251 ci252 ci253 ci254 ci255 ci256 ci257 ci258 ci26 ci27 ci30 ci31 ci32 ci33 ci34 ci35 ci36 ci37 ci39 ci40 ci42 ci48 ci49 ci50 ci51 ci52 ci53 ci54 ci55
attribute [instance] ci56 ci57 ci58 ci59 ci60 ci61 ci62 ci63 ci64 ci65 ci66 ci67 ci68 ci69 ci70 ci71 ci72 ci73 ci74 ci75 ci76 ci77 ci78 ci79 ci83 ci84 ci85 ci86 ci87 ci88
attribute [instance] ci89 ci90 ci91 ci92 ci93 ci94 ci95 ci96 ci97 ci98 ci99 ii102 ii105 ii108 ii109 ii110 ii113 ii115 ii124 ii141 ii153 ii156 ii173 ii223 ii224 ii24 ii264 ii266 ii268 ii271
attribute [instance] ii28 ii282 ii29 ii296 ii298 ii3 ii30 ii302 ii31 ii33 ii34 ii35 ii36 ii37 ii38 ii39 ii4 ii40 ii42 ii44 ii47 ii49 ii52 ii59 ii61 ii63 ii99 si102 si105 si109
attribute [instance] si110 si113 si115 si124 si141 si152 si153 si156 si173 si223 si224 si24 si264 si266 si268 si271 si28 si282 si29 si298 si3 si30 si302 si31 si33 si34 si35 si36 si37 si38
attribute [instance] si39 si4 si40 si42 si47 si49 si52 si59 si61 si63 si99 ui102 ui104 ui105 ui107 ui109 ui110 ui112 ui113 ui115 ui122 ui128 ui141 ui152 ui153 ui155 ui156 ui173 ui202 ui204
attribute [instance] ui210 ui22 ui223 ui224 ui24 ui253 ui261 ui264 ui266 ui268 ui275 ui28 ui288 ui298 ui3 ui300 ui302 ui304 ui33 ui34 ui35 ui4 ui40 ui42 ui47 ui49 ui52 ui59 ui61 ui63
attribute [instance] ui99 zi102 zi104 zi107 zi109 zi112 zi115 zi124 zi128 zi141 zi152 zi155 zi156 zi173 zi209 zi223 zi224 zi264 zi266 zi268 zi271 zi275 zi282 zi3 zi300 zi302 zi33 zi35 zi40 zi42
attribute [instance] zi49 zi52 zi55 zi63 zl109 zl115 zl124 zl141 zl173 zl224 zl264 zl268 zl271 zl3 zl302 zl33 zl35 zl40 zl49 zl52 zl63 fni6 nti6 fni17 nti17 fni18 nti18 fni19 nti19 fni20
attribute [instance] nti20 fni21 nti21 fni22 nti22 fni23 nti23 fni24 nti24 fni25 nti25 fni26 nti26 fni27 nti27 fni30 nti30 fni31 nti31 fni32 nti32 fni33 nti33 fni34 nti34 fni35 nti35 fni36 nti36 fni37
attribute [instance] nti37 fni39 nti39 fni40 nti40 fni41 nti41 fni42 nti42 fni48 nti48 fni49 nti49 fni50 nti50 fni51 nti51 fni52 nti52 fni53 nti53 fni54 nti54 fni55 nti55 fni56 nti56 fni57 nti57 fni58
attribute [instance] nti58 fni59 nti59 fni60 nti60 fni61 nti61 fni62 nti62 fni63 nti63 fni64 nti64 fni65 nti65 fni66 nti66 fni67 nti67 fni68 nti68 fni69 nti69 fni70 nti70 fni71 nti71 fni72 nti72 fni73
attribute [instance] nti73 fni74 nti74 fni75 nti75 fni76 nti76 fni77 nti77 fni78 nti78 fni79 nti79 fni83 nti83 fni84 nti84 fni85 nti85 fni86 nti86 fni87 nti87 fni88 nti88 fni89 nti89 fni90 nti90 fni91
attribute [instance] nti91 fni92 nti92 fni93 nti93 fni94 nti94 fni95 nti95 fni96 nti96 fni97 nti97 fni98 nti98 fni99 nti99 fni100 nti100 fni101 nti101 fni102 nti102 fni103 nti103 fni104 nti104 fni105 nti105 fni106
attribute [instance] nti106 fni107 nti107 fni108 nti108 fni109 nti109 fni110 nti110 fni111 nti111 fni112 nti112 fni113 nti113 fni114 nti114 fni115 nti115 fni116 nti116 fni117 nti117 fni118 nti118 fni119 nti119 fni120 nti120 fni131
attribute [instance] fni133 nti133 fni134 nti134 fni135 nti135 fni136 nti136 fni137 nti137 fni138 nti138 fni139 nti139 fni140 nti140 fni141 nti141 fni142 nti142 fni143 nti143 fni144 nti144 fni145 nti145 fni146 nti146 fni147 nti147
attribute [instance] fni148 nti148 fni149 nti149 fni150 nti150 fni151 nti151 fni152 nti152 fni153 nti153 fni154 nti154 fni155 nti155 fni156 nti156 fni157 nti157 fni158 nti158 fni159 nti159 fni160 nti160 fni161 nti161 fni167 nti167
attribute [instance] fni168 nti168 fni169 nti169 fni170 nti170 fni171 nti171 fni172 nti172 fni173 nti173 fni174 nti174 fni175 nti175 fni176 nti176 fni177 nti177 fni178 nti178 fni179 nti179 fni180 nti180 fni181 nti181 fni182 nti182
attribute [instance] fni183 nti183 fni184 nti184 fni185 nti185 fni186 nti186 fni198 nti198 fni199 nti199 fni200 nti200 fni201 nti201 fni202 nti202 fni203 nti203 fni204 nti204 fni205 nti205 fni206 nti206 fni207 nti207 fni208 nti208
attribute [instance] fni209 nti209 fni210 nti210 fni211 nti211 fni212 nti212 fni213 nti213 fni214 nti214 fni215 nti215 fni216 nti216 fni217 nti217 fni218 fni219 fni220 fni227 nti227 fni228 nti228 fni229 nti229 fni230 nti230 fni231
attribute [instance] nti231 fni232 nti232 fni233 nti233 fni234 nti234 fni235 nti235 fni238 nti238 fni239 nti239 fni240 nti240 fni241 nti241 fni242 nti242 fni243 nti243 fni244 nti244 fni245 nti245 fni246 nti246 fni247 nti247 fni248
attribute [instance] nti248 fni249 nti249 fni250 nti250 fni251 nti251 fni252 nti252 fni253 nti253 fni254 nti254 fni255 nti255 fni256 nti256 fni257 nti257 fni258 nti258 r1i6 r1i19 r1i20 r1i21 r1i22 r1i23 r1i24 r1i25 r1i26
attribute [instance] r1i27 r1i31 r1i32 r1i33 r1i36 r1i37 r1i41 r1i48 r1i49 r1i51 r1i52 r1i53 r1i54 r1i55 r1i56 r1i58 r1i60 r1i61 r1i62 r1i63 r1i64 r1i66 r1i67 r1i68 r1i70 r1i71 r1i72 r1i73 r1i74 r1i76
attribute [instance] r1i77 r1i83 r1i84 r1i85 r1i86 r1i87 r1i90 r1i91 r1i92 r1i94 r1i95 r1i96 r1i97 r1i98 r1i99 r1i100 r1i101 r1i102 r1i103 r1i104 r1i105 r1i106 r1i107 r1i108 r1i109 r1i114 r1i115 r1i117 r1i118 r1i119
attribute [instance] r1i133 r1i135 r1i136 r1i138 r1i139 r1i140 r1i141 r1i142 r1i143 r1i144 r1i145 r1i146 r1i147 r1i151 r1i159 r1i161 r1i167 r1i168 r1i169 r1i170 r1i171 r1i173 r1i174 r1i175 r1i181 r1i183 r1i184 r1i185 r1i186 r1i199
attribute [instance] r1i200 r1i202 r1i204 r1i205 r1i206 r1i207 r1i208 r1i211 r1i212 r1i213 r1i214 r1i215 r1i216 r1i217 r1i227 r1i228 r1i229 r1i230 r1i231 r1i232 r1i233 r1i234 r1i235 r1i241 r1i243 r1i244 r1i245 r1i246 r1i247 r1i248
attribute [instance] r1i249 r1i250 r1i251 r1i252 r1i254 r1i255 r1i257 r1i258 r2i50 r2i75 r2i88 r2i89 r2i93 r2i176 r2i177 r2i178 r2i179 r2i201 r2i203 r2i210 r2i238 rCi30 rCi34 rCi35 rCi39 rCi40 rCi42 rCi57 rCi59 rCi65
attribute [instance] rCi69 rCi78 rCi79 rCi110 rCi113 rCi116 rCi120 rCi148 rCi149 rCi150 rCi152 rCi153 rCi154 rCi155 rCi156 rCi157 rCi158 rCi160 rCi172 rCi180 rCi182 rCi198 rCi239 ini33 ini152 ini302 ini4 ini40 ini115 ini266
attribute [instance] ini264 ini3
end Go.Proofs.YtbedndijejpcaaaGreat
