/- Base Calc Mem -/
import Derived.Test.YtbedndijejpcaaaGreatProg
import Derived.BigQuiet
import Derived.Deep.Draws
import Derived.Deep.QuietTactic
import Derived.Handy
import Derived.Lib.Hide
import Derived.LoopNIn
import Derived.Maps.AppendAt
import Derived.OrdersIn
import Derived.RangeFuncCalls
import Derived.RangeFuncLeaves
import Derived.RangeFuncNested
import Derived.TacticsIn
import Derived.WalkKit
import Derived.WalkLawsBesides
import Derived.WalkSpells
set_option linter.unusedVariables false
set_option linter.unusedSimpArgs false
set_option linter.unusedSectionVars false
set_option maxRecDepth 100000
set_option maxHeartbeats 8000000
namespace Go.Proofs.YtbedndijejpcaaaGreat
open Go.RowKit
@[go_sem ↓] theorem GF (P:Program) (w:World) (ats:Array TypeId) (ty:TypeId) (x y:Int):
    (Builtin.max_ ats ty #[.int .i64 x,.int .i64 y]).run P w=.ok (.int .i64 (max x y)) w:=by
  rw[run_max_int2];congr 2;split<;>omega
@[go_sem ↓] theorem GD (P:Program) (w:World) (ats:Array TypeId) (ty:TypeId) (x y:Int):
    (Builtin.min_ ats ty #[.int .i64 x,.int .i64 y]).run P w=.ok (.int .i64 (min x y)) w:=by
  rw[run_min_int2];congr 2;split<;>omega
def Rd (w:World) (sz:Nat) (A:Option Addr) (n:Nat) (xs:List Value):Prop:=
  xs.length=n*sz∧(0<n→0<sz→∃b o,A=some ⟨b,o,none⟩∧∀j u,xs[j]?=some u→w.cell? ⟨b,o+j,none⟩=some u)
section
variable {w w':World} {B sz n:Nat} {A:Option Addr} {xs:List Value}
theorem lP {w:World} {b o:Nat} {v:Value} (h:w.cell? ⟨b,o,none⟩=some v):b<w.heap.size:=World.block_lt_of_cell? w _ h
theorem Rd.keep (h:Rd w sz A n xs) (hk:∀b o,b<w.heap.size→w'.cell? ⟨b,o,none⟩=w.cell? ⟨b,o,none⟩):Rd w' sz A n xs:=
  ⟨h.1, fun h0 h1 => by
    obtain ⟨b, o, e, hc⟩ := h.2 h0 h1
    exact ⟨b, o, e, fun j u hu => (hk _ _ (lP (hc j u hu))).trans (hc j u hu)⟩⟩
theorem Rd.below (h:Rd w sz A n xs) (hb:Below w.heap.size w w'):Rd w' sz A n xs:=h.keep fun b o hlt=>hb.cell (p:=⟨b,o,none⟩) hlt
theorem Rd.drew (h:Rd w sz A n xs):Rd w.drew sz A n xs:=h
theorem Rd.drewN (h:Rd w sz A n xs) (k:Nat):Rd (w.drewN k) sz A n xs:=h
theorem Rd.nil (w:World) (sz:Nat) (A:Option Addr):Rd w sz A 0 []:=⟨by simp,fun h _=>by omega⟩
theorem Rd.one {k:Nat} (h:Rd w 1 A n xs) (hk:k<n):∃b o u,A=some ⟨b,o,none⟩∧xs[k]?=some u∧w.cell? ⟨b,o+k,none⟩=some u∧b<w.heap.size:=by
  obtain⟨b,o,e,hc⟩:=h.2 (by omega) (by omega);have hl:k<xs.length:=by have:=h.1;omega
  have:=hc k _ (List.getElem?_eq_getElem hl);exact⟨b,o,xs[k],e,List.getElem?_eq_getElem hl,this,lP this⟩
end
theorem mixed:Tryz.prog.follows .mixedOrders=true:=by rfl
theorem cT:(Tryz.prog.info? 3).map (fun i=>(i.zero,i.size,i.bytes))=some (some (.int .i64 0),1,8):=by kernel_rfl
abbrev Env:=Nat→Value
def upd (ρ:Env) (d:Nat) (v:Value):Env:=fun t=>cond (Nat.beq t d) v (ρ t)
theorem G7 (ρ:Env) (d:Nat) (v:Value) (t:Nat):upd ρ d v t=if t=d then v else ρ t:=by
  show cond (Nat.beq t d) v (ρ t)=_;cases h:Nat.beq t d with
  | true=>rw[if_pos (Nat.eq_of_beq_eq_true h)];rfl
  | false=>rw[if_neg (Nat.ne_of_beq_eq_false h)];rfl
def xU (ρ:Env) (d:Option Tmp) (v:Value):Env:=match d with | some d=>upd ρ d v | none=>ρ
def evo (ρ:Env):Operand→Value
  | .tmp t=>ρ t
  | .const v=>v
  | .global g=>.pointer (some ⟨g,0,none⟩)
  | .func f=>.func (.func f) #[] #[]
def nT (l:List Value):Env:=fun t=>l.getD t undef
def mR (l:List (Nat×Value)) (ρ:Env):Env:=l.foldr (fun p e=>upd e p.1 p.2) ρ
def Has:List (Nat×Value)→Env→Prop
  | [],_=>True
  | p::l,ρ=>ρ p.1=p.2∧Has l ρ
theorem via {a b:Value} (c:Value) (h:a=c) (h':c=b):a=b:=h.trans h'
theorem fx {ρ:Env} {d:Nat} {v:Value} (h:ρ d=v):upd ρ d v=ρ:=by
  funext t;rw[G7];split
  · rename_i e;subst e;exact h.symm
  · rfl
theorem dW:∀{l:List (Nat×Value)} {ρ:Env},Has l ρ→mR l ρ=ρ
  | [],_,_=>rfl
  | p :: l, ρ, h => by
    show upd (mR l ρ) p.1 p.2=ρ;rw[dW h.2];exact fx h.1
structure Fr (N:Nat) (ρ:Env) (ds:List Deferred) (a:Act):Prop where
  size:a.tmps.size=N
  get:∀t,a.tmps.getD t undef=ρ t
  defs:a.defers=ds
section
variable {N:Nat} {ρ:Env} {ds:List Deferred} {a:Act}
theorem Fr.DL (h:Fr N ρ ds a) (x:Operand):a.eval x=evo ρ x:=by
  cases x<;>first | rfl | exact h.get _
theorem Fr.eval (h:Fr N ρ ds a):a.eval=evo ρ:=funext h.DL
theorem Fr.put (h:Fr N ρ ds a) {dst:Option Tmp} {v:Value} (hd:∀d,dst=some d→d<N):Fr N (xU ρ dst v) ds (a.put dst v):=by
  cases dst with
  | none=>exact h
  | some d =>
    have hN:=hd d rfl;refine⟨by simpa [Act.put] using h.size,fun t=>?_,h.defs⟩;show (a.tmps.setIfInBounds d v).getD t undef=upd ρ d v t;rw[G7]
    by_cases e:t=d
    · subst e
      rw[if_pos rfl];simp[Array.getD,h.size,hN]
    · rw [if_neg e, ← h.get t]
      simp[Array.getD_eq_getD_getElem?,Ne.symm e]
end
def FW (r:Option Nat):Fence:={Fence.wide with round:=r}
theorem CS:FW none=Fence.wide:=rfl
@[simp] theorem jn (r:Option Nat):(FW r).round=r:=rfl
abbrev XP:=Exit→Env→List Deferred→World→Prop
def JB (N:Nat) (Q:XP):Exit→Act→World→Prop
  | .panic _,_,_=>False
  | .outgrown,_,_=>False
  | e,a,w=>∃ρ ds,Fr N ρ ds a∧Q e ρ ds w
theorem G0 {N:Nat} {Q Q':XP} (h:∀e ρ ds w,Q e ρ ds w→Q' e ρ ds w):∀e a w,JB N Q e a w→JB N Q' e a w:=by
  intro e a w hq;cases e<;>first
    | exact hq.elim
    | exact let ⟨ρ,ds,hf,hq⟩:=hq;⟨ρ,ds,hf,h _ _ _ _ hq⟩
def WP (P:Program) (r:Option Nat) (N:Nat) (c:Code) (Q:XP) (ρ:Env) (ds:List Deferred) (S:World→Prop):Prop:=
  ∀w,S w→∀a,Fr N ρ ds a→c.wpIn (FW r) 0 P (JB N Q) a w
def kY (K:Env→List Deferred→World→Prop) (Q:XP):XP
  | .normal,ρ,ds,w=>K ρ ds w
  | e,ρ,ds,w=>Q e ρ ds w
def inB (id:Nat) (Q:XP):XP
  | .exit i,ρ,ds,w=>if i=id then Q .normal ρ ds w else Q (.exit i) ρ ds w
  | e,ρ,ds,w=>Q e ρ ds w
def Im (P:Program) (r:Option Nat) (N:Nat) (c:Code) (Q:XP):Env→List Deferred→World→Prop:=fun ρ ds w=>WP P r N c Q ρ ds (fun w'=>w'=w)
section
variable {P:Program} {r:Option Nat} {N:Nat} {Q Q':XP} {ρ:Env} {ds:List Deferred} {S S':World→Prop} {c x y:Code} {ops:Array Oper}
theorem WP.mono (h:WP P r N c Q ρ ds S) (hq:∀e ρ ds w,Q e ρ ds w→Q' e ρ ds w):WP P r N c Q' ρ ds S:=
  fun w hw a ha=>Go.wpIn_mono (h w hw a ha) (G0 hq)
theorem WP.pre (h:WP P r N c Q ρ ds S') (hs:∀w,S w→S' w):WP P r N c Q ρ ds S:=fun w hw=>h w (hs w hw)
theorem WP.ex {X:Type} {S:X→World→Prop} (h:∀x,WP P r N c Q ρ ds (S x)):WP P r N c Q ρ ds (fun w=>∃x,S x w):=fun w ⟨x,hw⟩=>h x w hw
theorem WP.fact {p:Prop} (h:p→WP P r N c Q ρ ds S):WP P r N c Q ρ ds (fun w=>p∧S w):=fun w ⟨hp,hw⟩=>h hp w hw
theorem WP.holds {p:Prop} (hp:∀w,S w→p) (h:p→WP P r N c Q ρ ds S):WP P r N c Q ρ ds S:=fun w hw=>h (hp w hw) w hw
theorem WP.seq (h:WP P r N x (kY (Im P r N y Q) Q) ρ ds S):WP P r N (.seq x y) Q ρ ds S:=by
  intro w hw a ha;refine wpIn_seq (Go.wpIn_mono (h w hw a ha) ?_);intro e a' w' hq;cases e<;>first
    | exact hq.elim
    | exact(let ⟨ρ',ds',hf,hq⟩:=hq;hq w' rfl a' hf)
    | exact hq
theorem WP.skip (h:∀w,S w→Q .normal ρ ds w):WP P r N .skip Q ρ ds S:=fun w hw _ ha=>wpIn_skip ⟨ρ,ds,ha,h w hw⟩
theorem WP.ret (h:∀w,S w→Q .ret ρ ds w):WP P r N .ret Q ρ ds S:=fun w hw _ ha=>wpIn_ret ⟨ρ,ds,ha,h w hw⟩
theorem WP.exit {id:Nat} (h:∀w,S w→Q (.exit id) ρ ds w):WP P r N (.exit id) Q ρ ds S:=fun w hw _ ha=>wpIn_exit ⟨ρ,ds,ha,h w hw⟩
theorem WP.block {id:Nat} (h:WP P r N c (inB id Q) ρ ds S):WP P r N (.block id c) Q ρ ds S:=by
  intro w hw a ha;refine wpIn_block (Go.wpIn_mono (h w hw a ha) ?_);intro e a' w' hq;cases e<;>first
    | exact hq.elim
    | exact hq
    | skip
  rename_i i;obtain⟨ρ',ds',hf,hq⟩:=hq;unfold Exit.inBlock;unfold inB at hq
  by_cases e:i=id
  · simp only [e, if_true] at hq ⊢
    exact⟨ρ',ds',hf,hq⟩
  · simp only [e, if_false] at hq ⊢
    exact⟨ρ',ds',hf,hq⟩
theorem an (h:WP P r N y Q ρ ds S):∀w,S w→Im P r N y Q ρ ds w:=fun w hw w' e=>h w' (by subst e;exact hw)
theorem WP.aQ {o:Operand} (hc:evo ρ o=.bool true) (h:WP P r N x Q ρ ds S):WP P r N (.cond o x y) Q ρ ds S:=
  fun w hw a ha=>wpIn_cond_true ((ha.DL o).trans hc) (h w hw a ha)
theorem WP.br {o:Operand} (hc:evo ρ o=.bool false) (h:WP P r N y Q ρ ds S):WP P r N (.cond o x y) Q ρ ds S:=
  fun w hw a ha=>wpIn_cond_false ((ha.DL o).trans hc) (h w hw a ha)
theorem WP.cond {o:Operand} {b:Bool} (hc:evo ρ o=.bool b) (ht:b=true→WP P r N x Q ρ ds S) (hf:b=false→WP P r N y Q ρ ds S):WP P r N (.cond o x y) Q ρ ds S:=by
  cases b with
  | true=>exact WP.aQ hc (ht rfl)
  | false=>exact WP.br hc (hf rfl)
theorem WP.aw {o:Operand} {p:Prop} [Decidable p] (hc:evo ρ o=.bool (decide p)) (ht:p→WP P r N x Q ρ ds S) (hf:¬p→WP P r N y Q ρ ds S):WP P r N (.cond o x y) Q ρ ds S:=
  WP.cond hc (fun h=>ht (of_decide_eq_true h)) (fun h=>hf (of_decide_eq_false h))
theorem WP.mid (M:Env→List Deferred→World→Prop) (h:WP P r N x (kY M Q) ρ ds S) (k:∀ρ ds w,M ρ ds w→WP P r N y Q ρ ds (fun w'=>w'=w)):WP P r N (.seq x y) Q ρ ds S:=
  WP.seq (h.mono fun e ρ' ds' w' hq=>by cases e<;>first | exact hq | exact k _ _ _ hq)
theorem WP.label {l:Nat} (h:∀w,S w→Q .normal ρ ds w):WP P r N (.label l) Q ρ ds S:=fun w hw _ ha=>wpIn_label ⟨ρ,ds,ha,h w hw⟩
theorem WP.iU {X:Type} (keep:List Nat) (E:X→List (Nat×Value)) (Sx:X→World→Prop) (h:WP P r N x (kY (fun ρ' ds' w'=>ds'=ds∧∃x,Has (E x++keep.map fun t=>(t,ρ t)) ρ'∧Sx x w') Q) ρ ds S)
    (k:∀x ρ0,WP P r N y Q (mR (E x++keep.map fun t=>(t,ρ t)) ρ0) ds (Sx x)):WP P r N (.seq x y) Q ρ ds S:=
  WP.mid _ h fun ρ' ds' w' ⟨e,x,hE,hx⟩=>by
    subst e;have:=(k x ρ').pre (S:=fun w''=>w''=w') fun w'' e=>e▸hx
    rwa [dW hE] at this
theorem WP.uo (keep:List Nat) (E:List (Nat×Value)) (h:WP P r N x (kY (fun ρ' ds' w'=>ds'=ds∧Has (E++keep.map fun t=>(t,ρ t)) ρ'∧S w') Q) ρ ds S)
    (k:∀ρ0,WP P r N y Q (mR (E++keep.map fun t=>(t,ρ t)) ρ0) ds S):WP P r N (.seq x y) Q ρ ds S:=
  WP.mid _ h fun ρ' ds' w' ⟨e,hE,hx⟩=>by
    subst e;have:=(k ρ').pre (S:=fun w''=>w''=w') fun w'' e=>e▸hx
    rwa [dW hE] at this
theorem gq {p:Nat→Prop} (h:∃n,p n):∃n,p n∧∀m,p m→n≤m:=by
  obtain⟨n,hn⟩:=h;induction n using Nat.strongRecOn with
  | _ n ih =>
    by_cases e:∃m,m<n∧p m
    · obtain ⟨m, hm, hp⟩ := e
      exact ih m hm hp
    · refine ⟨n, hn, fun m hp => ?_⟩
      by_cases hlt:m<n
      · exact absurd ⟨m,hlt,hp⟩ e
      · omega
open Classical in
theorem WP.loop {X:Type} (E:X→List (Nat×Value)) (Sx:X→World→Prop) (μ:X→Nat) (x0:X) (h0:Has (E x0) ρ) (hS0:∀w,S w→Sx x0 w)
    (hr:∀x ρ0,WP P r N c (kY (fun ρ' ds' w'=>ds'=ds∧∃x',μ x'<μ x∧Has (E x') ρ'∧Sx x' w') Q) (mR (E x) ρ0) ds (Sx x)):WP P r N (.loop c) Q ρ ds S:=by
  intro w hw a ha
  let V:Act→World→Nat→Prop:=fun a' w' k=>∃x ρ',μ x=k∧Fr N ρ' ds a'∧Has (E x) ρ'∧Sx x w'
  refine wpIn_loop (fun a' w'=>∃k,V a' w' k) (fun a' w'=>if h:∃k,V a' w' k then (gq h).choose else 0) ⟨_,x0,ρ,rfl,ha,h0,hS0 w hw⟩ ?_;intro a' w' hI;obtain⟨⟨x,ρ',hk,hf,hE,hx⟩,_⟩:=(gq hI).choose_spec;have h1:=hr x ρ' w' hx a' (by rw[dW hE];exact hf);refine Go.wpIn_mono h1 ?_;intro e a2 w2 hq;cases e<;>first
    | exact hq.elim
    | exact hq
    | skip
  obtain⟨ρ2,ds2,hf2,rfl,x2,hlt,hE2,hx2⟩:=hq;have hI2:∃k,V a2 w2 k:=⟨_,x2,ρ2,rfl,hf2,hE2,hx2⟩;refine⟨hI2,?_⟩;rw[dif_pos hI,dif_pos hI2];have:=(gq hI2).choose_spec.2 (μ x2) ⟨x2,ρ2,rfl,hf2,hE2,hx2⟩;omega
theorem WP.bm {X:Type} (keep:List Nat) (E:X→List (Nat×Value)) (Sx:X→World→Prop) (μ:X→Nat) (x0:X) (h0:Has (E x0) ρ) (hS0:∀w,S w→Sx x0 w)
    (hr:∀x ρ0,WP P r N c (kY (fun ρ' ds' w'=>ds'=ds∧∃x',μ x'<μ x∧Has (E x'++keep.map fun t=>(t,ρ t)) ρ'∧Sx x' w') Q) (mR (E x++keep.map fun t=>(t,ρ t)) ρ0) ds (Sx x)):WP P r N (.loop c) Q ρ ds S:=by
  refine WP.loop (fun x=>E x++keep.map fun t=>(t,ρ t)) Sx μ x0 ?_ hS0 hr;have hk:∀l:List Nat,Has (l.map fun t=>(t,ρ t)) ρ:=fun l=>by
    induction l with
    | nil=>trivial
    | cons t l ih=>exact⟨rfl,ih⟩
  have ha:∀l:List (Nat×Value),Has l ρ→Has (l++keep.map fun t=>(t,ρ t)) ρ:=fun l=>by
    induction l with
    | nil=>exact fun _=>hk keep
    | cons t l ih=>exact fun h=>⟨h.1,ih h.2⟩
  exact ha _ h0
def fS (P:Program) (r:Option Nat) (N:Nat) (c:Code) (Q:XP) (n:Nat) (ρ:Env) (ds:List Deferred) (S:World→Prop):Prop:=
  ∀w,S w→∀a,Fr N ρ ds a→Code.roundsIn (FW r) 0 P c (JB N Q) n a w
theorem WP.jH (n:Nat) (h:fS P r N c Q n ρ ds S):WP P r N (.loop c) Q ρ ds S:=fun w hw a ha=>wpIn_loop_rounds n (h w hw a ha)
theorem fS.succ {n:Nat} (h:WP P r N c (kY (fun ρ ds w=>fS P r N c Q n ρ ds (fun w'=>w'=w)) Q) ρ ds S):fS P r N c Q (n+1) ρ ds S:=by
  intro w hw a ha;refine Go.wpIn_mono (h w hw a ha) ?_;intro e a' w' hq;cases e<;>first
    | exact hq.elim
    | exact(let ⟨ρ',ds',hf,hq⟩:=hq;hq w' rfl a' hf)
    | exact hq
theorem aI {n:Nat} (h:fS P r N c Q n ρ ds S):∀w,S w→fS P r N c Q n ρ ds (fun w'=>w'=w):=fun w hw w' e=>h w' (by subst e;exact hw)
def cw (P:Program) (S:World→Prop) (o:Oper) (ρ:Env) (v:Value):Prop:=
  ∀ w, S w → (execOp (evo ρ) o).run P w = .ok (.value v) w ∨
    ∃f args,(execOp (evo ρ) o).run P w=.ok (.enter f args) w∧Calls P f args w fun e w'=>e=.returned v∧w=w'
def bJ (o:Oper):Bool:=match o.op with | .defer _=>false | _=>true
theorem eU {o:Oper} (h:bJ o=true):∀c,o.op≠.defer c:=by
  intro c e;simp[bJ,e] at h
def cX (P:Program) (r:Option Nat) (S:World→Prop) (o:Oper) (ρ:Env) {X:Type} (v:X→Value) (S':X→World→Prop):Prop:=
  ∀w,S w→∀a:Act,a.eval=evo ρ→∀(K:Act→World→Prop) (Q:Exit→Act→World→Prop),(∀x w',S' x w'→K (a.put o.dst (v x)) w')→o.wpIn (FW r) 0 P a w K Q
theorem nO (r:Option Nat) (f:FuncId):(FW r).fn f:=trivial
theorem mM (r:Option Nat):(FW r).depth.isSome=true→1≤0:=fun h=>by simp[FW,Fence.wide] at h
theorem lL {P:Program} {r:Option Nat} {n:Nat} {f:FuncId} {args:Array Value} {w:World} {R:Ending→World→Prop} (h:Calls P f args w R):CallsIn (FW r) n P f args w R:=
  have h1:CallsIn Fence.wide n P f args w R:=callsIn_wide.2 h
  match r with
  | none=>h1
  | some l=>h1.inRound l
theorem cw.toX {o:Oper} {v:Value} (hd:bJ o=true) (h:cw P S o ρ v):cX P r S o ρ (X:=Unit) (fun _=>v) (fun _=>S):=by
  intro w hw a ha K Q hK;refine⟨fun _ _=>nO r _,?_⟩;rw[jn,Oper.semAt_eq r _ o (eU hd),ha]
  rcases h w hw with h1 | ⟨f,args,h1,h2⟩
  · rw[h1];exact hK () w hw
  · rw [h1]
    refine⟨mM r,lL (h2.mono ?_)⟩
    rintro e w' ⟨rfl,rfl⟩
    exact hK () w hw
theorem cX.gB {o:Oper} {X:Type} {v:X→Value} {T:X→World→Prop} (hd:bJ o=true) (h:∀w,S w→∃x w',(execOp (evo ρ) o).run P w=.ok (.value (v x)) w'∧T x w'):cX P r S o ρ v T:=by
  intro w hw a ha K Q hK;refine⟨fun _ _=>nO r _,?_⟩;rw[jn,Oper.semAt_eq r _ o (eU hd),ha];obtain⟨x,w',h1,h2⟩:=h w hw;rw[h1];exact hK x w' h2
theorem cX.ji {o:Oper} {T:World→Prop} (hd:bJ o=true) (h:∀w,S w→∃w',(execOp (evo ρ) o).run P w=.ok .skip w'∧T w'):cX P r S o ρ (X:=Unit) (fun _=>undef) (fun _=>T):=by
  intro w hw a ha K Q hK;refine⟨fun _ _=>nO r _,?_⟩;rw[jn,Oper.semAt_eq r _ o (eU hd),ha];obtain⟨w',h1,h2⟩:=h w hw;rw[h1];exact hK () w' h2
theorem cX.nx {o:Oper} {X:Type} {v:X→Value} {T:X→World→Prop} (hd:bJ o=true) {f:FuncId} {args:Array Value}
    (h:∀w,S w→(execOp (evo ρ) o).run P w=.ok (.enter f args) w) (hc:∀w,S w→Calls P f args w fun e w'=>∃x,e=.returned (v x)∧T x w'):cX P r S o ρ v T:=by
  intro w hw a ha K Q hK;refine⟨fun _ _=>nO r _,?_⟩;rw[jn,Oper.semAt_eq r _ o (eU hd),ha,h w hw];refine⟨mM r,lL ((hc w hw).mono ?_)⟩
  rintro e w' ⟨x,rfl,hT⟩
  exact hK x w' hT
def aj (P:Program) (r:Option Nat) (N:Nat) (ops:Array Oper) (l:List Oper) (Q:XP) (ρ:Env) (ds:List Deferred) (S:World→Prop):Prop:=
  ∀w,S w→∀a,Fr N ρ ds a→wpListIn (FW r) 0 P ops (JB N Q) l a w
def wants (ops:Array Oper) (ρ:Env) (o:Oper):Bool:=
  match o.guard with
  | none=>true
  | some (j, b) => match (ops[j]?).bind (·.dst) with
    | none=>false
    | some d => match ρ d with
      | .bool c=>c==b
      | _=>false
theorem ia {o:Oper} {a:Act} (ha:Fr N ρ ds a) (hN:∀j b d,o.guard=some (j,b)→(ops[j]?).bind (·.dst)=some d→d<N):Region.wanted o (yielded ops a.tmps)=wants ops ρ o:=by
  unfold Region.wanted wants;cases hg:o.guard with
  | none=>rfl
  | some p =>
    obtain⟨j,b⟩:=p;simp only;unfold yielded;cases hd:(ops[j]?).bind (·.dst) with
    | none=>rfl
    | some d =>
      have hlt:=hN j b d hg hd;have h1:=ha.get d;have h2:a.tmps[d]?=some (ρ d):=by
        rw[Array.getElem?_eq_getElem (by rw[ha.size];exact hlt)];rw[←h1];simp[Array.getD,ha.size,hlt]
      simp only[Option.bind_some,h2];cases ρ d<;>first | rfl | (rename_i c;cases c<;>cases b<;>rfl)
def gX (N:Nat) (ops:List Oper):Bool:=ops.all fun o=>match o.dst with | some d=>decide (d<N) | none=>true
theorem jF {l:List Oper} (h:gX N l=true) {j d:Nat} (hd:(l.toArray[j]?).bind (·.dst)=some d):d<N:=by
  obtain⟨o,ho,hd⟩:=Option.bind_eq_some_iff.1 hd;have hm:o∈l:=by simpa using Array.mem_of_getElem? ho
  have:=List.all_eq_true.1 h o hm
  simpa [hd] using this
theorem WP.region {id:Nat} {l:List Oper} (h:aj P r N l.toArray l Q ρ ds S):WP P r N (.region id l.toArray false) Q ρ ds S:=fun w hw a ha=>wpIn_region_lit (h w hw a ha)
theorem aj.nil (h:∀w,S w→Q .normal ρ ds w):aj P r N ops [] Q ρ ds S:=fun w hw _ ha=>wpListIn_nil ⟨ρ,ds,ha,h w hw⟩
theorem aj.eff {o:Oper} {rest:List Oper} {X:Type} {v:X→Value} {T:X→World→Prop} (hg:o.guard=none) (hd:∀d,o.dst=some d→d<N) (h:cX P r S o ρ v T)
    (k:∀x,aj P r N ops rest Q (xU ρ o.dst (v x)) ds (T x)):aj P r N ops (o::rest) Q ρ ds S:=
  fun w hw a ha=>wpListIn_plain hg fun K hK=>h w hw a ha.eval K _ fun x w' hT=>hK _ _ (k x w' hT _ (ha.put hd))
theorem aj.val {o:Oper} {rest:List Oper} {v:Value} {d:Nat} (h:cw P S o ρ v) (k:aj P r N ops rest Q (upd ρ d v) ds S)
    (hg:o.guard=none:=by rfl) (hd:o.dst=some d:=by rfl) (hN:d<N:=by decide) (hdf:bJ o=true:=by rfl):aj P r N ops (o::rest) Q ρ ds S:=
  aj.eff hg (fun d' e=>by rw[hd] at e;cases e;exact hN) (h.toX hdf) fun _=>by rw[hd];exact k
theorem aj.ef {o:Oper} {rest:List Oper} {X:Type} {v:X→Value} {T:X→World→Prop} {d:Nat} (h:cX P r S o ρ v T) (k:∀x,aj P r N ops rest Q (upd ρ d (v x)) ds (T x))
    (hg:o.guard=none:=by rfl) (hd:o.dst=some d:=by rfl) (hN:d<N:=by decide):aj P r N ops (o::rest) Q ρ ds S:=
  aj.eff hg (fun d' e=>by rw[hd] at e;cases e;exact hN) h fun x=>by rw[hd];exact k x
theorem aj.aX {o:Oper} {rest:List Oper} {X:Type} {v:X→Value} {T:X→World→Prop} (h:cX P r S o ρ v T) (k:∀x,aj P r N ops rest Q ρ ds (T x))
    (hg:o.guard=none:=by rfl) (hd:o.dst=none:=by rfl):aj P r N ops (o::rest) Q ρ ds S:=
  aj.eff hg (fun d' e=>by rw[hd] at e;cases e) h fun x=>by rw[hd];exact k x
theorem aj.kn {l:List Oper} {o:Oper} {rest:List Oper} {X:Type} {v:X→Value} {T:X→World→Prop} {d:Nat} (h:cX P r S o ρ v T) (k:∀x,aj P r N l.toArray rest Q (upd ρ d (v x)) ds (T x))
    (hl:gX N l=true:=by decide) (hw:wants l.toArray ρ o=true:=by rfl) (hd:o.dst=some d:=by rfl) (hN:d<N:=by decide):aj P r N l.toArray (o::rest) Q ρ ds S:=
  fun w hw' a ha=>wpListIn_step fun K hK=>by
    rw[if_pos ((ia ha (fun j b d _ hd'=>jF hl hd')).trans hw)];refine h w hw' a ha.eval K _ fun x w' hT=>hK _ _ (k x w' hT _ ?_);have:=ha.put (dst:=o.dst) (v:=v x) (fun d' e=>by rw[hd] at e;cases e;exact hN);rw[hd] at this ⊢;exact this
theorem aj.split {l:List Oper} {p:Prop} [Decidable p] (d:Nat) (hd:ρ d=.bool (decide p)) (ht:p→aj P r N ops l Q (upd ρ d (.bool true)) ds S) (hf:¬p→aj P r N ops l Q (upd ρ d (.bool false)) ds S):aj P r N ops l Q ρ ds S:=by
  by_cases h:p
  · have := ht h
    rwa [fx (by rw[hd];simp[h])] at this
  · have := hf h
    rwa [fx (by rw[hd];simp[h])] at this
theorem aj.aY {l:List Oper} {b:Bool} (d:Nat) (hd:ρ d=.bool b) (ht:b=true→aj P r N ops l Q (upd ρ d (.bool true)) ds S) (hf:b=false→aj P r N ops l Q (upd ρ d (.bool false)) ds S):aj P r N ops l Q ρ ds S:=by
  cases b with
  | true=>have:=ht rfl;rwa [fx hd] at this
  | false=>have:=hf rfl;rwa [fx hd] at this
theorem aj.ag8 {l:List Oper} {o:Oper} {rest:List Oper} {X:Type} {v:X→Value} {T:X→World→Prop} (hl:gX N l=true) (hw:wants l.toArray ρ o=true) (hd:∀d,o.dst=some d→d<N) (h:cX P r S o ρ v T)
    (k:∀x,aj P r N l.toArray rest Q (xU ρ o.dst (v x)) ds (T x)):aj P r N l.toArray (o::rest) Q ρ ds S:=
  fun w hw' a ha=>wpListIn_step fun K hK=>by
    rw[if_pos ((ia ha (fun j b d _ hd'=>jF hl hd')).trans hw)];exact h w hw' a ha.eval K _ fun x w' hT=>hK _ _ (k x w' hT _ (ha.put hd))
theorem aj.aec {l:List Oper} {o:Oper} {rest:List Oper} {v:Value} {d:Nat} (h:cw P S o ρ v) (k:aj P r N l.toArray rest Q (upd ρ d v) ds S)
    (hl:gX N l=true:=by decide) (hw:wants l.toArray ρ o=true:=by rfl) (hd:o.dst=some d:=by rfl) (hN:d<N:=by decide) (hdf:bJ o=true:=by rfl):aj P r N l.toArray (o::rest) Q ρ ds S:=
  aj.ag8 hl hw (fun d' e=>by rw[hd] at e;cases e;exact hN) (h.toX hdf) fun _=>by rw[hd];exact k
theorem aj.K9 {l:List Oper} {o:Oper} {rest:List Oper} {d:Nat} (k:aj P r N l.toArray rest Q (upd ρ d undef) ds S)
    (hl:gX N l=true:=by decide) (hw:wants l.toArray ρ o=false:=by rfl) (hd:o.dst=some d:=by rfl) (hN:d<N:=by decide):aj P r N l.toArray (o::rest) Q ρ ds S:=
  fun w hw' a ha=>wpListIn_step fun K hK=>by
    rw[(ia ha (fun j b d _ hd'=>jF hl hd')).trans hw];refine⟨fun _ _=>nO r _,hK _ _ (k w hw' _ ?_)⟩;have:=ha.put (dst:=o.dst) (v:=undef) (fun d' e=>by rw[hd] at e;cases e;exact hN);rw[hd] at this ⊢;exact this
theorem aj.ex {X:Type} {l:List Oper} {S:X→World→Prop} (h:∀x,aj P r N ops l Q ρ ds (S x)):aj P r N ops l Q ρ ds (fun w=>∃x,S x w):=fun w ⟨x,hw⟩=>h x w hw
theorem aj.fact {p:Prop} {l:List Oper} (h:p→aj P r N ops l Q ρ ds S):aj P r N ops l Q ρ ds (fun w=>p∧S w):=fun w ⟨hp,hw⟩=>h hp w hw
theorem aj.pre {l:List Oper} (h:aj P r N ops l Q ρ ds S') (hs:∀w,S w→S' w):aj P r N ops l Q ρ ds S:=fun w hw=>h w (hs w hw)
theorem aj.holds {p:Prop} {l:List Oper} (hp:∀w,S w→p) (h:p→aj P r N ops l Q ρ ds S):aj P r N ops l Q ρ ds S:=fun w hw=>h (hp w hw) w hw
def sinkB (ops:Array Oper) (fin:Option Nat) (plan:List (Nat×Bool)):Bool:=
  match fin with
  | none=>true
  | some f => match ops[f]? with
    | none=>false
    | some o=>plan.all fun p=> !p.2||p.1==f||o.after.any fun e=>Region.binds .any e&&e.on==p.1
theorem uP {ops:Array Oper} {fin:Option Nat} {p:Nat×Bool} {plan:List (Nat×Bool)} (h:sinkB ops fin (p::plan)=true):sinkB ops fin plan=true:=by
  cases fin with
  | none=>rfl
  | some f =>
    unfold sinkB at h ⊢;cases ho:ops[f]? with
    | none=>simp[ho] at h
    | some o =>
      simp only[ho,List.all_cons,Bool.and_eq_true] at h ⊢;exact h.2
def planB (ops:Array Oper):Array Bool→List (Nat×Bool)→Bool
  | listed,[]=>(Region.ready .any ops listed).isEmpty
  | listed,(i,true)::l=>Region.free .any ops listed i&&(Region.ready .any ops listed).contains i&&planB ops (listed.setIfInBounds i true) l
  | listed,(i,false)::l=>Region.ready .any ops listed==[i]&&planB ops (listed.setIfInBounds i true) l
def qy (ops:Array Oper) (fin:Option Nat) (plan:List (Nat×Bool)):Bool:=
  Region.noSelect ops&&sinkB ops fin plan&&(plan.length==ops.size)&&planB ops (Array.replicate ops.size false) plan&&ops.all bJ
def oh (P:Program) (r:Option Nat) (ops:Array Oper) (Q:Exit→Act→World→Prop) (fin:Option Nat) (Sh:World→Prop):Nat→Array Bool→Act→World→Prop
  | 0,listed,a,w=>Region.ready .any ops listed=[]∧Q .normal a w
  | fuel + 1, listed, a, w =>
    (Region.ready .any ops listed=[]→Q .normal a w)∧
    ∀i∈Region.ready .any ops listed,wpOpIn (FW r) 0 P ops Q i (fun a' w'=>(some i≠fin→Sh w')∧oh P r ops Q fin Sh fuel (listed.setIfInBounds i true) a' w') a w
theorem oz {Q:Exit→Act→World→Prop} {fin:Option Nat} {Sh:World→Prop}:∀(fuel:Nat) (listed:Array Bool) (a:Act) (w:World),oh P r ops Q fin Sh fuel listed a w→wpAnyIn (FW r) 0 P .any ops Q fuel listed a w
  | 0,_,_,_,h=>h
  | fuel+1,_,_,_,h=>⟨h.1,fun i hi=>wpOpIn_mono (fun a' w' h'=>oz fuel _ a' w' h'.2) (h.2 i hi)⟩
def fR (P:Program) (ops:Array Oper) (Sh:World→Prop) (o:Oper) (v:Value) (a:Act):Prop:=
  (Region.wanted o (yielded ops a.tmps)=true∧∀w,Sh w→((execOp a.eval o).run P w=.ok (.value v) w∨∃f args,(execOp a.eval o).run P w=.ok (.enter f args) w∧Calls P f args w fun e w'=>e=.returned v∧w=w'))∨
  (Region.wanted o (yielded ops a.tmps)=false∧v=undef)
theorem fR.of_same {Sh:World→Prop} {o:Oper} {v:Value} {a a':Act} (hy:fR P ops Sh o v a) (he:execOp a'.eval o=execOp a.eval o)
    (hw:Region.wanted o (yielded ops a'.tmps)=Region.wanted o (yielded ops a.tmps)):fR P ops Sh o v a':=by
  unfold fR at*;rw[he,hw];exact hy
theorem fR.wpOpIn {Q:Exit→Act→World→Prop} {Sh:World→Prop} {i:Nat} {o:Oper} {v:Value} {a:Act} (hdf:bJ o=true) (hi:ops[i]?=some o) (hy:fR P ops Sh o v a)
    {K:Act→World→Prop} {w:World} (hS:Sh w) (h:K (a.put o.dst v) w):wpOpIn (FW r) 0 P ops Q i K a w:=by
  unfold Go.wpOpIn;simp only[hi]
  rcases hy with ⟨hw,hv⟩ | ⟨hw,rfl⟩
  · simp only [hw, if_true]
    refine⟨fun _ _=>nO r _,?_⟩;rw[jn,Oper.semAt_eq r _ o (eU hdf)]
    rcases hv w hS with h1 | ⟨f,args,h1,h2⟩
    · rw[h1];exact h
    · rw [h1]
      refine⟨mM r,lL (h2.mono ?_)⟩
      rintro e w' ⟨rfl,rfl⟩
      exact h
  · simp only [hw, Bool.false_eq_true, if_false]
    exact⟨fun _ _=>nO r _,h⟩
theorem zd {Q:Exit→Act→World→Prop} {Sh:World→Prop} {j:Nat} {oi oj:Oper} {v:Value} (hdf:bJ oj=true) (hj:ops[j]?=some oj) (hap:oi.apart ops oj=true)
    (hsi:∀cs b,oi.op≠.select cs b) (hsj:∀cs b,oj.op≠.select cs b) (hQ:∀c a w,¬Q (.panic c) a w) {K:Act→World→Prop} {a:Act} {w:World}
    (hy:fR P ops Sh oi v a) (h:wpOpIn (FW r) 0 P ops Q j K (a.put oi.dst v) w):
    wpOpIn (FW r) 0 P ops Q j (fun a' w'=>fR P ops Sh oi v a'∧K (a'.put oi.dst v) w') a w:=by
  obtain⟨h1,h2,h3⟩:=Oper.apart_spec hap;have keep:∀(a:Act),fR P ops Sh oi v a→∀u,fR P ops Sh oi v (a.put oj.dst u):=fun a hy u=>
    hy.of_same (execOp_put oi hsi a oj.dst u h3) (wanted_put oi a oj.dst u h3)
  unfold Go.wpOpIn at*;simp only[hj] at*;rw[wanted_put oj a oi.dst v h1] at h
  split
  · rename_i hw
    simp only[hw,if_true] at h;refine⟨fun _ _=>nO r _,?_⟩;have h:=h.2;rw[jn,Oper.semAt_eq r _ oj (eU hdf)] at h ⊢;rw[execOp_put oj hsj a oi.dst v h1] at h
    generalize (execOp a.eval oj).run P w=res at*
    cases res with
    | ok x w' =>
      cases x<;>simp only[Oper.uponIn] at h ⊢
      case value u=>exact⟨keep a hy u,by rw[←Act.put_comm a v u h2];exact h⟩
      case skip=>exact⟨keep a hy _,by rw[←Act.put_comm a v undef h2];exact h⟩
      case defer d=>
        refine⟨keep {a with defers:=d::a.defers} (hy.of_same rfl rfl) _,?_⟩;rw[←Act.put_comm _ v undef h2,←Act.put_defers];exact h
      case enter f args=>
        refine⟨h.1,CallsIn.mono h.2 fun e w'' he=>?_⟩;cases e with
        | returned u=>exact⟨keep a hy u,by rw[←Act.put_comm a v u h2];exact he⟩
        | panicked c=>exact absurd he (hQ _ _ _)
        | outgrown=>exact he
      case row row args=>exact⟨h.1,RowsIn.mono h.2 fun u w'' he=>⟨keep a hy u,by rw[←Act.put_comm a v u h2];exact he⟩⟩
      case round l f tmps assign body=>
        refine⟨h.1,RoundIn.mono h.2 fun e w'' he=>?_⟩;cases e with
        | returned u=>exact⟨keep a hy u,by rw[←Act.put_comm a v u h2];exact he⟩
        | panicked c=>exact absurd he (hQ _ _ _)
        | outgrown=>exact he
    | halt x w' =>
      cases x<;>simp only[Oper.uponIn] at h ⊢
      case panic u=>exact absurd h (hQ _ _ _)
  · rename_i hw
    simp only[hw] at h;exact⟨fun _ _=>nO r _,keep a hy _,by rw[←Act.put_comm a v undef h2];exact h.2⟩
theorem pB {Q:Exit→Act→World→Prop} {fin:Option Nat} {Sh:World→Prop} {i:Nat} {oi:Oper} {v:Value} (hi:ops[i]?=some oi) (hif:some i≠fin)
    (hsel:∀(j:Nat) (o:Oper) cs b,ops[j]?=some o→o.op≠.select cs b) (hdf:∀(j:Nat) (o:Oper),ops[j]?=some o→bJ o=true) (hQ:∀c a w,¬Q (.panic c) a w)
    (hsink:∀f o,fin=some f→ops[f]?=some o→∃e∈o.after,Region.binds .any e=true∧e.on=i):
    ∀ (fuel : Nat) (listed : Array Bool) (a : Act) (w : World),
      (∀j oj,ops[j]?=some oj→j≠i→listed.getD j true=false→(∀e∈oj.after,Region.binds .any e=true→e.on≠i)→oi.apart ops oj=true)→
      i∈Region.ready .any ops listed→fR P ops Sh oi v a→Sh w→
      oh P r ops Q fin Sh fuel (listed.setIfInBounds i true) (a.put oi.dst v) w→oh P r ops Q fin Sh (fuel+1) listed a w:=by
  intro fuel;induction fuel with
  | zero =>
    intro listed a w _ hr hy hS H;refine⟨fun h=>(by rw[h] at hr;cases hr),fun j hj=>?_⟩
    by_cases hji:j=i
    · subst hji;exact hy.wpOpIn (hdf _ _ hi) hi hS ⟨fun _=>hS,H⟩
    · have := ready_mono hj hji
      rw[H.1] at this;cases this
  | succ fuel ih =>
    intro listed a w hfree hr hy hS H;refine⟨fun h=>(by rw[h] at hr;cases hr),fun j hj=>?_⟩
    by_cases hji:j=i
    · subst hji;exact hy.wpOpIn (hdf _ _ hi) hi hS ⟨fun _=>hS,H⟩
    · have h1 := H.2 j (ready_mono hj hji)
      obtain⟨hjun,oj,hoj,hall⟩:=mem_ready.1 hj;have hnot:∀e∈oj.after,Region.binds .any e=true→e.on≠i:=fun e he hb heq=>by
        have h1:=hall e he hb;have h0:=(mem_ready.1 hr).1;rw[heq] at h1
        rcases Nat.lt_or_ge i listed.size with h' | h'
        · simp[h'] at h0 h1;rw[h0] at h1;cases h1
        · simp[Array.getElem?_eq_none h'] at h1
      have hjf:some j≠fin:=fun e=>by
        obtain⟨x,hx,hb,hon⟩:=hsink j oj e.symm hoj;exact hnot x hx hb hon
      have h2:=zd (hdf _ _ hoj) hoj (hfree j oj hoj hji hjun hnot) (fun cs b=>hsel i oi cs b hi) (fun cs b=>hsel j oj cs b hoj) hQ hy h1;have hfree':∀k ok,ops[k]?=some ok→k≠i→(listed.setIfInBounds j true).getD k true=false→
          (∀e∈ok.after,Region.binds .any e=true→e.on≠i)→oi.apart ops ok=true:=fun k ok hk hki hun hno=>by
        refine hfree k ok hk hki ?_ hno
        by_cases hjk:j=k
        · subst hjk;exact hjun
        · rw[getD_set_ne true hjk] at hun;exact hun
      refine wpOpIn_mono (fun a' w' h3=>⟨fun _=>h3.2.1 hjf,ih (listed.setIfInBounds j true) a' w' hfree' (ready_mono hr (Ne.symm hji)) h3.1 (h3.2.1 hjf) ?_⟩) h2;rw[Array.setIfInBounds_comm _ _ hji];exact h3.2.2
def aB (P:Program) (r:Option Nat) (N:Nat) (ops:List Oper) (fin:Option Nat) (Sh:World→Prop) (plan:List (Nat×Bool)) (Q:XP) (ρ:Env) (ds:List Deferred) (S:World→Prop):Prop:=
  ∀ w, S w → ∀ a, Fr N ρ ds a → ∀ listed, planB ops.toArray listed plan = true → Region.noSelect ops.toArray = true → sinkB ops.toArray fin plan = true → ops.toArray.all bJ = true → gX N ops = true →
    oh P r ops.toArray (JB N Q) fin Sh plan.length listed a w
theorem WP.draw {id:Nat} {l:List Oper} (fin:Option Nat) (Sh:World→Prop) (plan:List (Nat×Bool)) (hm:P.follows .mixedOrders=true) (hB:qy l.toArray fin plan=true) (hN:gX N l=true)
    (hD:∀w,S w→S {w with drawn:=w.drawn+1}) (h:aB P r N l fin Sh plan Q ρ ds S):WP P r N (.region id l.toArray true) Q ρ ds S:=by
  intro w hw a ha;simp only[qy,Bool.and_eq_true,beq_iff_eq] at hB;obtain⟨⟨⟨⟨h1,h2⟩,h3⟩,h4⟩,h5⟩:=hB;refine wpIn_region_any hm (oz (fin:=fin) (Sh:=Sh) _ _ _ _ ?_);rw[←h3];exact h _ (hD w hw) a ha _ (by rw[h3];exact h4) h1 h2 h5 hN
theorem WP.fj {id:Nat} {l:List Oper} (fin:Option Nat) (plan:List (Nat×Bool)) (hm:P.follows .mixedOrders=true) (hB:qy l.toArray fin plan=true) (hN:gX N l=true)
    (hD:∀w,S w→S {w with drawn:=w.drawn+1}) (h:aB P r N l fin S plan Q ρ ds S):WP P r N (.region id l.toArray true) Q ρ ds S:=WP.draw fin S plan hm hB hN hD h
theorem aB.nil {l:List Oper} {fin:Option Nat} {Sh:World→Prop} (h:∀w,S w→Q .normal ρ ds w):aB P r N l fin Sh [] Q ρ ds S:=
  fun w hw a ha listed hp _ _ _ _=>⟨by simpa [planB] using hp,ρ,ds,ha,h w hw⟩
theorem CO {l:List Oper} {p:Oper→Bool} (h:l.toArray.all p=true) {j:Nat} {o:Oper} (ho:l.toArray[j]?=some o):p o=true:=
  Array.all_eq_true_iff_forall_mem.1 h o (Array.mem_of_getElem? ho)
theorem aB.K5 {l:List Oper} {fin:Option Nat} {Sh:World→Prop} {i:Nat} {plan:List (Nat×Bool)} {o:Oper} {v:Value} (hi:l[i]?=some o) (hif:some i≠fin) (hS:∀w,S w→Sh w)
    (hv:(wants l.toArray ρ o=true∧cw P Sh o ρ v)∨(wants l.toArray ρ o=false∧v=undef)) (k:aB P r N l fin Sh plan Q (xU ρ o.dst v) ds S):aB P r N l fin Sh ((i,true)::plan) Q ρ ds S:=by
  intro w hw a ha listed hp hsel hsink hdf hN;simp only[planB,Bool.and_eq_true] at hp;obtain⟨⟨h1,h2⟩,h3⟩:=hp;have hi':l.toArray[i]?=some o:=by simpa using hi
  have hput:Fr N (xU ρ o.dst v) ds (a.put o.dst v):=ha.put fun d hd=>jF hN (j:=i) (by simp[hi,hd]);refine pB hi' hif (Region.noSelect_spec hsel) (fun j o ho=>CO hdf ho) (fun c a w h=>h) ?_ _ _ _ _ (Region.free_spec hi' h1) (by simpa using h2) ?_ (hS w hw) (k w hw _ hput _ h3 hsel (uP hsink) hdf hN)
  · intro f o' hf ho'
    subst hf;simp only[sinkB,ho',List.all_cons,Bool.and_eq_true] at hsink;have h4:=hsink.1;simp only[Bool.not_true,Bool.false_or,Bool.or_eq_true,beq_iff_eq] at h4
    rcases h4 with h4 | h4
    · exact absurd (by rw[h4]) hif
    · obtain ⟨e, he, hb⟩ := Array.any_eq_true'.1 h4
      simp only[Bool.and_eq_true,beq_iff_eq] at hb;exact⟨e,he,hb.1,hb.2⟩
  · have hwt := ia (ops := l.toArray) (o := o) ha (fun j b d _ hd' => jF hN hd')
    unfold fR;rw[hwt]
    rcases hv with ⟨h,hv⟩ | ⟨h,hv⟩
    · exact .inl ⟨h,fun w hw=>by rw[ha.eval];exact hv w hw⟩
    · exact .inr ⟨h,hv⟩
theorem aB.take {l:List Oper} {fin:Option Nat} {Sh:World→Prop} {i:Nat} {plan:List (Nat×Bool)} {o:Oper} {v:Value} {d:Nat} (hi:l[i]?=some o) (hv:cw P Sh o ρ v) (k:aB P r N l fin Sh plan Q (upd ρ d v) ds S)
    (hS:∀w,S w→Sh w) (hif:some i≠fin:=by decide) (hw:wants l.toArray ρ o=true:=by rfl) (hd:o.dst=some d:=by rfl):aB P r N l fin Sh ((i,true)::plan) Q ρ ds S:=
  aB.K5 hi hif hS (.inl ⟨hw,hv⟩) (by rw[hd];exact k)
theorem aB.skip {l:List Oper} {fin:Option Nat} {Sh:World→Prop} {i:Nat} {plan:List (Nat×Bool)} {o:Oper} {d:Nat} (hi:l[i]?=some o) (k:aB P r N l fin Sh plan Q (upd ρ d undef) ds S)
    (hS:∀w,S w→Sh w) (hif:some i≠fin:=by decide) (hw:wants l.toArray ρ o=false:=by rfl) (hd:o.dst=some d:=by rfl):aB P r N l fin Sh ((i,true)::plan) Q ρ ds S:=
  aB.K5 hi hif hS (.inr ⟨hw,rfl⟩) (by rw[hd];exact k)
theorem aB.only {l:List Oper} {fin:Option Nat} {Sh:World→Prop} {i:Nat} {plan:List (Nat×Bool)} {o:Oper} {X:Type} {v:X→Value} {T:X→World→Prop} (hi:l[i]?=some o) (hw:wants l.toArray ρ o=true) (h:cX P r S o ρ v T)
    (hT:some i≠fin→∀x w,T x w→Sh w) (k:∀x,aB P r N l fin Sh plan Q (xU ρ o.dst (v x)) ds (T x)):aB P r N l fin Sh ((i,false)::plan) Q ρ ds S:=by
  intro w hw' a ha listed hp hsel hsink hdf hN;simp only[planB,Bool.and_eq_true,beq_iff_eq] at hp;obtain⟨h1,h3⟩:=hp;have hi':l.toArray[i]?=some o:=by simpa using hi
  refine⟨fun h0=>(by rw[h0] at h1;cases h1),fun j hj=>?_⟩;rw[h1] at hj;simp only[List.mem_singleton] at hj;subst hj;unfold Go.wpOpIn;simp only[hi'];rw[ia (ops:=l.toArray) (o:=o) ha (fun j b d _ hd'=>jF hN hd'),hw,if_pos rfl];refine h w hw' a ha.eval _ _ fun x w' hx=>⟨fun hne=>hT hne x w' hx,k x w' hx _ ?_ _ h3 hsel (uP hsink) hdf hN⟩;exact ha.put fun d hd=>jF hN (j:=j) (by simp[hi,hd])
theorem aB.ef {l:List Oper} {fin:Option Nat} {Sh:World→Prop} {i:Nat} {plan:List (Nat×Bool)} {o:Oper} {X:Type} {v:X→Value} {T:X→World→Prop} {d:Nat} (hi:l[i]?=some o) (h:cX P r S o ρ v T)
    (hT:some i≠fin→∀x w,T x w→Sh w) (k:∀x,aB P r N l fin Sh plan Q (upd ρ d (v x)) ds (T x)) (hw:wants l.toArray ρ o=true:=by rfl) (hd:o.dst=some d:=by rfl):aB P r N l fin Sh ((i,false)::plan) Q ρ ds S:=
  aB.only hi hw h hT fun x=>by rw[hd];exact k x
theorem aB.val {l:List Oper} {fin:Option Nat} {Sh:World→Prop} {i:Nat} {plan:List (Nat×Bool)} {o:Oper} {v:Value} {d:Nat} (hi:l[i]?=some o) (hv:cw P S o ρ v) (hS:∀w,S w→Sh w) (k:aB P r N l fin Sh plan Q (upd ρ d v) ds S)
    (hw:wants l.toArray ρ o=true:=by rfl) (hd:o.dst=some d:=by rfl) (hdf:bJ o=true:=by rfl):aB P r N l fin Sh ((i,false)::plan) Q ρ ds S:=
  aB.only hi hw (hv.toX hdf) (fun _ _ w h=>hS w h) fun _=>by rw[hd];exact k
theorem aB.aX {l:List Oper} {fin:Option Nat} {Sh:World→Prop} {i:Nat} {plan:List (Nat×Bool)} {o:Oper} {X:Type} {v:X→Value} {T:X→World→Prop} (hi:l[i]?=some o) (h:cX P r S o ρ v T)
    (hT:some i≠fin→∀x w,T x w→Sh w) (k:∀x,aB P r N l fin Sh plan Q ρ ds (T x)) (hw:wants l.toArray ρ o=true:=by rfl) (hd:o.dst=none:=by rfl):aB P r N l fin Sh ((i,false)::plan) Q ρ ds S:=
  aB.only hi hw h hT fun x=>by rw[hd];exact k x
theorem aB.split {l:List Oper} {fin:Option Nat} {Sh:World→Prop} {plan:List (Nat×Bool)} {p:Prop} [Decidable p] (d:Nat) (hd:ρ d=.bool (decide p)) (ht:p→aB P r N l fin Sh plan Q (upd ρ d (.bool true)) ds S) (hf:¬p→aB P r N l fin Sh plan Q (upd ρ d (.bool false)) ds S):aB P r N l fin Sh plan Q ρ ds S:=by
  by_cases h:p
  · have := ht h
    rwa [fx (by rw[hd];simp[h])] at this
  · have := hf h
    rwa [fx (by rw[hd];simp[h])] at this
theorem aB.aY {l:List Oper} {fin:Option Nat} {Sh:World→Prop} {plan:List (Nat×Bool)} {b:Bool} (d:Nat) (hd:ρ d=.bool b) (ht:b=true→aB P r N l fin Sh plan Q (upd ρ d (.bool true)) ds S) (hf:b=false→aB P r N l fin Sh plan Q (upd ρ d (.bool false)) ds S):aB P r N l fin Sh plan Q ρ ds S:=by
  cases b with
  | true=>have:=ht rfl;rwa [fx hd] at this
  | false=>have:=hf rfl;rwa [fx hd] at this
theorem aB.ex {X:Type} {l:List Oper} {fin:Option Nat} {Sh:World→Prop} {plan:List (Nat×Bool)} {S:X→World→Prop} (h:∀x,aB P r N l fin Sh plan Q ρ ds (S x)):aB P r N l fin Sh plan Q ρ ds (fun w=>∃x,S x w):=fun w ⟨x,hw⟩=>h x w hw
theorem aB.fact {p:Prop} {l:List Oper} {fin:Option Nat} {Sh:World→Prop} {plan:List (Nat×Bool)} (h:p→aB P r N l fin Sh plan Q ρ ds S):aB P r N l fin Sh plan Q ρ ds (fun w=>p∧S w):=fun w ⟨hp,hw⟩=>h hp w hw
theorem aB.holds {p:Prop} {l:List Oper} {fin:Option Nat} {Sh:World→Prop} {plan:List (Nat×Bool)} (hp:∀w,S w→p) (h:p→aB P r N l fin Sh plan Q ρ ds S):aB P r N l fin Sh plan Q ρ ds S:=fun w hw=>h (hp w hw) w hw
theorem aB.pre {l:List Oper} {fin:Option Nat} {Sh:World→Prop} {plan:List (Nat×Bool)} (h:aB P r N l fin Sh plan Q ρ ds S') (hs:∀w,S w→S' w):aB P r N l fin Sh plan Q ρ ds S:=fun w hw=>h w (hs w hw)
end
inductive HI where
  | cl (b:Nat) (t:TypeId) (cs:List Value)
  | row (t:TypeId) (sz:Nat) (A:Option Addr) (n cap:Nat) (xs:List Value)
  | ob (b:Nat) (o:Obj)
  | gen (foot:Nat→Prop) (p:World→Prop)
def Local (foot:Nat→Prop) (p:World→Prop):Prop:=
  (∀w w':World,(∀b,foot b→w'.heap[b]?=w.heap[b]?)→p w→p w')∧(∀w,p w→∀b,foot b→b<w.heap.size)
def HI.foot:HI→Nat→Prop
  | .cl b _ _,k=>k=b
  | .row _ _ A _ _ _,k=>∃a,A=some a∧k=a.block
  | .ob b _,k=>k=b
  | .gen f _,k=>f k
def HI.holds (w:World):HI→Prop
  | .cl b t cs=>w.heap[b]?=some (.cells cs.toArray t (0,0))
  | .row t sz A n cap xs=>w.ownsRow 0 t sz (.slice A n cap) n xs
  | .ob b o=>w.heap[b]?=some o
  | .gen f p=>Local f p∧p w
def ay (σ:List HI) (k:Nat):Prop:=∃i∈σ,i.foot k
theorem cU {w:World} {b:Nat} {o:Obj} (h:w.heap[b]?=some o):b<w.heap.size:=(Array.getElem?_eq_some_iff.1 h).1
theorem HI.lt {w:World} {i:HI} (h:i.holds w) {b:Nat} (hb:i.foot b):b<w.heap.size:=by
  cases i with
  | cl c t cs=>obtain rfl:b=c:=hb;exact cU h
  | row t sz A n cap xs =>
    obtain⟨a,rfl,rfl⟩:=hb;exact(World.ownsRow.lt h a.block rfl).2
  | ob c o=>obtain rfl:b=c:=hb;exact cU h
  | gen f p=>exact h.1.2 w h.2 b hb
theorem HI.keep {w w':World} {i:HI} (h:i.holds w) (hk:∀b,i.foot b→w'.heap[b]?=w.heap[b]?):i.holds w':=by
  cases i with
  | cl c t cs=>exact(hk c rfl).trans h
  | row t sz A n cap xs =>
    refine⟨h.1,?_⟩
    rcases h.2 with hn | ⟨g,cap',cur,hv,hb,hgg,rest⟩
    · exact .inl hn
    · refine .inr ⟨g, cap', cur, hv, hb, ?_, rest⟩
      have hA:A=some ⟨g,0,none⟩:=by injection hv
      exact(hk g ⟨_,hA,rfl⟩).trans hgg
  | ob c o=>exact(hk c rfl).trans h
  | gen f p=>exact⟨h.1,h.1.1 w w' hk h.2⟩
structure St (w0:World) (M:Nat→Prop) (σ:List HI) (w:World):Prop where
  os:w.os=w0.os
  tape:w.tape=w0.tape
  output:w.output=w0.output
  size:w0.heap.size≤w.heap.size
  old:∀b,b<w0.heap.size→¬M b→w.heap[b]?=w0.heap[b]?
  all:∀i∈σ,i.holds w
  disj:σ.Pairwise fun x y=>∀b,x.foot b→¬y.foot b
  fresh:∀i∈σ,∀b,i.foot b→w0.heap.size≤b∨M b
abbrev No:Nat→Prop:=fun _=>False
theorem qt:ay []=No:=by funext k;simp[ay]
theorem BP (x:HI) (σ:List HI) (k:Nat):ay (x::σ) k↔x.foot k∨ay σ k:=by simp[ay]
theorem lx (σ τ:List HI) (k:Nat):ay (σ++τ) k↔ay σ k∨ay τ k:=by
  simp only[ay,List.mem_append];constructor
  · rintro ⟨i, h | h, hk⟩
    · exact .inl ⟨i,h,hk⟩
    · exact .inr ⟨i,h,hk⟩
  · rintro (⟨i, h, hk⟩ | ⟨i, h, hk⟩)
    · exact⟨i,.inl h,hk⟩
    · exact⟨i,.inr h,hk⟩
section
variable {w0 w w':World} {M:Nat→Prop} {σ σ' τ F:List HI}
theorem St.refl (w:World):St w No [] w:=⟨rfl,rfl,rfl,Nat.le_refl _,fun _ _ _=>rfl,by simp,List.Pairwise.nil,by simp⟩
theorem St.start (hall:∀i∈σ,i.holds w) (hd:σ.Pairwise fun x y=>∀b,x.foot b→¬y.foot b):St w (ay σ) σ w:=
  ⟨rfl,rfl,rfl,Nat.le_refl _,fun _ _ _=>rfl,hall,hd,fun i hi _ hb=>.inr ⟨i,hi,hb⟩⟩
theorem St.trans (h:St w0 M (σ++F) w) (k:St w (ay σ) τ w'):St w0 M (τ++F) w':=by
  have hF:∀i∈F,∀b,i.foot b→b<w.heap.size∧¬ay σ b:=fun i hi _ hb=>by
    refine⟨HI.lt (h.all i (List.mem_append_right _ hi)) hb,?_⟩
    rintro ⟨j,hj,hjb⟩
    exact(List.pairwise_append.1 h.disj).2.2 j hj i hi _ hjb hb
  refine⟨k.os.trans h.os,k.tape.trans h.tape,k.output.trans h.output,Nat.le_trans h.size k.size,fun b hb hM=>?_,fun i hi=>?_,?_,fun i hi b hb=>?_⟩
  · refine (k.old b (Nat.lt_of_lt_of_le hb h.size) ?_).trans (h.old b hb hM)
    rintro ⟨j,hj,hjb⟩
    rcases h.fresh j (List.mem_append_left _ hj) b hjb with h1 | h1
    · omega
    · exact hM h1
  · rcases List.mem_append.1 hi with hi | hi
    · exact k.all i hi
    · exact HI.keep (h.all i (List.mem_append_right _ hi)) fun b hb=>k.old b (hF i hi b hb).1 (hF i hi b hb).2
  · refine List.pairwise_append.2 ⟨k.disj, (List.pairwise_append.1 h.disj).2.1, fun i hi j hj b hb hjb => ?_⟩
    have h1:=hF j hj b hjb
    rcases k.fresh i hi b hb with h2 | h2
    · omega
    · exact h1.2 h2
  · rcases List.mem_append.1 hi with hi | hi
    · rcases k.fresh i hi b hb with h2 | ⟨j, hj, hjb⟩
      · exact .inl (Nat.le_trans h.size h2)
      · exact h.fresh j (List.mem_append_left _ hj) b hjb
    · exact h.fresh i (List.mem_append_right _ hi) b hb
theorem St.perm (h:St w0 M σ w) (hp:σ.Perm σ'):St w0 M σ' w:=
  ⟨h.os,h.tape,h.output,h.size,h.old,fun i hi=>h.all i (hp.mem_iff.2 hi),hp.pairwise_iff (fun hxy b hb hb'=>hxy b hb' hb) |>.1 h.disj,fun i hi=>h.fresh i (hp.mem_iff.2 hi)⟩
theorem St.sub (h:St w0 M σ w) (hp:σ'.Sublist σ):St w0 M σ' w:=
  ⟨h.os,h.tape,h.output,h.size,h.old,fun i hi=>h.all i (hp.subset hi),h.disj.sublist hp,fun i hi=>h.fresh i (hp.subset hi)⟩
theorem St.add (h:St w0 M σ w) (k:St w No τ w'):St w0 M (σ++τ) w':=
  (St.trans (σ:=[]) (F:=σ) h (by rw[qt];exact k)).perm List.perm_append_comm
theorem lq:∀{σ:List HI} {i:Nat} {x:HI},σ[i]?=some x→σ.Perm (x::σ.eraseIdx i)
  | [],i,x,h=>by simp at h
  | y :: σ, 0, x, h => by
    obtain rfl:y=x:=by simpa using h
    exact List.Perm.refl _
  | y :: σ, i + 1, x, h => by
    have h1:=lq (σ:=σ) (i:=i) (x:=x) (by simpa using h);exact(List.Perm.cons y h1).trans (List.Perm.swap x y _)
theorem zH {σ:List HI} {i:Nat} {y:HI} (hi:i<σ.length):(y::σ.eraseIdx i).Perm (σ.set i y):=by
  have h:=lq (σ:=σ.set i y) (i:=i) (x:=y) (by simp[hi]);rw[List.eraseIdx_set_eq] at h;exact h.symm
theorem St.upd {i:Nat} {x y:HI} (h:St w0 M σ w) (hi:σ[i]?=some x) (k:St w (ay [x]) [y] w'):St w0 M (σ.set i y) w':=
  (St.trans (σ:=[x]) (F:=σ.eraseIdx i) (h.perm (lq hi)) k).perm (zH (List.getElem?_eq_some_iff.1 hi).1)
def sel (σ:List HI) (idx:List Nat):List HI:=idx.filterMap (σ[·]?)
theorem St.sel (h:St w0 M σ w) (idx:List Nat) (hn:idx.Nodup):St w0 M (sel σ idx) w:=by
  have hm:∀i∈Go.Proofs.YtbedndijejpcaaaGreat.sel σ idx,i∈σ:=fun i hi=>by
    obtain⟨k,_,hk⟩:=List.mem_filterMap.1 hi;exact List.mem_of_getElem? hk
  refine⟨h.os,h.tape,h.output,h.size,h.old,fun i hi=>h.all i (hm i hi),?_,fun i hi=>h.fresh i (hm i hi)⟩;refine List.pairwise_filterMap.2 (List.Pairwise.imp (fun {p q} hpq x hx y hy b hb hb'=>?_) hn);have hx:σ[p]?=some x:=hx;have hy:σ[q]?=some y:=hy;obtain⟨hp,rfl⟩:=List.getElem?_eq_some_iff.1 hx;obtain⟨hq,rfl⟩:=List.getElem?_eq_some_iff.1 hy;have hd:=List.pairwise_iff_getElem.1 h.disj
  rcases Nat.lt_or_gt_of_ne hpq with hlt | hlt
  · exact hd p q hp hq hlt b hb hb'
  · exact hd q p hq hp hlt b hb' hb
theorem St.drawn (h:St w0 M σ w):St w0 M σ {w with drawn:=w.drawn+1}:=
  ⟨h.os,h.tape,h.output,h.size,h.old,fun i hi=>HI.keep (h.all i hi) fun _ _=>rfl,h.disj,h.fresh⟩
theorem St.below (h:St w0 No σ w):Below w0.heap.size w0 w:=⟨h.os,h.tape,h.output,h.size,fun b hb=>h.old b hb (fun h=>h)⟩
theorem St.TU {M':Nat→Prop} (h:St w0 M σ w) (hM:∀b,b<w0.heap.size→M b→M' b):St w0 M' σ w:=
  ⟨h.os, h.tape, h.output, h.size, fun b hb hn => h.old b hb fun hm => hn (hM b hb hm), h.all, h.disj, fun i hi b hb => by
    rcases h.fresh i hi b hb with h1 | h1
    · exact .inl h1
    · rcases Nat.lt_or_ge b w0.heap.size with h2 | h2
      · exact .inr (hM b h2 h1)
      · exact .inl h2⟩
end
end Go.Proofs.YtbedndijejpcaaaGreat
