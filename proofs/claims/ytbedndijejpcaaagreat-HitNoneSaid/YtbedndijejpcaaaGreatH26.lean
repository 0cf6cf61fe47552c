/- PaintQ PaintVal PaintLay PaintCmp -/
import Derived.Test.YtbedndijejpcaaaGreatH25
set_option linter.unusedVariables false
set_option linter.unusedSimpArgs false
set_option linter.unusedSectionVars false
set_option maxRecDepth 100000
set_option maxHeartbeats 8000000
namespace Go.Proofs.YtbedndijejpcaaaGreat.Q
open Go.RowKit
structure St (w0:World) (M:Nat→Prop) (σ:List HI) (w:World):Prop where
  os:w.os=w0.os
  tape:w.tape=w0.tape
  fwd:w0.drawn≤w.drawn
  output:w.output=w0.output
  size:w0.heap.size≤w.heap.size
  old:∀b,b<w0.heap.size→¬M b→w.heap[b]?=w0.heap[b]?
  all:∀i∈σ,i.holds w
  disj:σ.Pairwise fun x y=>∀b,x.foot b→¬y.foot b
  fresh:∀i∈σ,∀b,i.foot b→w0.heap.size≤b∨M b
section
variable {w0 w w':World} {M:Nat→Prop} {σ σ' τ F:List HI}
theorem St.refl (w:World):St w No [] w:=⟨rfl,rfl,Nat.le_refl _,rfl,Nat.le_refl _,fun _ _ _=>rfl,by simp,List.Pairwise.nil,by simp⟩
theorem St.start (hall:∀i∈σ,i.holds w) (hd:σ.Pairwise fun x y=>∀b,x.foot b→¬y.foot b):St w (ay σ) σ w:=
  ⟨rfl,rfl,Nat.le_refl _,rfl,Nat.le_refl _,fun _ _ _=>rfl,hall,hd,fun i hi _ hb=>.inr ⟨i,hi,hb⟩⟩
theorem St.trans (h:St w0 M (σ++F) w) (k:St w (ay σ) τ w'):St w0 M (τ++F) w':=by
  have hF:∀i∈F,∀b,i.foot b→b<w.heap.size∧¬ay σ b:=fun i hi _ hb=>by
    refine⟨HI.lt (h.all i (List.mem_append_right _ hi)) hb,?_⟩
    rintro ⟨j,hj,hjb⟩
    exact(List.pairwise_append.1 h.disj).2.2 j hj i hi _ hjb hb
  refine⟨k.os.trans h.os,k.tape.trans h.tape,Nat.le_trans h.fwd k.fwd,k.output.trans h.output,Nat.le_trans h.size k.size,fun b hb hM=>?_,fun i hi=>?_,?_,fun i hi b hb=>?_⟩
  · refine (k.old b (Nat.lt_of_lt_of_le hb h.size) ?_).trans (h.old b hb hM)
    rintro ⟨j,hj,hjb⟩
    rcases h.fresh j (List.mem_append_left _ hj) b hjb with h1 | h1
    · omega
    · exact hM h1
  · rcases List.mem_append.1 hi with hi | hi
    · exact k.all i hi
    · exact HI.keep (h.all i (List.mem_append_right _ hi)) fun b hb=>k.old b (hF i hi b hb).1 (hF i hi b hb).2
  · refine List.pairwise_append.2 ⟨k.disj, (List.pairwise_append.1 h.disj).2.1, fun i hi j hj b hb hjb => ?_⟩
    have h1:=hF j hj b hjb
    rcases k.fresh i hi b hb with h2 | h2
    · omega
    · exact h1.2 h2
  · rcases List.mem_append.1 hi with hi | hi
    · rcases k.fresh i hi b hb with h2 | ⟨j, hj, hjb⟩
      · exact .inl (Nat.le_trans h.size h2)
      · exact h.fresh j (List.mem_append_left _ hj) b hjb
    · exact h.fresh i (List.mem_append_right _ hi) b hb
theorem St.perm (h:St w0 M σ w) (hp:σ.Perm σ'):St w0 M σ' w:=
  ⟨h.os,h.tape,h.fwd,h.output,h.size,h.old,fun i hi=>h.all i (hp.mem_iff.2 hi),hp.pairwise_iff (fun hxy b hb hb'=>hxy b hb' hb) |>.1 h.disj,fun i hi=>h.fresh i (hp.mem_iff.2 hi)⟩
theorem St.sub (h:St w0 M σ w) (hp:σ'.Sublist σ):St w0 M σ' w:=
  ⟨h.os,h.tape,h.fwd,h.output,h.size,h.old,fun i hi=>h.all i (hp.subset hi),h.disj.sublist hp,fun i hi=>h.fresh i (hp.subset hi)⟩
theorem St.add (h:St w0 M σ w) (k:St w No τ w'):St w0 M (σ++τ) w':=
  (St.trans (σ:=[]) (F:=σ) h (by rw[qt];exact k)).perm List.perm_append_comm
theorem St.upd {i:Nat} {x y:HI} (h:St w0 M σ w) (hi:σ[i]?=some x) (k:St w (ay [x]) [y] w'):St w0 M (σ.set i y) w':=
  (St.trans (σ:=[x]) (F:=σ.eraseIdx i) (h.perm (lq hi)) k).perm (zH (List.getElem?_eq_some_iff.1 hi).1)
theorem St.sel (h:St w0 M σ w) (idx:List Nat) (hn:idx.Nodup):St w0 M (sel σ idx) w:=by
  have hm:∀i∈Go.Proofs.YtbedndijejpcaaaGreat.sel σ idx,i∈σ:=fun i hi=>by
    obtain⟨k,_,hk⟩:=List.mem_filterMap.1 hi;exact List.mem_of_getElem? hk
  refine⟨h.os,h.tape,h.fwd,h.output,h.size,h.old,fun i hi=>h.all i (hm i hi),?_,fun i hi=>h.fresh i (hm i hi)⟩;refine List.pairwise_filterMap.2 (List.Pairwise.imp (fun {p q} hpq x hx y hy b hb hb'=>?_) hn);have hx:σ[p]?=some x:=hx;have hy:σ[q]?=some y:=hy;obtain⟨hp,rfl⟩:=List.getElem?_eq_some_iff.1 hx;obtain⟨hq,rfl⟩:=List.getElem?_eq_some_iff.1 hy;have hd:=List.pairwise_iff_getElem.1 h.disj
  rcases Nat.lt_or_gt_of_ne hpq with hlt | hlt
  · exact hd p q hp hq hlt b hb hb'
  · exact hd q p hq hp hlt b hb' hb
theorem St.drawn (h:St w0 M σ w):St w0 M σ {w with drawn:=w.drawn+1}:=
  ⟨h.os,h.tape,Nat.le_succ_of_le h.fwd,h.output,h.size,h.old,fun i hi=>HI.keep (h.all i hi) fun _ _=>rfl,h.disj,h.fresh⟩
theorem St.TU {M':Nat→Prop} (h:St w0 M σ w) (hM:∀b,b<w0.heap.size→M b→M' b):St w0 M' σ w:=
  ⟨h.os, h.tape, h.fwd, h.output, h.size, fun b hb hn => h.old b hb fun hm => hn (hM b hb hm), h.all, h.disj, fun i hi b hb => by
    rcases h.fresh i hi b hb with h1 | h1
    · exact .inl h1
    · rcases Nat.lt_or_ge b w0.heap.size with h2 | h2
      · exact .inr (hM b h2 h1)
      · exact .inl h2⟩
end
section
variable {P:Program} {r:Option Nat} {S:World→Prop} {ρ:Env} {dst:Option Tmp} {ty:TypeId} {pos:String} {af:Array Edge} {g:Option (Nat×Bool)}
section
variable {t t2:TypeId} {x y:Operand} {m n:Int}
section
variable {w0 w:World} {M:Nat→Prop} {σ:List HI}
theorem St.aq {i b:Nat} {t:TypeId} {cs:List Value} (h:St w0 M σ w) (hi:σ[i]?=some (.cl b t cs)) (o:Nat) {us:List Value} (hu:(cs.drop o).take us.length=us):aJ w b o us:=by
  have h1:w.heap[b]?=some (.cells cs.toArray t (0,0)):=h.all _ (List.mem_of_getElem? hi);intro j u hj;rw[cell_of_row w b (o+j) _ t (0,0) h1,List.getElem?_toArray];have hlt:j<us.length:=(List.getElem?_eq_some_iff.1 hj).1;rw[←hu,List.getElem?_take,if_pos hlt,List.getElem?_drop] at hj;exact hj
theorem St.dH {i g n cap sz:Nat} {t:TypeId} {xs:List Value} (h:St w0 M σ w) (hi:σ[i]?=some (.row t sz (some ⟨g,0,none⟩) n cap xs)) (o:Nat) {us:List Value} (hu:∀j u,us[j]?=some u→xs[o+j]?=some u):aJ w g o us:=by
  have h1:w.ownsRow 0 t sz (.slice (some ⟨g,0,none⟩) n cap) n xs:=h.all _ (List.mem_of_getElem? hi);intro j u hj;have h2:=hu j u hj;rw[h1.cellAt (o+j) (by have:=(List.getElem?_eq_some_iff.1 h2).1;have:=h1.1;omega)];exact h2
theorem St.bh {i gb n cap sz k o:Nat} {t:TypeId} {xs:List Value} {u:Value} (h:St w0 M σ w) (hi:σ[i]?=some (.row t sz (some ⟨gb,0,none⟩) n cap xs)) (hu:xs[k]?=some u) (ho:o=k):aJ w gb o [u]:=by
  subst ho;refine h.dH hi o fun j v hj=>?_;cases j with
  | zero=>simp at hj;subst hj;exact hu
  | succ j=>simp at hj
theorem St.cW {b o:Nat} {us:List Value} (h:St w0 M σ w) (hc:aJ w0 b o us) (hM:¬M b):aJ w b o us:=by
  intro j u hj;have h1:=hc j u hj;exact(World.cell?_of_block (h.old b (lP h1) hM)).trans h1
end
section
variable {w0 w w':World} {M:Nat→Prop} {σ σ':List HI}
theorem St.new (w:World) (t:TypeId) (cs:List Value):St w No [.cl w.heap.size t cs] (w.alloc (.cells cs.toArray t)):=by
  refine⟨rfl,rfl,Nat.le_refl _,rfl,by simp,fun b hb _=>Below.heap_alloc w _ b hb,?_,List.pairwise_singleton _ _,?_⟩
  · intro i hi
    obtain rfl:i=_:=by simpa using hi
    exact heap_alloc_new w _
  · intro i hi b hb
    obtain rfl:i=_:=by simpa using hi
    obtain rfl:b=w.heap.size:=hb;exact .inl (Nat.le_refl _)
theorem St.l9 {x y:HI} (hg:∀b,b<w.heap.size→¬x.foot b→w'.heap[b]?=w.heap[b]?) (hy:y.holds w') (hf:∀b,y.foot b→w.heap.size≤b∨x.foot b)
    (h1:w'.os=w.os) (h2:w'.tape=w.tape) (h3:w'.output=w.output) (h4:w.heap.size≤w'.heap.size) (hd:w.drawn≤w'.drawn:=by exact Nat.le_refl _):St w (ay [x]) [y] w':=by
  refine⟨h1,h2,hd,h3,h4,fun b hb hn=>hg b hb fun hx=>hn ⟨x,by simp,hx⟩,?_,List.pairwise_singleton _ _,?_⟩
  · intro i hi
    obtain rfl:i=y:=by simpa using hi
    exact hy
  · intro i hi b hb
    obtain rfl:i=y:=by simpa using hi
    rcases hf b hb with h | h
    · exact .inl h
    · exact .inr ⟨x,by simp,h⟩
theorem St.AG {b o:Nat} {t:TypeId} {cs:List Value} {u:Value} (h:(HI.cl b t cs).holds w):St w (ay [.cl b t cs]) [.cl b t (cs.set o u)] (w.setCell ⟨b,o,none⟩ u):=
  St.l9 (fun k _ hn=>Below.heap_setCell w _ u k (fun e=>hn e)) (fh h) (fun _ hb=>.inr hb) rfl rfl rfl (by simp[World.setCell])
theorem St.setRow {g o n cap sz:Nat} {t:TypeId} {xs:List Value} {u:Value} (h:(HI.row t sz (some ⟨g,0,none⟩) n cap xs).holds w):
    St w (ay [.row t sz (some ⟨g,0,none⟩) n cap xs]) [.row t sz (some ⟨g,0,none⟩) n cap (xs.set o u)] (w.setCell ⟨g,o,none⟩ u):=
  St.l9 (fun k _ hn=>Below.heap_setCell w _ u k (fun e=>hn ⟨_,rfl,e⟩)) (World.ownsRow.stored h o u).1 (fun _ hb=>.inr hb) rfl rfl rfl (by simp[World.setCell])
theorem cz {i b o:Nat} {u:Value} {tc:TypeId} {cs:List Value} (hz:∀w,(sizeOf t).run P w=.ok 1 w) (hx:evo ρ x=.pointer (some ⟨b,o,none⟩)) (hy:evo ρ y=u) (hi:σ[i]?=some (.cl b tc cs)) (ho:o<cs.length)
    (hσ:σ.set i (.cl b tc (cs.set o u))=σ') (h1:u.oneCell'=true:=by rfl):cX P r (St w0 M σ) ⟨dst,.store t x y,ty,pos,af,g⟩ ρ (X:=Unit) (fun _=>undef) (fun _=>St w0 M σ'):=
  cX.ji rfl fun w hw=>by
    have h:=hw.all _ (List.mem_of_getElem? hi);have hc:=hw.aq hi o (us:=[cs[o]]) (by rw[List.length_singleton,List.drop_eq_getElem_cons ho];rfl) 0 cs[o] rfl;have hf:w.frozen? ⟨b,o,none⟩=false:=frozen_of_row w b o _ tc h;exact⟨_,lu hz hx hy h1 hc hf,by rw[←hσ];exact hw.upd hi (St.AG h)⟩
theorem oC {i gb o n cap sz:Nat} {u:Value} {tc:TypeId} {xs:List Value} (hz:∀w,(sizeOf t).run P w=.ok 1 w) (hx:evo ρ x=.pointer (some ⟨gb,o,none⟩)) (hy:evo ρ y=u) (hi:σ[i]?=some (.row tc sz (some ⟨gb,0,none⟩) n cap xs)) (ho:o<xs.length)
    (hσ:σ.set i (.row tc sz (some ⟨gb,0,none⟩) n cap (xs.set o u))=σ') (h1:u.oneCell'=true:=by rfl):cX P r (St w0 M σ) ⟨dst,.store t x y,ty,pos,af,g⟩ ρ (X:=Unit) (fun _=>undef) (fun _=>St w0 M σ'):=
  cX.ji rfl fun w hw=>by
    have h:w.ownsRow 0 tc sz (.slice (some ⟨gb,0,none⟩) n cap) n xs:=hw.all _ (List.mem_of_getElem? hi);have hc:=hw.dH hi o (us:=[xs[o]]) (fun j u hj=>by cases j with | zero=>simp at hj;subst hj;simp | succ j=>simp at hj) 0 xs[o] rfl;exact⟨_,lu hz hx hy h1 hc (h.frozenAt o),by rw[←hσ];exact hw.upd hi (St.setRow h)⟩
theorem bU {i gb o n cap sz:Nat} {u:Value} {tc:TypeId} {xs xs':List Value} (hz:∀w,(sizeOf t).run P w=.ok 1 w) (hx:evo ρ x=.pointer (some ⟨gb,o,none⟩)) (hy:evo ρ y=u) (hi:σ[i]?=some (.row tc sz (some ⟨gb,0,none⟩) n cap xs)) (ho:o<xs.length)
    (hxs:xs.set o u=xs') (hσ:σ.set i (.row tc sz (some ⟨gb,0,none⟩) n cap xs')=σ') (h1:u.oneCell'=true:=by rfl):cX P r (St w0 M σ) ⟨dst,.store t x y,ty,pos,af,g⟩ ρ (X:=Unit) (fun _=>undef) (fun _=>St w0 M σ'):=
  oC hz hx hy hi ho (by rw[hxs];exact hσ) h1
theorem de (P:Program) {b o:Nat} {t:TypeId}:∀(us:List Value) (i:Nat) (cs:List Value) (w:World),(HI.cl b t cs).holds w→o+i+us.length≤cs.length→(∀u∈us,u.oneCell'=true)→
    ∃w',(storeCells ⟨b,o,none⟩ us i).run P w=.ok () w'∧St w (ay [.cl b t cs]) [.cl b t (setL cs (o+i) us)] w'
  | [],i,cs,w,h,_,_=>⟨w,rfl,St.l9 (fun _ _ _=>rfl) h (fun _ hb=>.inr hb) rfl rfl rfl (Nat.le_refl _)⟩
  | u :: us, i, cs, w, h, hl, h1 => by
    simp only[List.length_cons] at hl;have hu:=h1 u (by simp);have hc:w.cell? ⟨b,o+i,none⟩=some (cs[o+i]'(by omega)):=by
      have h2:w.heap[b]?=some (.cells cs.toArray t (0,0)):=h;rw[cell_of_row w b (o+i) _ t (0,0) h2];simp
    have hf:w.frozen? ⟨b,o+i,none⟩=false:=frozen_of_row w b (o+i) _ t h;have hs:(store ⟨b,o+i,none⟩ u).run P w=.ok () (w.setCell ⟨b,o+i,none⟩ u):=by
      cases u<;>first | (simp[Value.oneCell'] at hu;done) | simp[store,Sem.run,hc,hf]
    obtain⟨w',h3,h4⟩:=de P (b:=b) (o:=o) (t:=t) us (i+1) (cs.set (o+i) u) (w.setCell ⟨b,o+i,none⟩ u) (fh h) (by simp;omega) (fun u' hu'=>h1 u' (by simp[hu']));refine⟨w',?_,?_⟩
    · simp only [storeCells, gp, Sem.run_bind, hs, Result.andThen]
      exact h3
    · have h5 := St.AG (w := w) (b := b) (o := o + i) (t := t) (cs := cs) (u := u) h
      have h6:St w (ay [.cl b t cs]) ([.cl b t (setL cs (o+i) (u::us))]++[]) w':=by
        refine St.trans (σ:=[.cl b t (cs.set (o+i) u)]) (F:=[]) (by simpa using h5) ?_;have e:setL cs (o+i) (u::us)=setL (cs.set (o+i) u) (o+(i+1)) us:=rfl;rw[e];exact h4
      simpa using h6
theorem cy {i b o k:Nat} {us:List Value} {tc:TypeId} {cs:List Value} (hz:∀w,(sizeOf t).run P w=.ok k w) (hx:evo ρ x=.pointer (some ⟨b,o,none⟩)) (hy:evo ρ y=.agg us.toArray) (hi:σ[i]?=some (.cl b tc cs)) (ho:o+us.length≤cs.length)
    (hσ:σ.set i (.cl b tc (setL cs o us))=σ') (h1:∀u∈us,u.oneCell'=true) (hk:us.length=k:=by rfl):cX P r (St w0 M σ) ⟨dst,.store t x y,ty,pos,af,g⟩ ρ (X:=Unit) (fun _=>undef) (fun _=>St w0 M σ'):=
  cX.ji rfl fun w hw=>by
    subst hk;have h:=hw.all _ (List.mem_of_getElem? hi);obtain⟨w',h2,h3⟩:=de P (o:=o) us 0 cs w h (by omega) h1;refine⟨w',?_,by rw[←hσ];exact hw.upd hi h3⟩;simp[execOp,Instr.storeAt,Instr.sureAddr,hx,hy,storeVar,Value.cells,hz,h2]
theorem uj {o:Oper} {us:List Value} {te:TypeId} {σ':Nat→List HI} (hd:bJ o=true) (hσ:∀b,σ++[.cl b te us]=σ' b) (h:∀w,(execOp (evo ρ) o).run P w=.ok (.value (.pointer (some ⟨w.heap.size,0,none⟩))) (w.alloc (.cells us.toArray te))):
    cX P r (St w0 M σ) o ρ (X:=Nat) (fun b=>.pointer (some ⟨b,0,none⟩)) (fun b=>St w0 M (σ' b)):=
  cX.gB hd fun w hw=>⟨w.heap.size,_,h w,by rw[←hσ];exact hw.add (St.new w te us)⟩
theorem eN {σ':Nat→List HI} {u:Value} (hx:evo ρ x=u) (hσ:∀b,σ++[.cl b t [u]]=σ' b) (h1:u.oneCell'=true:=by rfl):cX P r (St w0 M σ) ⟨dst,.box t x,ty,pos,af,g⟩ ρ (X:=Nat) (fun b=>.pointer (some ⟨b,0,none⟩)) (fun b=>St w0 M (σ' b)):=
  uj rfl hσ fun w=>by
    have e:u.cells=#[u]:=by cases u<;>first | rfl | simp[Value.oneCell'] at h1
    simp[execOp,Instr.box,hx,newVar,newRow,newObj,Sem.run,e]
theorem fw {σ':Nat→List HI} {us:List Value} (hx:evo ρ x=.agg us.toArray) (hσ:∀b,σ++[.cl b t us]=σ' b):cX P r (St w0 M σ) ⟨dst,.box t x,ty,pos,af,g⟩ ρ (X:=Nat) (fun b=>.pointer (some ⟨b,0,none⟩)) (fun b=>St w0 M (σ' b)):=
  uj rfl hσ fun w=>by simp[execOp,Instr.box,hx,newVar,newRow,newObj,Sem.run,Value.cells]
theorem cQ {σ':Nat→List HI} {z:Value} {us:List Value} (hz:∀w,(zeroValue t).run P w=.ok z w) (hu:z.cells=us.toArray) (hσ:∀b,σ++[.cl b t us]=σ' b):cX P r (St w0 M σ) ⟨dst,.alloc t,ty,pos,af,g⟩ ρ (X:=Nat) (fun b=>.pointer (some ⟨b,0,none⟩)) (fun b=>St w0 M (σ' b)):=
  uj rfl hσ fun w=>by simp[execOp,Instr.alloc,newVar,newRow,newObj,Sem.run,hz,hu]
theorem St.newRow (w:World) (t:TypeId) (sz n:Nat) (cs:List Value) (hl:cs.length=n*sz) (hm:n≤maxLen):St w No [.row t sz (some ⟨w.heap.size,0,none⟩) n n cs] (w.alloc (.cells cs.toArray t)):=by
  refine⟨rfl,rfl,Nat.le_refl _,rfl,by simp,fun b hb _=>Below.heap_alloc w _ b hb,?_,List.pairwise_singleton _ _,?_⟩
  · intro i hi
    obtain rfl:i=_:=by simpa using hi
    have:=World.ownsRow_lit (base:=0) (e:=t) (size:=sz) w cs.toArray n (Nat.zero_le _) hm (by simpa using hl)
    simpa [HI.holds] using this
  · intro i hi b hb
    obtain rfl:i=_:=by simpa using hi
    obtain⟨a,ha,rfl⟩:=hb;cases ha;exact .inl (Nat.le_refl _)
theorem mi {o:Oper} {us:List Value} {te:TypeId} {sz n:Nat} {σ':Nat→List HI} (hd:bJ o=true) (hl:us.length=n*sz) (hm:n≤maxLen) (hσ:∀b,σ++[.row te sz (some ⟨b,0,none⟩) n n us]=σ' b)
    (h:∀w,(execOp (evo ρ) o).run P w=.ok (.value (.slice (some ⟨w.heap.size,0,none⟩) n n)) (w.alloc (.cells us.toArray te))):
    cX P r (St w0 M σ) o ρ (X:=Nat) (fun b=>.slice (some ⟨b,0,none⟩) n n) (fun b=>St w0 M (σ' b)):=
  cX.gB hd fun w hw=>⟨w.heap.size,_,h w,by rw[←hσ];exact hw.add (St.newRow w te sz n us hl hm)⟩
theorem cu {σ':Nat→List HI} {te:TypeId} {sz n:Nat} {z:Value} {us:List Value} {parts:List (Nat×Operand)} (ht:P.underlying t=some (.slice te)) (hz:∀w,(sizeOf te).run P w=.ok sz w) (hv:∀w,(zeroValue te).run P w=.ok z w)
    (hi:parts.map (·.1)=List.range' 0 n) (hc':parts.map (fun p=>(evo ρ p.2).cells.size)=List.replicate n sz) (hu:(parts.flatMap fun p=>(evo ρ p.2).cells.toList)=us) (hn:n*sz≤16777216) (h0:n*sz≠0)
    (hσ:∀b,σ++[.row te sz (some ⟨b,0,none⟩) n n us]=σ' b):
    cX P r (St w0 M σ) ⟨dst,.buildSlice t n parts.toArray,ty,pos,af,g⟩ ρ (X:=Nat) (fun b=>.slice (some ⟨b,0,none⟩) n n) (fun b=>St w0 M (σ' b)):=by
  have hl:parts.length=n:=by have:=congrArg List.length hi;simpa using this
  have hc:∀p∈parts,(evo ρ p.2).cells.size=sz:=fun p hp=>by
    have h1:(evo ρ p.2).cells.size∈parts.map (fun p=>(evo ρ p.2).cells.size):=List.mem_map.2 ⟨p,hp,rfl⟩;rw[hc'] at h1;exact List.eq_of_mem_replicate h1
  clear hc';have hul:us.length=n*sz:=by
    rw[←hu,←hl];clear hu hi hl hn h0;induction parts with
    | nil=>simp
    | cons p parts ih =>
      have h1:=hc p (by simp);have h2:=ih fun q hq=>hc q (by simp[hq]);simp only[List.flatMap_cons,List.length_append,Array.length_toList,h1,h2,List.length_cons,Nat.add_mul,Nat.one_mul];omega
  have hm:n≤maxLen:=by
    have : n ≤ n * sz := Nat.le_mul_of_pos_right n (by rcases Nat.eq_zero_or_pos sz with e | e; · simp [e] at h0
                                                       · exact e)
    unfold maxLen;omega
  refine mi rfl hul hm hσ fun w=>?_;have hmap:(parts.map fun x=>(x.1,evo ρ x.2))=(List.range' 0 (parts.map fun p=>evo ρ p.2).length).zip (parts.map fun p=>evo ρ p.2):=by
    rw[List.length_map,hl,←hi];clear hc hu hi hl hul hm;induction parts with
    | nil=>rfl
    | cons p parts ih=>simp[ih]
  have hcell:∃rest:List Value,((Array.range (n*sz)).map (z.cells[· % z.cells.size]!))=rest.toArray∧rest.length=n*sz:=⟨_,(Array.toArray_toList (xs:=(Array.range (n*sz)).map (z.cells[· % z.cells.size]!))).symm,by simp⟩;obtain⟨rest,hrest,hrl⟩:=hcell
  have hf := s9 sz (parts.map fun p => evo ρ p.2) 0 [] rest (fun v hv => by
    obtain ⟨p, hp, rfl⟩ := List.mem_map.1 hv
    exact hc p hp) (by simp) (by rw [hrl]; simp [hl])
  simp only[List.nil_append,List.flatMap_map] at hf;rw[hu,←hmap] at hf;have hlt:¬(16777216<n*sz):=by omega
  simp[execOp,Instr.buildSlice,run_underlying ht,hz,hv,hlt,h0,hrest,hf,newRow,newObj,Sem.run,Result.andThen]
theorem St.bB (h:St w0 M σ w) (t:TypeId) (sz:Nat):St w0 M (σ++[.row t sz none 0 0 []]) w:=
  h.add ⟨rfl, rfl, Nat.le_refl _, rfl, Nat.le_refl _, fun _ _ _ => rfl, fun i hi => by
    obtain rfl : i = _ := by simpa using hi
    exact World.ownsRow_nil w 0 t sz, List.pairwise_singleton _ _, fun i hi b hb => by
    obtain rfl : i = _ := by simpa using hi
    obtain ⟨a, ha, _⟩ := hb
    cases ha⟩
theorem St.aM {i n cap sz:Nat} {t:TypeId} {A:Option Addr} {xs:List Value} (h:St w0 M σ w) (hi:σ[i]?=some (.row t sz A n cap xs)) (hn:0<n):∃b,A=some ⟨b,0,none⟩:=by
  have h1:w.ownsRow 0 t sz (.slice A n cap) n xs:=h.all _ (List.mem_of_getElem? hi)
  rcases h1.2 with ⟨_,h0⟩ | ⟨gb,cap',cur,hv,_⟩
  · omega
  · exact⟨gb,by injection hv⟩
theorem St.r7 {i n cap sz:Nat} {t:TypeId} {A:Option Addr} {xs:List Value} (h:St w0 M σ w) (hi:σ[i]?=some (.row t sz A n cap xs)):xs.length=n*sz:=
  have h1:w.ownsRow 0 t sz (.slice A n cap) n xs:=h.all _ (List.mem_of_getElem? hi)
  h1.1
theorem St.rd {α:Type} {A:Option Addr} {sz:Nat} {enc:α→List Value} {l:List α} (h:St w0 M σ w) (hr:jL w0 A sz enc l) (hM:∀b,¬M b):jL w A sz enc l:=
  hr.p8 fun b _ _ hc=>(World.cell?_of_block (h.old b (lP hc) (hM b))).trans hc
theorem St.eO {α:Type} {i n cap:Nat} {t:TypeId} {A:Option Addr} {l:List α} {f:α→Value} (h:St w0 M σ w) (hi:σ[i]?=some (.row t 1 A n cap (l.map f))):jL w A 1 (fun x=>[f x]) l:=fun k x hx=>by
  have hl:l.length=n:=by have:=h.r7 hi;simpa using this
  have hk:=(List.getElem?_eq_some_iff.1 hx).1;obtain⟨b,rfl⟩:=h.aM hi (by omega);exact⟨b,0,rfl,h.bh hi (k:=k) (by simp[hx]) (by omega)⟩
theorem St.ur {α:Type} {i n cap sz:Nat} {t:TypeId} {A:Option Addr} {l:List α} {enc:α→List Value} (h:St w0 M σ w) (hi:σ[i]?=some (.row t sz A n cap (l.flatMap enc))) (hn:l.length=n) (hz:∀x,(enc x).length=sz):jL w A sz enc l:=fun k x hx=>by
  have hk:=(List.getElem?_eq_some_iff.1 hx).1;obtain⟨b,rfl⟩:=h.aM hi (by omega);refine⟨b,0,rfl,h.dH hi _ fun j u hj=>?_⟩;rw[Nat.zero_add,jZ hz l k j x hx (by have:=(List.getElem?_eq_some_iff.1 hj).1;rw[hz] at this;exact this)];exact hj
end
end
end
theorem WP.dj {P:Program} {r:Option Nat} {N:Nat} {Q:XP} {ρ:Env} {ds:List Deferred} {w0:World} {M:Nat→Prop} {σ:List HI} {id:Nat} {l:List Oper} (fin:Option Nat) (idx:List Nat) (plan:List (Nat×Bool))
    (hm:P.follows .mixedOrders=true) (hB:qy l.toArray fin plan=true) (hN:gX N l=true) (h:aB P r N l fin (St w0 M (sel σ idx)) plan Q ρ ds (St w0 M σ)):WP P r N (.region id l.toArray true) Q ρ ds (St w0 M σ):=
  WP.draw fin (St w0 M (sel σ idx)) plan hm hB hN (fun _ h=>h.drawn) h
section
variable {P:Program} {r:Option Nat} {N d:Nat} {ops:Array Oper} {l rest:List Oper} {Q:XP} {ρ:Env} {ds:List Deferred} {S:World→Prop} {x y:Operand} {ty:TypeId} {pos:String} {af:Array Edge} {v:Value} {id:Nat} {c y':Code}
end
section
variable {P:Program} {r:Option Nat} {N:Nat} {Q:XP} {ρ:Env} {S:World→Prop} {fn:Func} {R:Value→World→Prop}
theorem ct {w0:World} {M:Nat→Prop} {σ σ':List HI} {dst:Option Tmp} {ty:TypeId} {pos:String} {af:Array Edge} {g:Option (Nat×Bool)} {x y:Operand} {t tc:TypeId} {i b k:Nat} {us cs:List Value} (hz:∀w,(sizeOf t).run P w=.ok k w) (hx:evo ρ x=.pointer (some ⟨b,0,none⟩)) (hy:evo ρ y=.agg us.toArray) (hi:σ[i]?=some (.cl b tc cs)) (ho:us.length=cs.length)
    (hσ:σ.set i (.cl b tc us)=σ') (h1:∀u∈us,u.oneCell'=true) (hk:us.length=k:=by rfl):cX P r (St w0 M σ) ⟨dst,.store t x y,ty,pos,af,g⟩ ρ (X:=Unit) (fun _=>undef) (fun _=>St w0 M σ'):=
  cy hz hx hy hi (by omega) (by rw[pE _ _ ho];exact hσ) h1 hk
section
variable {dst:Option Tmp} {ty:TypeId} {pos:String} {af:Array Edge} {g:Option (Nat×Bool)} {t t2:TypeId} {x y:Operand} {a b:Bool}
end
end
def Ct (P:Program) (f:FuncId) (args:Array Value) (pre:List HI) (Fact:World→Prop) {X:Type} (v:X→Value) (facts:X→Prop) (post:X→List HI):Prop:=
  ∀ w, (∀ i ∈ pre, i.holds w) → pre.Pairwise (fun x y => ∀ b, x.foot b → ¬ y.foot b) → Fact w →
    Calls P f args w fun e w'=>∃x,e=.returned (v x)∧facts x∧St w (ay pre) (post x) w'
theorem Ct.intro {P:Program} {f:FuncId} {fn:Func} {c:Code} {N:Nat} {args:Array Value} {pre:List HI} {Fact:World→Prop} {X:Type} {v:X→Value} {facts:X→Prop} {post:X→List HI} (hf:P.funcs[f]?=some fn) (hb:fn.body=some c) (hn:fn.ntmps=N) (ha:args.size≤N)
    (h:∀w,Fact w→WP P none N c (da P fn (fun u w'=>∃x,u=v x∧facts x∧St w (ay pre) (post x) w')) (nT args.toList) [] (St w (ay pre) pre)):Ct P f args pre Fact v facts post:=by
  intro w h1 h2 h3;refine(enter hf hb hn ha ((h w h3).pre fun w' e=>?_)).mono ?_
  · subst e;exact St.start h1 h2
  · rintro e w' ⟨u, rfl, x, rfl, hx, hs⟩
    exact⟨x,rfl,hx,hs⟩
section
variable {P:Program} {r:Option Nat} {N:Nat} {Q:XP} {ρ:Env} {S:World→Prop} {fn:Func} {R:Value→World→Prop}
end
section
variable {P:Program} {r:Option Nat} {S:World→Prop} {ρ:Env} {dst:Option Tmp} {ty:TypeId} {pos:String} {af:Array Edge} {g:Option (Nat×Bool)} {f:FuncId} {xs:List Operand} {ats:Array TypeId} {args:List Value}
section
variable {w0:World} {M:Nat→Prop} {σ σ':List HI} {pre:List HI} {Fact:World→Prop} {X:Type} {v:X→Value} {facts:X→Prop} {post:X→List HI}
theorem Ct.apply (hc:Ct P f args.toArray pre Fact v facts post) (idx rest:List Nat) (hn:(idx++rest).Nodup) (hp:sel σ idx=pre) (hF:∀w,St w0 M σ w→Fact w) {τ:X→List HI} (hτ:∀x,sel σ rest++post x=τ x) (w:World) (hw:St w0 M σ w):
    Calls P f args.toArray w fun e w'=>∃x,e=.returned (v x)∧facts x∧St w0 M (τ x) w':=by
  have h1:=hw.sel (idx++rest) hn;have e:sel σ (idx++rest)=pre++sel σ rest:=by rw[←hp];simp[sel]
  rw[e] at h1;refine(hc w (fun i hi=>h1.all i (List.mem_append_left _ hi)) (List.pairwise_append.1 h1.disj).1 (hF w hw)).mono ?_
  rintro e w' ⟨x,rfl,hx,hs⟩
  refine⟨x,rfl,hx,?_⟩;rw[←hτ];exact(h1.trans hs).perm List.perm_append_comm
theorem ck (hf:∀args w,(callFunc f args).run P w=.ok (.enter f args) w) (hc:Ct P f args.toArray pre Fact v facts post) (idx rest:List Nat) (hp:sel σ idx=pre) (hF:∀w,St w0 M σ w→Fact w) {τ:X→List HI} (hτ:∀x,sel σ rest++post x=τ x)
    (ha:xs.map (evo ρ)=args:=by rfl) (hn:(idx++rest).Nodup:=by decide):
    cX P r (St w0 M σ) ⟨dst,.call ⟨.value (.func f),xs.toArray,ats⟩,ty,pos,af,g⟩ ρ v (fun x w'=>facts x∧St w0 M (τ x) w'):=
  cX.nx rfl (fun w _=>pq hf ha w) (fun w hw=>hc.apply idx rest hn hp hF hτ w hw)
theorem iq {x:Operand} {first cap:List Value} (hf:∀args w,(callFunc f args).run P w=.ok (.enter f args) w) (hc:Ct P f args.toArray pre Fact v facts post) (idx rest:List Nat) (hp:sel σ idx=pre) (hF:∀w,St w0 M σ w→Fact w)
    {τ:X→List HI} (hτ:∀x,sel σ rest++post x=τ x) (hx:evo ρ x=.func (.func f) first.toArray cap.toArray:=by rfl) (ha:first++xs.map (evo ρ)++cap=args:=by rfl) (hn:(idx++rest).Nodup:=by decide):
    cX P r (St w0 M σ) ⟨dst,.call ⟨.value x,xs.toArray,ats⟩,ty,pos,af,g⟩ ρ v (fun x w'=>facts x∧St w0 M (τ x) w'):=
  cX.nx rfl (fun w _=>qe hf hx ha w) (fun w hw=>hc.apply idx rest hn hp hF hτ w hw)
end
end
end Go.Proofs.YtbedndijejpcaaaGreat.Q
namespace Go.Proofs.YtbedndijejpcaaaGreat
open Go.RowKit
theorem rU {w:World} {A:Option Addr} {L:List PN} (hz:T2 w A L) {i:Nat} (h:i<L.length):∃(n:PN) (ab ao:Nat),L[i]?=some n∧A=some ⟨ab,ao,none⟩∧aJ w ab (ao+i*3) (tT n):=by
  have hn:L[i]?=some L[i]:=List.getElem?_eq_getElem h;obtain⟨b,o,e,hc⟩:=hz i _ hn;exact⟨_,b,o,hn,e,hc⟩
theorem FJ {u:Int} {st:List Int} (h:∀y t,st=y::t→y=u):pop u st=st:=by
  cases st with
  | nil=>rfl
  | cons y t=>rw[h y t rfl,ry]
theorem Kr (u:Int) (st:List Int):(pop u st).length≤st.length:=(List.dropWhile_sublist _).length_le
theorem yR {L:List PN}:∀{k:Nat} {st:List Int},stk L k=some st→st.length≤k
  | 0, st, h => by
    obtain rfl:[]=st:=by simpa [stk] using h
    simp
  | k + 1, st, h => by
    rw[stk] at h;cases e:stk L k with
    | none=>rw[e] at h;cases h
    | some s =>
      rw[e] at h;have h1:=yR e;simp only at h
      split at h
      · split at h
        · cases h;simp
        · cases h
      · split at h
        · cases h
        · cases h
          have:=Kr (ns L k) s;simp only[List.length_cons];omega
theorem Kd {L:List PN} {k:Nat} {st:List Int} (h:stk L k=some st) {u:Int} (hu:u<0):pop u st=[]:=by
  obtain⟨h1,h2⟩:=sM h
  rcases xn (u:=u) h1 with ⟨p1,_⟩ | ⟨t,p1,_,p3⟩
  · exact p1
  · have:=h2 u (p3 u (by simp));omega
theorem yV {L:List PN} {k:Nat} {st:List Int} (h:stk L k=some st) (he:(decide ((k:Int)=0) !=decide (ns L k= -1))=true):stk L (k+1)=none:=by
  rw[stk,h];simp only
  by_cases h0:k=0
  · subst h0
    rw[if_pos rfl,if_neg (fun e=>by rw[show ((0:Nat):Int)=0 from rfl,e] at he;simp at he)]
  · rw [if_neg h0]
    have hu:ns L k= -1:=by
      by_cases e:ns L k= -1
      · exact e
      · have h0' : ¬ ((k : Int) = 0) := by omega
        simp[e,h0'] at he;omega
    rw[Kd h (by omega),if_pos rfl]
theorem I3 {L:List PN} (h:ns L 0= -1):stk L 1=some [0]:=by simp[stk,h]
theorem Eb (A:Option Addr) (c:Nat) (L:List PN) (hL:L.length≤1000):Ct Tryz.prog 122 #[.slice A L.length c] [] (fun w=>T2 w A L) (X:=Unit) (fun _=>.bool (uv L)) (fun _=>True) (fun _=>[]):=by
  refine Ci fun w0 hz=>?_;refine eh ?_;refine av ?_;refine nl (oo ?_);refine eh ?_;refine av ?_;refine nl (oo ?_)
  iterate 2 refine sq ?_
  refine WP.pre ?_ (fun w hw=>hw.bB 3 1);refine gg ?_;refine WP.bm (X:=Nat×List Int×Option Addr×Nat) [6,7] (fun p=>[(8,.int .i64 (p.1:Int)),(3,.slice p.2.2.1 p.2.1.length p.2.2.2)]) (fun p w=>(p.1≤L.length∧stk L p.1=some p.2.1)∧St w0 (ay []) [.row 3 1 p.2.2.1 p.2.1.length p.2.2.2 (p.2.1.reverse.map (Value.int .i64))] w) (fun p=>L.length - p.1) (0,[],none,0) ⟨rfl,rfl,trivial⟩ (fun w hw=>⟨⟨Nat.zero_le _,rfl⟩,hw⟩) (fun p ρ0=>?_);obtain⟨k,st,zA,zc⟩:=p;dsimp only;refine WP.fact (fun⟨hkl,hstk⟩=>?_);refine gg ?_;refine WP.aw rfl (fun h9=>?_) (fun h9=>?_)
  ·have hk:k<L.length:=by omega
   obtain⟨n,ab,ao,hn,rfl,hc⟩:=rU hz hk;have hup:=upN hn;have hsl0:st.length≤1000:=by
     have:=yR hstk;omega
   refine iX ?_;refine vl (au (cs:=[.int .i64 _,.bool _,.int .i64 _]) Tryz.isAgg186 Tryz.sizeOf186 rfl (fun w hw=>hw.cW hc (ax _))) ?_;refine aj.ef cg fun b5=>?_;refine gg ?_;refine aj.aX (xW rfl) fun _=>?_;refine gg ?_;refine WP.bm (X:=List Int) [4,5,6,7,8] (fun s2=>[(3,.slice zA s2.length zc)]) (fun s2 w=>(pop n.up s2=pop n.up st∧s2.length≤st.length)∧St w0 (ay []) [.row 3 1 zA s2.length zc (s2.reverse.map (Value.int .i64)),.cl b5 186 (tT n)] w) (fun s2=>s2.length) st ⟨rfl,trivial⟩ (fun w hw=>⟨⟨rfl,Nat.le_refl _⟩,(hw.sel [0,1] (by decide))⟩) (fun s2 ρ0=>?_);refine WP.fact (fun⟨hpop,hsl⟩=>?_);refine bW ?_;refine WP.holds (fun w hw=>(hw.IT (i:=0) rfl:s2.length≤zc)) (fun hcap=>?_);refine WP.holds (p:=0<s2.length→∃lb,zA=some ⟨lb,0,none⟩) (fun w hw=>fun h=>hw.aM (i:=0) rfl h) (fun hpos=>?_);refine WP.fj none [(0,true),(1,true),(2,true),(3,true),(4,true),(5,true),(6,true),(7,true),(8,true),(9,true),(10,true),(11,true),(12,true),(13,true)] mixed (by kernel_rfl) (by decide) (fun _ h=>h.drawn) ?_;refine bS ?_;refine aB.split 16 rfl (fun h16=>?_) (fun h16=>?_)
   ·obtain⟨y,s3,rfl⟩:∃y s3,s2=y::s3:=by cases s2 with | nil=>exact absurd h16 (by simp) | cons y s3=>exact⟨y,s3,rfl⟩
    obtain⟨lb,hlb⟩:=hpos (by simp);subst hlb;refine bS ?_;refine tE rfl (bG (j:=s3.length) Tryz.underlying49 Tryz.sizeOf3 rfl rfl (by simp only[List.length_cons];omega) (by simp)) ?_;refine tE rfl (ai (u:=.int .i64 _) Tryz.isAgg3 rfl (fun w hw=>hw.bh (i:=0) (k:=s3.length) (u:=.int .i64 y) rfl (by simp) (by omega))) ?_;refine gg ?_;refine WP.aw rfl (fun h26=>?_) (fun h26=>?_)
    ·refine qa ?_;refine vl (cD (kl:=0) (l:=0) (h:=s3.length) Tryz.underlying49 Tryz.sizeOf3 rfl rfl ⟨rfl,by simp only[List.length_cons];omega⟩ (by omega) (by simp only[List.length_cons] at hcap;omega)) ?_;refine av ?_;exact nl fun w hw=>⟨rfl,s3,(by simp),⟨(by show Value.slice (dZ (some ⟨lb,0,none⟩) 0 zc 1) (s3.length - 0) (zc - 0)=_;rw[fQ];rfl),jI,rfl,jS,jI,jI,trivial⟩,⟨⟨by rw[←hpop,qX h26],by simp only[List.length_cons] at hsl;omega⟩,by have h:=St.TP (k:=s3.length) (hw.sel [0,1] (by decide)) (i:=0) rfl (by simp);rw[show (List.map (Value.int .i64) (y::s3).reverse).take (s3.length*1)=s3.reverse.map (Value.int .i64) by simp] at h;exact h⟩⟩
    ·have hp2:pop n.up st=y::s3:=by rw[←hpop];exact FJ (fun a t e=>by cases e;exact Decidable.not_not.1 h26)
     refine WP.exit (an ?_);refine qa ?_;refine vl (CZ Tryz.underlying4 rfl rfl) ?_;refine av ?_;refine aj.aY 38 rfl (fun h38=>?_) (fun h38=>?_)
     ·refine gg ?_;have hres:uv L=false:=xM (i:=k+1) (by omega) (yV hstk (by rw[hup];exact h38));refine WP.aQ rfl ?_;refine gg ?_;exact aT fun w hw=>⟨(),congrArg Value.bool (by rw[hres]),trivial,hw.pk⟩
     ·refine cK ?_;refine aj.split 41 rfl (fun h41=>?_) (fun h41=>?_)
      ·refine gg ?_;refine WP.aw rfl (fun h46=>?_) (fun h46=>?_)
       ·have hres:uv L=false:=xM (i:=k+1) (by omega) (by rw[stk,hstk];simp only;rw[hup,hp2,if_neg (by omega)];first | rfl | (exfalso;simp at h46;omega));refine gg ?_;exact aT fun w hw=>⟨(),congrArg Value.bool (by rw[hres]),trivial,hw.pk⟩
       ·have hnew:stk L (k+1)=some ((k:Int)::(y::s3)):=by rw[stk,hstk];simp only;rw[if_neg (by omega),hup,hp2,if_neg (by simp)]
        refine gg ?_;refine aj.ef (xN (L1 rfl)) fun g49=>?_;refine aj.ef (xP 0 2) fun⟨A50,c50⟩=>?_;refine cR ?_;exact nl fun w hw=>⟨rfl,(k+1,(k:Int)::(y::s3),A50,c50),(by simp only;omega),⟨rfl,(by show Value.slice A50 ((y::s3).length+1) c50=_;rfl),jS,jI,trivial⟩,⟨⟨by simp only;omega,hnew⟩,by dsimp only;rw[show ((k:Int)::(y::s3)).reverse.map (Value.int .i64)=((y::s3)).reverse.map (Value.int .i64)++[.int .i64 (k:Int)] by simp];exact hw.pk⟩⟩
      ·refine gg ?_;have hnew:stk L (k+1)=some ((k:Int)::(y::s3)):=by exfalso;obtain rfl:k=0:=(by omega);rw[stk] at hstk;cases hstk;simp at hsl
       refine WP.br rfl ?_;refine gg ?_;refine aj.ef (xN (L1 rfl)) fun g49=>?_;refine aj.ef (xP 0 2) fun⟨A50,c50⟩=>?_;refine cR ?_;exact nl fun w hw=>⟨rfl,(k+1,(k:Int)::(y::s3),A50,c50),(by simp only;omega),⟨rfl,(by show Value.slice A50 ((y::s3).length+1) c50=_;rfl),jS,jI,trivial⟩,⟨⟨by simp only;omega,hnew⟩,by dsimp only;rw[show ((k:Int)::(y::s3)).reverse.map (Value.int .i64)=((y::s3)).reverse.map (Value.int .i64)++[.int .i64 (k:Int)] by simp];exact hw.pk⟩⟩
   ·obtain rfl:s2=[]:=by cases s2 with | nil=>rfl | cons y s3=>exact absurd (by simp only[List.length_cons];omega) h16
    refine dS ?_;refine dS ?_;refine dS ?_;refine dS ?_;refine dS ?_;refine dS ?_;refine dS ?_;refine dS ?_;refine dS ?_;refine gg ?_;have hp2:pop n.up st=[]:=hpop.symm;refine WP.br rfl ?_;refine WP.exit (an ?_);refine qa ?_;refine vl (CZ Tryz.underlying4 rfl rfl) ?_;refine av ?_;refine aj.aY 38 rfl (fun h38=>?_) (fun h38=>?_)
    ·refine gg ?_;have hres:uv L=false:=xM (i:=k+1) (by omega) (yV hstk (by rw[hup];exact h38));refine WP.aQ rfl ?_;refine gg ?_;exact aT fun w hw=>⟨(),congrArg Value.bool (by rw[hres]),trivial,hw.pk⟩
    ·refine cK ?_;refine aj.split 41 rfl (fun h41=>?_) (fun h41=>?_)
     ·refine gg ?_;refine WP.aw rfl (fun h46=>?_) (fun h46=>?_)
      ·have hres:uv L=false:=xM (i:=k+1) (by omega) (by rw[stk,hstk];simp only;rw[hup,hp2,if_neg (by omega)];first | rfl | (exfalso;simp at h46;omega));refine gg ?_;exact aT fun w hw=>⟨(),congrArg Value.bool (by rw[hres]),trivial,hw.pk⟩
      ·have hnew:stk L (k+1)=some ((k:Int)::([]:List Int)):=by exfalso;simp at h46
       refine gg ?_;refine aj.ef (xN (L1 rfl)) fun g49=>?_;refine aj.ef (xP 0 2) fun⟨A50,c50⟩=>?_;refine cR ?_;exact nl fun w hw=>⟨rfl,(k+1,(k:Int)::([]:List Int),A50,c50),(by simp only;omega),⟨rfl,(by show Value.slice A50 (([]:List Int).length+1) c50=_;rfl),jS,jI,trivial⟩,⟨⟨by simp only;omega,hnew⟩,by dsimp only;rw[show ((k:Int)::([]:List Int)).reverse.map (Value.int .i64)=(([]:List Int)).reverse.map (Value.int .i64)++[.int .i64 (k:Int)] by simp];exact hw.pk⟩⟩
     ·refine gg ?_;have hnew:stk L (k+1)=some ((k:Int)::([]:List Int)):=by obtain rfl:k=0:=(by omega);exact I3 (by have h:ns L 0=n.up:=hup;simp at h38;rw[h];omega)
      refine WP.br rfl ?_;refine gg ?_;refine aj.ef (xN (L1 rfl)) fun g49=>?_;refine aj.ef (xP 0 2) fun⟨A50,c50⟩=>?_;refine cR ?_;exact nl fun w hw=>⟨rfl,(k+1,(k:Int)::([]:List Int),A50,c50),(by simp only;omega),⟨rfl,(by show Value.slice A50 (([]:List Int).length+1) c50=_;rfl),jS,jI,trivial⟩,⟨⟨by simp only;omega,hnew⟩,by dsimp only;rw[show ((k:Int)::([]:List Int)).reverse.map (Value.int .i64)=(([]:List Int)).reverse.map (Value.int .i64)++[.int .i64 (k:Int)] by simp];exact hw.pk⟩⟩
  ·obtain rfl:k=L.length:=by omega
   have hres:uv L=true:=by rw[uv,hstk];rfl
   refine WP.exit (an ?_);refine gg ?_;exact aT fun w hw=>⟨(),congrArg Value.bool (by rw[hres]),trivial,hw.pk⟩
theorem Ch.neg {L:List PN} {x:Int} {st:List Int} (h:Ch L x st) (hx:x<0):st=[]:=by
  cases st with
  | nil=>rfl
  | cons y t=>have:=h.1;have:=h.2.1;omega
theorem Ch.pos {L:List PN} {x:Int} {st:List Int} (h:Ch L x st) (hx:0≤x):∃t,st=x::t∧Ch L (ns L x) t:=by
  cases st with
  | nil => have : x = -1 := h
           omega
  | cons y t =>
    have e:x=y:=h.1;subst e;exact⟨t,rfl,h.2.2⟩
theorem G9 (A:Option Addr) (c:Nat) (L:List PN) (hP:PV L) (x:Int) (hx0:0≤x) (hx:x<L.length):Ct Tryz.prog 123 #[.slice A L.length c,.int .i64 x] [] (fun w=>T2 w A L) (X:=Unit) (fun _=>.int .i64 (gV L x)) (fun _=>True) (fun _=>[]):=by
  refine Ct.intro Tryz.func123 rfl Tryz.ntmps123 (by simp) (fun w0 hz=>?_);refine eh ?_;refine sg (v:=.int .i64 (0)) rfl ?_;refine nl (oo ?_);refine sq ?_;obtain⟨i,rfl⟩:∃i:Nat,x=i:=⟨x.toNat,by omega⟩;obtain⟨n,ab,ao,hn,rfl,hc⟩:=rU hz (i:=i) (by omega);have hux:ns L (i:Int)=n.up:=upN hn;have hyl:n.up<L.length:=by
    by_cases h0:i=0
    · subst h0
      have:=hP.root (fun e=>by rw[e] at hx;simp at hx);have h3:ns L 0=n.up:=hux;omega
    · have := hP.up (i : Int) (by omega) hx
      omega
  refine WP.region ?_;refine mvS rfl ?_;refine lj rfl ?_;refine vl (bG (j:=i) Tryz.underlying143 Tryz.sizeOf186 rfl rfl rfl (by omega)) ?_;refine vl (e7 (off:=0) Tryz.underlying186 rfl Tryz.sizeOf3 rfl) ?_;refine vl (ai (u:=.int .i64 _) Tryz.isAgg3 rfl (fun w hw=>hw.cW (hc.one (j:=0) rfl (by omega)) (ax _))) ?_;refine IV rfl ?_;refine nl (oo ?_);refine sq ?_;refine WP.block ?_;refine WP.bm (X:=Int) [0] (fun y=>[(5,.int .i64 y)]) (fun y w=>(y<L.length∧tJ L y=gV L (i:Int))∧St w0 (ay []) [] w) (fun y=>y.toNat) n.up ⟨rfl,trivial⟩ (fun w hw=>⟨⟨hyl,by unfold gV;rw[hux]⟩,hw⟩) (fun y ρ0=>?_);refine WP.fact (fun⟨hyn,hlay⟩=>?_);refine sq ?_;refine eh ?_;refine lj rfl ?_;refine vl (GV rfl rfl) ?_;refine Fs rfl ?_;refine aj.split 13 rfl (fun h13=>?_) (fun h13=>?_)
  ·obtain⟨m,rfl⟩:∃m:Nat,y=m:=⟨y.toNat,by omega⟩;obtain⟨n2,ab2,ao2,hn2,hA2,hc2⟩:=rU hz (i:=m) (by omega);cases hA2;have hu2:=hP.up (m:Int) (by omega) hyn;rw[upN hn2] at hu2;refine vg (aC (v:=.slice _ _ _) rfl) ?_;refine vg (aC (v:=.int .i64 _) rfl) ?_;refine vg (bG (j:=m) Tryz.underlying143 Tryz.sizeOf186 rfl rfl rfl (by omega)) ?_;refine vg (e7 (off:=1) Tryz.underlying186 rfl Tryz.sizeOf4 rfl) ?_;refine vg (ai (u:=.bool _) Tryz.isAgg4 rfl (fun w hw=>hw.cW (hc2.one (j:=1) rfl (by omega)) (ax _))) ?_;refine vg (GI rfl) ?_;refine vl (fJ (u:=.bool _) rfl rfl) ?_;refine nl (oo ?_);refine WP.cond rfl (fun h20=>?_) (fun h20=>?_)
   ·have hstep:tJ L (m:Int)=tJ L n2.up:=by rw[pV hP hyn,if_pos ⟨by omega,by rw[Hs hn2];simpa using h20⟩,upN hn2]
    refine WP.skip (an ?_);refine WP.block ?_;refine WP.region ?_;refine mvS rfl ?_;refine lj rfl ?_;refine vl (bG (j:=m) Tryz.underlying143 Tryz.sizeOf186 rfl rfl rfl (by omega)) ?_;refine vl (e7 (off:=0) Tryz.underlying186 rfl Tryz.sizeOf3 rfl) ?_;refine vl (ai (u:=.int .i64 _) Tryz.isAgg3 rfl (fun w hw=>hw.cW (hc2.one (j:=0) rfl (by omega)) (ax _))) ?_;refine IV rfl ?_;exact nl fun w hw=>⟨rfl,n2.up,(by omega),⟨rfl,(via (.slice _ _ _) rfl rfl),trivial⟩,⟨⟨by omega,by rw[←hstep];exact hlay⟩,hw⟩⟩
   ·have hr:gV L (i:Int)=(m:Int):=by rw[←hlay,pV hP hyn,if_neg (by rw[Hs hn2];intro e;simp[e.2] at h20)]
    refine WP.exit (an ?_);refine eh ?_;refine lj rfl ?_;refine IV rfl ?_;refine nl (oo ?_);exact WP.cP Tryz.results123 (fun _ h=>h) (fun w hw=>⟨(),congrArg (Value.int .i64) (by rw[hr]),trivial,hw⟩)
  ·refine sk ?_;refine sk ?_;refine sk ?_;refine sk ?_;refine sk ?_;refine sk ?_;refine vl (eM (v:=.bool _) rfl rfl) ?_;refine nl (oo ?_);have hr:gV L (i:Int)=y:=by rw[←hlay,pV hP hyn,if_neg (by omega)]
   refine WP.br rfl ?_;refine WP.exit (an ?_);refine eh ?_;refine lj rfl ?_;refine IV rfl ?_;refine nl (oo ?_);exact WP.cP Tryz.results123 (fun _ h=>h) (fun w hw=>⟨(),congrArg (Value.int .i64) (by rw[hr]),trivial,hw⟩)
end Go.Proofs.YtbedndijejpcaaaGreat
namespace Go.Proofs.YtbedndijejpcaaaGreat
def G5 (a b:Int):Int:=if a<b then -1 else if b<a then 1 else 0
def orI:List Int→Int
  | []=>0
  | x::l=>if x=0 then orI l else x
theorem QI:∀{l:List Int} {k:Nat} {x:Int},(∀y∈l.take k,y=0)→l[k]?=some x→x≠0→orI l=x
  | [],_,_,_,h,_=>by simp at h
  | y :: l, 0, x, _, h, hx => by
    obtain rfl:y=x:=by simpa using h
    rw[orI,if_neg hx]
  | y :: l, k + 1, x, h0, h, hx => by
    rw[orI,if_pos (h0 y (by simp))];exact QI (k:=k) (fun z hz=>h0 z (by simp[hz])) (by simpa using h) hx
theorem HT:∀{l:List Int},(∀y∈l,y=0)→orI l=0
  | [],_=>rfl
  | y::l,h=>by rw[orI,if_pos (h y (by simp)),HT (fun z hz=>h z (by simp[hz]))]
theorem Ec (a b:Int):(G5 a b<0↔a<b)∧(G5 a b=0↔a=b):=by
  unfold G5
  split
  · omega
  · split<;>omega
def D0 (L:List PN) (a b:Int):Int:=if ff L a=0∧ff L b=0 then a - b else orI [ff L a - ff L b,G5 (zP L a) (zP L b),a - b]
theorem DB (L:List PN) (x:Int):-1≤ff L x∧ff L x≤1:=by unfold ff;split;omega;split<;>omega
theorem Jb (L:List PN) (a b:Int):D0 L a b<0↔p9 L a b:=by
  have h1:=DB L a;have h2:=DB L b;unfold D0 p9
  split
  · omega
  · have hs := Ec (zP L a) (zP L b)
    generalize G5 (zP L a) (zP L b)=m at hs
    rw[show orI [ff L a - ff L b,m,a - b]=if ff L a - ff L b=0 then (if m=0 then (if a - b=0 then 0 else a - b) else m) else ff L a - ff L b from rfl]
    split
    · split
      · split<;>omega
      · omega
    · omega
namespace Q
open Go.RowKit
theorem ahc (A:Option Addr) (c:Nat) (L:List PN) (mb:Option Nat) (x:Int) (hx0:0≤x) (hx:x<L.length):Ct Tryz.prog 125 #[.agg #[.slice A L.length c,.map mb],.int .i64 x] [] (fun w=>T2 w A L) (X:=Unit) (fun _=>.int .i64 (ff L x)) (fun _=>True) (fun _=>[]):=by
  obtain⟨i,rfl⟩:∃i:Nat,x=i:=⟨x.toNat,by omega⟩;refine Ct.intro Tryz.func125 rfl Tryz.ntmps125 (by simp) (fun w0 hz=>?_);refine gg ?_;refine aj.ef (fw (us:=[.slice _ _ _,.map _]) (σ':=fun _=>[_]) rfl (fun _=>rfl)) (fun b2=>?_);refine av ?_;refine nl (oo ?_);refine sq ?_;obtain⟨n,ab,ao,hn,rfl,hc⟩:=rU hz (i:=i) (by omega);have hlay:=Hs hn;have hzz:=zN hn;refine WP.region ?_;refine vl (aS (o':=0) Tryz.underlying191 rfl Tryz.sizeOf143 rfl rfl) ?_;refine vl (ai (u:=.slice _ _ _) Tryz.isAgg143 rfl (fun w hw=>hw.aq (i:=0) rfl _ rfl)) ?_;refine lj rfl ?_;refine vl (bG (j:=i) Tryz.underlying143 Tryz.sizeOf186 rfl rfl rfl (by omega)) ?_;refine vl (au (cs:=[.int .i64 _,.bool _,.int .i64 _]) Tryz.isAgg186 Tryz.sizeOf186 rfl (fun w hw=>hw.cW hc (ax _))) ?_;refine aj.ef (cQ (us:=[_,_,_]) (σ':=fun _=>[_,_]) Tryz.zeroValue186 rfl (fun _=>rfl)) (fun b5=>?_);refine aj.aX (ct (us:=[.int .i64 _,.bool _,.int .i64 _]) (σ':=[_,.cl _ _ [_,_,_]]) Tryz.sizeOf186 rfl rfl (i:=1) rfl rfl rfl (by simp[Value.oneCell'])) (fun _=>?_);refine nl (oo ?_);refine sq ?_;refine WP.block ?_;refine eh ?_;refine vl (aS (o':=1) Tryz.underlying186 rfl Tryz.sizeOf4 rfl rfl) ?_;refine vl (ai (u:=.bool _) Tryz.isAgg4 rfl (fun w hw=>hw.aq (i:=1) rfl _ rfl)) ?_;refine vl (GI rfl) ?_;refine oF rfl ?_;refine gg ?_;refine WP.cond rfl (fun h11=>?_) (fun h11=>?_)
  ·have hr:ff L (i:Int)=0:=aed (by rw[hlay];simpa using h11);refine gg ?_;exact WP.cP Tryz.results125 (fun _ h=>h) (fun w hw=>⟨(),congrArg (Value.int .i64) (by rw[hr]),trivial,hw.sel [] (by decide)⟩)
  ·refine eh ?_;refine vl (aS (o':=2) Tryz.underlying186 rfl Tryz.sizeOf3 rfl rfl) ?_;refine vl (ai (u:=.int .i64 _) Tryz.isAgg3 rfl (fun w hw=>hw.aq (i:=1) rfl _ rfl)) ?_;refine vl (nG rfl rfl) ?_;refine oF rfl ?_;refine gg ?_;refine WP.aw rfl (fun h15=>?_) (fun h15=>?_)
   ·have hr:ff L (i:Int)= -1:=by rw[Wi (by rw[hlay];simpa using h11),if_pos (by rw[hzz];exact h15)]
    refine gg ?_;exact WP.cP Tryz.results125 (fun _ h=>h) (fun w hw=>⟨(),congrArg (Value.int .i64) (by rw[hr]),trivial,hw.sel [] (by decide)⟩)
   ·have hr:ff L (i:Int)=1:=by rw[Wi (by rw[hlay];simpa using h11),if_neg (by rw[hzz];exact h15)]
    refine gg ?_;exact WP.cP Tryz.results125 (fun _ h=>h) (fun w hw=>⟨(),congrArg (Value.int .i64) (by rw[hr]),trivial,hw.sel [] (by decide)⟩)
theorem ahd (x:Int):Ct Tryz.prog 162 #[.int .i64 x] [] (fun _=>True) (X:=Unit) (fun _=>.bool false) (fun _=>True) (fun _=>[]):=by
  refine Ct.intro Tryz.func162 rfl Tryz.ntmps162 (by simp) (fun w0 _=>?_);refine iX ?_;refine vl (fL (b:=false) (vr rfl rfl) (decide_eq_false (fun h=>h rfl))) ?_;refine gg ?_;exact aT fun w hw=>⟨(),rfl,trivial,hw⟩
theorem ahb (x y:Int):Ct Tryz.prog 127 #[.int .i64 x,.int .i64 y] [] (fun _=>True) (X:=Unit) (fun _=>.int .i64 (G5 x y)) (fun _=>True) (fun _=>[]):=by
  refine Ct.intro Tryz.func127 rfl Tryz.ntmps127 (by simp) (fun w0 _=>?_);refine gg ?_;refine aj.ef (ck Tryz.call162 (ahd x) [] [] rfl (fun w hw=>trivial) (τ:=fun _=>[]) (fun _=>rfl)) (fun _=>?_);refine aj.fact (fun _=>?_);refine gg ?_;refine aj.ef (ck Tryz.call162 (ahd y) [] [] rfl (fun w hw=>trivial) (τ:=fun _=>[]) (fun _=>rfl)) (fun _=>?_);refine aj.fact (fun _=>?_);refine gg ?_;refine WP.br rfl ?_;refine gg ?_;refine WP.br rfl ?_;refine gg ?_;refine WP.aw rfl (fun h16=>?_) (fun h16=>?_)
  ·have hr:G5 x y= -1:=by rw[G5,if_pos h16]
   refine gg ?_;exact WP.cP Tryz.results127 (fun _ h=>h) (fun w hw=>⟨(),congrArg (Value.int .i64) (by rw[hr]),trivial,hw.sel [] (by decide)⟩)
  ·refine gg ?_;refine WP.aw rfl (fun h19=>?_) (fun h19=>?_)
   ·have hr:G5 x y=1:=by rw[G5,if_neg h16,if_pos h19]
    refine gg ?_;exact WP.cP Tryz.results127 (fun _ h=>h) (fun w hw=>⟨(),congrArg (Value.int .i64) (by rw[hr]),trivial,hw.sel [] (by decide)⟩)
   ·have hr:G5 x y=0:=by rw[G5,if_neg h16,if_neg h19]
    refine gg ?_;exact WP.cP Tryz.results127 (fun _ h=>h) (fun w hw=>⟨(),congrArg (Value.int .i64) (by rw[hr]),trivial,hw.sel [] (by decide)⟩)
theorem ahe (A:Option Addr) (c:Nat) (l:List Int) (hl:l.length≤1000):Ct Tryz.prog 126 #[.slice A l.length c] [] (fun w=>vd w A l) (X:=Unit) (fun _=>.int .i64 (orI l)) (fun _=>True) (fun _=>[]):=by
  refine Ct.intro Tryz.func126 rfl Tryz.ntmps126 (by simp) (fun w0 hz=>?_);refine gg ?_;refine WP.bm (X:=Nat) [3,6,7] (fun k=>[(8,.int .i64 (k:Int))]) (fun k w=>(k≤l.length∧∀y∈l.take k,y=0)∧St w0 (ay []) [] w) (fun k=>l.length - k) 0 ⟨rfl,trivial⟩ (fun w hw=>⟨⟨Nat.zero_le _,by simp⟩,hw⟩) (fun k ρ0=>?_);refine WP.fact (fun⟨hkl,hall⟩=>?_);refine gg ?_;refine WP.aw rfl (fun h9=>?_) (fun h9=>?_)
  ·obtain⟨y,hy⟩:∃y,l[k]?=some y:=⟨_,List.getElem?_eq_getElem (by omega)⟩;obtain⟨ab,ao,rfl,hc⟩:=hz k y hy;refine cR ?_;refine vl (ai (u:=.int .i64 _) Tryz.isAgg3 rfl (fun w hw=>hw.cW hc (ax _))) ?_;refine gg ?_;refine WP.aw rfl (fun h14=>?_) (fun h14=>?_)
   ·have hr:orI l=y:=QI hall hy h14;refine gg ?_;exact WP.cP Tryz.results126 (fun _ h=>h) (fun w hw=>⟨(),congrArg (Value.int .i64) (by rw[hr]),trivial,hw.sel [] (by decide)⟩)
   ·refine bS ?_;exact nl fun w hw=>⟨rfl,k+1,(by omega),⟨rfl,jI,jS,jI,trivial⟩,⟨⟨by omega,fun z hz2=>by rw[df hy] at hz2;rcases List.mem_append.1 hz2 with h | h;exact hall z h;(obtain rfl:z=y:=by simpa using h);omega⟩,hw⟩⟩
  ·obtain rfl:k=l.length:=by omega
   rw[List.take_of_length_le (Nat.le_refl _)] at hall;have hr:=HT hall;refine WP.exit (an ?_);refine gg ?_;exact WP.cP Tryz.results126 (fun _ h=>h) (fun w hw=>⟨(),congrArg (Value.int .i64) (by rw[hr]),trivial,hw.sel [] (by decide)⟩)
theorem cmp_ct (A:Option Addr) (c:Nat) (L:List PN) (mb:Option Nat) (pb lb:Nat) (x y:Int) (hx0:0≤x) (hx:x<L.length) (hy0:0≤y) (hy:y<L.length) (hL:L.length≤1000):
    Ct Tryz.prog 124 #[.int .i64 x,.int .i64 y,.pointer (some ⟨pb,0,none⟩),.pointer (some ⟨lb,0,none⟩)] [] (fun w=>T2 w A L∧aJ w pb 0 [.slice A L.length c,.map mb]∧aJ w lb 0 [.slice A L.length c]) (X:=Unit) (fun _=>.int .i64 (D0 L x y)) (fun _=>True) (fun _=>[]):=by
  obtain⟨i,rfl⟩:∃i:Nat,x=i:=⟨x.toNat,by omega⟩;obtain⟨j,rfl⟩:∃j:Nat,y=j:=⟨y.toNat,by omega⟩;have hri:=DB L (i:Int);have hrj:=DB L (j:Int);refine Ct.intro Tryz.func124 rfl Tryz.ntmps124 (by simp) (fun w0 ⟨hz,hp,hlb⟩=>?_);refine gg ?_;refine WP.dj none [] [(0,true),(1,true),(3,true),(4,true),(2,false),(5,false),(6,true),(7,true)] mixed (by kernel_rfl) (by decide) ?_;refine tE rfl (au (cs:=[.slice _ _ _,.map _]) Tryz.isAgg191 Tryz.sizeOf191 rfl (fun w hw=>hw.cW hp (ax _))) ?_;refine ad ?_;refine tE rfl (au (cs:=[.slice _ _ _,.map _]) Tryz.isAgg191 Tryz.sizeOf191 rfl (fun w hw=>hw.cW hp (ax _))) ?_;refine gg ?_;refine aB.ef rfl (ck Tryz.call125 (ahc A c L mb (i:Int) (by omega) (by omega)) [] [] rfl (fun w hw=>hw.rd hz ax) (τ:=fun _=>[]) (fun _=>rfl)) (fun _ _ _ h=>h.2.sel [] (by decide)) (fun _=>?_);refine aB.fact (fun _=>?_);refine aB.ef rfl (ck Tryz.call125 (ahc A c L mb (j:Int) (by omega) (by omega)) [] [] rfl (fun w hw=>hw.rd hz ax) (τ:=fun _=>[]) (fun _=>rfl)) (fun _ _ _ h=>h.2.sel [] (by decide)) (fun _=>?_);refine aB.fact (fun _=>?_);refine uw ?_;refine aj.split 17 rfl (fun h17=>?_) (fun h17=>?_)
  ·refine gg ?_;refine WP.aw rfl (fun h20=>?_) (fun h20=>?_)
   ·have hr:D0 L (i:Int) (j:Int)=(i:Int) - (j:Int):=by rw[D0,if_pos ⟨by omega,by omega⟩]
    refine gg ?_;exact WP.cP Tryz.results124 (fun _ h=>h) (fun w hw=>⟨(),congrArg (Value.int .i64) (by rw[hr]),trivial,hw.sel [] (by decide)⟩)
   ·have hor:=(show ¬(ff L (i:Int)=0∧ff L (j:Int)=0) by omega);refine bW ?_;obtain⟨n,ab,ao,hn,rfl,hc⟩:=rU hz (i:=i) (by omega);obtain⟨n2,ab2,ao2,hn2,hA2,hc2⟩:=rU hz (i:=j) (by omega);cases hA2;have hr:D0 L (i:Int) (j:Int)=orI [ff L (i:Int) - ff L (j:Int),G5 n.z n2.z,(i:Int) - (j:Int)]:=by rw[D0,if_neg hor,zN hn,zN hn2]
    refine WP.dj none [] [(0,true),(1,true),(2,true),(3,true),(4,true),(5,true),(6,true),(7,true),(8,true),(9,true),(10,true),(11,true),(12,true),(14,true),(15,true),(16,true),(13,false),(17,false),(18,false),(19,true)] mixed (by kernel_rfl) (by decide) ?_;refine cK ?_;refine aB.take rfl (ai (u:=.slice _ _ _) Tryz.isAgg143 rfl (fun w hw=>hw.cW hlb (ax _))) ?_ (fun _ h=>h.sel [] (by decide));refine cK ?_;refine aB.take rfl (ai (u:=.int .i64 _) Tryz.isAgg3 rfl (fun w hw=>hw.cW (hc.one (j:=2) rfl (by omega)) (ax _))) ?_ (fun _ h=>h.sel [] (by decide));refine aB.take rfl (ai (u:=.slice _ _ _) Tryz.isAgg143 rfl (fun w hw=>hw.cW hlb (ax _))) ?_ (fun _ h=>h.sel [] (by decide));refine cK ?_;refine aB.take rfl (ai (u:=.int .i64 _) Tryz.isAgg3 rfl (fun w hw=>hw.cW (hc2.one (j:=2) rfl (by omega)) (ax _))) ?_ (fun _ h=>h.sel [] (by decide));refine gg ?_;refine aB.ef rfl (ck Tryz.call127 (ahb n.z n2.z) [] [] rfl (fun w hw=>trivial) (τ:=fun _=>[]) (fun _=>rfl)) (fun _ _ _ h=>h.2.sel [] (by decide)) (fun _=>?_);refine aB.fact (fun _=>?_);refine aB.ef rfl (cu (us:=[.int .i64 _,.int .i64 _,.int .i64 _]) (σ':=fun _=>[_]) Tryz.underlying49 Tryz.sizeOf3 Tryz.zeroValue3 rfl rfl rfl (by decide) (by decide) (fun _=>rfl)) (fun _ _ _ h=>h.sel [] (by decide)) (fun g41=>?_);refine aB.ef rfl (ck Tryz.call126 (ahe (some ⟨g41,0,none⟩) 3 [ff L (i:Int) - ff L (j:Int),G5 n.z n2.z,(i:Int) - (j:Int)] (by simp)) [] [0] rfl (fun w hw=>hw.eO (i:=0) (f:=Value.int .i64) rfl) (τ:=fun _=>[_]) (fun _=>rfl)) (fun _ _ _ h=>h.2.sel [] (by decide)) (fun _=>?_);refine aB.fact (fun _=>?_);refine aB.take rfl (dB (v:=.int .i64 _) rfl) ?_ (fun _ h=>h.sel [] (by decide));refine gg ?_;exact WP.cP Tryz.results124 (fun _ h=>h) (fun w hw=>⟨(),congrArg (Value.int .i64) (by rw[hr]),trivial,hw.sel [] (by decide)⟩)
  ·refine gg ?_;have hor:=(show ¬(ff L (i:Int)=0∧ff L (j:Int)=0) by omega);refine WP.br rfl ?_;refine bW ?_;obtain⟨n,ab,ao,hn,rfl,hc⟩:=rU hz (i:=i) (by omega);obtain⟨n2,ab2,ao2,hn2,hA2,hc2⟩:=rU hz (i:=j) (by omega);cases hA2;have hr:D0 L (i:Int) (j:Int)=orI [ff L (i:Int) - ff L (j:Int),G5 n.z n2.z,(i:Int) - (j:Int)]:=by rw[D0,if_neg hor,zN hn,zN hn2]
   refine WP.dj none [] [(0,true),(1,true),(2,true),(3,true),(4,true),(5,true),(6,true),(7,true),(8,true),(9,true),(10,true),(11,true),(12,true),(14,true),(15,true),(16,true),(13,false),(17,false),(18,false),(19,true)] mixed (by kernel_rfl) (by decide) ?_;refine cK ?_;refine aB.take rfl (ai (u:=.slice _ _ _) Tryz.isAgg143 rfl (fun w hw=>hw.cW hlb (ax _))) ?_ (fun _ h=>h.sel [] (by decide));refine cK ?_;refine aB.take rfl (ai (u:=.int .i64 _) Tryz.isAgg3 rfl (fun w hw=>hw.cW (hc.one (j:=2) rfl (by omega)) (ax _))) ?_ (fun _ h=>h.sel [] (by decide));refine aB.take rfl (ai (u:=.slice _ _ _) Tryz.isAgg143 rfl (fun w hw=>hw.cW hlb (ax _))) ?_ (fun _ h=>h.sel [] (by decide));refine cK ?_;refine aB.take rfl (ai (u:=.int .i64 _) Tryz.isAgg3 rfl (fun w hw=>hw.cW (hc2.one (j:=2) rfl (by omega)) (ax _))) ?_ (fun _ h=>h.sel [] (by decide));refine gg ?_;refine aB.ef rfl (ck Tryz.call127 (ahb n.z n2.z) [] [] rfl (fun w hw=>trivial) (τ:=fun _=>[]) (fun _=>rfl)) (fun _ _ _ h=>h.2.sel [] (by decide)) (fun _=>?_);refine aB.fact (fun _=>?_);refine aB.ef rfl (cu (us:=[.int .i64 _,.int .i64 _,.int .i64 _]) (σ':=fun _=>[_]) Tryz.underlying49 Tryz.sizeOf3 Tryz.zeroValue3 rfl rfl rfl (by decide) (by decide) (fun _=>rfl)) (fun _ _ _ h=>h.sel [] (by decide)) (fun g41=>?_);refine aB.ef rfl (ck Tryz.call126 (ahe (some ⟨g41,0,none⟩) 3 [ff L (i:Int) - ff L (j:Int),G5 n.z n2.z,(i:Int) - (j:Int)] (by simp)) [] [0] rfl (fun w hw=>hw.eO (i:=0) (f:=Value.int .i64) rfl) (τ:=fun _=>[_]) (fun _=>rfl)) (fun _ _ _ h=>h.2.sel [] (by decide)) (fun _=>?_);refine aB.fact (fun _=>?_);refine aB.take rfl (dB (v:=.int .i64 _) rfl) ?_ (fun _ h=>h.sel [] (by decide));refine gg ?_;exact WP.cP Tryz.results124 (fun _ h=>h) (fun w hw=>⟨(),congrArg (Value.int .i64) (by rw[hr]),trivial,hw.sel [] (by decide)⟩)
end Q
end Go.Proofs.YtbedndijejpcaaaGreat
