/- RefRead Buf TreeLib TreeSeq TreeInside -/
import Derived.Lib.AppendZerosOnto
import Derived.Lib.Overlaps
import Derived.Test.YtbedndijejpcaaaGreatH7
set_option linter.unusedVariables false
set_option linter.unusedSimpArgs false
set_option linter.unusedSectionVars false
set_option maxRecDepth 100000
set_option maxHeartbeats 8000000
namespace Go.Proofs.YtbedndijejpcaaaGreat
open Go.RowKit
theorem j0 (rp g bc:Nat) (bs:List RB) (hk:lg bs) (x:Int):Ct Tryz.prog 94 #[.pointer (some ⟨rp,0,none⟩),.int .i64 x] [dI rp g bc bs] (fun _=>True) (X:=Unit) (fun _=>.bool (aK (aD bs) x)) (fun _=>True) (fun _=>[dI rp g bc bs]):=by
  refine Ci fun w0 _=>?_;refine qa ?_;refine aj.split 7 rfl (fun h7=>?_) (fun h7=>?_)
  ·obtain⟨i,rfl⟩:∃i:Nat,x=i:=⟨x.toNat,by omega⟩;refine bS ?_;refine vg (ai (u:=.slice _ _ _) Tryz.isAgg153 rfl (fun w hw=>hw.lR (i:=0) rfl)) ?_;refine bS ?_;refine aj.split 16 rfl (fun h16=>?_) (fun h16=>?_)
   ·obtain⟨b,hb⟩:∃b,bs[i]?=some b:=⟨_,List.getElem?_eq_getElem (by omega)⟩;refine cK ?_;refine vg (ai (u:=.slice _ _ _) Tryz.isAgg153 rfl (fun w hw=>hw.lR (i:=0) rfl)) ?_;refine cK ?_;refine vg (ai (u:=.bool _) Tryz.isAgg4 rfl (fun w hw=>hw.wJ (i:=0) rfl hk hb 0 (us:=[.bool b.live]) rfl)) ?_;refine gg ?_;exact aT fun w hw=>⟨(),congrArg Value.bool (by first | exact(nm hb).symm | (rw[aK,kE (by omega)];rfl) | (rw[aK,kF (by omega)];rfl)),trivial,hw.pk⟩
   ·refine gg ?_;exact aT fun w hw=>⟨(),congrArg Value.bool (by first | exact(nm hb).symm | (rw[aK,kE (by omega)];rfl) | (rw[aK,kF (by omega)];rfl)),trivial,hw.pk⟩
  ·refine gg ?_;exact aT fun w hw=>⟨(),congrArg Value.bool (by first | exact(nm hb).symm | (rw[aK,kE (by omega)];rfl) | (rw[aK,kF (by omega)];rfl)),trivial,hw.pk⟩
theorem ky (rp g bc:Nat) (bs:List RB) (hk:lg bs) {d:Int→Nat} (hF:WF (aD bs) d) (x:Int):Ct Tryz.prog 56 #[.pointer (some ⟨rp,0,none⟩),.int .i64 x] [dI rp g bc bs] (fun _=>True) (X:=Unit) (fun _=>.int .i64 (bz (aD bs) x)) (fun _=>True) (fun _=>[dI rp g bc bs]):=by
  refine Ci fun w0 _=>?_;refine gg ?_;refine WP.bm (X:=Nat×Int) [0] (fun p=>[(1,.int .i64 p.2),(5,.int .i64 (63 - (p.1:Int)))]) (fun p w=>(bz (aD bs) x=63 - p.1+fq (aD bs) p.1 p.2∧p.1≤64∧(aK (aD bs) p.2=true→d p.2+1≤p.1))∧St w0 (ay [dI rp g bc bs]) [dI rp g bc bs] w) (fun p=>p.1) (64,x) ⟨rfl,rfl,trivial⟩ (fun w hw=>⟨⟨by unfold bz;dsimp only;omega,Nat.le_refl _,fun h=>by dsimp only at h ⊢;obtain⟨b,hb⟩:=aL h;have:=hF.deep x b hb;omega⟩,hw⟩) (fun p ρ0=>?_);refine WP.fact (fun⟨hd,hp,hr⟩=>?_);refine gg ?_;refine eF (xC (j0 rp g bc bs hk p.2)) fun _ _=>?_;refine gg ?_;refine WP.cond rfl (fun h8=>?_) (fun h8=>?_)
  ·have hr1:=hr h8;have hd2:bz (aD bs) x=63 - ((p.1 - 1:Nat):Int)+fq (aD bs) (p.1 - 1) (upF (aD bs) p.2):=by
     rw[show p.1=(p.1 - 1)+1 by omega,fq,if_pos h8] at hd;omega
   have hr2:aK (aD bs) (upF (aD bs) p.2)=true→d (upF (aD bs) p.2)+1≤p.1 - 1:=fun hu=>by
     obtain⟨b,hb⟩:=aL h8;rw[ch hb] at hu ⊢
     by_cases h0:p.2=0
     · obtain ⟨r, hr0, hru⟩ := hF.root
       rw[h0,hr0] at hb;cases hb;rw[hru,kZ (hF.neg (by omega))] at hu;cases hu
     · have:=hF.rank p.2 b hb h0;omega
   obtain⟨i,b,hpi,hb,hl⟩:=fv h8;have hib:=(List.getElem?_eq_some_iff.1 hb).1;have hub:upF (aD bs) p.2=b.up:=by rw[hpi,ch (c8 hb hl)]
   refine qa ?_;rw[hpi];refine bS ?_;refine vl (ai (u:=.slice _ _ _) Tryz.isAgg153 rfl (fun w hw=>hw.lR (i:=0) rfl)) ?_;refine cK ?_;refine vl (ai (u:=.int .i64 _) Tryz.isAgg3 rfl (fun w hw=>hw.wJ (i:=0) rfl hk hb 1 (us:=[.int .i64 b.up]) rfl)) ?_;refine av ?_;exact nl fun w hw=>⟨rfl,(p.1 - 1,upF (aD bs) p.2),(by simp only;omega),⟨(congrArg (Value.int .i64) hub.symm),(congrArg (Value.int .i64) (by simp only;omega)),jP,trivial⟩,⟨hd2,by simp only;omega,hr2⟩,hw⟩
  ·have hc:fq (aD bs) p.1 p.2=0:=by cases e:p.1 with | zero=>rfl | succ n=>rw[fq,if_neg (by simp[h8])]
   refine WP.exit (an ?_);refine gg ?_;exact aT fun w hw=>⟨(),congrArg (Value.int .i64) (by omega),trivial,hw.pk⟩
theorem rN:∀(us cs:List Value) (o:Nat),o+us.length≤cs.length→setL cs o us=cs.take o++us++cs.drop (o+us.length)
  | [],cs,o,_=>by simp[setL]
  | u :: us, cs, o, h => by
    simp only[List.length_cons] at h;rw[setL,rN us _ _ (by rw[List.length_set];omega)];have ho:o<cs.length:=by omega
    rw[List.take_set,List.drop_set];have e1:(cs.take (o+1)).set o u=cs.take o++[u]:=by
      rw[List.take_succ_eq_append_getElem ho,List.set_append_right _ _ (by simp;omega)];simp[List.length_take,Nat.min_eq_left (Nat.le_of_lt ho)]
    rw[e1,if_pos (by omega)];simp only[List.length_cons,List.append_assoc,List.cons_append,List.nil_append];rw[show o+1+us.length=o+(us.length+1) by omega]
section
variable {w0 w:World} {M:Nat→Prop} {σ σ':List HI}
theorem St.buf {i g n cap:Nat} {t:TypeId} {xs:List Value} (h:St w0 M σ w) (hi:σ[i]?=some (.row t 1 (some ⟨g,0,none⟩) n cap xs)):∃rest:List Value,(xs.length=n∧n+rest.length=cap∧cap≤maxLen)∧St w0 M (σ.set i (.cl g t (xs++rest))) w:=by
  have h1:w.ownsRow 0 t 1 (.slice (some ⟨g,0,none⟩) n cap) n xs:=h.all _ (List.mem_of_getElem? hi);obtain⟨hl,h2⟩:=h1
  rcases h2 with ⟨hv,_⟩ | ⟨gb,cap',cur,hv,_,hh,hnc,hm,hsz,htake⟩
  · cases hv
  · injection hv with e1 e2 e3
    injection e1 with e1
    injection e1 with e1
    subst e1 e3;rw[Nat.mul_one] at hl htake hsz;have hcur:cur.toList.length=cap:=by simpa using hsz
    refine⟨cur.toList.drop n,⟨hl,by rw[List.length_drop];omega,hm⟩,?_⟩;have e:xs++cur.toList.drop n=cur.toList:=by rw[←htake];exact List.take_append_drop n cur.toList
    rw[e];refine h.upd hi (St.l9 (fun _ _ _=>rfl) ?_ (fun b hb=>.inr ⟨_,rfl,hb⟩) rfl rfl rfl (Nat.le_refl _));show w.heap[g]?=some (.cells cur.toList.toArray t (0,0));rw[Array.toArray_toList];exact hh
theorem St.IU {i g n cap:Nat} {t:TypeId} {cs:List Value} (h:St w0 M σ w) (hi:σ[i]?=some (.cl g t cs)) (hl:cs.length=cap) (hm:cap≤maxLen) (hn:n≤cap):St w0 M (σ.set i (.row t 1 (some ⟨g,0,none⟩) n cap (cs.take n))) w:=by
  have h1:w.heap[g]?=some (.cells cs.toArray t (0,0)):=h.all _ (List.mem_of_getElem? hi);refine h.upd hi (St.l9 (fun _ _ _=>rfl) ?_ (fun b hb=>.inr (by obtain⟨a,ha,e⟩:=hb;cases ha;exact e)) rfl rfl rfl (Nat.le_refl _));exact⟨by rw[List.length_take];omega,.inr ⟨g,cap,cs.toArray,rfl,Nat.zero_le _,h1,hn,hm,by simp[hl],by simp⟩⟩
variable {P:Program} {r:Option Nat} {ρ:Env} {dst:Option Tmp} {ty:TypeId} {pos:String} {af:Array Edge} {g':Option (Nat×Bool)} {t t2 te:TypeId} {x y:Operand}
theorem K1 (hs:(P.info? te).map (·.size)=some 1) (w:World):(sizeOf te).run P w=.ok 1 w:=by
  obtain⟨i,hi,he⟩:=Option.map_eq_some_iff.1 hs;simp[sizeOf,typeInfo,hi,he]
theorem pG {i g o n c g2 o2 m c2:Nat} {tc:TypeId} {cs us:List Value} (ht:P.underlying t=some (.slice te)) (hs:(P.info? te).map (·.size)=some 1) (hx:evo ρ x=.slice (some ⟨g,o,none⟩) n c) (hy:evo ρ y=.slice (some ⟨g2,o2,none⟩) m c2) (hi:σ[i]?=some (.cl g tc cs))
    (hl:us.length=Nat.min m n) (hsrc:∀w,St w0 M σ w→aJ w g2 o2 us) (ho:o+us.length≤cs.length) (h1:∀u∈us,u.oneCell'=true) (hσ:σ.set i (.cl g tc (setL cs o us))=σ'):
    cX P r (St w0 M σ) ⟨dst,.call ⟨.builtin .copy,#[x,y],#[t,t2]⟩,ty,pos,af,g'⟩ ρ (X:=Unit) (fun _=>.int .i64 (us.length:Int)) (fun _=>St w0 M σ'):=cX.gB rfl fun w hw=>by
  have h:(HI.cl g tc cs).holds w:=hw.all _ (List.mem_of_getElem? hi);obtain⟨w',hrun,hst⟩:=de P (b:=g) (o:=o) (t:=tc) us 0 cs w h (by omega) h1;have hload:=run_loadCells P (hsrc w hw);refine⟨(),w',?_,by rw[←hσ];exact hw.upd hi (by simpa using hst)⟩;simp[execOp,resolve,invoke,builtin,hx,hy,Builtin.copy_,run_underlying ht,Builtin.lenOf,Builtin.firstCells,K1 hs,←hl,hload,hrun,Result.andThen,goInt]
theorem Bo {i g o n c m c2:Nat} {B:Option Addr} {tc:TypeId} {cs us:List Value} (ht:P.underlying t=some (.slice te)) (hs:(P.info? te).map (·.size)=some 1) (hx:evo ρ x=.slice (some ⟨g,o,none⟩) n c) (hy:evo ρ y=.slice B m c2) (hi:σ[i]?=some (.cl g tc cs))
    (hl:us.length=m) (hsrc:∀w,St w0 M σ w→Src w B m us) (hroom:n+m≤c) (ho:o+n+us.length≤cs.length) (h1:∀u∈us,u.oneCell'=true) (hσ:σ.set i (.cl g tc (setL cs (o+n) us))=σ') (ht2:t2=t:=by rfl):
    cX P r (St w0 M σ) ⟨dst,.call ⟨.builtin .append,#[x,y],#[t,t2]⟩,ty,pos,af,g'⟩ ρ (X:=Unit) (fun _=>.slice (some ⟨g,o,none⟩) (n+m) c) (fun _=>St w0 M σ'):=cX.gB rfl fun w hw=>by
  subst ht2;have h:(HI.cl g tc cs).holds w:=hw.all _ (List.mem_of_getElem? hi);obtain⟨w',hrun,hst⟩:=de P (b:=g) (o:=o+n) (t:=tc) us 0 cs w h (by omega) h1;have hload:(Builtin.firstCells 1 m (.slice B m c2)).run P w=.ok us.toArray w:=by
    rcases hsrc w hw with ⟨rfl,rfl⟩ | ⟨b,o2,rfl,hc⟩
    · have : us = [] := List.eq_nil_of_length_eq_zero hl
      subst this;rfl
    · have := run_loadCells P hc
      rw[hl] at this;simp[Builtin.firstCells,this]
  refine⟨(),w',?_,by rw[←hσ];exact hw.upd hi (by simpa using hst)⟩;have hz:∀q:IntKind,(TypeDesc.slice te)≠.int q:=fun q e=>by cases e
  simp[execOp,resolve,invoke,builtin,hx,hy,Builtin.append_,run_underlying ht,Builtin.lenOf,K1 hs,hroom,hload,hrun,Result.andThen,gp]
theorem EU {i g o n c:Nat} {tc:TypeId} {cs:List Value} {z:Value} (ht:P.underlying t=some (.slice te)) (hz:∀w,(zeroValue te).run P w=.ok z w) (hz1:z.cells=#[z]) (hone:z.oneCell'=true) (hx:evo ρ x=.slice (some ⟨g,o,none⟩) (n+1) c) (hi:σ[i]?=some (.cl g tc cs))
    (ho:o+(n+1)≤cs.length) (hσ:σ.set i (.cl g tc (setL cs o (List.replicate (n+1) z)))=σ'):
    cX P r (St w0 M σ) ⟨dst,.call ⟨.builtin .clear,#[x],#[t]⟩,ty,pos,af,g'⟩ ρ (X:=Unit) (fun _=>.tuple #[]) (fun _=>St w0 M σ'):=cX.gB rfl fun w hw=>by
  have h:(HI.cl g tc cs).holds w:=hw.all _ (List.mem_of_getElem? hi);have hzc:(Builtin.zeroCells z.cells (n+1)).toList=List.replicate (n+1) z:=by
    rw[hz1];simp[Builtin.zeroCells];apply List.ext_getElem
    · simp
    · intro i h1 h2
      simp[Nat.mod_one]
  obtain⟨w',hrun,hst⟩:=de P (b:=g) (o:=o) (t:=tc) (List.replicate (n+1) z) 0 cs w h (by simp;omega) (fun u hu=>by rw[List.eq_of_mem_replicate hu];exact hone);refine⟨(),w',?_,by rw[←hσ];exact hw.upd hi (by simpa using hst)⟩;simp[execOp,resolve,invoke,builtin,hx,Builtin.clear_,run_underlying ht,hz,hzc,hrun,Result.andThen]
theorem F2 {sz n c l h m:Nat} {A:Option Addr} {lo:Option Operand} {hi mx:Operand} {kl kh km:Int} (ht:P.underlying t=some (.slice te)) (hz:∀w,(sizeOf te).run P w=.ok sz w) (hx:evo ρ x=.slice A n c) {S:World→Prop}
    (hl:match lo with | some o=>evo ρ o=.int .i64 kl∧kl=(l:Int) | none=>l=0) (hh:evo ρ hi=.int .i64 kh∧kh=(h:Int)) (hmx:evo ρ mx=.int .i64 km∧km=(m:Int)) (hlh:l≤h) (hhm:h≤m) (hmc:m≤c):
    cw P S ⟨dst,.slice t x lo (some hi) (some mx),ty,pos,af,g'⟩ ρ (.slice (if m=l then A else A.map fun a=>a.add (l*sz)) (h - l) (m - l)):=ba fun w _=>by
  obtain⟨h1,rfl⟩:=hh;obtain⟨h2,rfl⟩:=hmx;cases lo<;>simp only at hl
  · subst hl
    simp[execOp,Instr.sliceAt,Instr.slice,Instr.sliceBounds,Instr.sliceBound,asIntOf,run_underlying ht,hx,hz,h1,h2,hhm,hmc]
  · obtain ⟨h3, rfl⟩ := hl
    simp[execOp,Instr.sliceAt,Instr.slice,Instr.sliceBounds,Instr.sliceBound,asIntOf,run_underlying ht,hx,hz,h1,h2,h3,hlh,hhm,hmc]
theorem vZ (need:Nat):∀(r c:Nat),Builtin.growBy need r c≤2 ^ r*(c+192)
  | 0,c=>by simp[Builtin.growBy]
  | r + 1, c => by
    rw[Builtin.growBy]
    split
    · have : 1 ≤ 2 ^ (r + 1) := Nat.one_le_two_pow
      calc c≤1*(c+192):=by omega
        _≤2 ^ (r+1)*(c+192):=Nat.mul_le_mul_right _ this
    · refine Nat.le_trans (vZ need r _) ?_
      rw[Nat.pow_succ,Nat.mul_assoc];exact Nat.mul_le_mul_left _ (by omega)
theorem Ba {need old:Nat} (h:need≤10000) (h2:old≤10000):Builtin.nextslicecap need old≤200000:=by
  unfold Builtin.nextslicecap
  split
  · omega
  · split
    · omega
    · have := vZ need 4 old
      omega
theorem nE {z:Value} (hz:z.cells=#[z]) (n:Nat):Builtin.zeroCells z.cells n=(List.replicate n z).toArray:=by
  apply Array.ext';rw[hz];simp[Builtin.zeroCells];apply List.ext_getElem
  · simp
  · intro i h1 h2
    simp[Nat.mod_one]
theorem uL {k j c bytes:Nat} {q:IntKind} {A:Option Addr} {us:List Value} {z:Value} {jj:Int} {σ'':Nat×Nat→List HI} (ht:P.underlying t=some (.slice te)) (ht2:P.underlying t2=some (.int q)) (hinfo:(P.info? te).map (fun i=>(i.zero,i.size,i.bytes))=some (some z,1,bytes)) (hz1:z.cells=#[z])
    (hx:evo ρ x=.slice A k c) (hy:evo ρ y=.int .i64 jj) (hj:jj=(j:Int)) (hl:us.length=k) (hsrc:∀w,St w0 M σ w→Src w A k us) (h0:0<j) (hg:c<k+j) (hb:k+j≤10000) (hc:c≤10000) (hby:bytes≤1000)
    (hσ:∀p:Nat×Nat,σ++[.cl p.1 te (us++List.replicate j z++List.replicate (p.2 - (k+j)) z)]=σ'' p):
    cX P r (St w0 M σ) ⟨dst,.call ⟨.builtin .append,#[x,y],#[t,t2]⟩,ty,pos,af,g'⟩ ρ (X:=Nat×Nat) (fun p=>.slice (some ⟨p.1,0,none⟩) (k+j) p.2) (fun p w=>(k+j≤p.2∧p.2≤maxLen)∧St w0 M (σ'' p) w):=cX.gB rfl fun w hw=>by
  subst hj;obtain⟨info,hf,hz,hs,hb'⟩:=info_parts hinfo;have hload:(Builtin.firstCells info.size k (.slice A k c)).run P w.drew=.ok us.toArray w.drew:=by
    rw[hs]
    rcases hsrc w hw with ⟨rfl,rfl⟩ | ⟨b,o2,rfl,hcc⟩
    · have : us = [] := List.eq_nil_of_length_eq_zero hl
      subst this;rfl
    · have := run_loadCells P (w := w.drew) (b := b) (o := o2) (cs := us) hcc
      rw[hl] at this;simp[Builtin.firstCells,this]
  have hcap:=Ba (need:=k+j) (old:=c) hb hc
  have hr := Lib.run_append_grow_zeros (P := P) w t t2 ty te info z .i64 q ht ht2 hf hz A k c us hload j h0 (by omega) hg (by omega) (by
      have : j * info.bytes ≤ 10000 * 1000 := Nat.mul_le_mul (by omega) (by omega)
      omega) (by
      have : Builtin.nextslicecap (k + j) c * info.bytes ≤ 200000 * 1000 := Nat.mul_le_mul hcap (by omega)
      omega)
  have hge:=grownCap_ge w (k+j) c te;have hle:=grownCap_le_maxLen w (k+j) c te (by unfold maxLen;omega);refine⟨(w.heap.size,grownCap w (k+j) c te),w.drew.alloc (.cells (us.toArray++Builtin.zeroCells z.cells j++Builtin.zeroCells z.cells (grownCap w (k+j) c te - (k+j))) te),?_,⟨hge,hle⟩,?_⟩
  · simp only[execOp,Sem.run_bind,resolve,List.map_toArray,List.map_cons,List.map_nil,hx,hy,Sem.run_pure,Result.andThen,invoke,builtin,hr]
  · rw [← hσ]
    have h1:=St.new w.drew te (us++List.replicate j z++List.replicate (grownCap w (k+j) c te - (k+j)) z);rw[nE hz1,nE hz1];have e:(us.toArray++(List.replicate j z).toArray++(List.replicate (grownCap w (k+j) c te - (k+j)) z).toArray)=(us++List.replicate j z++List.replicate (grownCap w (k+j) c te - (k+j)) z).toArray:=by simp
    rw[e];exact hw.drawn.add h1
theorem WP.buf {N:Nat} {c:Code} {Q:XP} {ds:List Deferred} {i g n cap:Nat} {xs:List Value} (hi:σ[i]?=some (.row t 1 (some ⟨g,0,none⟩) n cap xs)) (h:∀rest:List Value,xs.length=n→n+rest.length=cap→cap≤maxLen→WP P r N c Q ρ ds (St w0 M (σ.set i (.cl g t (xs++rest))))):WP P r N c Q ρ ds (St w0 M σ):=fun w hw=>by
  obtain⟨rest,⟨h1,h2,h3⟩,hs⟩:=hw.buf hi;exact h rest h1 h2 h3 w hs
theorem St.ny {i n cap sz:Nat} {t:TypeId} {A:Option Addr} {xs:List Value} (h:St w0 M σ w) (hi:σ[i]?=some (.row t sz A n cap xs)):n≤cap∧cap≤maxLen:=by
  have h1:w.ownsRow 0 t sz (.slice A n cap) n xs:=h.all _ (List.mem_of_getElem? hi)
  rcases h1.2 with ⟨hv,hn⟩ | ⟨gb,cap',cur,hv,_,hh,hnc,hm,_⟩
  · injection hv with e1 e2 e3
    exact⟨by omega,by rw[e3];exact Nat.zero_le _⟩
  · injection hv with e1 e2 e3
    subst e3;exact⟨hnc,hm⟩
theorem og (b o l m sz:Nat):dZ (some ⟨b,o,none⟩) l m sz=some ⟨b,o+(if m=l then 0 else l*sz),none⟩:=by
  unfold dZ
  split
  · simp
  · simp[Addr.add]
theorem fp {b o l m sz:Nat} (h:m≠l):dZ (some ⟨b,o,none⟩) l m sz=some ⟨b,o+l*sz,none⟩:=by rw[og,if_neg h]
theorem kI (l:List Int):∀u∈l.map (Value.int .i64),u.oneCell'=true:=by
  intro u hu;obtain⟨z,_,rfl⟩:=List.mem_map.1 hu;rfl
end
def idxI:List Int→Int→Int
  | [],_=>-1
  | y::l,x=>if y=x then 0 else if idxI l x<0 then -1 else idxI l x+1
theorem p7:∀{l:List Int} {x:Int},x∉l→idxI l x= -1
  | [],_,_=>rfl
  | y :: l, x, h => by
    have h1:y≠x:=fun e=>h (by simp[e]);rw[idxI,if_neg h1,p7 (fun hm=>h (by simp[hm]))];rfl
theorem wU:∀{l:List Int} {x:Int} {k:Nat},l[k]?=some x→x∉l.take k→idxI l x=k
  | [],_,_,h,_=>by simp at h
  | y :: l, x, 0, h, _ => by
    obtain rfl:y=x:=by simpa using h
    simp[idxI]
  | y :: l, x, k + 1, h, hn => by
    have h1:y≠x:=fun e=>hn (by simp[e]);have h2:=wU (l:=l) (x:=x) (k:=k) (by simpa using h) (fun hm=>hn (by simp[hm]));rw[idxI,if_neg h1,h2,if_neg (by omega)];omega
theorem z8 {l:List Int} {x:Int} (h:x∈l):∃k:Nat,l[k]?=some x∧x∉l.take k∧idxI l x=k:=by
  obtain⟨k,⟨hk,hmin⟩⟩:=gq (p:=fun k:Nat=>l[k]?=some x) (List.getElem?_of_mem h);have hn:x∉l.take k:=fun hm=>by
    obtain⟨j,hj⟩:=List.getElem?_of_mem hm;have hjl:=(List.getElem?_eq_some_iff.1 hj).1;rw[List.length_take] at hjl;rw[List.getElem?_take,if_pos (by omega)] at hj;have:=hmin j hj;omega
  exact⟨k,hk,hn,wU hk hn⟩
theorem I2 (l:List Int) (x:Int):(0≤idxI l x)↔x∈l:=by
  by_cases h:x∈l
  · obtain ⟨k, _, _, e⟩ := z8 h
    simp[h,e]
  · rw[p7 h];simp[h]
theorem EE {l:List Int} {x:Int} {k:Nat} (hn:l.Nodup) (h:l[k]?=some x):l.eraseIdx k=bQ l x:=by
  have h1:=vJ hn h;have hk:=(List.getElem?_eq_some_iff.1 h).1;have h2:=o3 hn (List.mem_of_getElem? h)
  conv=>lhs;rw[←h1]
  unfold bN;have hl:((bQ l x).take k).length=k:=by rw[List.length_take];omega
  rw[List.eraseIdx_append_of_length_le (by omega),hl,Nat.sub_self,List.eraseIdx_zero,List.tail_cons,List.take_append_drop]
theorem As (A:Option Addr) (c:Nat) (l:List Int) (x:Int) (hl:l.length≤10000):Ct Tryz.prog 167 #[.slice A l.length c,.int .i64 x] [az A l.length c l] (fun _=>True) (X:=Unit) (fun _=>.int .i64 (idxI l x)) (fun _=>True) (fun _=>[az A l.length c l]):=by
  refine Ci fun w0 _=>?_;refine gg ?_;refine WP.bm (X:=Nat) [0,1,7] (fun k=>[(8,.int .i64 (k:Int))]) (fun k w=>(k≤l.length∧x∉l.take k)∧St w0 (ay [az A l.length c l]) [az A l.length c l] w) (fun k=>l.length - k) 0 ⟨rfl,trivial⟩ (fun w hw=>⟨⟨Nat.zero_le _,by simp⟩,hw⟩) (fun k ρ0=>?_);refine WP.fact (fun⟨hk,hn⟩=>?_);refine gg ?_;refine WP.aw rfl (fun h9=>?_) (fun h9=>?_)
  ·have hk':k<l.length:=by omega
   obtain⟨y,hy⟩:∃y,l[k]?=some y:=⟨_,List.getElem?_eq_getElem hk'⟩;refine WP.holds (fun w hw=>hw.aM (i:=0) rfl (by omega)) (fun⟨rb,hA⟩=>?_);subst hA;refine gg ?_;refine vl (vR 0 (by rw[List.getElem?_map,hy];rfl)) ?_;refine gg ?_;refine WP.aw rfl (fun h16=>?_) (fun h16=>?_)
   ·have hx:idxI l x=k:=wU (by rw[hy,h16]) hn;refine gg ?_;exact aT fun w hw=>⟨(),congrArg (Value.int .i64) (by first | exact hx.symm | exact(p7 hx).symm),trivial,hw⟩
   ·refine bS ?_;exact nl fun w hw=>⟨rfl,k+1,(by omega),⟨rfl,jS,jI,jI,trivial⟩,⟨by omega,by rw[df hy];simp only[List.mem_append,List.mem_singleton,not_or];exact⟨hn,h16⟩⟩,hw⟩
  ·have hx:x∉l:=by rw[List.take_of_length_le (by omega)] at hn;exact hn
   refine WP.exit (an ?_);refine gg ?_;exact aT fun w hw=>⟨(),congrArg (Value.int .i64) (by first | exact hx.symm | exact(p7 hx).symm),trivial,hw⟩
theorem yJ (A:Option Addr) (c:Nat) (l:List Int) (x:Int) (hl:l.length≤10000):Ct Tryz.prog 136 #[.slice A l.length c,.int .i64 x] [az A l.length c l] (fun _=>True) (X:=Unit) (fun _=>.bool (decide (x∈l))) (fun _=>True) (fun _=>[az A l.length c l]):=by
  refine Ci fun w0 _=>?_;refine gg ?_;refine eF (xC (As A c l x hl)) fun _ _=>?_;refine gg ?_;exact aT fun w hw=>⟨(),congrArg Value.bool (decide_eq_decide.2 (I2 l x)),trivial,hw⟩
theorem AM {P:Program} {w0:World} {M:Nat→Prop} {σ:List HI} {ρ:Env} {dst:Option Tmp} {ty:TypeId} {pos:String} {af:Array Edge} {g:Option (Nat×Bool)} {x y:Operand} {ats:Array TypeId} {f i j vb vn vc b o lb cb:Nat} {tS tR e t1 t2:TypeId} {cs us:List Value}
    (hrun:∀args w,(callFunc f args).run P w=((Extern.SlicesOverlaps.overlaps #[tS,tS] #[tR] args).run P w).andThen fun v w'=>.ok (.value v) w') (ht:P.underlying tS=some (.slice e)) (hz:∀w,(sizeOf e).run P w=.ok 1 w)
    (hx:evo ρ x=.slice (some ⟨vb,0,none⟩) vn vc) (hy:evo ρ y=.slice (some ⟨b,o,none⟩) lb cb) (hi:σ[i]?=some (.cl vb t1 us)) (hj:σ[j]?=some (.cl b t2 cs)) (hne:i≠j) (hcs:cs.length≠0):
    cw P (St w0 M σ) ⟨dst,.call ⟨.value (.func f),#[x,y],ats⟩,ty,pos,af,g⟩ ρ (.bool false):=ba fun w hw=>by
  have h1:w.heap[vb]?=some (.cells us.toArray t1 (0,0)):=hw.all _ (List.mem_of_getElem? hi);have h2:w.heap[b]?=some (.cells cs.toArray t2 (0,0)):=hw.all _ (List.mem_of_getElem? hj);have hb:vb≠b:=by
    obtain⟨hil,ei⟩:=List.getElem?_eq_some_iff.1 hi;obtain⟨hjl,ej⟩:=List.getElem?_eq_some_iff.1 hj;intro e;have hd:=List.pairwise_iff_getElem.1 hw.disj
    rcases Nat.lt_or_gt_of_ne hne with h | h
    · exact hd i j hil hjl h vb (by rw[ei];exact rfl) (by rw[ej];exact e)
    · exact hd j i hjl hil h vb (by rw[ej];exact e) (by rw[ei];exact rfl)
  have h3:=Lib.run_overlaps_apart (P:=P) w tS tR e ht 1 hz ⟨vb,0,none⟩ ⟨b,o,none⟩ vn vc lb cb hb t1 t2 us.length cs.length (by simp[World.shape?,h1]) (by simp[World.shape?,h2]) hcs (by simp[World.frozen?,h1]) (by simp[World.frozen?,h1]);have e0:evo ρ (.func f)=.func (.func f) #[] #[]:=rfl;simp[execOp,resolve,e0,Deferred.ofValue,invoke,hrun,hx,hy,h3,Result.andThen]
theorem F5 {l:List Int} {k j:Nat} {u:Value} (h:((l.take k).map (Value.int .i64))[j]?=some u):(l.map (Value.int .i64))[j]?=some u:=by
  rw[List.getElem?_map] at h ⊢;obtain⟨z,hz,rfl⟩:=Option.map_eq_some_iff.1 h;have hj:=(List.getElem?_eq_some_iff.1 hz).1;rw[List.length_take] at hj;rw[List.getElem?_take,if_pos (by omega)] at hz;rw[hz];rfl
theorem zC (l:List Int) (rest:List Value) {k:Nat} (h:k≤l.length):((l.map (Value.int .i64)++rest).drop (0+k*1)).take ((l.drop k).map (Value.int .i64)).length=(l.drop k).map (Value.int .i64):=by
  rw[show 0+k*1=k by omega,List.drop_append_of_le_length (by simpa using h),←List.map_drop];exact List.take_left' rfl
theorem kv (a c us:List Value) (h:us.length≤c.length) {o:Nat} (ho:o=a.length):setL (a++c) o us=a++us++c.drop us.length:=by
  subst ho;rw[rN _ _ _ (by rw[List.length_append];omega),List.take_left' rfl,←List.drop_drop,List.drop_left' rfl]
theorem Dj (l:List Int) (k:Nat) (x:Int):(bN l k x).map (Value.int .i64)=(l.take k).map (Value.int .i64)++[.int .i64 x]++(l.drop k).map (Value.int .i64):=by simp[bN]
theorem G2 (l:List Int) (x:Int) {k c2:Nat} (hk:k≤l.length) (hc:l.length+1≤c2):(setL (setL ((l.take k).map (Value.int .i64)++List.replicate (l.length+1 - k) (.int .i64 0)++List.replicate (c2 - (k+(l.length+1 - k))) (.int .i64 0)) (0+k*1) [.int .i64 x]) (0+(k+1)*1) ((l.drop k).map (Value.int .i64))).take (l.length+1)=(bN l k x).map (Value.int .i64):=by
  have h1:((l.take k).map (Value.int .i64)).length=k:=by simp;omega
  have h2:((l.drop k).map (Value.int .i64)).length=l.length - k:=by simp
  rw[List.append_assoc,kv _ _ _ (by simp;omega) (by omega),kv _ _ _ (by rw[h2];simp;omega) (by rw[List.length_append,h1];simp),Dj];exact List.take_left' (by rw[List.length_append,List.length_append,h1,h2];simp;omega)
theorem Eo (l:List Int) (x:Int) {k:Nat} (hk:k<l.length) (rest:List Value) (hr:0<rest.length):(setL (setL (l.map (Value.int .i64)++rest) (0+(k+1)*1) ((l.drop k).map (Value.int .i64))) (0+k*1) [.int .i64 x]).take (l.length+1)=(bN l k x).map (Value.int .i64):=by
  have h1:((l.take k).map (Value.int .i64)).length=k:=by simp;omega
  have h2:((l.drop k).map (Value.int .i64)).length=l.length - k:=by simp
  have e:l.map (Value.int .i64)++rest=((l.take k).map (Value.int .i64)++[.int .i64 l[k]])++((l.drop (k+1)).map (Value.int .i64)++rest):=by
    have e0:l=l.take k++l[k]::l.drop (k+1):=by rw[←List.drop_eq_getElem_cons hk,List.take_append_drop]
    conv=>lhs;rw[e0]
    simp only[List.map_append,List.map_cons,List.append_assoc,List.cons_append,List.nil_append]
  rw[e,kv _ _ _ (by rw[h2];simp;omega) (by rw[List.length_append,h1];simp),List.append_assoc,List.append_assoc,kv _ _ _ (by simp) (by omega),Dj];have e2:(([.int .i64 l[k]]:List Value)++((l.drop k).map (Value.int .i64)++((l.drop (k+1)).map (Value.int .i64)++rest).drop ((l.drop k).map (Value.int .i64)).length)).drop ([.int .i64 x]:List Value).length=(l.drop k).map (Value.int .i64)++((l.drop (k+1)).map (Value.int .i64)++rest).drop ((l.drop k).map (Value.int .i64)).length:=rfl;rw[e2,←List.append_assoc];exact List.take_left' (by rw[List.length_append,List.length_append,h1,h2];simp;omega)
theorem Ff (l:List Int) {k:Nat} (hk:k<l.length) (rest:List Value):(setL (setL (l.map (Value.int .i64)++rest) (0+(k - 0)) ((l.drop (k+1)).map (Value.int .i64))) (0+(l.length - 1)*1) (List.replicate (0+1) (.int .i64 0))).take (l.length - 1)=(l.eraseIdx k).map (Value.int .i64):=by
  have h1:((l.take k).map (Value.int .i64)).length=k:=by simp;omega
  have h2:((l.drop (k+1)).map (Value.int .i64)).length=l.length - (k+1):=by simp
  have e:l.map (Value.int .i64)++rest=(l.take k).map (Value.int .i64)++(.int .i64 l[k]::((l.drop (k+1)).map (Value.int .i64)++rest)):=by
    have e0:l=l.take k++l[k]::l.drop (k+1):=by rw[←List.drop_eq_getElem_cons hk,List.take_append_drop]
    conv=>lhs;rw[e0]
    simp only[List.map_append,List.map_cons,List.append_assoc,List.cons_append,List.nil_append]
  rw[e,kv _ _ _ (by rw[h2];simp;omega) (by omega),kv _ _ _ (by rw[h2];simp;omega) (by rw[List.length_append,h1,h2];omega),List.eraseIdx_eq_take_drop_succ,List.map_append,List.append_assoc ((l.take k).map (Value.int .i64)++(l.drop (k+1)).map (Value.int .i64))];exact List.take_left' (by rw[List.length_append,h1,h2];omega)
theorem Jv {w:World} {rb c:Nat} (l:List Int) (rest:List Value) {k:Nat} (hk:k<l.length) (hc:l.length≤c) (h:∀(o:Nat) {us:List Value},((l.map (Value.int .i64)++rest).drop o).take us.length=us→aJ w rb o us):aJ w rb (0+if c=k+1 then 0 else (k+1)*1) ((l.drop (k+1)).map (Value.int .i64)):=by
  split
  · rw [List.drop_eq_nil_of_le (by omega)]
    intro j u hj;simp at hj
  · exact h _ (zC l rest (by omega))
theorem uV (A:Option Addr) (c:Nat) (l:List Int) (k:Nat) (hk:k≤l.length) (vb:Nat) (x:Int) (hl:l.length≤5000):Ct Tryz.prog 86 #[.slice A l.length c,.int .i64 k,.slice (some ⟨vb,0,none⟩) 1 1] [az A l.length c l,az (some ⟨vb,0,none⟩) 1 1 [x]] (fun _=>True)
    (X:=Option Addr×Nat) (fun p=>.slice p.1 (l.length+1) p.2) (fun _=>True) (fun p=>[az p.1 (l.length+1) p.2 (bN l k x)]):=by
  refine Ci fun w0 _=>?_;refine sq ?_;refine WP.holds (fun w hw=>hw.ny (i:=0) rfl) (fun⟨hnc,hcm⟩=>?_);refine iX ?_;refine vl (cD (kh:=0) (l:=k) (h:=l.length) Tryz.underlying49 Tryz.sizeOf3 rfl ⟨rfl,rfl⟩ rfl (by omega) (by omega)) ?_;refine gg ?_;refine WP.br rfl ?_;refine gg ?_;refine WP.aw rfl (fun h22=>?_) (fun h22=>?_)
  ·obtain rfl:k=l.length:=by omega
   refine gg ?_;refine aj.ef (xP 0 1) fun⟨A25,c25⟩=>?_;refine gg ?_;exact WP.cP Tryz.results86 (fun _ h=>h) (fun w hw=>⟨(A25,c25),rfl,trivial,by have h:=(hw.sel [0] (by decide));rw[←(show (bN l l.length x).map (Value.int .i64)=l.map (Value.int .i64)++[x].map (Value.int .i64) by simp[bN])] at h;exact h⟩)
  ·have hkl:k<l.length:=by omega
   refine WP.holds (fun w hw=>hw.aM (i:=0) rfl (by omega)) (fun⟨rb,hA⟩=>?_);subst hA;refine qa ?_;refine vl (x7 Tryz.underlying49 rfl) ?_;refine gg ?_;refine WP.aw rfl (fun h31=>?_) (fun h31=>?_)
   ·refine cK ?_;refine vl (cD (kl:=0) (l:=0) (h:=k) Tryz.underlying49 Tryz.sizeOf3 rfl rfl ⟨rfl,rfl⟩ (by omega) (by omega)) ?_;simp only[fQ];refine gg ?_;refine aj.ef (uL (k:=k) (j:=l.length+1 - k) (us:=(l.take k).map (Value.int .i64)) (σ'':=fun _=>[_,_,_]) Tryz.underlying49 Tryz.underlying3 cT rfl rfl rfl (by omega) (by simp;omega) (fun w hw=>.inr ⟨rb,0,rfl,hw.dH (i:=0) rfl 0 (fun j u hj=>by rw[Nat.zero_add];exact F5 hj)⟩) (by omega) (by omega) (by omega) (by omega) (by decide) (fun _=>rfl)) (fun⟨nb,c2⟩=>?_);refine aj.fact (fun⟨hc2,hm2⟩=>?_);dsimp only at hc2 hm2;dsimp only;refine cR ?_;refine vl (cD (kh:=0) (l:=k) (h:=k+(l.length+1 - k)) Tryz.underlying49 Tryz.sizeOf3 rfl ⟨rfl,rfl⟩ rfl (by omega) (by omega)) ?_;rw[fp (show c2≠k by omega)];refine gg ?_;refine aj.ef (pG (us:=[.int .i64 x]) (σ':=[_,_,_]) Tryz.underlying49 (by kernel_rfl) rfl rfl (i:=2) rfl (by show 1=min 1 _;omega) (fun w hw=>hw.bh (i:=1) (k:=0) rfl rfl rfl) (by simp;omega) (by simp[Value.oneCell']) rfl) (fun _=>?_);refine gg ?_;refine wP none [0,1] [pT 0,pT 1,pT 2,pT 3,pT 4,pT 5,pT 6,pT 7,pF 8] ?_;refine bS ?_;refine tE rfl (cD (kh:=0) (l:=(k+1)) (h:=k+(l.length+1 - k)) Tryz.underlying49 Tryz.sizeOf3 rfl ⟨rfl,rfl⟩ rfl (by omega) (by omega)) ?_;rw[fp (show c2≠k+1 by omega)];refine bW ?_;refine tE rfl (cD (kh:=0) (l:=k) (h:=l.length) Tryz.underlying49 Tryz.sizeOf3 rfl ⟨rfl,rfl⟩ rfl (by omega) (by omega)) ?_;rw[fp (show c≠k by omega)];refine aB.ef rfl (pG (us:=(l.drop k).map (Value.int .i64)) (σ':=[_,_,_]) Tryz.underlying49 (by kernel_rfl) rfl rfl (i:=2) rfl (by rw[List.length_map,List.length_drop];show _=min _ _;omega) (fun w hw=>hw.dH (i:=0) rfl _ (fun j u hj=>by rw[←hj,List.getElem?_map,List.getElem?_map,List.getElem?_drop];congr 2;omega)) (by rw[cL,List.length_map,List.length_drop];simp;omega) (kI _) rfl) (fun _ _ _ h=>h.sel [0,1] (by decide)) (fun _=>?_);refine gg ?_;exact WP.cP Tryz.results86 (fun _ h=>h) (fun w hw=>⟨(some ⟨nb,0,none⟩,c2),by show Value.slice _ (k+(l.length+1 - k)) c2=_;rw[show k+(l.length+1 - k)=l.length+1 by omega],trivial,by have h:=((hw.sel [2] (by decide))).IU (i:=0) (n:=l.length+1) (cap:=c2) rfl (by rw[cL,cL];simp;omega) hm2 (by omega);rw[G2 l x (Nat.le_of_lt hkl) (by omega)] at h;exact h⟩)
   ·refine WP.skip (an ?_);refine sq ?_;refine WP.buf (i:=0) rfl (fun rest hl_rest hc_rest hm_rest=>?_);refine WP.buf (i:=1) rfl (fun vrest hl_vrest hc_vrest hm_vrest=>?_);have hrl:(l.map (Value.int .i64)++rest).length=c:=by rw[List.length_append,List.length_map];exact hc_rest
    refine cR ?_;refine vl (cD (kl:=0) (l:=0) (h:=(l.length+1)) Tryz.underlying49 Tryz.sizeOf3 rfl rfl ⟨rfl,rfl⟩ (by omega) (by omega)) ?_;simp only[fQ];refine JW ?_;refine vl (cD (kh:=0) (l:=(k+1)) (h:=l.length+1 - 0) Tryz.underlying49 Tryz.sizeOf3 rfl ⟨rfl,rfl⟩ rfl (by omega) (by omega)) ?_;rw[fp (show c - 0≠k+1 by omega)];refine vl (AM (f:=131) (i:=1) (j:=0) (tS:=49) (tR:=4) (run_callFunc_extern Tryz.func131 (by kernel_rfl) (by kernel_rfl) (by kernel_rfl) (by kernel_rfl)) Tryz.underlying49 Tryz.sizeOf3 rfl rfl rfl rfl (by decide) (by omega)) ?_;refine gg ?_;refine WP.aQ rfl ?_;refine gg ?_;refine WP.dj none [1] [(0,true),(1,true),(2,true),(3,true),(4,true),(5,true),(6,true),(7,true),(8,false)] mixed (by kernel_rfl) (by decide) ?_;refine aB.take rfl (aC (v:=.slice _ _ _) rfl) ?_ (fun _ h=>h.sel [1] (by decide));refine aB.take rfl (aC (v:=.int .i64 _) rfl) ?_ (fun _ h=>h.sel [1] (by decide));refine aB.take rfl (aC (v:=.int .i64 _) rfl) ?_ (fun _ h=>h.sel [1] (by decide));refine aB.take rfl (zI rfl rfl (by omega)) ?_ (fun _ h=>h.sel [1] (by decide));refine aB.take rfl (cD (kh:=0) (l:=(k+1)) (h:=l.length+1 - 0) Tryz.underlying49 Tryz.sizeOf3 rfl ⟨rfl,rfl⟩ rfl (by omega) (by omega)) ?_ (fun _ h=>h.sel [1] (by decide));rw[fp (show c - 0≠k+1 by omega)];refine bW ?_;refine aB.take rfl (cD (kh:=0) (l:=k) (h:=l.length+1 - 0) Tryz.underlying49 Tryz.sizeOf3 rfl ⟨rfl,rfl⟩ rfl (by omega) (by omega)) ?_ (fun _ h=>h.sel [1] (by decide));rw[fp (show c - 0≠k by omega)];refine aB.ef rfl (pG (us:=(l.drop k).map (Value.int .i64)) (σ':=[_,_]) Tryz.underlying49 (by kernel_rfl) rfl rfl (i:=0) rfl (by rw[List.length_map,List.length_drop];show _=min _ _;omega) (fun w hw=>hw.aq (i:=0) rfl _ (zC l rest (by omega))) (by rw[hrl,List.length_map,List.length_drop];omega) (kI _) rfl) (fun _ _ _ h=>h.sel [1] (by decide)) (fun _=>?_);refine bS ?_;refine vl (cD (kh:=0) (l:=k) (h:=l.length+1 - 0) Tryz.underlying49 Tryz.sizeOf3 rfl ⟨rfl,rfl⟩ rfl (by omega) (by omega)) ?_;rw[fp (show c - 0≠k by omega)];refine gg ?_;refine aj.ef (pG (us:=[.int .i64 x]) (σ':=[_,_]) Tryz.underlying49 (by kernel_rfl) rfl rfl (i:=0) rfl (by show _=min _ _;simp;omega) (fun w hw=>hw.aq (i:=1) rfl 0 rfl) (by rw[cL,hrl];simp;omega) (by simp[Value.oneCell']) rfl) (fun _=>?_);refine gg ?_;exact WP.cP Tryz.results86 (fun _ h=>h) (fun w hw=>⟨(some ⟨rb,0,none⟩,c),rfl,trivial,by have h:=((hw.sel [0] (by decide))).IU (i:=0) (n:=l.length+1) (cap:=c) rfl (by rw[cL,cL];exact hrl) hcm (by omega);rw[Eo l x hkl rest (by omega)] at h;exact h⟩)
theorem D9 (A:Option Addr) (c:Nat) (l:List Int) (k:Nat) (hk:k<l.length) (hl:l.length≤5000):Ct Tryz.prog 168 #[.slice A l.length c,.int .i64 k,.int .i64 (k+1)] [az A l.length c l] (fun _=>True)
    (X:=Unit) (fun _=>.slice A (l.length - 1) c) (fun _=>True) (fun _=>[az A (l.length - 1) c (l.eraseIdx k)]):=by
  refine Ci fun w0 _=>?_;refine sq ?_;refine WP.holds (fun w hw=>hw.ny (i:=0) rfl) (fun⟨hnc,hcm⟩=>?_);refine WP.holds (fun w hw=>hw.aM (i:=0) rfl (by omega)) (fun⟨rb,hA⟩=>?_);subst hA;refine JW ?_;refine vl (F2 (l:=k) (h:=k+1) (m:=l.length) Tryz.underlying49 Tryz.sizeOf3 rfl ⟨rfl,rfl⟩ ⟨rfl,rfl⟩ ⟨rfl,rfl⟩ (by omega) (by omega) (by omega)) ?_;refine gg ?_;refine WP.aw rfl (fun h=>absurd h (by omega)) (fun h16=>?_);refine qa ?_;refine WP.buf (i:=0) rfl (fun rest hl_rest hc_rest hm_rest=>?_);have hrl:(l.map (Value.int .i64)++rest).length=c:=by rw[List.length_append,List.length_map];exact hc_rest
  refine wP none [] [pT 0,pT 1,pT 2,pT 3,pT 4,pT 5,pF 6,pT 7] ?_;refine bW ?_;refine tE rfl (cD (kl:=0) (l:=0) (h:=k) Tryz.underlying49 Tryz.sizeOf3 rfl rfl ⟨rfl,rfl⟩ (by omega) (by omega)) ?_;simp only[fQ];refine bW ?_;refine tE rfl (cD (kh:=0) (l:=(k+1)) (h:=l.length) Tryz.underlying49 Tryz.sizeOf3 rfl ⟨rfl,rfl⟩ rfl (by omega) (by omega)) ?_;rw[og];refine aB.ef rfl (Bo (us:=(l.drop (k+1)).map (Value.int .i64)) (σ':=[_]) Tryz.underlying49 (by kernel_rfl) rfl rfl (i:=0) rfl (by rw[List.length_map,List.length_drop]) (fun w hw=>.inr ⟨rb,_,rfl,Jv l rest (by omega) (by omega) (fun o us hu=>hw.aq (i:=0) rfl o hu)⟩) (by omega) (by rw[hrl,List.length_map,List.length_drop];omega) (kI _) rfl) (fun _ _ _ h=>h.sel [] (by decide)) (fun _=>?_);rw[show k - 0+(l.length - (k+1))=l.length - 1 by omega];refine qa ?_;refine vl (cD (l:=(l.length - 1)) (h:=l.length) Tryz.underlying49 Tryz.sizeOf3 rfl ⟨rfl,rfl⟩ ⟨rfl,rfl⟩ (by omega) (by omega)) ?_;rw[fp (show c - 0≠l.length - 1 by omega),show l.length - (l.length - 1)=0+1 by omega];refine aj.aX (EU (n:=0) (σ':=[_]) Tryz.underlying49 Tryz.zeroValue3 rfl rfl rfl (i:=0) rfl (by rw[cL,hrl];omega) rfl) (fun _=>?_);refine gg ?_;exact WP.cP Tryz.results168 (fun _ h=>h) (fun w hw=>⟨(),rfl,trivial,by have h:=((hw.sel [0] (by decide))).IU (i:=0) (n:=l.length - 1) (cap:=c) rfl (by rw[cL,cL];exact hrl) hcm (by omega);rw[Ff l hk rest] at h;exact h⟩)
def xY (x:Int):List Value:=[.int .i64 x]
theorem wS (gf:Nat) (cap:List Value) (eg:∀args w,(callFunc gf args).run Tryz.prog w=.ok (.enter gf args) w) (R:HI) (xs:List Int) (hl:xs.length≤100000) (hit:gM Tryz.prog gf [] cap [R] xY xs):
    Ct Tryz.prog 111 #[.slice none 0 0,.func (.func gf) #[] cap.toArray] [R] (fun _=>True) (X:=Option Addr×Nat) (fun p=>.slice p.1 xs.length p.2) (fun _=>True) (fun p=>[R,az p.1 xs.length p.2 xs]):=by
  refine Ci fun w0 _=>?_;refine gg ?_;refine aj.ef (eN (u:=.slice _ _ _) (σ':=fun _=>[_,_]) rfl (fun _=>rfl)) (fun b2=>?_);refine av ?_;refine nl (oo ?_)
  iterate 2 refine sq ?_
  refine WP.pre ?_ (fun w hw=>hw.bB 3 1);refine gv ?_;refine mv rfl ?_;refine bW ?_;refine WP.pre ?_ (fun w hw=>(hw.sel [0,1,2] (by decide)));refine WP.k9 (gf:=gf) (first:=[]) (cap:=cap) rfl eg hit (Z:=Option Addr×Nat) (own:=fun k z=>[.cl b2 49 [.slice z.1 k z.2],az z.1 k z.2 (xs.take k)]) (Inv:=fun _ _=>True) (none,0) trivial (List.Perm.refl _) (fun _=>rfl) (by decide) (Y:=Unit) (fun _ _ _=>False) (fun _=>[]) ?_ ?_ ?_
  ·intro lk l2 D2 k x z hx hz w1 M1;have hkl:=(List.getElem?_eq_some_iff.1 hx).1;obtain⟨zA,zc⟩:=z;dsimp only;refine bW ?_;refine aj.nil (iL (i:=0) rfl ?_);refine gg ?_;refine aj.ef (cu (us:=[.int .i64 _]) (σ':=fun _=>[_,_,_,_,_,_,_]) Tryz.underlying49 Tryz.sizeOf3 Tryz.zeroValue3 rfl rfl rfl (by decide) (by decide) (fun _=>rfl)) (fun g10=>?_);refine aj.ef (xP 5 6) fun⟨A11,c11⟩=>?_;refine aj.aX (xS rfl (Fv rfl)) fun _=>?_;exact nl (fun w hw=>fX.normal (i:=0) rfl hw (fun w2 hw2=>.inl ⟨(A11,c11),rfl,trivial,by dsimp only;rw[show az A11 (k+1) c11 (xs.take (k+1))=.row 3 1 A11 (k+1) c11 ((xs.take k).map (Value.int .i64)++[.int .i64 x]) by rw[az,df hx,List.map_append];rfl];exact(hw2.sel [0,1,2,3,4,5] (by decide))⟩))
  ·intro D z hz;obtain⟨zA,zc⟩:=z;rw[List.take_of_length_le (Nat.le_refl xs.length)];refine sx (an ?_);refine gg ?_;exact WP.AE [D] (τ:=[R,az zA xs.length zc xs]) (fun w hw=>(hw.sel [0,2,3] (by decide))) (fun _ h=>h) (fun w hw=>da.T3 Tryz.results111 (.inl rfl) ⟨(zA,zc),rfl,trivial,hw⟩)
  ·intro D c k y hf;exact hf.elim
theorem r9 (gf:Nat) (cap:List Value) (eg:∀args w,(callFunc gf args).run Tryz.prog w=.ok (.enter gf args) w) (R:HI) (xs:List Int) (hl:xs.length≤100000) (hit:gM Tryz.prog gf [] cap [R] xY xs):
    Ct Tryz.prog 61 #[.func (.func gf) #[] cap.toArray] [R] (fun _=>True) (X:=Option Addr×Nat) (fun p=>.slice p.1 xs.length p.2) (fun _=>True) (fun p=>[R,az p.1 xs.length p.2 xs]):=by
  refine Ci fun w0 _=>?_;refine bS ?_;refine mv rfl ?_;refine eF (xC (wS gf cap eg R xs hl hit)) fun⟨A4,c4⟩ _=>?_;refine gg ?_;exact aT fun w hw=>⟨(A4,c4),rfl,trivial,hw.pk⟩
abbrev EP (b tp:Nat):HI:=.cl b 24 [.pointer (some ⟨tp,0,none⟩)]
abbrev qi (b:Nat) (x:Int):HI:=.cl b 3 [.int .i64 x]
theorem kW (tp:Nat) (x:Int):Ct Tryz.prog 62 #[.pointer (some ⟨tp,0,none⟩),.int .i64 x] [] (fun _=>True) (X:=Nat×Nat) (fun p=>.func (.func 112) #[] #[.pointer (some ⟨p.1,0,none⟩),.pointer (some ⟨p.2,0,none⟩)]) (fun _=>True) (fun p=>[EP p.1 tp,qi p.2 x]):=by
  refine Ci fun w0 _=>?_;refine gg ?_;refine aj.ef (eN (u:=.pointer _) (σ':=fun _=>[_]) rfl (fun _=>rfl)) (fun b2=>?_);refine aj.ef (eN (u:=.int .i64 _) (σ':=fun _=>[_,_]) rfl (fun _=>rfl)) (fun b3=>?_);refine sg rfl ?_;refine bW ?_;refine vl (eW) ?_;refine sg rfl ?_;refine gg ?_;exact aT fun w hw=>⟨(b2,b3),rfl,trivial,hw⟩
section
variable {S:Type} (F:ar S)
def nD (kids:List Int) (i:Nat):Nat:=1+((kids.take i).flatMap (sub F)).length
theorem vf {kids:List Int} {i:Nat} {kid:Int} (h:kids[i]?=some kid):nD F kids (i+1)=nD F kids i+(sub F kid).length:=by
  unfold nD;rw[df h,List.flatMap_append,List.length_append];simp;omega
theorem pos_at {kids:List Int} {i k:Nat} {kid x id:Int} (h:kids[i]?=some kid) (hx:(sub F kid)[k]?=some x):(id::kids.flatMap (sub F))[nD F kids i+k]?=some x:=by
  have hk:=(List.getElem?_eq_some_iff.1 h).1;have e:kids=kids.take i++kid::kids.drop (i+1):=by
    have h1:=List.take_append_drop i kids;rw[List.drop_eq_getElem_cons hk,(List.getElem?_eq_some_iff.1 h).2] at h1;exact h1.symm
  have h2:kids.flatMap (sub F)=(kids.take i).flatMap (sub F)++(sub F kid++(kids.drop (i+1)).flatMap (sub F)):=by
    conv=>lhs;rw[e]
    rw[List.flatMap_append,List.flatMap_cons]
  have h3:nD F kids i+k=(((kids.take i).flatMap (sub F)).length+k)+1:=by unfold nD;omega
  rw[h3,List.getElem?_cons_succ,h2,List.getElem?_append_right (by omega),Nat.add_sub_cancel_left,List.getElem?_append_left (List.getElem?_eq_some_iff.1 hx).1];exact hx
theorem yB (id:Int) (kids:List Int):nD F kids kids.length=(id::kids.flatMap (sub F)).length:=by
  unfold nD;rw[List.take_of_length_le (Nat.le_refl _)];simp;omega
theorem WF.j5 {S:Type} {F:ar S} {d:Int→Nat} (hF:WF F d) {x:Int} {b:je S} (hx:F x=some b):b.kids.length≤4096:=by
  have h:=gG (l:=b.kids) (m:=(List.range 4096).map fun n:Nat=>(n:Int)) (hF.nodup x b hx) fun y hy=>by
    obtain⟨_,c,hc,_⟩:=hF.kid x b hx y hy;have:=hF.range y c hc;exact List.mem_map.2 ⟨y.toNat,List.mem_range.2 (by omega),by omega⟩
  simpa using h
theorem kL {Z Y:Type} {o:Z ⊕ Y} (h:(!o.isLeft)=false):∃z,o=.inl z:=by cases o with | inl z=>exact⟨z,rfl⟩ | inr y=>cases h
theorem jw {Z Y:Type} {o:Z ⊕ Y} (h:(!o.isLeft)=true):∃y,o=.inr y:=by cases o with | inr y=>exact⟨y,rfl⟩ | inl z=>cases h
end
theorem ru (tp mb:Nat) (es:List PE) (hk:eG es) {d:Int→Nat} (hF:WF (ae es) d) (id:Int) (n2 n3:Nat)
    (ih:∀kid m2 m3,kid∈aH (ae es) id→gM Tryz.prog 112 [] [.pointer (some ⟨m2,0,none⟩),.pointer (some ⟨m3,0,none⟩)] [al tp mb es,EP m2 tp,qi m3 kid] xY (sub (ae es) kid)):
    gM Tryz.prog 112 [] [.pointer (some ⟨n2,0,none⟩),.pointer (some ⟨n3,0,none⟩)] [al tp mb es,EP n2 tp,qi n3 id] xY (sub (ae es) id):=by
  intro l Z Y H J Inv hy z0 hz0;refine Ci fun w0 _=>?_;refine gg ?_;refine aj.ef (eN (u:=_) (σ':=fun _=>[_,_,_,_,_]) rfl (fun _=>rfl)) (fun b3=>?_);refine gg ?_;refine eF (xC (lE tp mb es id)) fun _ _=>?_
  iterate 2 refine av ?_
  refine aj.aY 11 rfl (fun h11=>?_) (fun h11=>?_)
  ·refine gg ?_;have hnil:sub (ae es) id=[]:=mo (tQ (by simpa using h11));refine WP.aQ rfl ?_;exact WP.IB Tryz.results112 (fun _ h=>h) (fun w hw=>⟨.inl z0,rfl,⟨fun z e=>(by cases e;rw[hnil];exact hz0),fun p e=>(by cases e)⟩,(by rw[hnil];exact(hw.sel [4,0,1,2] (by decide)))⟩)
  ·obtain⟨e,he⟩:∃e,lookE es id=some e:=by have h:=(show aK (ae es) id=true by simpa using h11);unfold aK ae at h;cases h2:lookE es id with | none=>rw[h2] at h;cases h | some e=>exact⟨e,rfl⟩
   have hFe:ae es id=some ⟨e.up,e.kids,e.sty⟩:=by simp[ae,he]
   have hsub:sub (ae es) id=id::e.kids.flatMap (sub (ae es)):=hF.sub_eq hFe;have hke:aH (ae es) id=e.kids:=cj hFe;have hkl:(aH (ae es) id).length=e.kids.length:=by rw[hke]
   have hkb:e.kids.length≤4096:=hF.j5 hFe;refine vg (ai (u:=_) Tryz.isAgg44 rfl (fun w hw=>hw.aq (i:=3) rfl _ rfl)) ?_;refine gg ?_;refine aj.kn (iF (hy 0 id z0 (by rw[hsub];rfl) hz0) [4,0,1,2] [3] rfl (τ:=fun _=>[_,_,_,_,_]) (fun _=>rfl)) (fun o=>?_);refine aj.fact (fun hf=>?_);refine gg ?_;refine WP.cond rfl (fun h16=>?_) (fun h16=>?_)
   ·obtain⟨y,rfl⟩:=jw h16;exact WP.IB Tryz.results112 (fun _ h=>h) (fun w hw=>⟨.inr (0,y),rfl,⟨fun z e=>(by cases e),fun p e=>(by cases e;rw[hsub];exact Nat.succ_pos _)⟩,(hw.sel [1,2,3,4] (by decide))⟩)
   ·obtain⟨zz,rfl⟩:=kL h16;refine gg ?_;refine eF (xC (zM tp mb es hk id)) fun _ _=>?_;refine vl (hR (u:=.slice _ _ _) Tryz.underlying102 rfl Tryz.isAgg49 rfl rfl) ?_;refine gg ?_;refine WP.K7 (X:=Nat×Z×List Nat) [1,3,20,21,29] (fun p=>[(22,.int .i64 (p.1:Int))]) (fun p w=>(p.1≤e.kids.length∧Inv (nD (ae es) e.kids p.1) p.2.1)∧St w0 (ay ([al tp mb es,EP n2 tp,qi n3 id]++[H 0 z0])) [j8 p.2.2,al tp mb es,EP n2 tp,qi n3 id,.cl b3 44 [.func (.yield l) #[] #[]],H (nD (ae es) e.kids p.1) p.2.1] w) (fun p=>p.2.2.map mark) (fun p=>e.kids.length - p.1) (0,zz,[]) ⟨rfl,trivial⟩ rfl (fun w hw=>⟨⟨Nat.zero_le _,hf zz rfl⟩,St.DJ (hw.sel [4,1,2,0,3] (by decide))⟩) (fun p ρ0=>?_);obtain⟨i,z,Ds⟩:=p;dsimp only;refine WP.fact (fun⟨hile,hinv⟩=>?_);refine gg ?_;refine WP.aw rfl (fun h23=>?_) (fun h23=>?_)
    ·have hi:i<e.kids.length:=by omega
     obtain⟨kid,hkid⟩:∃kid,e.kids[i]?=some kid:=⟨_,List.getElem?_eq_getElem hi⟩;have hkid':(aH (ae es) id)[i]?=some kid:=by rw[hke];exact hkid
     refine WP.holds (p:=∃b o,kA es id=some ⟨b,o,none⟩) (fun w hw=>by obtain⟨b,o,e1,_⟩:=(hw.um (i:=1) rfl id).1 i kid hkid';exact⟨b,o,e1⟩) (fun⟨kb,ko,hka⟩=>?_);rw[hka];refine cR ?_;refine vl (ai (u:=.int .i64 _) Tryz.isAgg3 rfl (fun w hw=>by obtain⟨b1,o1,e1,hc⟩:=(hw.um (i:=1) rfl id).1 i kid hkid';rw[hka] at e1;cases e1;exact hc)) ?_;refine gg ?_;refine eF (xC (kW tp kid)) fun⟨m2,m3⟩ _=>?_;refine nl (oo ?_);refine WP.block ?_;refine WP.pre ?_ (fun w hw=>(hw.sel [1,6,7,5,2,3,4,0] (by decide)));refine WP.k9 (gf:=112) (first:=[]) (cap:=[.pointer (some ⟨m2,0,none⟩),.pointer (some ⟨m3,0,none⟩)]) rfl Tryz.call112 (ih kid m2 m3 (by rw[hke];exact List.mem_of_getElem? hkid)) (Z:=Z) (own:=fun k z=>[H (nD (ae es) e.kids i+k) z,EP n2 tp,qi n3 id,.cl b3 44 [.func (.yield l) #[] #[]],j8 Ds]) (Inv:=fun k z=>Inv (nD (ae es) e.kids i+k) z) z hinv (List.Perm.refl _) (fun _=>rfl) (by decide) (Y:=(Nat×Y)) (fun c _ y=>c=.ret∧y.1<(sub (ae es) id).length) (fun y=>[J y.1 y.2,EP n2 tp,qi n3 id,.cl b3 44 [.func (.yield l) #[] #[]],j8 Ds]) ?_ ?_ ?_
     ·intro lk l2 D2 k x z1 hx hz w1 M1;refine WP.region ?_;refine av ?_;refine aj.nil (iL (i:=0) rfl ?_);refine WP.block ?_;refine eh ?_;refine vl (ai (u:=_) Tryz.isAgg44 rfl (fun w hw=>hw.aq (i:=9) rfl _ rfl)) ?_;refine gg ?_;refine aj.ef (iF (hy (nD (ae es) e.kids i+k) x z1 (by rw[hsub];exact pos_at (ae es) hkid hx) hz) [3,7,8,6] [0,1,2,4,5,9,10] rfl (τ:=fun _=>[_,_,_,_,_,_,_,_,_,_,_]) (fun _=>rfl)) (fun o=>?_);refine aj.fact (fun hf=>?_);refine gg ?_;refine WP.cond rfl (fun h33=>?_) (fun h33=>?_)
      ·obtain⟨y,rfl⟩:=jw h33;have hlt:nD (ae es) e.kids i+k<(sub (ae es) id).length:=by rw[hsub];exact(List.getElem?_eq_some_iff.1 (pos_at (id:=id) (ae es) hkid hx)).1
       exact WP.ret (fun w hw=>fX.jump (i:=0) (.inl ⟨rfl,rfl⟩) rfl hw (fun w2 hw2=>.inr ⟨_,(nD (ae es) e.kids i+k,y),rfl,⟨rfl,hlt⟩,(hw2.sel [0,1,2,7,3,4,10,8,9,5,6] (by decide))⟩))
      ·obtain⟨z2,rfl⟩:=kL h33;exact WP.skip (fun w hw=>fX.normal (i:=0) rfl hw (fun w2 hw2=>.inl ⟨z2,rfl,(hf z2 rfl),(hw2.sel [0,1,2,7,3,4,10,8,9,5,6] (by decide))⟩))
     ·intro D z3 hz;refine sx (an ?_);refine WP.region ?_
      iterate 2 refine av ?_
      exact nl fun w hw=>⟨(i+1,z3,D::Ds),(by simp only;omega),rfl,⟨rfl,rfl,rfl,jS,jI,rfl,trivial⟩,⟨⟨by simp only;omega,by simp only;rw[vf (ae es) hkid];exact hz⟩,by simp only;rw[vf (ae es) hkid];exact St.mark (hw.sel [7,8,0,4,5,6,3] (by decide))⟩⟩
     ·intro D c k y hf hk2;obtain⟨rfl,hlt⟩:=hf;obtain⟨yk,yy⟩:=y;exact WP.AE (D::Ds) (τ:=[al tp mb es,EP n2 tp,qi n3 id,J yk yy]) (fun w hw=>St.uk (St.mark hw.pk)) (fun _ h=>h) (fun w hw=>da.IG Tryz.results112 (.inl rfl) ⟨.inr (yk,yy),rfl,⟨fun z e=>(by cases e),fun p e=>(by cases e;exact hlt)⟩,hw⟩)
    ·have hi:i=e.kids.length:=by omega
     exact WP.exit fun w hw=>da.IC Ds (.inr rfl) (St.uk (hw.sel [0,1,2,3,5] (by decide))) (fun w hw=>da.IG Tryz.results112 (.inl rfl) ⟨.inl z,rfl,⟨fun z9 e9=>(by cases e9;rw[hsub,←yB (ae es),←hi];exact hinv),fun p e=>(by cases e)⟩,(by rw[show (sub (ae es) id).length=nD (ae es) e.kids i from by rw[hsub,←yB (ae es),←hi]];exact hw)⟩)
theorem mJ (tp mb:Nat) (es:List PE) (hk:eG es) {d:Int→Nat} (hF:WF (ae es) d):∀(n:Nat) (id:Int) (n2 n3:Nat),64≤n+d id→
    gM Tryz.prog 112 [] [.pointer (some ⟨n2,0,none⟩),.pointer (some ⟨n3,0,none⟩)] [al tp mb es,EP n2 tp,qi n3 id] xY (sub (ae es) id)
  | 0, id, n2, n3, hn => ru tp mb es hk hF id n2 n3 fun kid m2 m3 hm => by
    cases e:ae es id with
    | none=>simp[aH,e] at hm
    | some b=>have:=hF.deep id b e;omega
  | n + 1, id, n2, n3, hn => ru tp mb es hk hF id n2 n3 fun kid m2 m3 hm => by
    cases e:ae es id with
    | none=>simp[aH,e] at hm
    | some b =>
      rw[cj e] at hm;have:=hF.gr e hm;exact mJ tp mb es hk hF n kid m2 m3 (by omega)
theorem y9 (tp mb:Nat) (es:List PE) (hk:eG es) {d:Int→Nat} (hF:WF (ae es) d) (id:Int) (n2 n3:Nat):
    gM Tryz.prog 112 [] [.pointer (some ⟨n2,0,none⟩),.pointer (some ⟨n3,0,none⟩)] [cN [al tp mb es,EP n2 tp,qi n3 id]] xY (sub (ae es) id):=
  (mJ tp mb es hk hF 64 id n2 n3 (by omega)).pack
theorem WF.e6 {F:ar (List Value)} {d:Int→Nat} (hF:WF F d) (x:Int):(sub F x).length≤4096:=by
  have h:=gG (l:=sub F x) (m:=(List.range 4096).map fun n:Nat=>(n:Int)) (hF.wE x) fun y hy=>by
    obtain⟨b,hb⟩:=aL (oL hy);have:=hF.range y b hb;exact List.mem_map.2 ⟨y.toNat,List.mem_range.2 (by omega),by omega⟩
  simpa using h
theorem mH (tp mb:Nat) (es:List PE) (hk:eG es) {d:Int→Nat} (hF:WF (ae es) d) (id:Int) (n2 n3:Nat):
    Ct Tryz.prog 61 #[.func (.func 112) #[] #[.pointer (some ⟨n2,0,none⟩),.pointer (some ⟨n3,0,none⟩)]] [al tp mb es,EP n2 tp,qi n3 id] (fun _=>True) (X:=Option Addr×Nat) (fun p=>.slice p.1 (sub (ae es) id).length p.2) (fun _=>True)
      (fun p=>[al tp mb es,EP n2 tp,qi n3 id,az p.1 (sub (ae es) id).length p.2 (sub (ae es) id)]):=by
  have h:=r9 112 [.pointer (some ⟨n2,0,none⟩),.pointer (some ⟨n3,0,none⟩)] Tryz.call112 (cN [al tp mb es,EP n2 tp,qi n3 id]) (sub (ae es) id) (by have:=hF.e6 id;omega) (y9 tp mb es hk hF id n2 n3);intro w h1 h2 h3;have st:=St.pack (F:=[]) (by simpa using St.start h1 h2);refine(h w st.all st.disj h3).mono ?_
  rintro e w' ⟨p,rfl,hf,hs⟩
  refine⟨p,rfl,hf,?_⟩;have hs':=hs.unpack;rw[gP] at hs';exact hs'
theorem mF (tp mb:Nat) (es:List PE) (hk:eG es) {d:Int→Nat} (hF:WF (ae es) d):Ct Tryz.prog 22 #[.pointer (some ⟨tp,0,none⟩)] [al tp mb es] (fun _=>True) (X:=Option Addr×Nat) (fun p=>.slice p.1 (order (ae es)).length p.2) (fun _=>True)
      (fun p=>[al tp mb es,az p.1 (order (ae es)).length p.2 (order (ae es))]):=by
  refine Ci fun w0 _=>?_;refine gg ?_;refine eF (xC (kW tp 0)) fun⟨m2,m3⟩ _=>?_;refine eF (xC (mH tp mb es hk hF 0 m2 m3)) fun⟨A5,c5⟩ _=>?_;refine gg ?_;exact WP.cP Tryz.results22 (fun _ h=>h) (fun w hw=>⟨(A5,c5),rfl,trivial,(hw.sel [0,3] (by decide))⟩)
end Go.Proofs.YtbedndijejpcaaaGreat
