/- The statement FlowOut is true of every input: the Go function valancelaw15.FlowOut answers true, and each argument reads behind the call as it did. No condition. -/
import Derived.Test.YtpgjbbaplpdaiaaGreatS23
set_option linter.unusedVariables false
set_option linter.unusedSimpArgs false
set_option linter.unusedSectionVars false
set_option maxRecDepth 100000
set_option maxHeartbeats 8000000
namespace Go.Proofs.YtpgjbbaplpdaiaaGreat
open Go.RowKit
section
variable {P : Program} {r : Option Nat} {S : World → Prop} {ρ : Env} {dst : Option Tmp} {ty : TypeId} {pos : String} {af : Array Edge} {g : Option (Nat × Bool)} {t t2 : TypeId} {x y : Operand}
theorem run_neA {w : World} {xs ys : List Value} {ks : List Bool} (hk : leafK P 10 t = some ks) (hm : P.eqGuardType P.depth t = false) (ha : ∀ cs, valF P t cs = .agg cs.toArray) (hx : evo ρ x = .agg xs.toArray) (hy : evo ρ y = .agg ys.toArray) (h1 : leavesB ks xs = true) (h2 : leavesB ks ys = true) :
    (execOp (evo ρ) ⟨dst, .binOp .neq t x y t2, ty, pos, af, g⟩).run P w = .ok (.value (.bool (!eqv xs ys))) w := by
  have h := eqF 10 9990 t ks hk w xs ys h1 h2
  rw [ha, ha] at h
  have h3 := run_neq_struct (P := P) w t xs.toArray ys.toArray
  rw [h] at h3
  simp only [execOp, Sem.run_bind, hx, hy, run_eqGuard_agg w .neq t x y _ _ hm, h3, Sem.run_pure, Result.andThen]
theorem v_neA {xs ys : List Value} {ks : List Bool} (hk : leafK P 10 t = some ks) (hm : P.eqGuardType P.depth t = false) (ha : ∀ cs, valF P t cs = .agg cs.toArray) (hx : evo ρ x = .agg xs.toArray) (hy : evo ρ y = .agg ys.toArray) (h1 : leavesB ks xs = true) (h2 : leavesB ks ys = true) :
    OpV P S ⟨dst, .binOp .neq t x y t2, ty, pos, af, g⟩ ρ (.bool (!eqv xs ys)) := v_run fun _ _ => run_neA hk hm ha hx hy h1 h2
end
section
variable {F:Forest (List Value)} {d:Int→Nat}
theorem flat_good (hF:WF F d) (hg:∀x,GS (stF F x)) {ww wh:Int}:∀(n:Nat) (f:Frm),Good F ww wh f→∀g∈flatN n f,Good F ww wh g
  | 0,f,_,g,hm=>by simp[flatN] at hm
  | n + 1, f, h, g, hm => by
    rw[flatN] at hm
    rcases List.mem_cons.1 hm with rfl | hm
    · exact h
    · obtain ⟨k, hk, hm⟩ := List.mem_flatMap.1 hm
      exact flat_good hF hg n k (h.kids hF hg k hk).1 g hm
theorem all_good (hF:WF F d) (hg:∀x,GS (stF F x)) (w h:Int):∀f∈allP F w h,Good F (max w 0) (max h 0) f:=fun f hf=>by
  unfold allP at hf
  split at hf
  · exact flat_good hF hg 64 _ (good_root hF hg _ _ _ _) f hf
  · simp at hf
theorem good_size (hF:WF F d) (hg:∀x,GS (stF F x)) {ww wh:Int} {f:Frm} (h:Good F ww wh f):eA (stF F f.id)≤f.w∧eD (stF F f.id)≤f.h:=by
  obtain⟨hx,rw',rh,sw,sh,hw,hh,_⟩:=h;have h1:=(hg f.id).iwP_bd rw' sw;have h2:=(hg f.id).ihP_bd rh sh;have h3:=ihEnd_bd (stF F f.id) rh (ihP (stF F f.id) rh sh) (inP F (LAY F ww wh) f.id (iwP (stF F f.id) rw' sw) (ihP (stF F f.id) rh sh)).2 h2.1;rw[LAY_eq hF hx] at hw hh;rw[hw,hh];unfold layStep;dsimp only;omega
theorem look_all (hF:WF F d) (hg:∀x,GS (stF F x)) {m:List (Int×Value)} {w h:Int} (hm:MapOf m (allP F w h)) {y:Int} (hy:y∈order F):
    ∃a b c e:Int,(lookM m y).isSome=shownF F y∧(lookM m y).getD (.agg #[.int .i64 0,.int .i64 0,.int .i64 0,.int .i64 0])=.agg #[.int .i64 a,.int .i64 b,.int .i64 c,.int .i64 e]∧(shownF F y=true→eS (stF F y) 1+eS (stF F y) 3≤c∧eS (stF F y) 0+eS (stF F y) 2≤e):=by
  obtain⟨_,h2,h3⟩:=hm;have hp:=all_ids hF hg w h;cases hs:shownF F y with
  | true =>
    have hi:=hp.mem_iff.2 (List.mem_filter.2 ⟨hy,hs⟩);obtain⟨f,hf,rfl⟩:=List.mem_map.1 hi;have hq:=good_size hF hg (all_good hF hg w h f hf);have b1:=(hg f.id).eA_bd;have b2:=(hg f.id).eD_bd;have e1:eA (stF F f.id)=eS (stF F f.id) 3+eS (stF F f.id) 1:=rfl;have e2:eD (stF F f.id)=eS (stF F f.id) 0+eS (stF F f.id) 2:=rfl;rw[h2 f hf];refine⟨_,_,_,_,rfl,rfl,fun _=>?_⟩;unfold cut;omega
  | false =>
    have hn:lookM m y=none:=h3 y fun f hf e=>by
      have hi:=hp.mem_iff.1 (List.mem_map.2 ⟨f,hf,e⟩);rw[(List.mem_filter.1 hi).2] at hs;cases hs
    rw[hn];exact⟨_,_,_,_,rfl,rfl,fun h=>by cases h⟩
theorem look_len (hF:WF F d) (hg:∀x,GS (stF F x)) {m:List (Int×Value)} {w h:Int} (hm:MapOf m (allP F w h)):m.length=((order F).filter (shownF F)).length:=by
  rw[hm.1,←(all_ids hF hg w h).length_eq,List.length_map]
end
structure Agr (F F':Forest (List Value)) (C:Int→Prop):Prop where
  st:∀x,C x→stF F' x=stF F x
  kp:∀x,C x→kidsP F' x false=kidsP F x false
  kd:∀x k,C x→k∈kidsF F x→C k
  up:∀x,C x→upF F' x=upF F x
  cu:∀x,C x→0≤upF F x→C (upF F x)
section
variable {F F':Forest (List Value)} {C:Int→Prop} (g:Agr F F' C)
include g
theorem Agr.kc (x:Int) (a:Bool) (k:Int) (hx:C x) (h:k∈kidsP F x a):C k:=g.kd x k hx (kidsP_sub h)
theorem Agr.op {x:Int} (hx:C x) (b:Bool):openP F' x b=openP F x b:=by
  unfold openP;rw[g.up x hx,g.st x hx]
  by_cases h:0≤upF F x
  · rw[g.st _ (g.cu x hx h)]
  · simp[h]
theorem Agr.next {x:Int} (hx:C x) (b:Bool):nextP F' x b=nextP F x b:=by
  unfold nextP;rw[g.op hx,g.kp x hx]
theorem Agr.nextC {x:Int} (hx:C x) {b:Bool} {k:Int} (h:nextP F x b=some k):C k:=by
  unfold nextP at h
  split at h
  · split at h
    · exact g.kc x false k hx (List.mem_of_getLast? h)
    · exact g.kc x false k hx (List.mem_of_head? h)
  · cases h
theorem Agr.ends:∀(n:Nat) {x:Int} (_:C x) (b:Bool),endsP F' n x b=endsP F n x b
  | 0,_,_,_=>rfl
  | n + 1, x, hx, b => by
    rw[endsP,endsP,g.st x hx,g.next hx];cases h:nextP F x b with
    | none=>rfl
    | some k=>simp only;rw[Agr.ends n (g.nextC hx h) b]
theorem Agr.en {x:Int} (hx:C x) (b:Bool):endP F' x b=endP F x b:=congrArg collP (g.ends 64 hx b)
omit g in
theorem sumN_congr {f h:Nat→Int}:∀n,(∀i,i<n→f i=h i)→sumN f n=sumN h n
  | 0,_=>rfl
  | n+1,hh=>by rw[sumN,sumN,sumN_congr n fun i hi=>hh i (by omega),hh n (by omega)]
section
variable {L:LayF} {ks:List Int} (hk:∀k∈ks,C k) {iw ih:Int}
include hk
theorem Agr.kS {i:Nat} (hi:i<ks.length):kS F' ks i=kS F ks i:=g.st _ (hk _ (gI_mem hi))
theorem Agr.block {id:Int} (hid:C id):blockP F' L ks iw ih id=blockP F L ks iw ih id:=by
  have ht:∀b,bTops F' ks b=bTops F ks b:=fun b=>tab_congr fun i hi=>g.en (hk _ (gI_mem hi)) b;have hf:bFrom F' ks id=bFrom F ks id:=by unfold bFrom;rw[g.op hid,ht]
  unfold blockP;rw[hf,ht,ht,g.op hid];refine congrArg (·,_) (tab_congr fun i hi=>?_);simp only[bX];rw[g.kS hk hi]
section
variable {c:List Value} {a b:Nat} (hb:b≤ks.length)
include hb
theorem Agr.rE {i:Nat} (hi:i<ks.length):rExt F' ks iw i=rExt F ks iw i:=by unfold rExt;rw[g.kS hk hi]
theorem Agr.lS:lSizes F' ks iw c a b=lSizes F ks iw c a b:=by
  unfold lSizes
  rw [tab_congr (f := fun i => itA (Go.Proofs.YtpgjbbaplpdaiaaGreat.kS F' ks (a + i)) iw) (g := fun i => itA (Go.Proofs.YtpgjbbaplpdaiaaGreat.kS F ks (a + i)) iw) fun i hi => by rw [g.kS hk (by omega)],
    sumN_congr (f := fun i => rExt F' ks iw (a + i)) (h := fun i => rExt F ks iw (a + i)) _ fun i hi => g.rE hk hb (by omega)]
theorem Agr.l1 {i:Nat} (hi:i<b - a):lF1 F' L ks iw ih c a b i=lF1 F L ks iw ih c a b i:=by unfold lF1;rw[g.lS hk hb,g.kS hk (by omega)]
theorem Agr.lM:lMost F' L ks iw ih c a b=lMost F L ks iw ih c a b:=maxN_congr _ fun i hi=>by rw[g.l1 hk hb hi,g.kS hk (by omega)]
theorem Agr.lHs (one:Bool):lH F' L ks iw ih c a b one=lH F L ks iw ih c a b one:=by unfold lH;rw[g.lM hk hb]
theorem Agr.line (one:Bool):lineP F' L ks iw ih c a b one=lineP F L ks iw ih c a b one:=by
  have hal:lAlong F' L ks iw ih c a b=lAlong F L ks iw ih c a b:=tab_congr fun i hi=>by rw[g.l1 hk hb hi,g.kS hk (by omega)]
  unfold lineP;rw[g.lHs hk hb];refine tab_congr fun i hi=>?_;have h2:∀hh,lF2 F' L ks iw ih c a b hh i=lF2 F L ks iw ih c a b hh i:=fun hh=>by
    unfold lF2;rw[g.l1 hk hb hi,g.kS hk (by omega)]
  simp only[lOut,lStart];rw[hal,h2,g.kS hk (by omega)]
end
theorem Agr.rowN {c:List Value} {ls:List (Nat×Nat)} (hls:∀p∈ls,p.2≤ks.length):∀n,rowN F' L ks iw ih c ls n=rowN F L ks iw ih c ls n
  | 0=>rfl
  | n + 1 => by
    have hp:(ls.getD n (0,0)).2≤ks.length:=by
      rw[List.getD_eq_getElem?_getD];cases e:ls[n]? with
      | none=>simp
      | some p=>exact hls p (List.mem_of_getElem? e)
    simp only[Go.Proofs.YtpgjbbaplpdaiaaGreat.rowN];rw[Agr.rowN hls n,g.line hk hp,g.lHs hk hp]
theorem Agr.rL (c:List Value):rLines F' ks iw c=rLines F ks iw c:=by
  unfold rLines rLong;rw[tab_congr (f:=fun i=>baseI (itA (Go.Proofs.YtpgjbbaplpdaiaaGreat.kS F' ks i) iw)+rExt F' ks iw i) (g:=fun i=>baseI (itA (Go.Proofs.YtpgjbbaplpdaiaaGreat.kS F ks i) iw)+rExt F ks iw i) fun i hi=>by rw[g.kS hk hi,g.rE hk (Nat.le_refl _) hi]]
theorem Agr.row {id:Int} (hid:C id):rowP F' L ks iw ih id=rowP F L ks iw ih id:=by
  unfold rowP;rw[g.st id hid,g.rL hk];exact g.rowN hk (fun p hp=>by have hx:=(breaks_in hp).2.1;rw[show (rLong F ks iw).length=ks.length from tab_len] at hx;exact hx) _
theorem Agr.column {id:Int} (hid:C id):columnP F' L ks iw ih id=columnP F L ks iw ih id:=by
  unfold columnP;rw[g.st id hid]
  generalize stF F id=c
  have h0:∀i,i<ks.length→cSet F' ks iw c i=cSet F ks iw c i:=fun i hi=>by unfold cSet;rw[g.kS hk hi]
  have h1:∀i,i<ks.length→cItem F' L ks iw ih c i=cItem F L ks iw ih c i:=fun i hi=>by
    unfold cItem cF1;rw[g.kS hk hi,h0 i hi]
  have he:∀i,i<ks.length→cExt F' ks i=cExt F ks i:=fun i hi=>by unfold cExt;rw[g.kS hk hi]
  have hs:cSizes F' L ks iw ih c=cSizes F L ks iw ih c:=by
    unfold cSizes;rw[tab_congr h1,tab_congr (f:=fun i=>baseI (cItem F' L ks iw ih c i)) (g:=fun i=>baseI (cItem F L ks iw ih c i)) fun i hi=>by rw[h1 i hi],sumN_congr _ he]
  have h2:∀i,i<ks.length→cF2 F' L ks iw ih c i=cF2 F L ks iw ih c i:=fun i hi=>by
    unfold cF2;rw[hs,g.kS hk hi,h0 i hi]
  have hal:cAlong F' L ks iw ih c=cAlong F L ks iw ih c:=tab_congr fun i hi=>by rw[h2 i hi,g.kS hk hi]
  rw[hal];refine congrArg (·,_) (tab_congr fun i hi=>?_);simp only[cOut,cStart,cRoom];rw[hal,h2 i hi,g.kS hk hi]
end
theorem Agr.inn {L:LayF} {id iw ih:Int} (hid:C id):inP F' L id iw ih=inP F L id iw ih:=by
  have hk:∀k∈kidsP F id false,C k:=fun k h=>g.kc id false k hid h;unfold inP;rw[g.kp id hid,g.st id hid,g.row hk hid,g.column hk hid,g.block hk hid]
theorem Agr.apart {ww wh iw ih k:Int} {L:LayF} {s:List Value} (hk:C k):apartP F' ww wh L s iw ih k=apartP F ww wh L s iw ih k:=by
  have hw:∀rw' rh px py,withinP F' L k rw' rh px py=withinP F L k rw' rh px py:=fun rw' rh px py=>by
    unfold withinP wF wSetW wSetH;rw[g.st k hk]
  unfold apartP;rw[hw,hw,g.st k hk]
theorem Agr.step {ww wh:Int} {L:LayF} {id:Int} (hid:C id) (kt:kidsP F' id true=kidsP F id true) (hL:∀k∈kidsF F id,LB L k):SameL (layStep F' ww wh L) (layStep F ww wh L) id:=fun rw' rh sw sh=>by
  unfold layStep;rw[g.inn hid,g.st id hid,kt]
  congr 2
  · refine List.map_congr_left fun f hf => ?_
    have hi:=(in_ids (F:=F) (L:=L) (iw:=iwP (stF F id) rw' sw) (ih:=ihP (stF F id) rh sh) hL).1;have hm:f.id∈kidsP F id false:=by rw[←hi];exact List.mem_map.2 ⟨f,hf,rfl⟩
    unfold moveF;rw[g.st f.id (g.kc id false _ hid hm)]
  · exact List.map_congr_left fun k hk=>g.apart (g.kc id true k hid hk)
theorem Agr.lay (kt:∀x,C x→kidsP F' x true=kidsP F x true) (hg:∀x,GS (stF F' x)) (ww wh:Int):∀(n:Nat) (k:Int),C k→SameL (layN F' ww wh n) (layN F ww wh n) k
  | 0,k,_=>fun _ _ _ _=>rfl
  | n + 1, k, hk => fun rw' rh sw sh => by
    have h1:=g.step (ww:=ww) (wh:=wh) (L:=layN F' ww wh n) hk (kt k hk) fun j _=>layN_LB ww wh (hg j) n;have h2:=layStep_same (F:=F) (ww:=ww) (wh:=wh) (id:=k) fun j hj=>Agr.lay kt hg ww wh n j (g.kd k j hk hj);exact(h1 rw' rh sw sh).trans (h2 rw' rh sw sh)
theorem Agr.all (kt:∀x,C x→kidsP F' x true=kidsP F x true) (hg:∀x,GS (stF F' x)) (h0:C 0) (hs:shownF F' 0=shownF F 0) (w h:Int):allP F' w h=allP F w h:=by
  unfold allP LAY;rw[hs,g.lay kt hg _ _ 64 0 h0]
end
structure Ext (F G:Forest (List Value)) (up id:Int) (k:Nat):Prop where
  old:∀x,hasF F x=true→G x=addG F up k id zeroS x
  new:hasF F id=false
structure Hid (F G:Forest (List Value)) (up id:Int) (k:Nat):Prop extends Ext F G up id k where
  sty:val (stF G id) 0=3
section
variable {F G:Forest (List Value)} {d d':Int→Nat} {up id:Int} {k:Nat}
theorem Ext.at (h:Ext F G up id k) {x:Int} {b:TBox (List Value)} (hx:F x=some b):G x=some {b with kids:=if x=up then insAt b.kids k id else b.kids}:=by
  have hne:x≠id:=fun e=>by have:=h.new;rw[←e,has_some hx] at this;cases this
  rw[h.old x (has_some hx)];unfold addG
  by_cases e:x=up
  · rw[if_pos e,if_pos e,←e,hx];rfl
  · rw[if_neg e,if_neg hne,if_neg e,hx]
theorem Ext.st (h:Ext F G up id k) {x:Int} (hx:hasF F x=true):stF G x=stF F x:=by
  obtain⟨b,hb⟩:=some_has hx;simp[styF,h.at hb,hb]
theorem Ext.upF (h:Ext F G up id k) {x:Int} (hx:hasF F x=true):upF G x=upF F x:=by
  obtain⟨b,hb⟩:=some_has hx;simp[Go.Proofs.YtpgjbbaplpdaiaaGreat.upF,h.at hb,hb]
theorem Ext.has (h:Ext F G up id k) {x:Int} (hx:hasF F x=true):hasF G x=true:=by
  obtain⟨b,hb⟩:=some_has hx;exact has_some (h.at hb)
theorem up_old (hF:WF F d) {x:Int} (hx:hasF F x=true):hasF F (Go.Proofs.YtpgjbbaplpdaiaaGreat.upF F x)=true∨Go.Proofs.YtpgjbbaplpdaiaaGreat.upF F x= -1:=by
  by_cases h0:x=0
  · right
    obtain⟨b,hb,hu⟩:=hF.root;rw[h0,up_some hb,hu]
  · exact .inl (hF.up_has hx h0).1
theorem Ext.shN (h:Ext F G up id k) (hF:WF F d) (hG:WF G d'):∀(n:Nat) (x:Int),hasF F x=true→shownN G n x=shownN F n x
  | 0,_,_=>rfl
  | n + 1, x, hx => by
    rw[shownN,shownN,if_pos hx,if_pos (h.has hx),h.st hx,h.upF hx]
    rcases up_old hF hx with h1 | h1
    · rw[Ext.shN h hF hG n _ h1]
    · rw [h1]
      cases n with
      | zero=>rfl
      | succ n=>rw[shownN,shownN,if_neg (by rw[has_none (hG.neg (by decide))];decide),if_neg (by rw[has_none (hF.neg (by decide))];decide)]
theorem Ext.sh (h:Ext F G up id k) (hF:WF F d) (hG:WF G d') {x:Int} (hx:hasF F x=true):shownF G x=shownF F x:=by
  unfold shownF;rw[hx,h.has hx,h.shN hF hG 64 x hx]
theorem Hid.no (h:Hid F G up id k):shownF G id=false:=by
  unfold shownF;cases e:hasF G id with
  | false=>rfl
  | true=>rw[show (64:Nat)=63+1 from rfl,shownN,if_pos e,h.sty];rfl
theorem filt_ins {p:Int→Bool} {l:List Int} {x:Int} (hp:p x=false) (k:Nat):(insAt l k x).filter p=l.filter p:=by
  unfold insAt;rw[List.filter_append,List.filter_cons,hp];simp only[Bool.false_eq_true,if_false];rw[←List.filter_append,List.take_append_drop]
theorem Hid.kp (h:Hid F G up id k) (hF:WF F d) (hG:WF G d') {x:Int} (hx:hasF F x=true) (a:Bool):kidsP G x a=kidsP F x a:=by
  obtain⟨b,hb⟩:=some_has hx;unfold kidsP;have hq:(kidsF F x).filter (fun k=>shownF G k&&(outB (stF G k)==a))=(kidsF F x).filter (fun k=>shownF F k&&(outB (stF F k)==a)):=List.filter_congr fun k hk=>by
    have h1:=(kid_rank' hF hk).1;rw[h.sh hF hG h1,h.st h1]
  rw[←hq,kids_some (h.at hb),kids_some hb];simp only
  split
  · exact filt_ins (by rw[h.no];rfl) k
  · rfl
theorem Hid.agr (h:Hid F G up id k) (hF:WF F d) (hG:WF G d'):Agr F G (fun x=>hasF F x=true):=by
  refine⟨fun x hx=>h.st hx,fun x hx=>h.kp hF hG hx false,fun x k hx hk=>(kid_rank' hF hk).1,fun x hx=>h.upF hx,fun x hx h0=>?_⟩
  rcases up_old hF hx with h1 | h1
  · exact h1
  · rw[h1] at h0;omega
theorem Hid.all (h:Hid F G up id k) (hF:WF F d) (hG:WF G d') (hg:∀x,GS (stF G x)) (w hh:Int):allP G w hh=allP F w hh:=by
  have h0:hasF F 0=true:=by obtain⟨b,hb,_⟩:=hF.root;exact has_some hb
  exact(h.agr hF hG).all (fun x hx=>h.kp hF hG hx true) hg h0 (h.sh hF hG h0) w hh
theorem Hid.same {G':Forest (List Value)} (h:Hid F G up id k) (hs:∀x,hasF F x=true→G' x=G x) (hi:stF G' id=stF G id):Hid F G' up id k:=
  ⟨⟨fun x hx=>(hs x hx).trans (h.old x hx),h.new⟩,by rw[hi];exact h.sty⟩
theorem addR_ok (hF:WF F d) {up a:Int} (h:(addR zeroS F up a).2.2=0):(addR zeroS F up a).1=addG F up a.toNat (least F) zeroS∧(addR zeroS F up a).2.1=least F∧hasF F (least F)=false∧hasF F up=true:=by
  have hl:=hF.least_ok.2.2.1;unfold addR at*
  split at h
  · simp at h
  · split at h
    · simp at h
    · split at h
      · simp at h
      · split at h
        · simp at h
        · rename_i h1 h2 h3 h4
          rw[if_neg h1,if_neg h2,if_neg h3,if_neg h4];exact⟨rfl,rfl,hl,by simpa using h1⟩
theorem addR_at (hF:WF F d) {up a x:Int} (hx:hasF F x=true) (hu:x≠up):(addR zeroS F up a).1 x=F x:=by
  have hl:=hF.least_ok.2.2.1;unfold addR
  repeat' split
  all_goals first | rfl | skip
  unfold addG;dsimp only;rw[if_neg hu,if_neg (fun e=>by rw[e,hl] at hx;cases hx)]
theorem addR_st (hF:WF F d) {up a x:Int} (hx:hasF F x=true):stF (addR zeroS F up a).1 x=stF F x:=by
  have hl:=hF.least_ok.2.2.1;unfold addR
  repeat' split
  all_goals first | rfl | skip
  obtain⟨b,hb⟩:=some_has hx;show styF zeroS (addG F up a.toNat (least F) zeroS) x=styF zeroS F x;unfold addG styF;dsimp only
  by_cases e:x=up
  · rw[if_pos e,←e,hb];rfl
  · rw[if_neg e,if_neg (fun e=>by rw[e,hl] at hx;cases hx)]
theorem setR_at {v:List Value→Bool} {i x:Int} {s:List Value} (hu:x≠i):(setR v F i s).1 x=F x:=by
  unfold setR
  repeat' split
  all_goals first | rfl | skip
  unfold setG;dsimp only;rw[if_neg hu]
theorem Hid.add (h:Hid F G up id k) (hG:WF G d') (hi:hasF G id=true) (a:Int):Hid F (addR zeroS G id a).1 up id k:=by
  refine h.same (fun x hx=>addR_at hG (h.has hx) (fun e=>?_)) (addR_st hG hi);have:=h.new;rw[←e,hx] at this;cases this
theorem Hid.set (h:Hid F G up id k) (hG:WF G d') (hi:hasF G id=true) {a:Int} (e3:(addR zeroS G id a).2.2=0) (s:List Value):Hid F (setR validB (addR zeroS G id a).1 (addR zeroS G id a).2.1 s).1 up id k:=by
  obtain⟨_,h2,h3,_⟩:=addR_ok hG e3;have h4:=h.add hG hi a;rw[h2];refine h4.same (fun x hx=>setR_at fun e=>?_) ?_
  · have := h.has hx
    rw[e,h3] at this;cases this
  · have hne : id ≠ least G := fun e => by rw [← e, hi] at h3; cases h3
    simp only[styF,setR_at (F:=(addR zeroS G id a).1) (v:=validB) (s:=s) hne]
def TOk (es:List PE) (n:Nat):Prop:=LOk es∧(∃d,WF (FoR es) d)∧AllGS (FoR es)∧lenF (FoR es)≤n
theorem TOk.add {es es':List PE} {n:Nat} (h:TOk es n) {up a:Int} (he:FoR es'=(addR zeroS (FoR es) up a).1) (hk:LOk es'):TOk es' (n+1):=by
  obtain⟨_,⟨d,hd⟩,hg,hl⟩:=h;have h1:=hd.act_len ⟨0,up,a,0,zeroS⟩;refine⟨hk,by rw[he];exact hd.addR zeroS up a,by rw[he];exact hg.addR up a,?_⟩;rw[he];exact Int.le_trans h1 (by omega)
theorem TOk.set {es es':List PE} {n:Nat} (h:TOk es n) {i:Int} {s:List Value} (hs:SOk s) (he:FoR es'=(setR validB (FoR es) i s).1) (hk:LOk es'):TOk es' (n+1):=by
  obtain⟨_,⟨d,hd⟩,hg,hl⟩:=h;have h1:=hd.act_len ⟨4,i,0,0,s⟩;refine⟨hk,by rw[he];exact hd.setR validB i s,by rw[he];exact hg.setR i hs,?_⟩;rw[he];exact Int.le_trans h1 (by omega)
theorem TOk.kids {es:List PE} {n:Nat} (h:TOk es n) (hn:n≤64) (x:Int):(kidsF (FoR es) x).length≤64:=by
  obtain⟨_,⟨d,hd⟩,_,hl⟩:=h;exact Nat.le_trans (kids_few hd hl x) hn
theorem MapOf.look {m m':List (Int×Value)} {l:List Frm} (h:MapOf m l) (h':MapOf m' l) (y:Int):lookM m' y=lookM m y∧∃a b c e:Int,(lookM m y).getD (.agg #[.int .i64 0,.int .i64 0,.int .i64 0,.int .i64 0])=.agg #[.int .i64 a,.int .i64 b,.int .i64 c,.int .i64 e]:=by
  by_cases hy:∃f∈l,f.id=y
  · obtain ⟨f, hf, rfl⟩ := hy
    rw[h.2.1 f hf,h'.2.1 f hf];exact⟨rfl,_,_,_,_,rfl⟩
  · have hn : ∀ f ∈ l, f.id ≠ y := fun f hf e => hy ⟨f, hf, e⟩
    rw[h.2.2 y hn,h'.2.2 y hn];exact⟨rfl,_,_,_,_,rfl⟩
end
def star (L:LayF):LayF:=fun k rw rh sw sh=>{L k rw rh sw sh with kids:=[⟨k,rw,rh,sw,sh,[]⟩]}
def kidsO (L:LayF) (l:List Frm):List Frm:=match l with | [a]=>(L a.id a.x a.y a.w a.h).kids | _=>l
def dec (L:LayF) (f:Frm):Frm:={f with kids:=kidsO L f.kids}
section
variable {F:Forest (List Value)} {L:LayF} {ks:List Int} {iw ih:Int}
theorem block_dec (id:Int):(blockP F L ks iw ih id).1=(blockP F (star L) ks iw ih id).1.map (dec L)∧(blockP F L ks iw ih id).2=(blockP F (star L) ks iw ih id).2:=by
  unfold blockP;dsimp only;rw[tab_map];exact⟨rfl,rfl⟩
theorem column_dec (id:Int):(columnP F L ks iw ih id).1=(columnP F (star L) ks iw ih id).1.map (dec L)∧(columnP F L ks iw ih id).2=(columnP F (star L) ks iw ih id).2:=by
  unfold columnP;dsimp only;rw[tab_map];exact⟨rfl,rfl⟩
section
variable {c:List Value} {a b:Nat}
theorem lH_star (one:Bool):lH F (star L) ks iw ih c a b one=lH F L ks iw ih c a b one:=rfl
theorem lF2_h (hh:Int) (i:Nat):(lF2 F (star L) ks iw ih c a b hh i).h=(lF2 F L ks iw ih c a b hh i).h:=by
  unfold lF2
  split<;>rfl
theorem dec_star (k x y z u:Int):dec L (star L k x y z u)=L k x y z u:=by
  show ({L k x y z u with kids:=(L k x y z u).kids}:Frm)=_;cases L k x y z u;rfl
theorem lF2_dec (hh:Int) (i:Nat):dec L (lF2 F (star L) ks iw ih c a b hh i)=lF2 F L ks iw ih c a b hh i:=by
  unfold lF2
  split
  · exact dec_star _ _ _ _ _
  · exact dec_star _ _ _ _ _
theorem line_dec (one:Bool):lineP F L ks iw ih c a b one=(lineP F (star L) ks iw ih c a b one).map (dec L):=by
  unfold lineP;rw[tab_map,lH_star];refine tab_congr fun i _=>?_;have h:dec L (lOut F (star L) ks iw ih c a b (lH F L ks iw ih c a b one) i)={dec L (lF2 F (star L) ks iw ih c a b (lH F L ks iw ih c a b one) i) with x:=lStart F L ks iw ih c a b i+mS (kS F ks (a+i)) iw 3,y:=acrossP (val c 44) ((lF2 F (star L) ks iw ih c a b (lH F L ks iw ih c a b one) i).h+mD (kS F ks (a+i))) (lH F L ks iw ih c a b one)+mS (kS F ks (a+i)) iw 0}:=rfl;rw[h,lF2_dec,lF2_h];rfl
end
theorem rowN_dec {c:List Value} {ls:List (Nat×Nat)}:∀n,(rowN F L ks iw ih c ls n).1=(rowN F (star L) ks iw ih c ls n).1.map (dec L)∧(rowN F L ks iw ih c ls n).2=(rowN F (star L) ks iw ih c ls n).2
  | 0=>⟨rfl,rfl⟩
  | n + 1 => by
    obtain⟨h1,h2⟩:=rowN_dec (c:=c) (ls:=ls) n;simp only[rowN];rw[h1,h2,line_dec,lH_star];refine⟨?_,rfl⟩;rw[List.map_append,List.map_map,List.map_map];rfl
theorem row_dec (id:Int):(rowP F L ks iw ih id).1=(rowP F (star L) ks iw ih id).1.map (dec L)∧(rowP F L ks iw ih id).2=(rowP F (star L) ks iw ih id).2:=rowN_dec _
end
section
variable {F:Forest (List Value)} {L:LayF}
theorem inn_dec {id iw ih:Int}:(inP F L id iw ih).1=(inP F (star L) id iw ih).1.map (dec L)∧(inP F L id iw ih).2=(inP F (star L) id iw ih).2:=by
  unfold inP
  split
  · exact⟨rfl,rfl⟩
  · split
    · exact row_dec id
    · split
      · exact column_dec id
      · exact block_dec id
theorem apart_dec {ww wh iw ih k:Int} {s:List Value}:apartP F ww wh L s iw ih k=dec L (apartP F ww wh (star L) s iw ih k):=by
  unfold apartP
  split<;>rfl
theorem apart_kids {ww wh iw ih k:Int} {s:List Value}:∃rw rh sw sh,(apartP F ww wh (star L) s iw ih k).kids=[⟨k,rw,rh,sw,sh,[]⟩]:=by
  unfold apartP
  split<;>exact⟨_,_,_,_,rfl⟩
end
structure Out (F G:Forest (List Value)) (up id:Int) (k:Nat):Prop extends Ext F G up id k where
  leaf:kidsF G id=[]
  out:outB (stF G id)=true
def nk (f:Frm):Frm:={f with kids:=[]}
section
variable {F G:Forest (List Value)} {d d':Int→Nat} {up id:Int} {k:Nat}
theorem filt_insN {p:Int→Bool} {l:List Int} {x:Int} (hx:x∉l) (k:Nat):((insAt l k x).filter p).filter (· !=x)=l.filter p:=by
  rw[List.filter_filter];have h:∀y∈l,(y !=x&&p y)=p y:=fun y hy=>by
    have:y≠x:=fun e=>hx (e▸hy);simp[this]
  have h2:l.filter (fun y=>y !=x&&p y)=l.filter p:=List.filter_congr h;rw[←h2];exact filt_ins (p:=fun y=>y !=x&&p y) (by simp) k
theorem Out.kp (h:Out F G up id k) (hF:WF F d) (hG:WF G d') {x:Int} (hx:hasF F x=true):kidsP G x false=kidsP F x false:=by
  obtain⟨b,hb⟩:=some_has hx;unfold kidsP;have hq:(kidsF F x).filter (fun k=>shownF G k&&(outB (stF G k)==false))=(kidsF F x).filter (fun k=>shownF F k&&(outB (stF F k)==false)):=List.filter_congr fun k hk=>by
    have h1:=(kid_rank' hF hk).1;rw[h.sh hF hG h1,h.st h1]
  rw[←hq,kids_some (h.at hb),kids_some hb];simp only
  split
  · exact filt_ins (by rw[h.out];simp) k
  · rfl
theorem Out.kt (h:Out F G up id k) (hF:WF F d) (hG:WF G d') {x:Int} (hx:hasF F x=true):(kidsP G x true).filter (· !=id)=kidsP F x true:=by
  obtain⟨b,hb⟩:=some_has hx;have hn:id∉kidsF F x:=fun e=>by
    have:=(kid_rank' hF e).1;rw[h.new] at this;cases this
  unfold kidsP;have hq:(kidsF F x).filter (fun k=>shownF G k&&(outB (stF G k)==true))=(kidsF F x).filter (fun k=>shownF F k&&(outB (stF F k)==true)):=List.filter_congr fun k hk=>by
    have h1:=(kid_rank' hF hk).1;rw[h.sh hF hG h1,h.st h1]
  rw[←hq];have hkx:kidsF G x=if x=up then insAt (kidsF F x) k id else kidsF F x:=by rw[kids_some (h.at hb),kids_some hb]
  rw[hkx]
  split
  · exact filt_insN hn k
  · rw [List.filter_filter]
    exact List.filter_congr fun y hy=>by
      have:y≠id:=fun e=>hn (e▸hy);simp[this]
theorem Out.agr (h:Out F G up id k) (hF:WF F d) (hG:WF G d'):Agr F G (fun x=>hasF F x=true):=by
  refine⟨fun x hx=>h.st hx,fun x hx=>h.kp hF hG hx,fun x k hx hk=>(kid_rank' hF hk).1,fun x hx=>h.upF hx,fun x hx h0=>?_⟩
  rcases up_old hF hx with h1 | h1
  · exact h1
  · rw[h1] at h0;omega
def allK (id:Int) (n:Nat) (l:List Frm):List Frm:=((l.flatMap (flatN n)).map nk).filter (fun f=>f.id !=id)
theorem allK_cons (n:Nat) (f:Frm) (l:List Frm):allK id n (f::l)=allK id n [f]++allK id n l:=by
  unfold allK;rw[List.flatMap_cons,List.map_append,List.filter_append,List.flatMap_singleton]
theorem allK_append (n:Nat) (l m:List Frm):allK id n (l++m)=allK id n l++allK id n m:=by
  unfold allK;rw[List.flatMap_append,List.map_append,List.filter_append]
theorem allK_one (n:Nat) (f:Frm):allK id (n+1) [f]=(if f.id !=id then [nk f] else [])++allK id n f.kids:=by
  unfold allK;rw[List.flatMap_singleton,flatN,List.map_cons,List.filter_cons];have:(nk f).id=f.id:=rfl;rw[this]
  split<;>rfl
theorem allK_zero (l:List Frm):allK id 0 l=[]:=by
  unfold allK;have:l.flatMap (flatN 0)=[]:=List.flatMap_eq_nil_iff.2 fun _ _=>rfl;rw[this];rfl
theorem allK_map {α:Type} (n:Nat) {u v:α→Frm}:∀{l:List α},(∀x∈l,allK id n [u x]=allK id n [v x])→allK id n (l.map u)=allK id n (l.map v)
  | [],_=>rfl
  | x :: l, h => by
    rw[List.map_cons,List.map_cons,allK_cons,allK_cons n (v x),h x (by simp),allK_map n fun y hy=>h y (by simp[hy])]
theorem allK_drop {n:Nat} {u:Int→Frm} (h:allK id n [u id]=[]):∀l:List Int,allK id n (l.map u)=allK id n ((l.filter (· !=id)).map u)
  | []=>rfl
  | x :: l => by
    rw[List.map_cons,allK_cons,allK_drop h l,List.filter_cons]
    by_cases e:x=id
    · rw[e,h];simp
    · rw [if_pos (by simpa using e), List.map_cons]
      exact(allK_cons n (u x) _).symm
theorem LB.star {L:LayF} {k:Int} (h:LB L k):LB (star L) k:=h
theorem leaf_kids (hl:kidsF G id=[]) (ww wh:Int):∀(m:Nat) (a b c e:Int),(layN G ww wh m id a b c e).kids=[]
  | 0,_,_,_,_=>rfl
  | m + 1, a, b, c, e => by
    have hk:∀q,kidsP G id q=[]:=fun q=>by unfold kidsP;rw[hl];rfl
    show (layStep G ww wh (layN G ww wh m) id a b c e).kids=[];unfold layStep inP;rw[hk,hk,if_pos rfl];rfl
theorem same_dec {L L':LayF} {g:Frm} {j:Int} {rw' rh sw sh:Int} (hk:g.kids=[⟨j,rw',rh,sw,sh,[]⟩]) (hj:∀n,allK id n (L' j rw' rh sw sh).kids=allK id n (L j rw' rh sw sh).kids) {v v':Frm→Frm} (hv:nk (v' (dec L' g))=nk (v (dec L g))) (h1:(v' (dec L' g)).kids=(dec L' g).kids) (h2:(v (dec L g)).kids=(dec L g).kids):∀n,allK id n [v' (dec L' g)]=allK id n [v (dec L g)]
  | 0=>by rw[allK_zero,allK_zero]
  | n + 1 => by
    have hi:(v' (dec L' g)).id=(v (dec L g)).id:=by have h3:=congrArg Frm.id hv;exact h3
    rw[allK_one,allK_one,hv,hi,h1,h2];have e1:(dec L' g).kids=(L' j rw' rh sw sh).kids:=by unfold dec;rw[hk];rfl
    have e2:(dec L g).kids=(L j rw' rh sw sh).kids:=by unfold dec;rw[hk];rfl
    rw[e1,e2,hj n]
theorem Out.lay (h:Out F G up id k) (hF:WF F d) (hG:WF G d') (hg:∀x,GS (stF F x)) (ww wh:Int):∀(m:Nat) (j:Int),hasF F j=true→∀rw' rh sw sh,nk (layN G ww wh m j rw' rh sw sh)=nk (layN F ww wh m j rw' rh sw sh)∧∀n,allK id n (layN G ww wh m j rw' rh sw sh).kids=allK id n (layN F ww wh m j rw' rh sw sh).kids
  | 0,_,_,_,_,_,_=>⟨rfl,fun _=>rfl⟩
  | m + 1, j, hj, rw', rh, sw, sh => by
    have ag:=h.agr hF hG;have ih:=fun i hi=>Out.lay h hF hG hg ww wh m i hi;show nk (layStep G ww wh (layN G ww wh m) j rw' rh sw sh)=nk (layStep F ww wh (layN F ww wh m) j rw' rh sw sh)∧∀n,allK id n (layStep G ww wh (layN G ww wh m) j rw' rh sw sh).kids=allK id n (layStep F ww wh (layN F ww wh m) j rw' rh sw sh).kids;have hL:∀i,LB (layN F ww wh m) i:=fun i=>layN_LB ww wh (hg i) m
    generalize hLG:layN G ww wh m=LG at*
    generalize hLF:layN F ww wh m=LF at*
    have hs:∀i,hasF F i=true→SameL (star LG) (star LF) i:=fun i hi a b c e=>by
      have h1:=(ih i hi a b c e).1;show ({nk (LG i a b c e) with kids:=[⟨i,a,b,c,e,[]⟩]}:Frm)={nk (LF i a b c e) with kids:=[⟨i,a,b,c,e,[]⟩]};rw[h1]
    have hkid:∀i∈kidsF F j,hasF F i=true:=fun i hi=>(kid_rank' hF hi).1;have hin:∀iw ihh,inP G (star LG) j iw ihh=inP F (star LF) j iw ihh:=fun iw ihh=>(ag.inn (L:=star LG) hj).trans (inP_same fun i hi=>hs i (hkid i hi));have hG1:∀iw ihh,(inP G LG j iw ihh).1=(inP F (star LF) j iw ihh).1.map (dec LG)∧(inP G LG j iw ihh).2=(inP F (star LF) j iw ihh).2:=fun iw ihh=>by
      have h1:=inn_dec (F:=G) (L:=LG) (id:=j) (iw:=iw) (ih:=ihh);rw[hin] at h1;exact h1
    have hF1:∀iw ihh,(inP F LF j iw ihh).1=(inP F (star LF) j iw ihh).1.map (dec LF)∧(inP F LF j iw ihh).2=(inP F (star LF) j iw ihh).2:=fun iw ihh=>inn_dec;have hst:=ag.st j hj;unfold layStep;rw[hst,(hG1 _ _).1,(hG1 _ _).2,(hF1 _ _).1,(hF1 _ _).2];refine⟨rfl,fun n=>?_⟩;dsimp only;rw[allK_append,allK_append,List.map_map,List.map_map]
    congr 1
    · refine allK_map n fun g hgm => ?_
      have hids:=in_ids (F:=F) (L:=star LF) (id:=j) (iw:=iwP (stF F j) rw' sw) (ih:=ihP (stF F j) rh sh) fun i _=>(hL i).star;have hgi:g.id∈kidsP F j false:=by rw[←hids.1];exact List.mem_map.2 ⟨g,hgm,rfl⟩
      have hgo:=hkid _ (kidsP_sub hgi);obtain⟨a,b,c,e,_,_,hgk⟩:=hids.2 g hgm;refine same_dec (v':=moveF G _ _ _) (v:=moveF F _ _ _) hgk (fun n=>(ih g.id hgo a b c e).2 n) ?_ rfl rfl n;unfold moveF nk;have:stF G (dec LG g).id=stF F (dec LF g).id:=ag.st g.id hgo;rw[this];rfl
    · have hleaf:allK id n [apartP G ww wh LG (stF F j) (iwP (stF F j) rw' sw) (ihEnd (stF F j) rh (ihP (stF F j) rh sh) (inP F (star LF) j (iwP (stF F j) rw' sw) (ihP (stF F j) rh sh)).2) id]=[]:=by
        cases n with
        | zero=>exact allK_zero _
        | succ n =>
          have hi:(apartP G ww wh LG (stF F j) (iwP (stF F j) rw' sw) (ihEnd (stF F j) rh (ihP (stF F j) rh sh) (inP F (star LF) j (iwP (stF F j) rw' sw) (ihP (stF F j) rh sh)).2) id).id=id∧(apartP G ww wh LG (stF F j) (iwP (stF F j) rw' sw) (ihEnd (stF F j) rh (ihP (stF F j) rh sh) (inP F (star LF) j (iwP (stF F j) rw' sw) (ihP (stF F j) rh sh)).2) id).kids=[]:=by
            have hid:∀a b c e,(LG id a b c e).id=id:=fun a b c e=>by rw[←hLG];cases m<;>rfl
            have hkd:∀a b c e,(LG id a b c e).kids=[]:=fun a b c e=>by rw[←hLG];exact leaf_kids h.leaf ww wh m a b c e
            unfold apartP
            split
            · exact⟨hid _ _ _ _,hkd _ _ _ _⟩
            · exact⟨hid _ _ _ _,hkd _ _ _ _⟩
          rw[allK_one,hi.1,hi.2];simp[allK]
      rw[allK_drop hleaf,h.kt hF hG hj];refine allK_map n fun i hi=>?_;have hio:=hkid i (kidsP_sub hi);rw[apart_dec (F:=G),apart_dec (F:=F),ag.apart (L:=star LG) hio,apartP_same (hs i hio)];obtain⟨a,b,c,e,hk⟩:=apart_kids (F:=F) (L:=LF) (ww:=ww) (wh:=wh) (iw:=iwP (stF F j) rw' sw) (ih:=ihEnd (stF F j) rh (ihP (stF F j) rh sh) (inP F (star LF) j (iwP (stF F j) rw' sw) (ihP (stF F j) rh sh)).2) (k:=i) (s:=stF F j);exact same_dec (v':=fun f=>f) (v:=fun f=>f) hk (fun n=>(ih i hio a b c e).2 n) rfl rfl rfl n
theorem Out.all (h:Out F G up id k) (hF:WF F d) (hG:WF G d') (hg:∀x,GS (stF F x)) (w hh:Int):((allP G w hh).map nk).filter (fun f=>f.id !=id)=((allP F w hh).map nk).filter (fun f=>f.id !=id):=by
  have h0:hasF F 0=true:=by obtain⟨b,hb,_⟩:=hF.root;exact has_some hb
  have h1:=h.lay hF hG hg (max w 0) (max hh 0) 64 0 h0 (max w 0) (max hh 0) (-1) (-1);have e:∀f:Frm,((flatN 64 f).map nk).filter (fun f=>f.id !=id)=allK id 64 [f]:=fun f=>by unfold allK;rw[List.flatMap_singleton]
  unfold allP LAY;rw[h.sh hF hG h0]
  split
  · rw[e,e,show (64:Nat)=63+1 from rfl,allK_one,allK_one,←show (64:Nat)=63+1 from rfl,h1.1,h1.2 63,show (layN G (max w 0) (max hh 0) 64 0 (max w 0) (max hh 0) (-1) (-1)).id=(layN F (max w 0) (max hh 0) 64 0 (max w 0) (max hh 0) (-1) (-1)).id from by have h3:=congrArg Frm.id h1.1;exact h3]
  · rfl
theorem setR_ok {v:List Value→Bool} {i:Int} {s:List Value} (h:(setR v F i s).2=0):(setR v F i s).1=setG F i s:=by
  unfold setR at*
  split at h
  · simp at h
  · rename_i h1
    rw[if_neg h1]
    split at h
    · simp at h
    · rename_i h2
      rw[if_neg h2]
theorem out_two (hF:WF F d) {up a:Int} {s:List Value} (h:(addR zeroS F up a).2.2=0) (h2:(setR validB (addR zeroS F up a).1 (addR zeroS F up a).2.1 s).2=0) (ho:outB s=true):Out F (setR validB (addR zeroS F up a).1 (addR zeroS F up a).2.1 s).1 up (addR zeroS F up a).2.1 a.toNat:=by
  obtain⟨e1,e2,e3,e4⟩:=addR_ok hF h;rw[setR_ok h2,e1,e2];have hu:least F≠up:=fun e=>by rw[e,e4] at e3;cases e3
  have hi:addG F up a.toNat (least F) zeroS (least F)=some ⟨up,[],zeroS⟩:=by unfold addG;rw[if_neg hu,if_pos rfl]
  have hs:setG (addG F up a.toNat (least F) zeroS) (least F) s (least F)=some ⟨up,[],s⟩:=by unfold setG;rw[if_pos rfl,hi];rfl
  refine⟨⟨fun x hx=>?_,e3⟩,by rw[kids_some hs],by rw[show stF (setG (addG F up a.toNat (least F) zeroS) (least F) s) (least F)=s by simp[styF,hs]];exact ho⟩;unfold setG;rw[if_neg (fun e=>by rw[e,e3] at hx;cases hx)]
theorem MapOf.but {m m':List (Int×Value)} {l l':List Frm} (h:MapOf m l) (h':MapOf m' l') (hl:(l'.map nk).filter (fun f=>f.id !=id)=(l.map nk).filter (fun f=>f.id !=id)) {y:Int} (hy:y≠id):lookM m' y=lookM m y:=by
  have key:∀{l1 l2:List Frm},(l1.map nk).filter (fun f=>f.id !=id)=(l2.map nk).filter (fun f=>f.id !=id)→∀f∈l1,f.id=y→∃f'∈l2,f'.id=y∧rectV f'=rectV f:=fun {l1 l2} e f hf hi=>by
    have h1:nk f∈(l1.map nk).filter (fun f=>f.id !=id):=List.mem_filter.2 ⟨List.mem_map.2 ⟨f,hf,rfl⟩,by show (f.id !=id)=true;rw[hi];simpa using hy⟩;rw[e] at h1;obtain⟨f',hf',he⟩:=List.mem_map.1 (List.mem_filter.1 h1).1;refine⟨f',hf',by have h3:=congrArg Frm.id he;exact h3.trans hi,?_⟩;have hx:=congrArg rectV he;exact hx
  by_cases hh:∃f∈l,f.id=y
  · obtain ⟨f, hf, hi⟩ := hh
    obtain⟨f',hf',hi',hr⟩:=key hl.symm f hf hi;have a1:=h.2.1 f hf;have a2:=h'.2.1 f' hf';rw[hi] at a1;rw[hi'] at a2;rw[a1,a2,hr]
  · have hn : ∀ f ∈ l, f.id ≠ y := fun f hf e => hh ⟨f, hf, e⟩
    rw[h.2.2 y hn,h'.2.2 y fun f hf e=>by obtain⟨f',hf',hi',_⟩:=key hl f hf e;exact hn f' hf' hi']
end
theorem lawOut_ct (A:Option Addr) (c:Nat) (l:List AC) (up at_:Int) (cs:List Value) (hs:SOk cs) (wd ht:Int):Ct Tryz.prog 9 #[.slice A l.length c,.int .i64 up,.int .i64 at_,.agg cs.toArray,.int .i64 wd,.int .i64 ht] [] (fun w=>RdE w A 59 encA l) (X:=Unit) (fun _=>.bool true) (fun _=>True) (fun _=>[]):=by
  refine Ct.intro Tryz.func9 rfl Tryz.ntmps9 (by simp) (fun w0 hz=>?_);refine sqR ?_;refine WPL.ef (x_boxA (us:=cs) (σ':=fun _=>[_]) rfl (fun _=>rfl)) (fun b9=>?_);refine sg (v:=.bool false) rfl ?_;refine nl (oo ?_);refine sqR ?_;refine WPL.ef (x_call Tryz.call10 fworks_ct [] [0] rfl (fun w hw=>trivial) (τ:=fun _=>[_]) (fun _=>rfl)) (fun _=>?_);refine WPL.fact (fun _=>?_);refine sgB rfl ?_;refine nl (oo ?_);refine sq ?_;refine sqR ?_;refine mvB rfl ?_;refine vl (v_not rfl) ?_;refine nl (oo ?_);refine WP.condF rfl ?_;refine WP.skip (onto_of ?_);refine sqR ?_;refine mvS rfl ?_;refine WPL.ef (x_call Tryz.call22 (grown_ct A c l) [] [0] rfl (fun w hw=>hw.rd hz noNil) (τ:=fun _=>[_,_,_]) (fun _=>rfl)) (fun⟨gb,tp,mb,es,rp,g,bc,bs⟩=>?_);refine WPL.fact (fun hgr=>?_);dsimp only at hgr;refine mv rfl ?_;refine vl (v_extract (v:=.pointer _) rfl rfl) ?_;refine vl (v_extract (v:=.pointer _) rfl rfl) ?_;refine vl (v_extract (v:=.bool _) rfl rfl) ?_;refine sgP rfl ?_;refine sgP rfl ?_;refine sgB rfl ?_;refine nl (oo ?_);refine sq ?_;refine sqR ?_;refine mvB rfl ?_;refine vl (v_not rfl) ?_;refine mvB rfl ?_;refine WPL.splitB 38 rfl (fun h38=>?_) (fun h38=>?_)
  ·refine sk ?_;refine sk ?_;refine vl (v_pickT (u:=.bool _) rfl rfl) ?_;refine mvB rfl ?_;refine sk ?_;refine sk ?_;refine vl (v_pickT (u:=.bool _) rfl rfl) ?_;refine mvB rfl ?_;refine sk ?_;refine sk ?_;refine sk ?_;refine vl (v_pickT (u:=.bool _) rfl rfl) ?_;refine mvB rfl ?_;refine sk ?_;refine sk ?_;refine sk ?_;refine sk ?_;refine sk ?_;refine sk ?_;refine sk ?_;refine sk ?_;refine vl (v_pickT (u:=.bool _) rfl rfl) ?_;refine nl (oo ?_);refine WP.condT rfl ?_;refine sqR ?_;refine mvB rfl ?_;refine sgB rfl ?_;refine nl (oo ?_);exact WP.ret1 Tryz.results9 (fun _ h=>h) (fun w hw=>⟨(),rfl,trivial,hw.sel [] (by decide)⟩)
  ·refine vg (v_move (v:=.int .i64 _) rfl) ?_;refine vg (v_gtr rfl rfl) ?_;refine vl (v_pickF (v:=.bool _) rfl rfl) ?_;refine mvB rfl ?_;refine WPL.split 42 rfl (fun h42=>?_) (fun h42=>?_)
   ·refine sk ?_;refine sk ?_;refine vl (v_pickT (u:=.bool _) rfl rfl) ?_;refine mvB rfl ?_;refine sk ?_;refine sk ?_;refine sk ?_;refine vl (v_pickT (u:=.bool _) rfl rfl) ?_;refine mvB rfl ?_;refine sk ?_;refine sk ?_;refine sk ?_;refine sk ?_;refine sk ?_;refine sk ?_;refine sk ?_;refine sk ?_;refine vl (v_pickT (u:=.bool _) rfl rfl) ?_;refine nl (oo ?_);refine WP.condT rfl ?_;refine sqR ?_;refine mvB rfl ?_;refine sgB rfl ?_;refine nl (oo ?_);exact WP.ret1 Tryz.results9 (fun _ h=>h) (fun w hw=>⟨(),rfl,trivial,hw.sel [] (by decide)⟩)
   ·refine vg (v_move (v:=.int .i64 _) rfl) ?_;refine vg (v_gtr rfl rfl) ?_;refine vl (v_pickF (v:=.bool _) rfl rfl) ?_;refine mvB rfl ?_;refine WPL.split 46 rfl (fun h46=>?_) (fun h46=>?_)
    ·refine sk ?_;refine sk ?_;refine sk ?_;refine vl (v_pickT (u:=.bool _) rfl rfl) ?_;refine mvB rfl ?_;refine sk ?_;refine sk ?_;refine sk ?_;refine sk ?_;refine sk ?_;refine sk ?_;refine sk ?_;refine sk ?_;refine vl (v_pickT (u:=.bool _) rfl rfl) ?_;refine nl (oo ?_);refine WP.condT rfl ?_;refine sqR ?_;refine mvB rfl ?_;refine sgB rfl ?_;refine nl (oo ?_);exact WP.ret1 Tryz.results9 (fun _ h=>h) (fun w hw=>⟨(),rfl,trivial,hw.sel [] (by decide)⟩)
    ·refine vg (v_loadA (cs:=cs) Tryz.isAgg36 Tryz.sizeOf36 rfl (fun w hw=>hw.cl_at (i:=0) rfl 0 (whole _)) (SOk.len hs)) ?_;refine WPL.efG (x_call Tryz.call11 (tame_ct cs hs) [] [0,1,2] rfl (fun w hw=>trivial) (τ:=fun _=>[_,_,_]) (fun _=>rfl)) (fun tb=>?_);refine WPL.fact (fun _=>?_);refine vg (v_not rfl) ?_;refine vl (v_pickF (v:=.bool _) rfl rfl) ?_;refine mvB rfl ?_;refine WPL.splitB 51 rfl (fun h51=>?_) (fun h51=>?_)
     ·refine sk ?_;refine sk ?_;refine sk ?_;refine sk ?_;refine sk ?_;refine sk ?_;refine sk ?_;refine sk ?_;refine vl (v_pickT (u:=.bool _) rfl rfl) ?_;refine nl (oo ?_);refine WP.condT rfl ?_;refine sqR ?_;refine mvB rfl ?_;refine sgB rfl ?_;refine nl (oo ?_);exact WP.ret1 Tryz.results9 (fun _ h=>h) (fun w hw=>⟨(),rfl,trivial,hw.sel [] (by decide)⟩)
     ·refine vg (v_fieldL (o':=1) Tryz.underlying36 rfl Tryz.sizeOf23 rfl rfl) ?_;refine vg (v_load1 (u:=.int .i64 (val cs 1)) Tryz.isAgg23 rfl (fun w hw=>hw.cl_at (i:=0) rfl 1 (cell_of (SOk.int hs 1 (by decide) rfl)))) ?_;refine vg (v_neq rfl rfl) ?_;refine vg (v_move (v:=.bool _) rfl) ?_;refine WPL.split 55 rfl (fun h55=>?_) (fun h55=>?_)
      ·refine vg (v_fieldL (o':=1) Tryz.underlying36 rfl Tryz.sizeOf23 rfl rfl) ?_;refine vg (v_load1 (u:=.int .i64 (val cs 1)) Tryz.isAgg23 rfl (fun w hw=>hw.cl_at (i:=0) rfl 1 (cell_of (SOk.int hs 1 (by decide) rfl)))) ?_;refine vg (v_neq rfl rfl) ?_;refine vg (v_pickT (u:=.bool _) rfl rfl) ?_;refine vl (v_pickF (v:=.bool _) rfl rfl) ?_;refine nl (oo ?_);refine WP.condP rfl (fun h60=>?_) (fun h60=>?_)
       ·refine sqR ?_;refine mvB rfl ?_;refine sgB rfl ?_;refine nl (oo ?_);exact WP.ret1 Tryz.results9 (fun _ h=>h) (fun w hw=>⟨(),rfl,trivial,hw.sel [] (by decide)⟩)
       ·refine WP.skip (onto_of ?_);refine sq ?_;have hout:outB cs=true:=by unfold outB;simp only[Bool.or_eq_true,decide_eq_true_eq];omega
        obtain⟨hl30,hFo,hk,hab,hkr⟩:=hgr (by simpa using h38);obtain⟨d,hF0⟩:=AF_wf l;have hF:WF (FoR es) d:=by rw[hFo];exact hF0
        have hFr:WF (absR bs) d:=by rw[hab];exact hF
        have hgs:∀x,GS (stF (FoR es) x):=by rw[hFo];exact(AF_all l).st
        have hgr2:∀x,GS (stF (absR bs) x):=by rw[hab];exact hgs
        have hlf:=AF_few l;have hK:∀x,(kidsF (FoR es) x).length≤64:=fun x=>Nat.le_trans (kids_few (n:=31) hF (by rw[hFo];omega) x) (by decide);have hKr:∀x,(kidsF (absR bs) x).length≤64:=by rw[hab];exact hK
        have hT0:TOk es 31:=⟨hk,⟨d,hF⟩,by rw[hFo];exact AF_all l,by rw[hFo];omega⟩;refine WP.region ?_;refine mvP rfl ?_;refine mvI rfl ?_;refine mvI rfl ?_;refine WPL.ef (x_call Tryz.call15 (flowLay_ct tp mb es hk hF hgs hK wd ht (by omega) (by omega)) [1] [0,2] rfl (fun w hw=>trivial) (τ:=fun _=>[_,_,_,_]) (fun _=>rfl)) (fun⟨mp,ps⟩=>?_);refine WPL.fact (fun hps=>?_);have hmo:=mapOf hps (all_nodup hF hgs wd ht);refine sg (v:=.map _) rfl ?_;refine nl (oo ?_);refine sqR ?_;refine mvP rfl ?_;refine mvI rfl ?_;refine mvI rfl ?_;refine WPL.ef (x_call Tryz.call13 (add_ct tp mb es hk hF up at_) [2] [0,1,3] rfl (fun w hw=>trivial) (τ:=fun _=>[_,_,_,_]) (fun _=>rfl)) (fun es1=>?_);refine WPL.fact (fun hf1=>?_);have hT1:=hT0.add hf1.1 hf1.2;obtain⟨d1,hF1⟩:=hT1.2.1;refine mv rfl ?_;refine vl (v_extract (v:=.int .i64 _) rfl rfl) ?_;refine vl (v_extract (v:=.int .i64 _) rfl rfl) ?_;refine sgI rfl ?_;refine sgI rfl ?_;refine nl (oo ?_);refine sq ?_;refine sqR ?_;refine mvI rfl ?_;refine vl (v_neq rfl rfl) ?_;refine mvB rfl ?_;refine WPL.split 75 rfl (fun h75=>?_) (fun h75=>?_)
        ·refine sk ?_;refine sk ?_;refine sk ?_;refine sk ?_;refine vl (v_pickT (u:=.bool _) rfl rfl) ?_;refine mvB rfl ?_;refine sk ?_;refine sk ?_;refine sk ?_;refine sk ?_;refine sk ?_;refine vl (v_pickT (u:=.bool _) rfl rfl) ?_;refine nl (oo ?_);refine WP.condT rfl ?_;refine sqR ?_;refine mvB rfl ?_;refine sgB rfl ?_;refine nl (oo ?_);exact WP.ret1 Tryz.results9 (fun _ h=>h) (fun w hw=>⟨(),rfl,trivial,hw.sel [] (by decide)⟩)
        ·refine vg (v_move (v:=.pointer _) rfl) ?_;refine vg (v_move (v:=.int .i64 _) rfl) ?_;refine WPL.efG (x_call Tryz.call33 (depth_ct tp mb es1 hf1.2 hF1 (addR zeroS (FoR es) up at_).2.1) [3] [0,1,2] rfl (fun w hw=>trivial) (τ:=fun _=>[_,_,_,_]) (fun _=>rfl)) (fun _=>?_);refine WPL.fact (fun _=>?_);refine vg (v_gtr rfl rfl) ?_;refine vl (v_pickF (v:=.bool _) rfl rfl) ?_;refine mvB rfl ?_;refine WPL.split 81 rfl (fun h81=>?_) (fun h81=>?_)
         ·refine sk ?_;refine sk ?_;refine sk ?_;refine sk ?_;refine sk ?_;refine vl (v_pickT (u:=.bool _) rfl rfl) ?_;refine nl (oo ?_);refine WP.condT rfl ?_;refine sqR ?_;refine mvB rfl ?_;refine sgB rfl ?_;refine nl (oo ?_);exact WP.ret1 Tryz.results9 (fun _ h=>h) (fun w hw=>⟨(),rfl,trivial,hw.sel [] (by decide)⟩)
         ·refine vg (v_move (v:=.pointer _) rfl) ?_;refine vg (v_move (v:=.int .i64 _) rfl) ?_;refine vg (v_loadA (cs:=cs) Tryz.isAgg36 Tryz.sizeOf36 rfl (fun w hw=>hw.cl_at (i:=0) rfl 0 (whole _)) (SOk.len hs)) ?_;refine WPL.efG (x_call Tryz.call14 (set_ct tp mb es1 hf1.2 (addR zeroS (FoR es) up at_).2.1 cs hs) [3] [0,1,2] rfl (fun w hw=>trivial) (τ:=fun _=>[_,_,_,_]) (fun _=>rfl)) (fun es2=>?_);refine WPL.fact (fun hf2=>?_);refine vg (v_neq rfl rfl) ?_;refine vl (v_pickF (v:=.bool _) rfl rfl) ?_;refine nl (oo ?_);refine WP.condP rfl (fun h87=>?_) (fun h87=>?_)
          ·refine sqR ?_;refine mvB rfl ?_;refine sgB rfl ?_;refine nl (oo ?_);exact WP.ret1 Tryz.results9 (fun _ h=>h) (fun w hw=>⟨(),rfl,trivial,hw.sel [] (by decide)⟩)
          ·have hO:Out (FoR es) (FoR es2) up (addR zeroS (FoR es) up at_).2.1 at_.toNat:=by
             have h1:(setR validB (FoR es1) (addR zeroS (FoR es) up at_).2.1 cs).2=0:=by omega
             rw[hf2.1];rw[hf1.1] at h1 ⊢;exact out_two hF (by omega) h1 hout
           have hT2:=hT1.set hs hf2.1 hf2.2;obtain⟨d2,hF2⟩:=hT2.2.1;have hg2:=hT2.2.2.1.st;have hall:=hO.all hF hF2 hgs wd ht;refine WP.skip (onto_of ?_);refine sqR ?_;refine mvP rfl ?_;refine mvI rfl ?_;refine mvI rfl ?_;refine WPL.ef (x_call Tryz.call15 (flowLay_ct tp mb es2 hT2.1 hF2 hg2 (hT2.kids (by decide)) wd ht (by omega) (by omega)) [3] [0,1,2] rfl (fun w hw=>trivial) (τ:=fun _=>[_,_,_,_,_]) (fun _=>rfl)) (fun⟨mp2,ps2⟩=>?_);refine WPL.fact (fun hps2=>?_);have hmo2:=mapOf hps2 (all_nodup hF2 hg2 wd ht);refine sg (v:=.map _) rfl ?_;refine nl (oo ?_);refine sqR ?_;refine mvP rfl ?_;refine WPL.ef (x_call Tryz.call30 (order_ct tp mb es2 hT2.1 hF2) [3] [0,1,2,4] rfl (fun w hw=>trivial) (τ:=fun _=>[_,_,_,_,_,_]) (fun _=>rfl)) (fun⟨A6,c6⟩=>?_);refine WPL.fact (fun _=>?_);have hol:(order (FoR es2)).length≤4096:=hF2.len_le 0;refine sgS rfl ?_;refine nl (oo ?_);refine sq ?_;refine sqR ?_;refine sg (v:=.int .i64 (0)) rfl ?_;refine nl (oo ?_);refine WP.block ?_;refine WP.loopK (X:=Nat) [13,17,18,20,21] (fun k=>[(22,.int .i64 (k:Int))]) (fun k w=>k≤(order (FoR es2)).length∧St w0 (foots []) [treeI tp mb es2,mapI mp (putAll ps),mapI mp2 (putAll ps2),kidsI A6 (order (FoR es2)).length c6 (order (FoR es2))] w) (fun k=>(order (FoR es2)).length - k) 0 ⟨rfl,trivial⟩ (fun w hw=>⟨Nat.zero_le _,(hw.sel [4,2,3,5] (by decide))⟩) (fun k ρ0=>?_);refine WP.fact (fun hkn=>?_);refine sq ?_;refine sqR ?_;refine mvI rfl ?_;refine mvS rfl ?_;refine vl (v_len Tryz.underlying55 rfl) ?_;refine vl (v_lss rfl rfl) ?_;refine nl (oo ?_);refine WP.condP rfl (fun h98=>?_) (fun h98=>?_)
           ·obtain⟨y,hy⟩:∃y,(order (FoR es2))[k]?=some y:=⟨_,List.getElem?_eq_getElem (by omega)⟩;obtain⟨_,ra1,ra2,ra3,ra4,hlv⟩:=MapOf.look hmo hmo y;obtain⟨_,rb1,rb2,rb3,rb4,hlw⟩:=MapOf.look hmo2 hmo2 y;have hbt:y≠(addR zeroS (FoR es) up at_).2.1→lookM (putAll ps2) y=lookM (putAll ps) y:=fun h=>MapOf.but hmo hmo2 hall h;have hab:y≠(addR zeroS (FoR es) up at_).2.1→ra1=rb1∧ra2=rb2∧ra3=rb3∧ra4=rb4:=fun h=>by
              have h1:=hlw;rw[hbt h] at h1
              simpa using hlv.symm.trans h1
            refine WP.holds (fun w hw=>hw.row_pos (i:=3) rfl (by omega)) (fun⟨rb,hA⟩=>?_);subst hA;refine WP.skip (onto_of ?_);refine sq ?_;refine WP.block ?_;refine sqR ?_;refine mv (v:=.map _) rfl ?_;refine mvS rfl ?_;refine mvI rfl ?_;refine vl (v_index (j:=k) Tryz.underlying55 Tryz.sizeOf3 rfl rfl rfl (by omega)) ?_;refine vl (v_load1 (u:=.int .i64 _) Tryz.isAgg3 rfl (fun w hw=>hw.row_at1 (i:=3) rfl (by rw[List.getElem?_map,hy];rfl) (by omega))) ?_;refine vl (v_of (v_lookupOk (m:=putAll ps) (k:=y) (z:=.agg #[.int .i64 0,.int .i64 0,.int .i64 0,.int .i64 0]) Tryz.underlying47 Tryz.underlying3 Tryz.zeroValue46 rfl rfl (fun w hw=>hw.mapAt (i:=1) rfl)) (v':=.tuple #[.agg #[.int .i64 ra1,.int .i64 ra2,.int .i64 ra3,.int .i64 ra4],.bool (lookM (putAll ps) y).isSome]) (by rw[hlv])) ?_;refine mv rfl ?_;refine vl (v_extract (v:=.agg _) rfl rfl) ?_;refine vl (v_extract (v:=.bool _) rfl rfl) ?_;refine WPL.ef (x_alloc (us:=[_,_,_,_]) (σ':=fun _=>[_,_,_,_,_]) Tryz.zeroValue46 rfl (fun _=>rfl)) (fun b23=>?_);refine WPL.ef0 (x_storeW (us:=[.int .i64 _,.int .i64 _,.int .i64 _,.int .i64 _]) (σ':=[_,_,_,_,.cl _ _ [_,_,_,_]]) Tryz.sizeOf46 rfl rfl (i:=4) rfl rfl rfl (by simp[Value.oneCell'])) (fun _=>?_);refine sgB rfl ?_;refine nl (oo ?_);refine sqR ?_;refine mv (v:=.map _) rfl ?_;refine mvS rfl ?_;refine mvI rfl ?_;refine vl (v_index (j:=k) Tryz.underlying55 Tryz.sizeOf3 rfl rfl rfl (by omega)) ?_;refine vl (v_load1 (u:=.int .i64 _) Tryz.isAgg3 rfl (fun w hw=>hw.row_at1 (i:=3) rfl (by rw[List.getElem?_map,hy];rfl) (by omega))) ?_;refine vl (v_of (v_lookupOk (m:=putAll ps2) (k:=y) (z:=.agg #[.int .i64 0,.int .i64 0,.int .i64 0,.int .i64 0]) Tryz.underlying47 Tryz.underlying3 Tryz.zeroValue46 rfl rfl (fun w hw=>hw.mapAt (i:=2) rfl)) (v':=.tuple #[.agg #[.int .i64 rb1,.int .i64 rb2,.int .i64 rb3,.int .i64 rb4],.bool (lookM (putAll ps2) y).isSome]) (by rw[hlw])) ?_;refine mv rfl ?_;refine vl (v_extract (v:=.agg _) rfl rfl) ?_;refine vl (v_extract (v:=.bool _) rfl rfl) ?_;refine WPL.ef (x_alloc (us:=[_,_,_,_]) (σ':=fun _=>[_,_,_,_,_,_]) Tryz.zeroValue46 rfl (fun _=>rfl)) (fun b25=>?_);refine WPL.ef0 (x_storeW (us:=[.int .i64 _,.int .i64 _,.int .i64 _,.int .i64 _]) (σ':=[_,_,_,_,_,.cl _ _ [_,_,_,_]]) Tryz.sizeOf46 rfl rfl (i:=5) rfl rfl rfl (by simp[Value.oneCell'])) (fun _=>?_);refine sgB rfl ?_;refine nl (oo ?_);refine sqR ?_;refine mvS rfl ?_;refine mvI rfl ?_;refine vl (v_index (j:=k) Tryz.underlying55 Tryz.sizeOf3 rfl rfl rfl (by omega)) ?_;refine vl (v_load1 (u:=.int .i64 _) Tryz.isAgg3 rfl (fun w hw=>hw.row_at1 (i:=3) rfl (by rw[List.getElem?_map,hy];rfl) (by omega))) ?_;refine mvI rfl ?_;refine vl (v_neq rfl rfl) ?_;refine mvB rfl ?_;refine WPL.split 125 rfl (fun h125=>?_) (fun h125=>?_)
            case' _=>
             refine vg (v_move (v:=.bool _) rfl) ?_;refine vg (v_move (v:=.bool _) rfl) ?_;refine vg (v_is (b:=false) (v_neB Tryz.underlying4 rfl rfl) (by rw[hbt h125];simp)) ?_;refine vg (v_move (v:=.bool _) rfl) ?_;refine vg (v_loadA (cs:=[.int .i64 _,.int .i64 _,.int .i64 _,.int .i64 _]) Tryz.isAgg46 Tryz.sizeOf46 rfl (fun w hw=>hw.cl_at (i:=4) rfl _ rfl)) ?_;refine vg (v_loadA (cs:=[.int .i64 _,.int .i64 _,.int .i64 _,.int .i64 _]) Tryz.isAgg46 Tryz.sizeOf46 rfl (fun w hw=>hw.cl_at (i:=5) rfl _ rfl)) ?_;refine vg (v_is (b:=false) (v_neA leaf46 (by kernel_rfl) (fun _=>rfl) rfl rfl rfl rfl) (by obtain⟨rfl,rfl,rfl,rfl⟩:=hab h125;rw[eqv_self];rfl)) ?_;refine vg (v_pickF (v:=.bool _) rfl rfl) ?_;refine vl (v_pickT (u:=.bool _) rfl rfl) ?_
            rotate_left
            case' _=>
             refine sk ?_;refine sk ?_;refine sk ?_;refine sk ?_;refine sk ?_;refine sk ?_;refine sk ?_;refine sk ?_;refine vl (v_pickF (v:=.bool _) rfl rfl) ?_
            all_goals
             refine nl (oo ?_);refine WP.condF rfl ?_;refine WP.skip (onto_of ?_);refine WP.region ?_;refine mvI rfl ?_;refine vl (v_add rfl rfl (by omega)) ?_;refine sgI rfl ?_;exact nl fun w hw=>⟨rfl,k+1,(by omega),⟨rfl,(via (.bool _) rfl rfl),(via (.map _) rfl rfl),(via (.int .i64 _) rfl rfl),(via (.map _) rfl rfl),(via (.slice _ _ _) rfl rfl),trivial⟩,⟨by omega,(hw.sel [0,1,2,3] (by decide))⟩⟩
           ·refine WP.exit (onto_of ?_);refine sqR ?_;refine mvB rfl ?_;refine sgB rfl ?_;refine nl (oo ?_);exact WP.ret1 Tryz.results9 (fun _ h=>h) (fun w hw=>⟨(),rfl,trivial,hw.sel [] (by decide)⟩)
      ·refine sk ?_;refine sk ?_;refine sk ?_;refine vg (v_pickF (v:=.bool _) rfl rfl) ?_;refine vl (v_pickF (v:=.bool _) rfl rfl) ?_;refine nl (oo ?_);refine WP.condF rfl ?_;refine WP.skip (onto_of ?_);refine sq ?_;have hout:outB cs=true:=by unfold outB;simp only[Bool.or_eq_true,decide_eq_true_eq];omega
       obtain⟨hl30,hFo,hk,hab,hkr⟩:=hgr (by simpa using h38);obtain⟨d,hF0⟩:=AF_wf l;have hF:WF (FoR es) d:=by rw[hFo];exact hF0
       have hFr:WF (absR bs) d:=by rw[hab];exact hF
       have hgs:∀x,GS (stF (FoR es) x):=by rw[hFo];exact(AF_all l).st
       have hgr2:∀x,GS (stF (absR bs) x):=by rw[hab];exact hgs
       have hlf:=AF_few l;have hK:∀x,(kidsF (FoR es) x).length≤64:=fun x=>Nat.le_trans (kids_few (n:=31) hF (by rw[hFo];omega) x) (by decide);have hKr:∀x,(kidsF (absR bs) x).length≤64:=by rw[hab];exact hK
       have hT0:TOk es 31:=⟨hk,⟨d,hF⟩,by rw[hFo];exact AF_all l,by rw[hFo];omega⟩;refine WP.region ?_;refine mvP rfl ?_;refine mvI rfl ?_;refine mvI rfl ?_;refine WPL.ef (x_call Tryz.call15 (flowLay_ct tp mb es hk hF hgs hK wd ht (by omega) (by omega)) [1] [0,2] rfl (fun w hw=>trivial) (τ:=fun _=>[_,_,_,_]) (fun _=>rfl)) (fun⟨mp,ps⟩=>?_);refine WPL.fact (fun hps=>?_);have hmo:=mapOf hps (all_nodup hF hgs wd ht);refine sg (v:=.map _) rfl ?_;refine nl (oo ?_);refine sqR ?_;refine mvP rfl ?_;refine mvI rfl ?_;refine mvI rfl ?_;refine WPL.ef (x_call Tryz.call13 (add_ct tp mb es hk hF up at_) [2] [0,1,3] rfl (fun w hw=>trivial) (τ:=fun _=>[_,_,_,_]) (fun _=>rfl)) (fun es1=>?_);refine WPL.fact (fun hf1=>?_);have hT1:=hT0.add hf1.1 hf1.2;obtain⟨d1,hF1⟩:=hT1.2.1;refine mv rfl ?_;refine vl (v_extract (v:=.int .i64 _) rfl rfl) ?_;refine vl (v_extract (v:=.int .i64 _) rfl rfl) ?_;refine sgI rfl ?_;refine sgI rfl ?_;refine nl (oo ?_);refine sq ?_;refine sqR ?_;refine mvI rfl ?_;refine vl (v_neq rfl rfl) ?_;refine mvB rfl ?_;refine WPL.split 75 rfl (fun h75=>?_) (fun h75=>?_)
       ·refine sk ?_;refine sk ?_;refine sk ?_;refine sk ?_;refine vl (v_pickT (u:=.bool _) rfl rfl) ?_;refine mvB rfl ?_;refine sk ?_;refine sk ?_;refine sk ?_;refine sk ?_;refine sk ?_;refine vl (v_pickT (u:=.bool _) rfl rfl) ?_;refine nl (oo ?_);refine WP.condT rfl ?_;refine sqR ?_;refine mvB rfl ?_;refine sgB rfl ?_;refine nl (oo ?_);exact WP.ret1 Tryz.results9 (fun _ h=>h) (fun w hw=>⟨(),rfl,trivial,hw.sel [] (by decide)⟩)
       ·refine vg (v_move (v:=.pointer _) rfl) ?_;refine vg (v_move (v:=.int .i64 _) rfl) ?_;refine WPL.efG (x_call Tryz.call33 (depth_ct tp mb es1 hf1.2 hF1 (addR zeroS (FoR es) up at_).2.1) [3] [0,1,2] rfl (fun w hw=>trivial) (τ:=fun _=>[_,_,_,_]) (fun _=>rfl)) (fun _=>?_);refine WPL.fact (fun _=>?_);refine vg (v_gtr rfl rfl) ?_;refine vl (v_pickF (v:=.bool _) rfl rfl) ?_;refine mvB rfl ?_;refine WPL.split 81 rfl (fun h81=>?_) (fun h81=>?_)
        ·refine sk ?_;refine sk ?_;refine sk ?_;refine sk ?_;refine sk ?_;refine vl (v_pickT (u:=.bool _) rfl rfl) ?_;refine nl (oo ?_);refine WP.condT rfl ?_;refine sqR ?_;refine mvB rfl ?_;refine sgB rfl ?_;refine nl (oo ?_);exact WP.ret1 Tryz.results9 (fun _ h=>h) (fun w hw=>⟨(),rfl,trivial,hw.sel [] (by decide)⟩)
        ·refine vg (v_move (v:=.pointer _) rfl) ?_;refine vg (v_move (v:=.int .i64 _) rfl) ?_;refine vg (v_loadA (cs:=cs) Tryz.isAgg36 Tryz.sizeOf36 rfl (fun w hw=>hw.cl_at (i:=0) rfl 0 (whole _)) (SOk.len hs)) ?_;refine WPL.efG (x_call Tryz.call14 (set_ct tp mb es1 hf1.2 (addR zeroS (FoR es) up at_).2.1 cs hs) [3] [0,1,2] rfl (fun w hw=>trivial) (τ:=fun _=>[_,_,_,_]) (fun _=>rfl)) (fun es2=>?_);refine WPL.fact (fun hf2=>?_);refine vg (v_neq rfl rfl) ?_;refine vl (v_pickF (v:=.bool _) rfl rfl) ?_;refine nl (oo ?_);refine WP.condP rfl (fun h87=>?_) (fun h87=>?_)
         ·refine sqR ?_;refine mvB rfl ?_;refine sgB rfl ?_;refine nl (oo ?_);exact WP.ret1 Tryz.results9 (fun _ h=>h) (fun w hw=>⟨(),rfl,trivial,hw.sel [] (by decide)⟩)
         ·have hO:Out (FoR es) (FoR es2) up (addR zeroS (FoR es) up at_).2.1 at_.toNat:=by
            have h1:(setR validB (FoR es1) (addR zeroS (FoR es) up at_).2.1 cs).2=0:=by omega
            rw[hf2.1];rw[hf1.1] at h1 ⊢;exact out_two hF (by omega) h1 hout
          have hT2:=hT1.set hs hf2.1 hf2.2;obtain⟨d2,hF2⟩:=hT2.2.1;have hg2:=hT2.2.2.1.st;have hall:=hO.all hF hF2 hgs wd ht;refine WP.skip (onto_of ?_);refine sqR ?_;refine mvP rfl ?_;refine mvI rfl ?_;refine mvI rfl ?_;refine WPL.ef (x_call Tryz.call15 (flowLay_ct tp mb es2 hT2.1 hF2 hg2 (hT2.kids (by decide)) wd ht (by omega) (by omega)) [3] [0,1,2] rfl (fun w hw=>trivial) (τ:=fun _=>[_,_,_,_,_]) (fun _=>rfl)) (fun⟨mp2,ps2⟩=>?_);refine WPL.fact (fun hps2=>?_);have hmo2:=mapOf hps2 (all_nodup hF2 hg2 wd ht);refine sg (v:=.map _) rfl ?_;refine nl (oo ?_);refine sqR ?_;refine mvP rfl ?_;refine WPL.ef (x_call Tryz.call30 (order_ct tp mb es2 hT2.1 hF2) [3] [0,1,2,4] rfl (fun w hw=>trivial) (τ:=fun _=>[_,_,_,_,_,_]) (fun _=>rfl)) (fun⟨A6,c6⟩=>?_);refine WPL.fact (fun _=>?_);have hol:(order (FoR es2)).length≤4096:=hF2.len_le 0;refine sgS rfl ?_;refine nl (oo ?_);refine sq ?_;refine sqR ?_;refine sg (v:=.int .i64 (0)) rfl ?_;refine nl (oo ?_);refine WP.block ?_;refine WP.loopK (X:=Nat) [13,17,18,20,21] (fun k=>[(22,.int .i64 (k:Int))]) (fun k w=>k≤(order (FoR es2)).length∧St w0 (foots []) [treeI tp mb es2,mapI mp (putAll ps),mapI mp2 (putAll ps2),kidsI A6 (order (FoR es2)).length c6 (order (FoR es2))] w) (fun k=>(order (FoR es2)).length - k) 0 ⟨rfl,trivial⟩ (fun w hw=>⟨Nat.zero_le _,(hw.sel [4,2,3,5] (by decide))⟩) (fun k ρ0=>?_);refine WP.fact (fun hkn=>?_);refine sq ?_;refine sqR ?_;refine mvI rfl ?_;refine mvS rfl ?_;refine vl (v_len Tryz.underlying55 rfl) ?_;refine vl (v_lss rfl rfl) ?_;refine nl (oo ?_);refine WP.condP rfl (fun h98=>?_) (fun h98=>?_)
          ·obtain⟨y,hy⟩:∃y,(order (FoR es2))[k]?=some y:=⟨_,List.getElem?_eq_getElem (by omega)⟩;obtain⟨_,ra1,ra2,ra3,ra4,hlv⟩:=MapOf.look hmo hmo y;obtain⟨_,rb1,rb2,rb3,rb4,hlw⟩:=MapOf.look hmo2 hmo2 y;have hbt:y≠(addR zeroS (FoR es) up at_).2.1→lookM (putAll ps2) y=lookM (putAll ps) y:=fun h=>MapOf.but hmo hmo2 hall h;have hab:y≠(addR zeroS (FoR es) up at_).2.1→ra1=rb1∧ra2=rb2∧ra3=rb3∧ra4=rb4:=fun h=>by
             have h1:=hlw;rw[hbt h] at h1
             simpa using hlv.symm.trans h1
           refine WP.holds (fun w hw=>hw.row_pos (i:=3) rfl (by omega)) (fun⟨rb,hA⟩=>?_);subst hA;refine WP.skip (onto_of ?_);refine sq ?_;refine WP.block ?_;refine sqR ?_;refine mv (v:=.map _) rfl ?_;refine mvS rfl ?_;refine mvI rfl ?_;refine vl (v_index (j:=k) Tryz.underlying55 Tryz.sizeOf3 rfl rfl rfl (by omega)) ?_;refine vl (v_load1 (u:=.int .i64 _) Tryz.isAgg3 rfl (fun w hw=>hw.row_at1 (i:=3) rfl (by rw[List.getElem?_map,hy];rfl) (by omega))) ?_;refine vl (v_of (v_lookupOk (m:=putAll ps) (k:=y) (z:=.agg #[.int .i64 0,.int .i64 0,.int .i64 0,.int .i64 0]) Tryz.underlying47 Tryz.underlying3 Tryz.zeroValue46 rfl rfl (fun w hw=>hw.mapAt (i:=1) rfl)) (v':=.tuple #[.agg #[.int .i64 ra1,.int .i64 ra2,.int .i64 ra3,.int .i64 ra4],.bool (lookM (putAll ps) y).isSome]) (by rw[hlv])) ?_;refine mv rfl ?_;refine vl (v_extract (v:=.agg _) rfl rfl) ?_;refine vl (v_extract (v:=.bool _) rfl rfl) ?_;refine WPL.ef (x_alloc (us:=[_,_,_,_]) (σ':=fun _=>[_,_,_,_,_]) Tryz.zeroValue46 rfl (fun _=>rfl)) (fun b23=>?_);refine WPL.ef0 (x_storeW (us:=[.int .i64 _,.int .i64 _,.int .i64 _,.int .i64 _]) (σ':=[_,_,_,_,.cl _ _ [_,_,_,_]]) Tryz.sizeOf46 rfl rfl (i:=4) rfl rfl rfl (by simp[Value.oneCell'])) (fun _=>?_);refine sgB rfl ?_;refine nl (oo ?_);refine sqR ?_;refine mv (v:=.map _) rfl ?_;refine mvS rfl ?_;refine mvI rfl ?_;refine vl (v_index (j:=k) Tryz.underlying55 Tryz.sizeOf3 rfl rfl rfl (by omega)) ?_;refine vl (v_load1 (u:=.int .i64 _) Tryz.isAgg3 rfl (fun w hw=>hw.row_at1 (i:=3) rfl (by rw[List.getElem?_map,hy];rfl) (by omega))) ?_;refine vl (v_of (v_lookupOk (m:=putAll ps2) (k:=y) (z:=.agg #[.int .i64 0,.int .i64 0,.int .i64 0,.int .i64 0]) Tryz.underlying47 Tryz.underlying3 Tryz.zeroValue46 rfl rfl (fun w hw=>hw.mapAt (i:=2) rfl)) (v':=.tuple #[.agg #[.int .i64 rb1,.int .i64 rb2,.int .i64 rb3,.int .i64 rb4],.bool (lookM (putAll ps2) y).isSome]) (by rw[hlw])) ?_;refine mv rfl ?_;refine vl (v_extract (v:=.agg _) rfl rfl) ?_;refine vl (v_extract (v:=.bool _) rfl rfl) ?_;refine WPL.ef (x_alloc (us:=[_,_,_,_]) (σ':=fun _=>[_,_,_,_,_,_]) Tryz.zeroValue46 rfl (fun _=>rfl)) (fun b25=>?_);refine WPL.ef0 (x_storeW (us:=[.int .i64 _,.int .i64 _,.int .i64 _,.int .i64 _]) (σ':=[_,_,_,_,_,.cl _ _ [_,_,_,_]]) Tryz.sizeOf46 rfl rfl (i:=5) rfl rfl rfl (by simp[Value.oneCell'])) (fun _=>?_);refine sgB rfl ?_;refine nl (oo ?_);refine sqR ?_;refine mvS rfl ?_;refine mvI rfl ?_;refine vl (v_index (j:=k) Tryz.underlying55 Tryz.sizeOf3 rfl rfl rfl (by omega)) ?_;refine vl (v_load1 (u:=.int .i64 _) Tryz.isAgg3 rfl (fun w hw=>hw.row_at1 (i:=3) rfl (by rw[List.getElem?_map,hy];rfl) (by omega))) ?_;refine mvI rfl ?_;refine vl (v_neq rfl rfl) ?_;refine mvB rfl ?_;refine WPL.split 125 rfl (fun h125=>?_) (fun h125=>?_)
           case' _=>
            refine vg (v_move (v:=.bool _) rfl) ?_;refine vg (v_move (v:=.bool _) rfl) ?_;refine vg (v_is (b:=false) (v_neB Tryz.underlying4 rfl rfl) (by rw[hbt h125];simp)) ?_;refine vg (v_move (v:=.bool _) rfl) ?_;refine vg (v_loadA (cs:=[.int .i64 _,.int .i64 _,.int .i64 _,.int .i64 _]) Tryz.isAgg46 Tryz.sizeOf46 rfl (fun w hw=>hw.cl_at (i:=4) rfl _ rfl)) ?_;refine vg (v_loadA (cs:=[.int .i64 _,.int .i64 _,.int .i64 _,.int .i64 _]) Tryz.isAgg46 Tryz.sizeOf46 rfl (fun w hw=>hw.cl_at (i:=5) rfl _ rfl)) ?_;refine vg (v_is (b:=false) (v_neA leaf46 (by kernel_rfl) (fun _=>rfl) rfl rfl rfl rfl) (by obtain⟨rfl,rfl,rfl,rfl⟩:=hab h125;rw[eqv_self];rfl)) ?_;refine vg (v_pickF (v:=.bool _) rfl rfl) ?_;refine vl (v_pickT (u:=.bool _) rfl rfl) ?_
           rotate_left
           case' _=>
            refine sk ?_;refine sk ?_;refine sk ?_;refine sk ?_;refine sk ?_;refine sk ?_;refine sk ?_;refine sk ?_;refine vl (v_pickF (v:=.bool _) rfl rfl) ?_
           all_goals
            refine nl (oo ?_);refine WP.condF rfl ?_;refine WP.skip (onto_of ?_);refine WP.region ?_;refine mvI rfl ?_;refine vl (v_add rfl rfl (by omega)) ?_;refine sgI rfl ?_;exact nl fun w hw=>⟨rfl,k+1,(by omega),⟨rfl,(via (.bool _) rfl rfl),(via (.map _) rfl rfl),(via (.int .i64 _) rfl rfl),(via (.map _) rfl rfl),(via (.slice _ _ _) rfl rfl),trivial⟩,⟨by omega,(hw.sel [0,1,2,3] (by decide))⟩⟩
          ·refine WP.exit (onto_of ?_);refine sqR ?_;refine mvB rfl ?_;refine sgB rfl ?_;refine nl (oo ?_);exact WP.ret1 Tryz.results9 (fun _ h=>h) (fun w hw=>⟨(),rfl,trivial,hw.sel [] (by decide)⟩)
end Go.Proofs.YtpgjbbaplpdaiaaGreat
namespace Go.Proofs.YtpgjbbaplpdaiaaGreat
open Go.ChangeShapes Go.WideShapes Go.ChangeAt Go.RowKit Go.Deep
theorem flowOut_lifted (os:Os) (started:os.Started) (H:Type) (enc:TypeId×Value→H):
    ReturnsInHanded {} Tryz.checked os 9 .any (Rows.flowOutSpec.pre6 enc Tryz.prog Tryz.f9 Rows.flowOutRow.domain false) (Rows.flowOutSpec.post enc Tryz.prog Tryz.f9 false true false false):=by
  refine returnsInHanded_of_change (C:=Tryz.checked) own started (by kernel_rfl) Tryz.func9
    (ChangeSpec.witness6 (enc:=enc) (C:=Tryz.checked) false ⟨#[],#[.slice none 0 0,.int .i64 0,.int .i64 0,.agg ([.int .i64 0,.int .i64 0,.int .i64 0,.int .i64 0,.int .i64 0,.int .i64 0,.int .i64 0,.int .i64 0,.int .i64 0,.int .i64 0,.int .i64 0,.int .i64 0,.int .i64 0,.int .i64 0,.int .i64 0,.int .i64 0,.int .i64 0,.int .i64 0,.int .i64 0,.int .i64 0,.int .i64 0,.int .i64 0,.int .i64 0,.int .i64 0,.int .i64 0,.int .i64 0,.int .i64 0,.int .i64 0,.int .i64 0,.int .i64 0,.int .i64 0,.int .i64 0,.int .i64 0,.int .i64 0,.int .i64 0,.int .i64 0,.int .i64 0,.int .i64 0,.int .i64 0,.int .i64 0,.int .i64 0,.int .i64 0,.int .i64 0,.int .i64 0,.int .i64 0,.bool false,.int .i64 0,.bool false,.int .i64 0,.int .i64 0,.int .i64 0,.bool false,.bool false,.int .i64 0,.int .i64 0]).toArray,.int .i64 0,.int .i64 0],[]⟩ 8 (by kernel_rfl) (by kernel_rfl) (by kernel_rfl) (by kernel_rfl)) ?_
  intro W base args ds gs before hval0 hW _ _;have hval:∀(j:Nat) t v,Tryz.f9.params[j]?=some t→args[j]?=some v→Value.okWide Tryz.prog W .any base t v:=hval0;have hW':=hW;obtain⟨p,q,hA0,hV,rfl,hfz,hnd⟩:=hW;have hA:DataW.TrodAll enc Tryz.prog W 0 (fun _=>true) true Tryz.f9.params.toList args.toList ds p:=hA0;rw[Tryz.params9] at hA hval;obtain⟨v0,vs0,d0,ds0,p0,q0,hargs,rfl,rfl,h0,r0⟩:=trodAll_cons hA;obtain⟨v1,vs1,d1,ds1,p1,q1,rfl,rfl,rfl,h1,r1⟩:=trodAll_cons r0;obtain⟨v2,vs2,d2,ds2,p2,q2,rfl,rfl,rfl,h2,r2⟩:=trodAll_cons r1;obtain⟨v3,vs3,d3,ds3,p3,q3,rfl,rfl,rfl,h3,r3⟩:=trodAll_cons r2;obtain⟨v4,vs4,d4,ds4,p4,q4,rfl,rfl,rfl,h4,r4⟩:=trodAll_cons r3;obtain⟨v5,vs5,d5,ds5,p5,q5,rfl,rfl,rfl,h5,r5⟩:=trodAll_cons r4;obtain⟨rfl,rfl,rfl⟩:=trodAll_nil r5;obtain⟨args⟩:=args;obtain rfl:args=_:=hargs;obtain⟨A,l,c,rfl,hrd⟩:=open_acts (hval 0 58 v0 rfl rfl) h0;obtain⟨up,rfl,-,-,-⟩:=open_int Tryz.underlying3 (hval 1 3 v1 rfl rfl) h1;obtain⟨at_,rfl,-,-,-⟩:=open_int Tryz.underlying3 (hval 2 3 v2 rfl rfl) h2;obtain⟨cs,rfl,hl_cs,-⟩:=open_flat leaf36 (by kernel_rfl) Tryz.isAgg36 (hval 3 36 v3 rfl rfl) h3;have hs:=SOk.of_leaves hl_cs;obtain⟨wd,rfl,-,-,-⟩:=open_int Tryz.underlying3 (hval 4 3 v4 rfl rfl) h4;obtain⟨ht,rfl,-,-,-⟩:=open_int Tryz.underlying3 (hval 5 3 v5 rfl rfl) h5;refine(Ct.lawF (lawOut_ct A c l up at_ cs hs wd ht) hrd).mono fun e W' ⟨he,hb⟩=>?_;subst he;exact⟨_,rfl,law_post laidOut hW' rfl (by kernel_rfl) rfl Tryz.underlying4 (fun _=>rfl) hb⟩
theorem flowOut_said:Rows.FlowOutSaid:=
  OpenClaim.holds_of_wide 9 Tryz.f9 rfl rfl rfl rfl rfl rfl rfl ⟨rfl,rfl,rfl,rfl,rfl⟩ rfl rfl rfl rfl rfl (by kernel_rfl) Tryz.func9 (by kernel_rfl)
    (of_decide_eq_true (by kernel_rfl)) (by unfold Func.isWrapper;rw[if_neg (by decide+kernel)];exact⟨rfl,rfl⟩)
    (fun os started H enc _=>flowOut_lifted os started H enc)
end Go.Proofs.YtpgjbbaplpdaiaaGreat
