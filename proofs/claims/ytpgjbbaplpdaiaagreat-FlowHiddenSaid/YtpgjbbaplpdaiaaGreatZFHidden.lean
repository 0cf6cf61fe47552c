/- The statement FlowHidden is true of every input: the Go function valancelaw15.FlowHidden answers true, and each argument reads behind the call as it did. No condition. -/
import Derived.Test.YtpgjbbaplpdaiaaGreatS23
set_option linter.unusedVariables false
set_option linter.unusedSimpArgs false
set_option linter.unusedSectionVars false
set_option maxRecDepth 100000
set_option maxHeartbeats 8000000
namespace Go.Proofs.YtpgjbbaplpdaiaaGreat
open Go.RowKit
section
variable {P : Program} {r : Option Nat} {S : World → Prop} {ρ : Env} {dst : Option Tmp} {ty : TypeId} {pos : String} {af : Array Edge} {g : Option (Nat × Bool)} {t t2 : TypeId} {x y : Operand}
theorem run_neA {w : World} {xs ys : List Value} {ks : List Bool} (hk : leafK P 10 t = some ks) (hm : P.eqGuardType P.depth t = false) (ha : ∀ cs, valF P t cs = .agg cs.toArray) (hx : evo ρ x = .agg xs.toArray) (hy : evo ρ y = .agg ys.toArray) (h1 : leavesB ks xs = true) (h2 : leavesB ks ys = true) :
    (execOp (evo ρ) ⟨dst, .binOp .neq t x y t2, ty, pos, af, g⟩).run P w = .ok (.value (.bool (!eqv xs ys))) w := by
  have h := eqF 10 9990 t ks hk w xs ys h1 h2
  rw [ha, ha] at h
  have h3 := run_neq_struct (P := P) w t xs.toArray ys.toArray
  rw [h] at h3
  simp only [execOp, Sem.run_bind, hx, hy, run_eqGuard_agg w .neq t x y _ _ hm, h3, Sem.run_pure, Result.andThen]
theorem v_neA {xs ys : List Value} {ks : List Bool} (hk : leafK P 10 t = some ks) (hm : P.eqGuardType P.depth t = false) (ha : ∀ cs, valF P t cs = .agg cs.toArray) (hx : evo ρ x = .agg xs.toArray) (hy : evo ρ y = .agg ys.toArray) (h1 : leavesB ks xs = true) (h2 : leavesB ks ys = true) :
    OpV P S ⟨dst, .binOp .neq t x y t2, ty, pos, af, g⟩ ρ (.bool (!eqv xs ys)) := v_run fun _ _ => run_neA hk hm ha hx hy h1 h2
end
section
variable {F:Forest (List Value)} {d:Int→Nat}
theorem flat_good (hF:WF F d) (hg:∀x,GS (stF F x)) {ww wh:Int}:∀(n:Nat) (f:Frm),Good F ww wh f→∀g∈flatN n f,Good F ww wh g
  | 0,f,_,g,hm=>by simp[flatN] at hm
  | n + 1, f, h, g, hm => by
    rw[flatN] at hm
    rcases List.mem_cons.1 hm with rfl | hm
    · exact h
    · obtain ⟨k, hk, hm⟩ := List.mem_flatMap.1 hm
      exact flat_good hF hg n k (h.kids hF hg k hk).1 g hm
theorem all_good (hF:WF F d) (hg:∀x,GS (stF F x)) (w h:Int):∀f∈allP F w h,Good F (max w 0) (max h 0) f:=fun f hf=>by
  unfold allP at hf
  split at hf
  · exact flat_good hF hg 64 _ (good_root hF hg _ _ _ _) f hf
  · simp at hf
theorem good_size (hF:WF F d) (hg:∀x,GS (stF F x)) {ww wh:Int} {f:Frm} (h:Good F ww wh f):eA (stF F f.id)≤f.w∧eD (stF F f.id)≤f.h:=by
  obtain⟨hx,rw',rh,sw,sh,hw,hh,_⟩:=h;have h1:=(hg f.id).iwP_bd rw' sw;have h2:=(hg f.id).ihP_bd rh sh;have h3:=ihEnd_bd (stF F f.id) rh (ihP (stF F f.id) rh sh) (inP F (LAY F ww wh) f.id (iwP (stF F f.id) rw' sw) (ihP (stF F f.id) rh sh)).2 h2.1;rw[LAY_eq hF hx] at hw hh;rw[hw,hh];unfold layStep;dsimp only;omega
theorem look_all (hF:WF F d) (hg:∀x,GS (stF F x)) {m:List (Int×Value)} {w h:Int} (hm:MapOf m (allP F w h)) {y:Int} (hy:y∈order F):
    ∃a b c e:Int,(lookM m y).isSome=shownF F y∧(lookM m y).getD (.agg #[.int .i64 0,.int .i64 0,.int .i64 0,.int .i64 0])=.agg #[.int .i64 a,.int .i64 b,.int .i64 c,.int .i64 e]∧(shownF F y=true→eS (stF F y) 1+eS (stF F y) 3≤c∧eS (stF F y) 0+eS (stF F y) 2≤e):=by
  obtain⟨_,h2,h3⟩:=hm;have hp:=all_ids hF hg w h;cases hs:shownF F y with
  | true =>
    have hi:=hp.mem_iff.2 (List.mem_filter.2 ⟨hy,hs⟩);obtain⟨f,hf,rfl⟩:=List.mem_map.1 hi;have hq:=good_size hF hg (all_good hF hg w h f hf);have b1:=(hg f.id).eA_bd;have b2:=(hg f.id).eD_bd;have e1:eA (stF F f.id)=eS (stF F f.id) 3+eS (stF F f.id) 1:=rfl;have e2:eD (stF F f.id)=eS (stF F f.id) 0+eS (stF F f.id) 2:=rfl;rw[h2 f hf];refine⟨_,_,_,_,rfl,rfl,fun _=>?_⟩;unfold cut;omega
  | false =>
    have hn:lookM m y=none:=h3 y fun f hf e=>by
      have hi:=hp.mem_iff.1 (List.mem_map.2 ⟨f,hf,e⟩);rw[(List.mem_filter.1 hi).2] at hs;cases hs
    rw[hn];exact⟨_,_,_,_,rfl,rfl,fun h=>by cases h⟩
theorem look_len (hF:WF F d) (hg:∀x,GS (stF F x)) {m:List (Int×Value)} {w h:Int} (hm:MapOf m (allP F w h)):m.length=((order F).filter (shownF F)).length:=by
  rw[hm.1,←(all_ids hF hg w h).length_eq,List.length_map]
end
structure Agr (F F':Forest (List Value)) (C:Int→Prop):Prop where
  st:∀x,C x→stF F' x=stF F x
  kp:∀x a,C x→kidsP F' x a=kidsP F x a
  kd:∀x k,C x→k∈kidsF F x→C k
  up:∀x,C x→upF F' x=upF F x
  cu:∀x,C x→0≤upF F x→C (upF F x)
section
variable {F F':Forest (List Value)} {C:Int→Prop} (g:Agr F F' C)
include g
theorem Agr.kc (x:Int) (a:Bool) (k:Int) (hx:C x) (h:k∈kidsP F x a):C k:=g.kd x k hx (kidsP_sub h)
theorem Agr.op {x:Int} (hx:C x) (b:Bool):openP F' x b=openP F x b:=by
  unfold openP;rw[g.up x hx,g.st x hx]
  by_cases h:0≤upF F x
  · rw[g.st _ (g.cu x hx h)]
  · simp[h]
theorem Agr.next {x:Int} (hx:C x) (b:Bool):nextP F' x b=nextP F x b:=by
  unfold nextP;rw[g.op hx,g.kp x false hx]
theorem Agr.nextC {x:Int} (hx:C x) {b:Bool} {k:Int} (h:nextP F x b=some k):C k:=by
  unfold nextP at h
  split at h
  · split at h
    · exact g.kc x false k hx (List.mem_of_getLast? h)
    · exact g.kc x false k hx (List.mem_of_head? h)
  · cases h
theorem Agr.ends:∀(n:Nat) {x:Int} (_:C x) (b:Bool),endsP F' n x b=endsP F n x b
  | 0,_,_,_=>rfl
  | n + 1, x, hx, b => by
    rw[endsP,endsP,g.st x hx,g.next hx];cases h:nextP F x b with
    | none=>rfl
    | some k=>simp only;rw[Agr.ends n (g.nextC hx h) b]
theorem Agr.en {x:Int} (hx:C x) (b:Bool):endP F' x b=endP F x b:=congrArg collP (g.ends 64 hx b)
omit g in
theorem sumN_congr {f h:Nat→Int}:∀n,(∀i,i<n→f i=h i)→sumN f n=sumN h n
  | 0,_=>rfl
  | n+1,hh=>by rw[sumN,sumN,sumN_congr n fun i hi=>hh i (by omega),hh n (by omega)]
section
variable {L:LayF} {ks:List Int} (hk:∀k∈ks,C k) {iw ih:Int}
include hk
theorem Agr.kS {i:Nat} (hi:i<ks.length):kS F' ks i=kS F ks i:=g.st _ (hk _ (gI_mem hi))
theorem Agr.block {id:Int} (hid:C id):blockP F' L ks iw ih id=blockP F L ks iw ih id:=by
  have ht:∀b,bTops F' ks b=bTops F ks b:=fun b=>tab_congr fun i hi=>g.en (hk _ (gI_mem hi)) b;have hf:bFrom F' ks id=bFrom F ks id:=by unfold bFrom;rw[g.op hid,ht]
  unfold blockP;rw[hf,ht,ht,g.op hid];refine congrArg (·,_) (tab_congr fun i hi=>?_);simp only[bX];rw[g.kS hk hi]
section
variable {c:List Value} {a b:Nat} (hb:b≤ks.length)
include hb
theorem Agr.rE {i:Nat} (hi:i<ks.length):rExt F' ks iw i=rExt F ks iw i:=by unfold rExt;rw[g.kS hk hi]
theorem Agr.lS:lSizes F' ks iw c a b=lSizes F ks iw c a b:=by
  unfold lSizes
  rw [tab_congr (f := fun i => itA (Go.Proofs.YtpgjbbaplpdaiaaGreat.kS F' ks (a + i)) iw) (g := fun i => itA (Go.Proofs.YtpgjbbaplpdaiaaGreat.kS F ks (a + i)) iw) fun i hi => by rw [g.kS hk (by omega)],
    sumN_congr (f := fun i => rExt F' ks iw (a + i)) (h := fun i => rExt F ks iw (a + i)) _ fun i hi => g.rE hk hb (by omega)]
theorem Agr.l1 {i:Nat} (hi:i<b - a):lF1 F' L ks iw ih c a b i=lF1 F L ks iw ih c a b i:=by unfold lF1;rw[g.lS hk hb,g.kS hk (by omega)]
theorem Agr.lM:lMost F' L ks iw ih c a b=lMost F L ks iw ih c a b:=maxN_congr _ fun i hi=>by rw[g.l1 hk hb hi,g.kS hk (by omega)]
theorem Agr.lHs (one:Bool):lH F' L ks iw ih c a b one=lH F L ks iw ih c a b one:=by unfold lH;rw[g.lM hk hb]
theorem Agr.line (one:Bool):lineP F' L ks iw ih c a b one=lineP F L ks iw ih c a b one:=by
  have hal:lAlong F' L ks iw ih c a b=lAlong F L ks iw ih c a b:=tab_congr fun i hi=>by rw[g.l1 hk hb hi,g.kS hk (by omega)]
  unfold lineP;rw[g.lHs hk hb];refine tab_congr fun i hi=>?_;have h2:∀hh,lF2 F' L ks iw ih c a b hh i=lF2 F L ks iw ih c a b hh i:=fun hh=>by
    unfold lF2;rw[g.l1 hk hb hi,g.kS hk (by omega)]
  simp only[lOut,lStart];rw[hal,h2,g.kS hk (by omega)]
end
theorem Agr.rowN {c:List Value} {ls:List (Nat×Nat)} (hls:∀p∈ls,p.2≤ks.length):∀n,rowN F' L ks iw ih c ls n=rowN F L ks iw ih c ls n
  | 0=>rfl
  | n + 1 => by
    have hp:(ls.getD n (0,0)).2≤ks.length:=by
      rw[List.getD_eq_getElem?_getD];cases e:ls[n]? with
      | none=>simp
      | some p=>exact hls p (List.mem_of_getElem? e)
    simp only[Go.Proofs.YtpgjbbaplpdaiaaGreat.rowN];rw[Agr.rowN hls n,g.line hk hp,g.lHs hk hp]
theorem Agr.rL (c:List Value):rLines F' ks iw c=rLines F ks iw c:=by
  unfold rLines rLong;rw[tab_congr (f:=fun i=>baseI (itA (Go.Proofs.YtpgjbbaplpdaiaaGreat.kS F' ks i) iw)+rExt F' ks iw i) (g:=fun i=>baseI (itA (Go.Proofs.YtpgjbbaplpdaiaaGreat.kS F ks i) iw)+rExt F ks iw i) fun i hi=>by rw[g.kS hk hi,g.rE hk (Nat.le_refl _) hi]]
theorem Agr.row {id:Int} (hid:C id):rowP F' L ks iw ih id=rowP F L ks iw ih id:=by
  unfold rowP;rw[g.st id hid,g.rL hk];exact g.rowN hk (fun p hp=>by have hx:=(breaks_in hp).2.1;rw[show (rLong F ks iw).length=ks.length from tab_len] at hx;exact hx) _
theorem Agr.column {id:Int} (hid:C id):columnP F' L ks iw ih id=columnP F L ks iw ih id:=by
  unfold columnP;rw[g.st id hid]
  generalize stF F id=c
  have h0:∀i,i<ks.length→cSet F' ks iw c i=cSet F ks iw c i:=fun i hi=>by unfold cSet;rw[g.kS hk hi]
  have h1:∀i,i<ks.length→cItem F' L ks iw ih c i=cItem F L ks iw ih c i:=fun i hi=>by
    unfold cItem cF1;rw[g.kS hk hi,h0 i hi]
  have he:∀i,i<ks.length→cExt F' ks i=cExt F ks i:=fun i hi=>by unfold cExt;rw[g.kS hk hi]
  have hs:cSizes F' L ks iw ih c=cSizes F L ks iw ih c:=by
    unfold cSizes;rw[tab_congr h1,tab_congr (f:=fun i=>baseI (cItem F' L ks iw ih c i)) (g:=fun i=>baseI (cItem F L ks iw ih c i)) fun i hi=>by rw[h1 i hi],sumN_congr _ he]
  have h2:∀i,i<ks.length→cF2 F' L ks iw ih c i=cF2 F L ks iw ih c i:=fun i hi=>by
    unfold cF2;rw[hs,g.kS hk hi,h0 i hi]
  have hal:cAlong F' L ks iw ih c=cAlong F L ks iw ih c:=tab_congr fun i hi=>by rw[h2 i hi,g.kS hk hi]
  rw[hal];refine congrArg (·,_) (tab_congr fun i hi=>?_);simp only[cOut,cStart,cRoom];rw[hal,h2 i hi,g.kS hk hi]
end
theorem Agr.inn {L:LayF} {id iw ih:Int} (hid:C id):inP F' L id iw ih=inP F L id iw ih:=by
  have hk:∀k∈kidsP F id false,C k:=fun k h=>g.kc id false k hid h;unfold inP;rw[g.kp id false hid,g.st id hid,g.row hk hid,g.column hk hid,g.block hk hid]
theorem Agr.apart {ww wh iw ih k:Int} {L:LayF} {s:List Value} (hk:C k):apartP F' ww wh L s iw ih k=apartP F ww wh L s iw ih k:=by
  have hw:∀rw' rh px py,withinP F' L k rw' rh px py=withinP F L k rw' rh px py:=fun rw' rh px py=>by
    unfold withinP wF wSetW wSetH;rw[g.st k hk]
  unfold apartP;rw[hw,hw,g.st k hk]
theorem Agr.step {ww wh:Int} {L:LayF} {id:Int} (hid:C id) (hL:∀k∈kidsF F id,LB L k):SameL (layStep F' ww wh L) (layStep F ww wh L) id:=fun rw' rh sw sh=>by
  unfold layStep;rw[g.inn hid,g.st id hid,g.kp id true hid]
  congr 2
  · refine List.map_congr_left fun f hf => ?_
    have hi:=(in_ids (F:=F) (L:=L) (iw:=iwP (stF F id) rw' sw) (ih:=ihP (stF F id) rh sh) hL).1;have hm:f.id∈kidsP F id false:=by rw[←hi];exact List.mem_map.2 ⟨f,hf,rfl⟩
    unfold moveF;rw[g.st f.id (g.kc id false _ hid hm)]
  · exact List.map_congr_left fun k hk=>g.apart (g.kc id true k hid hk)
theorem Agr.lay (hg:∀x,GS (stF F' x)) (ww wh:Int):∀(n:Nat) (k:Int),C k→SameL (layN F' ww wh n) (layN F ww wh n) k
  | 0,k,_=>fun _ _ _ _=>rfl
  | n + 1, k, hk => fun rw' rh sw sh => by
    have h1:=g.step (ww:=ww) (wh:=wh) (L:=layN F' ww wh n) hk fun j _=>layN_LB ww wh (hg j) n;have h2:=layStep_same (F:=F) (ww:=ww) (wh:=wh) (id:=k) fun j hj=>Agr.lay hg ww wh n j (g.kd k j hk hj);exact(h1 rw' rh sw sh).trans (h2 rw' rh sw sh)
theorem Agr.all (hg:∀x,GS (stF F' x)) (h0:C 0) (hs:shownF F' 0=shownF F 0) (w h:Int):allP F' w h=allP F w h:=by
  unfold allP LAY;rw[hs,g.lay hg _ _ 64 0 h0]
end
structure Hid (F G:Forest (List Value)) (up id:Int) (k:Nat):Prop where
  old:∀x,hasF F x=true→G x=addG F up k id zeroS x
  new:hasF F id=false
  sty:val (stF G id) 0=3
section
variable {F G:Forest (List Value)} {d d':Int→Nat} {up id:Int} {k:Nat}
theorem Hid.at (h:Hid F G up id k) {x:Int} {b:TBox (List Value)} (hx:F x=some b):G x=some {b with kids:=if x=up then insAt b.kids k id else b.kids}:=by
  have hne:x≠id:=fun e=>by have:=h.new;rw[←e,has_some hx] at this;cases this
  rw[h.old x (has_some hx)];unfold addG
  by_cases e:x=up
  · rw[if_pos e,if_pos e,←e,hx];rfl
  · rw[if_neg e,if_neg hne,if_neg e,hx]
theorem Hid.st (h:Hid F G up id k) {x:Int} (hx:hasF F x=true):stF G x=stF F x:=by
  obtain⟨b,hb⟩:=some_has hx;simp[styF,h.at hb,hb]
theorem Hid.upF (h:Hid F G up id k) {x:Int} (hx:hasF F x=true):upF G x=upF F x:=by
  obtain⟨b,hb⟩:=some_has hx;simp[Go.Proofs.YtpgjbbaplpdaiaaGreat.upF,h.at hb,hb]
theorem Hid.has (h:Hid F G up id k) {x:Int} (hx:hasF F x=true):hasF G x=true:=by
  obtain⟨b,hb⟩:=some_has hx;exact has_some (h.at hb)
theorem up_old (hF:WF F d) {x:Int} (hx:hasF F x=true):hasF F (Go.Proofs.YtpgjbbaplpdaiaaGreat.upF F x)=true∨Go.Proofs.YtpgjbbaplpdaiaaGreat.upF F x= -1:=by
  by_cases h0:x=0
  · right
    obtain⟨b,hb,hu⟩:=hF.root;rw[h0,up_some hb,hu]
  · exact .inl (hF.up_has hx h0).1
theorem Hid.shN (h:Hid F G up id k) (hF:WF F d) (hG:WF G d'):∀(n:Nat) (x:Int),hasF F x=true→shownN G n x=shownN F n x
  | 0,_,_=>rfl
  | n + 1, x, hx => by
    rw[shownN,shownN,if_pos hx,if_pos (h.has hx),h.st hx,h.upF hx]
    rcases up_old hF hx with h1 | h1
    · rw[Hid.shN h hF hG n _ h1]
    · rw [h1]
      cases n with
      | zero=>rfl
      | succ n=>rw[shownN,shownN,if_neg (by rw[has_none (hG.neg (by decide))];decide),if_neg (by rw[has_none (hF.neg (by decide))];decide)]
theorem Hid.sh (h:Hid F G up id k) (hF:WF F d) (hG:WF G d') {x:Int} (hx:hasF F x=true):shownF G x=shownF F x:=by
  unfold shownF;rw[hx,h.has hx,h.shN hF hG 64 x hx]
theorem Hid.no (h:Hid F G up id k):shownF G id=false:=by
  unfold shownF;cases e:hasF G id with
  | false=>rfl
  | true=>rw[show (64:Nat)=63+1 from rfl,shownN,if_pos e,h.sty];rfl
theorem filt_ins {p:Int→Bool} {l:List Int} {x:Int} (hp:p x=false) (k:Nat):(insAt l k x).filter p=l.filter p:=by
  unfold insAt;rw[List.filter_append,List.filter_cons,hp];simp only[Bool.false_eq_true,if_false];rw[←List.filter_append,List.take_append_drop]
theorem Hid.agr (h:Hid F G up id k) (hF:WF F d) (hG:WF G d'):Agr F G (fun x=>hasF F x=true):=by
  refine⟨fun x hx=>h.st hx,fun x a hx=>?_,fun x k hx hk=>(kid_rank' hF hk).1,fun x hx=>h.upF hx,fun x hx h0=>?_⟩
  · obtain ⟨b, hb⟩ := some_has hx
    unfold kidsP;have hq:(kidsF F x).filter (fun k=>shownF G k&&(outB (stF G k)==a))=(kidsF F x).filter (fun k=>shownF F k&&(outB (stF F k)==a)):=List.filter_congr fun k hk=>by
      have h1:=(kid_rank' hF hk).1;rw[h.sh hF hG h1,h.st h1]
    rw[←hq,kids_some (h.at hb),kids_some hb];simp only
    split
    · exact filt_ins (by rw[h.no];rfl) k
    · rfl
  · rcases up_old hF hx with h1 | h1
    · exact h1
    · rw[h1] at h0;omega
theorem Hid.all (h:Hid F G up id k) (hF:WF F d) (hG:WF G d') (hg:∀x,GS (stF G x)) (w hh:Int):allP G w hh=allP F w hh:=by
  have h0:hasF F 0=true:=by obtain⟨b,hb,_⟩:=hF.root;exact has_some hb
  exact(h.agr hF hG).all hg h0 (h.sh hF hG h0) w hh
theorem Hid.same {G':Forest (List Value)} (h:Hid F G up id k) (hs:∀x,hasF F x=true→G' x=G x) (hi:stF G' id=stF G id):Hid F G' up id k:=
  ⟨fun x hx=>(hs x hx).trans (h.old x hx),h.new,by rw[hi];exact h.sty⟩
theorem addR_ok (hF:WF F d) {up a:Int} (h:(addR zeroS F up a).2.2=0):(addR zeroS F up a).1=addG F up a.toNat (least F) zeroS∧(addR zeroS F up a).2.1=least F∧hasF F (least F)=false∧hasF F up=true:=by
  have hl:=hF.least_ok.2.2.1;unfold addR at*
  split at h
  · simp at h
  · split at h
    · simp at h
    · split at h
      · simp at h
      · split at h
        · simp at h
        · rename_i h1 h2 h3 h4
          rw[if_neg h1,if_neg h2,if_neg h3,if_neg h4];exact⟨rfl,rfl,hl,by simpa using h1⟩
theorem addR_at (hF:WF F d) {up a x:Int} (hx:hasF F x=true) (hu:x≠up):(addR zeroS F up a).1 x=F x:=by
  have hl:=hF.least_ok.2.2.1;unfold addR
  repeat' split
  all_goals first | rfl | skip
  unfold addG;dsimp only;rw[if_neg hu,if_neg (fun e=>by rw[e,hl] at hx;cases hx)]
theorem addR_st (hF:WF F d) {up a x:Int} (hx:hasF F x=true):stF (addR zeroS F up a).1 x=stF F x:=by
  have hl:=hF.least_ok.2.2.1;unfold addR
  repeat' split
  all_goals first | rfl | skip
  obtain⟨b,hb⟩:=some_has hx;show styF zeroS (addG F up a.toNat (least F) zeroS) x=styF zeroS F x;unfold addG styF;dsimp only
  by_cases e:x=up
  · rw[if_pos e,←e,hb];rfl
  · rw[if_neg e,if_neg (fun e=>by rw[e,hl] at hx;cases hx)]
theorem setR_at {v:List Value→Bool} {i x:Int} {s:List Value} (hu:x≠i):(setR v F i s).1 x=F x:=by
  unfold setR
  repeat' split
  all_goals first | rfl | skip
  unfold setG;dsimp only;rw[if_neg hu]
def sH:List Value:=.int .i64 3::zeroS.tail
theorem sH_ok:SOk sH:=SOk.of_leaves rfl
theorem sH_v:validB sH=true:=by kernel_rfl
theorem hid_two (hF:WF F d) {up a:Int} (h:(addR zeroS F up a).2.2=0):Hid F (setR validB (addR zeroS F up a).1 (addR zeroS F up a).2.1 sH).1 up (addR zeroS F up a).2.1 a.toNat∧hasF (setR validB (addR zeroS F up a).1 (addR zeroS F up a).2.1 sH).1 (addR zeroS F up a).2.1=true:=by
  obtain⟨h1,h2,h3,h4⟩:=addR_ok hF h;rw[h1,h2];have hu:least F≠up:=fun e=>by rw[e,h4] at h3;cases h3
  have hi:addG F up a.toNat (least F) zeroS (least F)=some ⟨up,[],zeroS⟩:=by unfold addG;rw[if_neg hu,if_pos rfl]
  have hr:(setR validB (addG F up a.toNat (least F) zeroS) (least F) sH).1=setG (addG F up a.toNat (least F) zeroS) (least F) sH:=by
    unfold setR;rw[has_some hi,sH_v];rfl
  rw[hr];have hs:setG (addG F up a.toNat (least F) zeroS) (least F) sH (least F)=some ⟨up,[],sH⟩:=by unfold setG;rw[if_pos rfl,hi];rfl
  refine⟨⟨fun x hx=>?_,h3,by simp only[styF,hs];rfl⟩,has_some hs⟩;unfold setG;rw[if_neg (fun e=>by rw[e,h3] at hx;cases hx)]
theorem Hid.add (h:Hid F G up id k) (hG:WF G d') (hi:hasF G id=true) (a:Int):Hid F (addR zeroS G id a).1 up id k:=by
  refine h.same (fun x hx=>addR_at hG (h.has hx) (fun e=>?_)) (addR_st hG hi);have:=h.new;rw[←e,hx] at this;cases this
theorem Hid.set (h:Hid F G up id k) (hG:WF G d') (hi:hasF G id=true) {a:Int} (e3:(addR zeroS G id a).2.2=0) (s:List Value):Hid F (setR validB (addR zeroS G id a).1 (addR zeroS G id a).2.1 s).1 up id k:=by
  obtain⟨_,h2,h3,_⟩:=addR_ok hG e3;have h4:=h.add hG hi a;rw[h2];refine h4.same (fun x hx=>setR_at fun e=>?_) ?_
  · have := h.has hx
    rw[e,h3] at this;cases this
  · have hne : id ≠ least G := fun e => by rw [← e, hi] at h3; cases h3
    simp only[styF,setR_at (F:=(addR zeroS G id a).1) (v:=validB) (s:=s) hne]
def TOk (es:List PE) (n:Nat):Prop:=LOk es∧(∃d,WF (FoR es) d)∧AllGS (FoR es)∧lenF (FoR es)≤n
theorem TOk.add {es es':List PE} {n:Nat} (h:TOk es n) {up a:Int} (he:FoR es'=(addR zeroS (FoR es) up a).1) (hk:LOk es'):TOk es' (n+1):=by
  obtain⟨_,⟨d,hd⟩,hg,hl⟩:=h;have h1:=hd.act_len ⟨0,up,a,0,zeroS⟩;refine⟨hk,by rw[he];exact hd.addR zeroS up a,by rw[he];exact hg.addR up a,?_⟩;rw[he];exact Int.le_trans h1 (by omega)
theorem TOk.set {es es':List PE} {n:Nat} (h:TOk es n) {i:Int} {s:List Value} (hs:SOk s) (he:FoR es'=(setR validB (FoR es) i s).1) (hk:LOk es'):TOk es' (n+1):=by
  obtain⟨_,⟨d,hd⟩,hg,hl⟩:=h;have h1:=hd.act_len ⟨4,i,0,0,s⟩;refine⟨hk,by rw[he];exact hd.setR validB i s,by rw[he];exact hg.setR i hs,?_⟩;rw[he];exact Int.le_trans h1 (by omega)
theorem TOk.kids {es:List PE} {n:Nat} (h:TOk es n) (hn:n≤64) (x:Int):(kidsF (FoR es) x).length≤64:=by
  obtain⟨_,⟨d,hd⟩,_,hl⟩:=h;exact Nat.le_trans (kids_few hd hl x) hn
theorem MapOf.look {m m':List (Int×Value)} {l:List Frm} (h:MapOf m l) (h':MapOf m' l) (y:Int):lookM m' y=lookM m y∧∃a b c e:Int,(lookM m y).getD (.agg #[.int .i64 0,.int .i64 0,.int .i64 0,.int .i64 0])=.agg #[.int .i64 a,.int .i64 b,.int .i64 c,.int .i64 e]:=by
  by_cases hy:∃f∈l,f.id=y
  · obtain ⟨f, hf, rfl⟩ := hy
    rw[h.2.1 f hf,h'.2.1 f hf];exact⟨rfl,_,_,_,_,rfl⟩
  · have hn : ∀ f ∈ l, f.id ≠ y := fun f hf e => hy ⟨f, hf, e⟩
    rw[h.2.2 y hn,h'.2.2 y hn];exact⟨rfl,_,_,_,_,rfl⟩
end
theorem TOk.mono {es:List PE} {n m:Nat} (h:TOk es n) (hm:n≤m):TOk es m:=⟨h.1,h.2.1,h.2.2.1,Int.le_trans h.2.2.2 (by omega)⟩
theorem lawHidden_ct (A:Option Addr) (c:Nat) (l:List AC) (up at_:Int) (cs:List Value) (hs:SOk cs) (wd ht:Int):Ct Tryz.prog 7 #[.slice A l.length c,.int .i64 up,.int .i64 at_,.agg cs.toArray,.int .i64 wd,.int .i64 ht] [] (fun w=>RdE w A 59 encA l) (X:=Unit) (fun _=>.bool true) (fun _=>True) (fun _=>[]):=by
  refine Ct.intro Tryz.func7 rfl Tryz.ntmps7 (by simp) (fun w0 hz=>?_);refine sqR ?_;refine WPL.ef (x_boxA (us:=cs) (σ':=fun _=>[_]) rfl (fun _=>rfl)) (fun b9=>?_);refine sg (v:=.bool false) rfl ?_;refine nl (oo ?_);refine sqR ?_;refine WPL.ef (x_call Tryz.call10 fworks_ct [] [0] rfl (fun w hw=>trivial) (τ:=fun _=>[_]) (fun _=>rfl)) (fun _=>?_);refine WPL.fact (fun _=>?_);refine sgB rfl ?_;refine nl (oo ?_);refine sq ?_;refine sqR ?_;refine mvB rfl ?_;refine vl (v_not rfl) ?_;refine nl (oo ?_);refine WP.condF rfl ?_;refine WP.skip (onto_of ?_);refine sqR ?_;refine mvS rfl ?_;refine WPL.ef (x_call Tryz.call22 (grown_ct A c l) [] [0] rfl (fun w hw=>hw.rd hz noNil) (τ:=fun _=>[_,_,_]) (fun _=>rfl)) (fun⟨gb,tp,mb,es,rp,g,bc,bs⟩=>?_);refine WPL.fact (fun hgr=>?_);dsimp only at hgr;refine mv rfl ?_;refine vl (v_extract (v:=.pointer _) rfl rfl) ?_;refine vl (v_extract (v:=.pointer _) rfl rfl) ?_;refine vl (v_extract (v:=.bool _) rfl rfl) ?_;refine sgP rfl ?_;refine sgP rfl ?_;refine sgB rfl ?_;refine nl (oo ?_);refine sq ?_;refine sqR ?_;refine mvB rfl ?_;refine vl (v_not rfl) ?_;refine mvB rfl ?_;refine WPL.splitB 40 rfl (fun h40=>?_) (fun h40=>?_)
  ·refine sk ?_;refine sk ?_;refine vl (v_pickT (u:=.bool _) rfl rfl) ?_;refine mvB rfl ?_;refine sk ?_;refine sk ?_;refine vl (v_pickT (u:=.bool _) rfl rfl) ?_;refine mvB rfl ?_;refine sk ?_;refine sk ?_;refine sk ?_;refine vl (v_pickT (u:=.bool _) rfl rfl) ?_;refine nl (oo ?_);refine WP.condT rfl ?_;refine sqR ?_;refine mvB rfl ?_;refine sgB rfl ?_;refine nl (oo ?_);exact WP.ret1 Tryz.results7 (fun _ h=>h) (fun w hw=>⟨(),rfl,trivial,hw.sel [] (by decide)⟩)
  ·refine vg (v_move (v:=.int .i64 _) rfl) ?_;refine vg (v_gtr rfl rfl) ?_;refine vl (v_pickF (v:=.bool _) rfl rfl) ?_;refine mvB rfl ?_;refine WPL.split 44 rfl (fun h44=>?_) (fun h44=>?_)
   ·refine sk ?_;refine sk ?_;refine vl (v_pickT (u:=.bool _) rfl rfl) ?_;refine mvB rfl ?_;refine sk ?_;refine sk ?_;refine sk ?_;refine vl (v_pickT (u:=.bool _) rfl rfl) ?_;refine nl (oo ?_);refine WP.condT rfl ?_;refine sqR ?_;refine mvB rfl ?_;refine sgB rfl ?_;refine nl (oo ?_);exact WP.ret1 Tryz.results7 (fun _ h=>h) (fun w hw=>⟨(),rfl,trivial,hw.sel [] (by decide)⟩)
   ·refine vg (v_move (v:=.int .i64 _) rfl) ?_;refine vg (v_gtr rfl rfl) ?_;refine vl (v_pickF (v:=.bool _) rfl rfl) ?_;refine mvB rfl ?_;refine WPL.split 48 rfl (fun h48=>?_) (fun h48=>?_)
    ·refine sk ?_;refine sk ?_;refine sk ?_;refine vl (v_pickT (u:=.bool _) rfl rfl) ?_;refine nl (oo ?_);refine WP.condT rfl ?_;refine sqR ?_;refine mvB rfl ?_;refine sgB rfl ?_;refine nl (oo ?_);exact WP.ret1 Tryz.results7 (fun _ h=>h) (fun w hw=>⟨(),rfl,trivial,hw.sel [] (by decide)⟩)
    ·refine vg (v_loadA (cs:=cs) Tryz.isAgg36 Tryz.sizeOf36 rfl (fun w hw=>hw.cl_at (i:=0) rfl 0 (whole _)) (SOk.len hs)) ?_;refine WPL.efG (x_call Tryz.call11 (tame_ct cs hs) [] [0,1,2] rfl (fun w hw=>trivial) (τ:=fun _=>[_,_,_]) (fun _=>rfl)) (fun tb=>?_);refine WPL.fact (fun _=>?_);refine vg (v_not rfl) ?_;refine vl (v_pickF (v:=.bool _) rfl rfl) ?_;refine nl (oo ?_);refine WP.cond rfl (fun h52=>?_) (fun h52=>?_)
     ·refine sqR ?_;refine mvB rfl ?_;refine sgB rfl ?_;refine nl (oo ?_);exact WP.ret1 Tryz.results7 (fun _ h=>h) (fun w hw=>⟨(),rfl,trivial,hw.sel [] (by decide)⟩)
     ·obtain⟨hl30,hFo,hk,hab,hkr⟩:=hgr (by simpa using h40);obtain⟨d,hF0⟩:=AF_wf l;have hF:WF (FoR es) d:=by rw[hFo];exact hF0
      have hFr:WF (absR bs) d:=by rw[hab];exact hF
      have hgs:∀x,GS (stF (FoR es) x):=by rw[hFo];exact(AF_all l).st
      have hgr2:∀x,GS (stF (absR bs) x):=by rw[hab];exact hgs
      have hlf:=AF_few l;have hK:∀x,(kidsF (FoR es) x).length≤64:=fun x=>Nat.le_trans (kids_few (n:=31) hF (by rw[hFo];omega) x) (by decide);have hKr:∀x,(kidsF (absR bs) x).length≤64:=by rw[hab];exact hK
      have hT0:TOk es 31:=⟨hk,⟨d,hF⟩,by rw[hFo];exact AF_all l,by rw[hFo];omega⟩;refine WP.skip (onto_of ?_);refine sqR ?_;refine mvP rfl ?_;refine mvI rfl ?_;refine mvI rfl ?_;refine WPL.ef (x_call Tryz.call15 (flowLay_ct tp mb es hk hF hgs hK wd ht (by omega) (by omega)) [1] [0,2] rfl (fun w hw=>trivial) (τ:=fun _=>[_,_,_,_]) (fun _=>rfl)) (fun⟨mp,ps⟩=>?_);refine WPL.fact (fun hps=>?_);have hmo:=mapOf hps (all_nodup hF hgs wd ht);refine sg (v:=.map _) rfl ?_;refine nl (oo ?_);refine sqR ?_;refine mvP rfl ?_;refine mvI rfl ?_;refine mvI rfl ?_;refine WPL.ef (x_call Tryz.call13 (add_ct tp mb es hk hF up at_) [2] [0,1,3] rfl (fun w hw=>trivial) (τ:=fun _=>[_,_,_,_]) (fun _=>rfl)) (fun es1=>?_);refine WPL.fact (fun hf1=>?_);refine mv rfl ?_;refine vl (v_extract (v:=.int .i64 _) rfl rfl) ?_;refine vl (v_extract (v:=.int .i64 _) rfl rfl) ?_;refine sgI rfl ?_;refine sgI rfl ?_;refine nl (oo ?_);refine sq ?_;refine sqR ?_;refine mvI rfl ?_;refine vl (v_neq rfl rfl) ?_;refine nl (oo ?_);refine WP.condP rfl (fun h66=>?_) (fun h66=>?_)
      ·refine sqR ?_;refine mvB rfl ?_;refine sgB rfl ?_;refine nl (oo ?_);exact WP.ret1 Tryz.results7 (fun _ h=>h) (fun w hw=>⟨(),rfl,trivial,hw.sel [] (by decide)⟩)
      ·refine WP.skip (onto_of ?_);refine sqR ?_;refine mvP rfl ?_;refine mvI rfl ?_;refine vl (v_struct (us:=sH) (pl:=[(0,1),(1,1),(2,1),(3,2),(5,2),(7,2),(9,2),(11,2),(13,2),(15,8),(23,8),(31,4),(35,4),(39,1),(40,1),(41,2),(43,1),(44,1),(45,1),(46,1),(47,1),(48,1),(49,1),(50,1),(51,1),(52,1),(53,2)]) Tryz.underlying36 Tryz.zeroValue36 rfl (by kernel_rfl) rfl rfl (by kernel_rfl)) ?_;refine WPL.ef (x_call Tryz.call14 (set_ct tp mb es1 hf1.2 (addR zeroS (FoR es) up at_).2.1 sH sH_ok) [3] [0,1,2] rfl (fun w hw=>trivial) (τ:=fun _=>[_,_,_,_]) (fun _=>rfl)) (fun es2=>?_);refine WPL.fact (fun hf2=>?_);have hT1:=hT0.add hf1.1 hf1.2;have hT2:=hT1.set sH_ok hf2.1 hf2.2;obtain⟨hH2,hi2⟩:=hid_two hF (up:=up) (a:=at_) (by omega);rw[←hf1.1,←hf2.1] at hH2 hi2;obtain⟨d2,hF2⟩:=hT2.2.1;refine nl (oo ?_);refine sqR ?_;refine mvP rfl ?_;refine mvI rfl ?_;refine WPL.ef (x_call Tryz.call13 (add_ct tp mb es2 hf2.2 hF2 (addR zeroS (FoR es) up at_).2.1 0) [3] [0,1,2] rfl (fun w hw=>trivial) (τ:=fun _=>[_,_,_,_]) (fun _=>rfl)) (fun es3=>?_);refine WPL.fact (fun hf3=>?_);have hT3:=hT2.add hf3.1 hf3.2;refine mv rfl ?_;refine vl (v_extract (v:=.int .i64 _) rfl rfl) ?_;refine vl (v_extract (v:=.int .i64 _) rfl rfl) ?_;refine sgI rfl ?_;refine sgI rfl ?_;refine nl (oo ?_);refine WP.midK [4,5,13,14,17] (X:=List PE) (fun es5=>[]) (fun es5=>fun w=>(TOk es5 64∧Hid (FoR es) (FoR es5) up (addR zeroS (FoR es) up at_).2.1 at_.toNat)∧St w0 (foots []) [treeI tp mb es5,mapI mp (putAll ps)] w) ?_ (fun es5 ρ0=>?_)
       ·refine sqR ?_;refine mvI rfl ?_;refine vl (v_eql rfl rfl) ?_;refine nl (oo ?_);refine WP.condP rfl (fun h79=>?_) (fun h79=>?_)
        ·refine WP.region ?_;refine mvP rfl ?_;refine mvI rfl ?_;refine vl (v_loadA (cs:=cs) Tryz.isAgg36 Tryz.sizeOf36 rfl (fun w hw=>hw.cl_at (i:=0) rfl 0 (whole _)) (SOk.len hs)) ?_;refine WPL.ef (x_call Tryz.call14 (set_ct tp mb es3 hf3.2 (addR zeroS (FoR es2) (addR zeroS (FoR es) up at_).2.1 0).2.1 cs hs) [3] [0,1,2] rfl (fun w hw=>trivial) (τ:=fun _=>[_,_,_,_]) (fun _=>rfl)) (fun es4=>?_);refine WPL.fact (fun hf4=>?_);exact nl fun w hw=>⟨rfl,es4,⟨(via (.int .i64 _) rfl rfl),(via (.int .i64 _) rfl rfl),(via (.bool _) rfl rfl),(via (.pointer _) rfl rfl),(via (.map _) rfl rfl),trivial⟩,⟨(hT3.set hs hf4.1 hf4.2).mono (by decide),by show Hid (FoR es) (FoR es4) _ _ _;rw[hf4.1,hf3.1];exact hH2.set hF2 hi2 (by omega) cs⟩,(hw.sel [3,2] (by decide))⟩
        ·exact WP.skip fun w hw=>⟨rfl,es3,⟨(via (.int .i64 _) rfl rfl),(via (.int .i64 _) rfl rfl),(via (.bool _) rfl rfl),(via (.pointer _) rfl rfl),(via (.map _) rfl rfl),trivial⟩,⟨hT3.mono (by decide),by show Hid (FoR es) (FoR es3) _ _ _;rw[hf3.1];exact hH2.add hF2 hi2 0⟩,(hw.sel [3,2] (by decide))⟩
       ·refine WP.fact (fun⟨hT5,hH5⟩=>?_);obtain⟨d5,hF5⟩:=hT5.2.1;have hg5:=hT5.2.2.1.st;have hal:=hH5.all hF hF5 hg5 wd ht;refine sqR ?_;refine mvP rfl ?_;refine mvI rfl ?_;refine mvI rfl ?_;refine WPL.ef (x_call Tryz.call15 (flowLay_ct tp mb es5 hT5.1 hF5 hg5 (hT5.kids (by decide)) wd ht (by omega) (by omega)) [0] [1] rfl (fun w hw=>trivial) (τ:=fun _=>[_,_,_]) (fun _=>rfl)) (fun⟨mp2,ps2⟩=>?_);refine WPL.fact (fun hps2=>?_);have hmo2:=mapOf hps2 (all_nodup hF5 hg5 wd ht);rw[hal] at hmo2;refine sg (v:=.map _) rfl ?_;refine nl (oo ?_);refine sqR ?_;refine mvP rfl ?_;refine WPL.ef (x_call Tryz.call30 (order_ct tp mb es5 hT5.1 hF5) [1] [0,2] rfl (fun w hw=>trivial) (τ:=fun _=>[_,_,_,_]) (fun _=>rfl)) (fun⟨A6,c6⟩=>?_);refine WPL.fact (fun _=>?_);have hol:(order (FoR es5)).length≤4096:=hF5.len_le 0;refine sgS rfl ?_;refine nl (oo ?_);refine sq ?_;refine sqR ?_;refine sg (v:=.int .i64 (0)) rfl ?_;refine nl (oo ?_);refine WP.block ?_;refine WP.loopK (X:=Nat) [13,17,22,23] (fun k=>[(24,.int .i64 (k:Int))]) (fun k w=>k≤(order (FoR es5)).length∧St w0 (foots []) [treeI tp mb es5,mapI mp (putAll ps),mapI mp2 (putAll ps2),kidsI A6 (order (FoR es5)).length c6 (order (FoR es5))] w) (fun k=>(order (FoR es5)).length - k) 0 ⟨rfl,trivial⟩ (fun w hw=>⟨Nat.zero_le _,(hw.sel [2,0,1,3] (by decide))⟩) (fun k ρ0=>?_);refine WP.fact (fun hkn=>?_);refine sq ?_;refine sqR ?_;refine mvI rfl ?_;refine mvS rfl ?_;refine vl (v_len Tryz.underlying55 rfl) ?_;refine vl (v_lss rfl rfl) ?_;refine nl (oo ?_);refine WP.condP rfl (fun h93=>?_) (fun h93=>?_)
        ·obtain⟨y,hy⟩:∃y,(order (FoR es5))[k]?=some y:=⟨_,List.getElem?_eq_getElem (by omega)⟩;obtain⟨hlm,ra,rb_,rc,rd,hlv⟩:=MapOf.look hmo hmo2 y;refine WP.holds (fun w hw=>hw.row_pos (i:=3) rfl (by omega)) (fun⟨rb,hA⟩=>?_);subst hA;refine WP.skip (onto_of ?_);refine sq ?_;refine WP.block ?_;refine sqR ?_;refine mv (v:=.map _) rfl ?_;refine mvS rfl ?_;refine mvI rfl ?_;refine vl (v_index (j:=k) Tryz.underlying55 Tryz.sizeOf3 rfl rfl rfl (by omega)) ?_;refine vl (v_load1 (u:=.int .i64 _) Tryz.isAgg3 rfl (fun w hw=>hw.row_at1 (i:=3) rfl (by rw[List.getElem?_map,hy];rfl) (by omega))) ?_;refine vl (v_of (v_lookupOk (m:=putAll ps) (k:=y) (z:=.agg #[.int .i64 0,.int .i64 0,.int .i64 0,.int .i64 0]) Tryz.underlying47 Tryz.underlying3 Tryz.zeroValue46 rfl rfl (fun w hw=>hw.mapAt (i:=1) rfl)) (v':=.tuple #[.agg #[.int .i64 ra,.int .i64 rb_,.int .i64 rc,.int .i64 rd],.bool (lookM (putAll ps) y).isSome]) (by rw[hlv])) ?_;refine mv rfl ?_;refine vl (v_extract (v:=.agg _) rfl rfl) ?_;refine vl (v_extract (v:=.bool _) rfl rfl) ?_;refine WPL.ef (x_alloc (us:=[_,_,_,_]) (σ':=fun _=>[_,_,_,_,_]) Tryz.zeroValue46 rfl (fun _=>rfl)) (fun b25=>?_);refine WPL.ef0 (x_storeW (us:=[.int .i64 _,.int .i64 _,.int .i64 _,.int .i64 _]) (σ':=[_,_,_,_,.cl _ _ [_,_,_,_]]) Tryz.sizeOf46 rfl rfl (i:=4) rfl rfl rfl (by simp[Value.oneCell'])) (fun _=>?_);refine sgB rfl ?_;refine nl (oo ?_);refine sqR ?_;refine mv (v:=.map _) rfl ?_;refine mvS rfl ?_;refine mvI rfl ?_;refine vl (v_index (j:=k) Tryz.underlying55 Tryz.sizeOf3 rfl rfl rfl (by omega)) ?_;refine vl (v_load1 (u:=.int .i64 _) Tryz.isAgg3 rfl (fun w hw=>hw.row_at1 (i:=3) rfl (by rw[List.getElem?_map,hy];rfl) (by omega))) ?_;refine vl (v_of (v_lookupOk (m:=putAll ps2) (k:=y) (z:=.agg #[.int .i64 0,.int .i64 0,.int .i64 0,.int .i64 0]) Tryz.underlying47 Tryz.underlying3 Tryz.zeroValue46 rfl rfl (fun w hw=>hw.mapAt (i:=2) rfl)) (v':=.tuple #[.agg #[.int .i64 ra,.int .i64 rb_,.int .i64 rc,.int .i64 rd],.bool (lookM (putAll ps) y).isSome]) (by rw[hlm,hlv])) ?_;refine mv rfl ?_;refine vl (v_extract (v:=.agg _) rfl rfl) ?_;refine vl (v_extract (v:=.bool _) rfl rfl) ?_;refine WPL.ef (x_alloc (us:=[_,_,_,_]) (σ':=fun _=>[_,_,_,_,_,_]) Tryz.zeroValue46 rfl (fun _=>rfl)) (fun b27=>?_);refine WPL.ef0 (x_storeW (us:=[.int .i64 _,.int .i64 _,.int .i64 _,.int .i64 _]) (σ':=[_,_,_,_,_,.cl _ _ [_,_,_,_]]) Tryz.sizeOf46 rfl rfl (i:=5) rfl rfl rfl (by simp[Value.oneCell'])) (fun _=>?_);refine sgB rfl ?_;refine nl (oo ?_);refine sqR ?_;refine mvB rfl ?_;refine mvB rfl ?_;refine vl (v_is (b:=false) (v_neB Tryz.underlying4 rfl rfl) (by simp)) ?_;refine mvB rfl ?_;refine vg (v_loadA (cs:=[.int .i64 _,.int .i64 _,.int .i64 _,.int .i64 _]) Tryz.isAgg46 Tryz.sizeOf46 rfl (fun w hw=>hw.cl_at (i:=4) rfl _ rfl)) ?_;refine vg (v_loadA (cs:=[.int .i64 _,.int .i64 _,.int .i64 _,.int .i64 _]) Tryz.isAgg46 Tryz.sizeOf46 rfl (fun w hw=>hw.cl_at (i:=5) rfl _ rfl)) ?_;refine vg (v_is (b:=false) (v_neA leaf46 (by kernel_rfl) (fun _=>rfl) rfl rfl rfl rfl) (by rw[eqv_self];rfl)) ?_
         refine vl (v_pickF (v:=.bool _) rfl rfl) ?_;refine nl (oo ?_);refine WP.condF rfl ?_;refine WP.skip (onto_of ?_);refine WP.region ?_;refine mvI rfl ?_;refine vl (v_add rfl rfl (by omega)) ?_;refine sgI rfl ?_;exact nl fun w hw=>⟨rfl,k+1,(by omega),⟨rfl,(via (.bool _) rfl rfl),(via (.map _) rfl rfl),(via (.map _) rfl rfl),(via (.slice _ _ _) rfl rfl),trivial⟩,⟨by omega,(hw.sel [0,1,2,3] (by decide))⟩⟩
        ·refine WP.exit (onto_of ?_);refine sqR ?_;refine mvB rfl ?_;refine mvB rfl ?_;refine vg (v_move (v:=.map _) rfl) ?_;refine vg (v_lenMap Tryz.underlying47 rfl (fun w hw=>hw.mapAt (i:=1) rfl)) ?_;refine vg (v_move (v:=.map _) rfl) ?_;refine vg (v_lenMap Tryz.underlying47 rfl (fun w hw=>hw.mapAt (i:=2) rfl)) ?_;refine vg (v_is (b:=true) (v_eql rfl rfl) (decide_eq_true (by rw[hmo.1,hmo2.1]))) ?_;refine vl (v_pickT (u:=.bool _) rfl rfl) ?_;refine sgB rfl ?_;refine nl (oo ?_);exact WP.ret1 Tryz.results7 (fun _ h=>h) (fun w hw=>⟨(),rfl,trivial,hw.sel [] (by decide)⟩)
end Go.Proofs.YtpgjbbaplpdaiaaGreat
namespace Go.Proofs.YtpgjbbaplpdaiaaGreat
open Go.ChangeShapes Go.WideShapes Go.ChangeAt Go.RowKit Go.Deep
theorem flowHidden_lifted (os:Os) (started:os.Started) (H:Type) (enc:TypeId×Value→H):
    ReturnsInHanded {} Tryz.checked os 7 .any (Rows.flowHiddenSpec.pre6 enc Tryz.prog Tryz.f7 Rows.flowHiddenRow.domain false) (Rows.flowHiddenSpec.post enc Tryz.prog Tryz.f7 false true false false):=by
  refine returnsInHanded_of_change (C:=Tryz.checked) own started (by kernel_rfl) Tryz.func7
    (ChangeSpec.witness6 (enc:=enc) (C:=Tryz.checked) false ⟨#[],#[.slice none 0 0,.int .i64 0,.int .i64 0,.agg ([.int .i64 0,.int .i64 0,.int .i64 0,.int .i64 0,.int .i64 0,.int .i64 0,.int .i64 0,.int .i64 0,.int .i64 0,.int .i64 0,.int .i64 0,.int .i64 0,.int .i64 0,.int .i64 0,.int .i64 0,.int .i64 0,.int .i64 0,.int .i64 0,.int .i64 0,.int .i64 0,.int .i64 0,.int .i64 0,.int .i64 0,.int .i64 0,.int .i64 0,.int .i64 0,.int .i64 0,.int .i64 0,.int .i64 0,.int .i64 0,.int .i64 0,.int .i64 0,.int .i64 0,.int .i64 0,.int .i64 0,.int .i64 0,.int .i64 0,.int .i64 0,.int .i64 0,.int .i64 0,.int .i64 0,.int .i64 0,.int .i64 0,.int .i64 0,.int .i64 0,.bool false,.int .i64 0,.bool false,.int .i64 0,.int .i64 0,.int .i64 0,.bool false,.bool false,.int .i64 0,.int .i64 0]).toArray,.int .i64 0,.int .i64 0],[]⟩ 8 (by kernel_rfl) (by kernel_rfl) (by kernel_rfl) (by kernel_rfl)) ?_
  intro W base args ds gs before hval0 hW _ _;have hval:∀(j:Nat) t v,Tryz.f7.params[j]?=some t→args[j]?=some v→Value.okWide Tryz.prog W .any base t v:=hval0;have hW':=hW;obtain⟨p,q,hA0,hV,rfl,hfz,hnd⟩:=hW;have hA:DataW.TrodAll enc Tryz.prog W 0 (fun _=>true) true Tryz.f7.params.toList args.toList ds p:=hA0;rw[Tryz.params7] at hA hval;obtain⟨v0,vs0,d0,ds0,p0,q0,hargs,rfl,rfl,h0,r0⟩:=trodAll_cons hA;obtain⟨v1,vs1,d1,ds1,p1,q1,rfl,rfl,rfl,h1,r1⟩:=trodAll_cons r0;obtain⟨v2,vs2,d2,ds2,p2,q2,rfl,rfl,rfl,h2,r2⟩:=trodAll_cons r1;obtain⟨v3,vs3,d3,ds3,p3,q3,rfl,rfl,rfl,h3,r3⟩:=trodAll_cons r2;obtain⟨v4,vs4,d4,ds4,p4,q4,rfl,rfl,rfl,h4,r4⟩:=trodAll_cons r3;obtain⟨v5,vs5,d5,ds5,p5,q5,rfl,rfl,rfl,h5,r5⟩:=trodAll_cons r4;obtain⟨rfl,rfl,rfl⟩:=trodAll_nil r5;obtain⟨args⟩:=args;obtain rfl:args=_:=hargs;obtain⟨A,l,c,rfl,hrd⟩:=open_acts (hval 0 58 v0 rfl rfl) h0;obtain⟨up,rfl,-,-,-⟩:=open_int Tryz.underlying3 (hval 1 3 v1 rfl rfl) h1;obtain⟨at_,rfl,-,-,-⟩:=open_int Tryz.underlying3 (hval 2 3 v2 rfl rfl) h2;obtain⟨cs,rfl,hl_cs,-⟩:=open_flat leaf36 (by kernel_rfl) Tryz.isAgg36 (hval 3 36 v3 rfl rfl) h3;have hs:=SOk.of_leaves hl_cs;obtain⟨wd,rfl,-,-,-⟩:=open_int Tryz.underlying3 (hval 4 3 v4 rfl rfl) h4;obtain⟨ht,rfl,-,-,-⟩:=open_int Tryz.underlying3 (hval 5 3 v5 rfl rfl) h5;refine(Ct.lawF (lawHidden_ct A c l up at_ cs hs wd ht) hrd).mono fun e W' ⟨he,hb⟩=>?_;subst he;exact⟨_,rfl,law_post laidOut hW' rfl (by kernel_rfl) rfl Tryz.underlying4 (fun _=>rfl) hb⟩
theorem flowHidden_said:Rows.FlowHiddenSaid:=
  OpenClaim.holds_of_wide 7 Tryz.f7 rfl rfl rfl rfl rfl rfl rfl ⟨rfl,rfl,rfl,rfl,rfl⟩ rfl rfl rfl rfl rfl (by kernel_rfl) Tryz.func7 (by kernel_rfl)
    (of_decide_eq_true (by kernel_rfl)) (by unfold Func.isWrapper;rw[if_neg (by decide+kernel)];exact⟨rfl,rfl⟩)
    (fun os started H enc _=>flowHidden_lifted os started H enc)
end Go.Proofs.YtpgjbbaplpdaiaaGreat
