/- The statement FlowMoved is true of every input: the Go function valancelaw15.FlowMoved answers true, and each argument reads behind the call as it did. No condition. -/
import Derived.Test.YtbedndijejpcaaaGreatS26
set_option linter.unusedVariables false
set_option linter.unusedSimpArgs false
set_option linter.unusedSectionVars false
set_option maxRecDepth 100000
set_option maxHeartbeats 8000000
namespace Go.Proofs.YtbedndijejpcaaaGreat
open Go.RowKit
theorem leaf35 : leafK Tryz.prog 10 35 = some [true, true, true, true] := by kernel_rfl
theorem inside_like {F G : Forest (List Value)} (hG : ∀ x, (G x).map (fun b => (b.up, b.kids)) = (F x).map fun b => (b.up, b.kids)) : ∀ (n : Nat) (x : Int), insideF G n x = insideF F n x := by
  intro n
  induction n with
  | zero => intro x; rfl
  | succ n ih =>
    intro x
    have hx := hG x
    cases e : F x with
    | none =>
      rw [e] at hx
      have e' : G x = none := by cases h : G x <;> simp [h] at hx; rfl
      rw [inside_none _ e, inside_none _ e']
    | some b =>
      rw [e] at hx
      obtain ⟨c, hc, he⟩ := Option.map_eq_some_iff.1 hx
      simp only [Prod.mk.injEq] at he
      rw [inside_some n e, inside_some n hc, he.2]
      congr 1
      exact flatMap_congr' fun k _ => ih k
theorem set_order (F : Forest (List Value)) (id : Int) (s : List Value) : order (setG F id s) = order F := inside_like (set_at F id s) 64 0
def sW:List Value:=[.int .i64 0,.int .i64 0,.int .i64 0,.int .i64 0,.int .i64 0,.int .i64 0,.int .i64 0,.int .i64 0,.int .i64 0,.int .i64 0,.int .i64 0,.int .i64 0,.int .i64 0,.int .i64 0,.int .i64 0,.int .i64 0,.int .i64 0,.int .i64 0,.int .i64 0,.int .i64 0,.int .i64 0,.int .i64 0,.int .i64 0,.int .i64 0,.int .i64 0,.int .i64 0,.int .i64 0,.int .i64 0,.int .i64 0,.int .i64 0,.int .i64 0,.int .i64 1,.int .i64 2,.int .i64 3,.int .i64 4,.int .i64 0,.int .i64 0,.int .i64 0,.int .i64 0,.int .i64 0,.int .i64 0,.int .i64 0,.int .i64 0,.int .i64 0,.int .i64 0,.bool false,.int .i64 0,.bool false,.int .i64 0,.int .i64 0,.int .i64 0,.bool false,.bool false,.int .i64 30,.int .i64 20]
theorem sW_ok:SOk sW:=SOk.of_leaves rfl
abbrev W0:Forest (List Value):=newF zeroS
abbrev W1:Forest (List Value):=(addR zeroS W0 0 0).1
abbrev W2:Forest (List Value):=(setR validB W1 1 sW).1
theorem we1:(addR zeroS W0 0 0).2=(1,0):=by kernel_rfl
theorem we2:(setR validB W1 1 sW).2=0:=by kernel_rfl
theorem we3:(kidsP W2 0 false).length=1:=by kernel_rfl
theorem we4:shownF W2 1=true:=by kernel_rfl
theorem we5:stF W2 1=sW:=by kernel_rfl
theorem we6:lenF W2=2:=by kernel_rfl
theorem we7:allP W2 100 50=[⟨0,0,0,100,24,[⟨1,0,0,100,24,[]⟩]⟩,⟨1,0,0,100,24,[]⟩]:=by kernel_rfl
theorem ww0:∃d,WF W0 d:=⟨_,WF.new zeroS⟩
theorem ww1:∃d,WF W1 d:=by obtain⟨d,h⟩:=ww0;exact h.addR zeroS 0 0
theorem ww2:∃d,WF W2 d:=by obtain⟨d,h⟩:=ww1;exact h.setR validB 1 sW
theorem wgs:AllGS W2:=(AllGS.new.addR 0 0).setR 1 sW_ok
section
variable (tp mb:Nat) (es:List PE) (hk:LOk es)
include hk
theorem wkA (h:FoR es=W0):Ct Tryz.prog 50 #[.pointer (some ⟨tp,0,none⟩),.int .i64 0,.int .i64 0] [treeI tp mb es] (fun _=>True) (X:=List PE) (fun _=>.tuple #[.int .i64 1,.int .i64 0]) (fun es'=>FoR es'=W1∧LOk es') (fun es'=>[treeI tp mb es']):=by
  obtain⟨d,hd⟩:=ww0;have h1:=add_ct tp mb es hk (h▸hd) 0 0;rw[h,we1] at h1;exact h1
theorem wkB (h:FoR es=W1):Ct Tryz.prog 20 #[.pointer (some ⟨tp,0,none⟩),.int .i64 1,.agg sW.toArray] [treeI tp mb es] (fun _=>True) (X:=List PE) (fun _=>.int .i64 0) (fun es'=>FoR es'=W2∧LOk es') (fun es'=>[treeI tp mb es']):=by
  have h1:=set_ct tp mb es hk 1 sW sW_ok;rw[h,we2] at h1;exact h1
theorem wkC (h:FoR es=W2):Ct Tryz.prog 21 #[.pointer (some ⟨tp,0,none⟩),.int .i64 100,.int .i64 50] [treeI tp mb es] (fun _=>True) (X:=Nat×List Frm) (fun p=>.map (some p.1)) (fun p=>MapOf (putAll p.2) [⟨0,0,0,100,24,[⟨1,0,0,100,24,[]⟩]⟩,⟨1,0,0,100,24,[]⟩]) (fun p=>[treeI tp mb es,mapI p.1 (putAll p.2)]):=by
  obtain⟨d,hd⟩:=ww2;have h1:=flowLay_ct tp mb es hk (h▸hd) (by rw[h];exact wgs.st) (by rw[h];exact fun x=>Nat.le_trans (kids_few (n:=2) hd (by rw[we6];decide) x) (by decide)) 100 50 (by decide) (by decide);refine h1.to (fun p=>p) (fun _=>rfl) (fun p hp=>?_) (fun _=>rfl);have h2:=mapOf hp (by rw[h];exact all_nodup hd wgs.st 100 50);rw[h,we7] at h2;exact h2
theorem wkD (h:FoR es=W2):Ct Tryz.prog 51 #[.pointer (some ⟨tp,0,none⟩),.int .i64 0] [treeI tp mb es] (fun _=>True) (X:=Option Addr×Nat) (fun p=>.slice p.1 1 p.2) (fun _=>True) (fun p=>[treeI tp mb es,kidsI p.1 1 p.2 (kidsP W2 0 false)]):=by
  obtain⟨d,hd⟩:=ww2;have h1:=fflows_ct tp mb es hk (h▸hd) 0;rw[h,we3] at h1;exact h1
theorem wkE (h:FoR es=W2):Ct Tryz.prog 48 #[.pointer (some ⟨tp,0,none⟩),.int .i64 1] [treeI tp mb es] (fun _=>True) (X:=Unit) (fun _=>.bool true) (fun _=>True) (fun _=>[treeI tp mb es]):=by
  obtain⟨d,hd⟩:=ww2;have h1:=fshown_ct tp mb es hk (h▸hd) 1;rw[h,we4] at h1;exact h1
theorem wkF (h:FoR es=W2):Ct Tryz.prog 18 #[.pointer (some ⟨tp,0,none⟩),.int .i64 1] [treeI tp mb es] (fun _=>True) (X:=Unit) (fun _=>.agg sW.toArray) (fun _=>True) (fun _=>[treeI tp mb es]):=by
  have h1:=style_ct tp mb es hk 1;rw[h,show styF zeroS W2 1=sW from we5] at h1;exact h1
end
theorem wkG:Ct Tryz.prog 40 #[.agg sW.toArray] [] (fun _=>True) (X:=Unit) (fun _=>q4 1 2 3 4) (fun _=>True) (fun _=>[]):=fedges_ct sW sW_ok (fun i hi=>by match i,hi with | 0,_=>decide | 1,_=>decide | 2,_=>decide | 3,_=>decide)
theorem fworks_ct:Ct Tryz.prog 16 #[] [] (fun _=>True) (X:=Unit) (fun _=>.bool true) (fun _=>True) (fun _=>[]):=by
  refine Ct.intro Tryz.func16 rfl Tryz.ntmps16 (by simp) (fun w0 _=>?_);refine sqR ?_;refine sg (v:=.bool false) rfl ?_;refine nl (oo ?_);refine sqR ?_;refine WPL.ef (x_call Tryz.call49 new_ct [] [] rfl (fun w hw=>trivial) (τ:=fun _=>[_]) (fun _=>rfl)) (fun⟨tp,mb,nb⟩=>?_);refine WPL.fact (fun _=>?_);refine sgP rfl ?_;refine nl (oo ?_);refine sq ?_;refine sqR ?_;refine mvP rfl ?_;refine vl (v_eqNil Tryz.underlying24 rfl rfl) ?_;refine nl (oo ?_);refine WP.condF rfl ?_;refine WP.skip (onto_of ?_);refine sqR ?_;refine mvP rfl ?_;refine WPL.ef (x_call Tryz.call50 (wkA tp mb _ (newE_ok nb).2 (newE_ok nb).1) [0] [] rfl (fun w hw=>trivial) (τ:=fun _=>[_]) (fun _=>rfl)) (fun es1=>?_);refine WPL.fact (fun hf1=>?_);refine nl (oo ?_);refine sqR ?_;refine mvP rfl ?_;refine vl (v_array (us:=[.int .i64 _,.int .i64 _]) Tryz.underlying40 Tryz.zeroValue40 Tryz.sizeOf3 rfl rfl rfl) ?_;refine vl (v_array (us:=[.int .i64 _,.int .i64 _,.int .i64 _,.int .i64 _]) Tryz.underlying35 Tryz.zeroValue35 Tryz.sizeOf3 rfl rfl rfl) ?_;refine vl (v_struct (us:=sW) (pl:=[(0,1),(1,1),(2,1),(3,2),(5,2),(7,2),(9,2),(11,2),(13,2),(15,8),(23,8),(31,4),(35,4),(39,1),(40,1),(41,2),(43,1),(44,1),(45,1),(46,1),(47,1),(48,1),(49,1),(50,1),(51,1),(52,1),(53,2)]) Tryz.underlying42 Tryz.zeroValue42 rfl (by kernel_rfl) rfl rfl (by kernel_rfl)) ?_;refine WPL.ef (x_call Tryz.call20 (wkB tp mb es1 hf1.2 hf1.1) [0] [] rfl (fun w hw=>trivial) (τ:=fun _=>[_]) (fun _=>rfl)) (fun es2=>?_);refine WPL.fact (fun hf2=>?_);refine nl (oo ?_);refine sqR ?_;refine mvP rfl ?_;refine WPL.ef (x_call Tryz.call21 (wkC tp mb es2 hf2.2 hf2.1) [0] [] rfl (fun w hw=>trivial) (τ:=fun _=>[_,_]) (fun _=>rfl)) (fun⟨mp,ps⟩=>?_);refine WPL.fact (fun⟨hml,hmf,_⟩=>?_);have hl0:=hmf _ (List.mem_cons_self);have hl1:=hmf _ (List.mem_cons_of_mem _ List.mem_cons_self);dsimp only at hl0 hl1 hml;refine sg (v:=.map _) rfl ?_;refine nl (oo ?_);refine sqR ?_;refine mv (v:=.map _) rfl ?_;refine vl (v_of (v_lookup (m:=putAll ps) (k:=0) (z:=.agg #[.int .i64 0,.int .i64 0,.int .i64 0,.int .i64 0]) Tryz.underlying47 Tryz.underlying3 Tryz.zeroValue52 rfl rfl (fun w hw=>hw.mapAt (i:=1) rfl)) (v':=.agg #[.int .i64 0,.int .i64 0,.int .i64 100,.int .i64 24]) (by rw[hl0];rfl)) ?_;refine vl (v_struct (us:=[.int .i64 _,.int .i64 _,.int .i64 _,.int .i64 _]) (pl:=[(0,1),(1,1),(2,1),(3,1)]) Tryz.underlying52 Tryz.zeroValue52 rfl (by kernel_rfl) rfl rfl (by kernel_rfl)) ?_;refine vl (v_is (b:=true) (v_eqA leaf52 (by kernel_rfl) (fun _=>rfl) rfl rfl rfl rfl) (eqv_self _)) ?_;refine mvB rfl ?_;refine vg (v_move (v:=.map _) rfl) ?_;refine vg (v_of (v_lookup (m:=putAll ps) (k:=1) (z:=.agg #[.int .i64 0,.int .i64 0,.int .i64 0,.int .i64 0]) Tryz.underlying47 Tryz.underlying3 Tryz.zeroValue52 rfl rfl (fun w hw=>hw.mapAt (i:=1) rfl)) (v':=.agg #[.int .i64 0,.int .i64 0,.int .i64 100,.int .i64 24]) (by rw[hl1];rfl)) ?_;refine vg (v_struct (us:=[.int .i64 _,.int .i64 _,.int .i64 _,.int .i64 _]) (pl:=[(0,1),(1,1),(2,1),(3,1)]) Tryz.underlying52 Tryz.zeroValue52 rfl (by kernel_rfl) rfl rfl (by kernel_rfl)) ?_
  refine vg (v_is (b:=true) (v_eqA leaf52 (by kernel_rfl) (fun _=>rfl) rfl rfl rfl rfl) (eqv_self _)) ?_;refine vl (v_pickT (u:=.bool _) rfl rfl) ?_;refine mvB rfl ?_;refine vg (v_move (v:=.map _) rfl) ?_;refine vg (v_lenMap Tryz.underlying47 rfl (fun w hw=>hw.mapAt (i:=1) rfl)) ?_;refine vg (v_is (b:=true) (v_eql rfl rfl) (decide_eq_true (by rw[hml];rfl))) ?_;refine vl (v_pickT (u:=.bool _) rfl rfl) ?_;refine mvB rfl ?_;refine vg (v_move (v:=.pointer _) rfl) ?_;refine WPL.efG (x_call Tryz.call51 (wkD tp mb es2 hf2.2 hf2.1) [0] [1] rfl (fun w hw=>trivial) (τ:=fun _=>[_,_,_]) (fun _=>rfl)) (fun⟨kA,kc⟩=>?_);refine WPL.fact (fun _=>?_);refine vg (v_len Tryz.underlying49 rfl) ?_;refine vg (v_is (b:=true) (v_eql rfl rfl) (decide_eq_true rfl)) ?_;refine vl (v_pickT (u:=.bool _) rfl rfl) ?_;refine mvB rfl ?_;refine vg (v_move (v:=.pointer _) rfl) ?_;refine WPL.efG (x_call Tryz.call48 (wkE tp mb es2 hf2.2 hf2.1) [1] [0,2] rfl (fun w hw=>trivial) (τ:=fun _=>[_,_,_]) (fun _=>rfl)) (fun _=>?_);refine WPL.fact (fun _=>?_);refine vl (v_pickT (u:=.bool _) rfl rfl) ?_;refine mvB rfl ?_;refine vg (v_move (v:=.pointer _) rfl) ?_;refine WPL.efG (x_call Tryz.call18 (wkF tp mb es2 hf2.2 hf2.1) [2] [0,1] rfl (fun w hw=>trivial) (τ:=fun _=>[_,_,_]) (fun _=>rfl)) (fun _=>?_);refine WPL.fact (fun _=>?_);refine WPL.efG (x_call Tryz.call40 wkG [] [0,1,2] rfl (fun w hw=>trivial) (τ:=fun _=>[_,_,_]) (fun _=>rfl)) (fun _=>?_);refine WPL.fact (fun _=>?_);refine vg (v_array (us:=[.int .i64 _,.int .i64 _,.int .i64 _,.int .i64 _]) Tryz.underlying35 Tryz.zeroValue35 Tryz.sizeOf3 rfl rfl rfl) ?_;refine vg (v_is (b:=true) (v_eqA leaf35 (by kernel_rfl) (fun _=>rfl) rfl rfl rfl rfl) (eqv_self _)) ?_;refine vl (v_pickT (u:=.bool _) rfl rfl) ?_;refine sgB rfl ?_;refine nl (oo ?_);exact WP.ret1 Tryz.results16 (fun _ h=>h) (fun w hw=>⟨(),rfl,trivial,hw.sel [] (by decide)⟩)
structure Agr (F F':Forest (List Value)) (C:Int→Prop):Prop where
  st:∀x,C x→stF F' x=stF F x
  kp:∀x,C x→kidsP F' x false=kidsP F x false
  kd:∀x k,C x→k∈kidsF F x→C k
  up:∀x,C x→upF F' x=upF F x
  cu:∀x,C x→0≤upF F x→C (upF F x)
section
variable {F F':Forest (List Value)} {C:Int→Prop} (g:Agr F F' C)
include g
theorem Agr.kc (x:Int) (a:Bool) (k:Int) (hx:C x) (h:k∈kidsP F x a):C k:=g.kd x k hx (kidsP_sub h)
theorem Agr.op {x:Int} (hx:C x) (b:Bool):openP F' x b=openP F x b:=by
  unfold openP;rw[g.up x hx,g.st x hx]
  by_cases h:0≤upF F x
  · rw[g.st _ (g.cu x hx h)]
  · simp[h]
theorem Agr.next {x:Int} (hx:C x) (b:Bool):nextP F' x b=nextP F x b:=by
  unfold nextP;rw[g.op hx,g.kp x hx]
theorem Agr.nextC {x:Int} (hx:C x) {b:Bool} {k:Int} (h:nextP F x b=some k):C k:=by
  unfold nextP at h
  split at h
  · split at h
    · exact g.kc x false k hx (List.mem_of_getLast? h)
    · exact g.kc x false k hx (List.mem_of_head? h)
  · cases h
theorem Agr.ends:∀(n:Nat) {x:Int} (_:C x) (b:Bool),endsP F' n x b=endsP F n x b
  | 0,_,_,_=>rfl
  | n + 1, x, hx, b => by
    rw[endsP,endsP,g.st x hx,g.next hx];cases h:nextP F x b with
    | none=>rfl
    | some k=>simp only;rw[Agr.ends n (g.nextC hx h) b]
theorem Agr.en {x:Int} (hx:C x) (b:Bool):endP F' x b=endP F x b:=congrArg collP (g.ends 64 hx b)
omit g in
theorem sumN_congr {f h:Nat→Int}:∀n,(∀i,i<n→f i=h i)→sumN f n=sumN h n
  | 0,_=>rfl
  | n+1,hh=>by rw[sumN,sumN,sumN_congr n fun i hi=>hh i (by omega),hh n (by omega)]
section
variable {L:LayF} {ks:List Int} (hk:∀k∈ks,C k) {iw ih:Int}
include hk
theorem Agr.kS {i:Nat} (hi:i<ks.length):kS F' ks i=kS F ks i:=g.st _ (hk _ (gI_mem hi))
theorem Agr.block {id:Int} (hid:C id):blockP F' L ks iw ih id=blockP F L ks iw ih id:=by
  have ht:∀b,bTops F' ks b=bTops F ks b:=fun b=>tab_congr fun i hi=>g.en (hk _ (gI_mem hi)) b;have hf:bFrom F' ks id=bFrom F ks id:=by unfold bFrom;rw[g.op hid,ht]
  unfold blockP;rw[hf,ht,ht,g.op hid];refine congrArg (·,_) (tab_congr fun i hi=>?_);simp only[bX];rw[g.kS hk hi]
section
variable {c:List Value} {a b:Nat} (hb:b≤ks.length)
include hb
theorem Agr.rE {i:Nat} (hi:i<ks.length):rExt F' ks iw i=rExt F ks iw i:=by unfold rExt;rw[g.kS hk hi]
theorem Agr.lS:lSizes F' ks iw c a b=lSizes F ks iw c a b:=by
  unfold lSizes
  rw [tab_congr (f := fun i => itA (Go.Proofs.YtbedndijejpcaaaGreat.kS F' ks (a + i)) iw) (g := fun i => itA (Go.Proofs.YtbedndijejpcaaaGreat.kS F ks (a + i)) iw) fun i hi => by rw [g.kS hk (by omega)],
    sumN_congr (f := fun i => rExt F' ks iw (a + i)) (h := fun i => rExt F ks iw (a + i)) _ fun i hi => g.rE hk hb (by omega)]
theorem Agr.l1 {i:Nat} (hi:i<b - a):lF1 F' L ks iw ih c a b i=lF1 F L ks iw ih c a b i:=by unfold lF1;rw[g.lS hk hb,g.kS hk (by omega)]
theorem Agr.lM:lMost F' L ks iw ih c a b=lMost F L ks iw ih c a b:=maxN_congr _ fun i hi=>by rw[g.l1 hk hb hi,g.kS hk (by omega)]
theorem Agr.lHs (one:Bool):lH F' L ks iw ih c a b one=lH F L ks iw ih c a b one:=by unfold lH;rw[g.lM hk hb]
theorem Agr.line (one:Bool):lineP F' L ks iw ih c a b one=lineP F L ks iw ih c a b one:=by
  have hal:lAlong F' L ks iw ih c a b=lAlong F L ks iw ih c a b:=tab_congr fun i hi=>by rw[g.l1 hk hb hi,g.kS hk (by omega)]
  unfold lineP;rw[g.lHs hk hb];refine tab_congr fun i hi=>?_;have h2:∀hh,lF2 F' L ks iw ih c a b hh i=lF2 F L ks iw ih c a b hh i:=fun hh=>by
    unfold lF2;rw[g.l1 hk hb hi,g.kS hk (by omega)]
  simp only[lOut,lStart];rw[hal,h2,g.kS hk (by omega)]
end
theorem Agr.rowN {c:List Value} {ls:List (Nat×Nat)} (hls:∀p∈ls,p.2≤ks.length):∀n,rowN F' L ks iw ih c ls n=rowN F L ks iw ih c ls n
  | 0=>rfl
  | n + 1 => by
    have hp:(ls.getD n (0,0)).2≤ks.length:=by
      rw[List.getD_eq_getElem?_getD];cases e:ls[n]? with
      | none=>simp
      | some p=>exact hls p (List.mem_of_getElem? e)
    simp only[Go.Proofs.YtbedndijejpcaaaGreat.rowN];rw[Agr.rowN hls n,g.line hk hp,g.lHs hk hp]
theorem Agr.rL (c:List Value):rLines F' ks iw c=rLines F ks iw c:=by
  unfold rLines rLong;rw[tab_congr (f:=fun i=>baseI (itA (Go.Proofs.YtbedndijejpcaaaGreat.kS F' ks i) iw)+rExt F' ks iw i) (g:=fun i=>baseI (itA (Go.Proofs.YtbedndijejpcaaaGreat.kS F ks i) iw)+rExt F ks iw i) fun i hi=>by rw[g.kS hk hi,g.rE hk (Nat.le_refl _) hi]]
theorem Agr.row {id:Int} (hid:C id):rowP F' L ks iw ih id=rowP F L ks iw ih id:=by
  unfold rowP;rw[g.st id hid,g.rL hk];exact g.rowN hk (fun p hp=>by have hx:=(breaks_in hp).2.1;rw[show (rLong F ks iw).length=ks.length from tab_len] at hx;exact hx) _
theorem Agr.column {id:Int} (hid:C id):columnP F' L ks iw ih id=columnP F L ks iw ih id:=by
  unfold columnP;rw[g.st id hid]
  generalize stF F id=c
  have h0:∀i,i<ks.length→cSet F' ks iw c i=cSet F ks iw c i:=fun i hi=>by unfold cSet;rw[g.kS hk hi]
  have h1:∀i,i<ks.length→cItem F' L ks iw ih c i=cItem F L ks iw ih c i:=fun i hi=>by
    unfold cItem cF1;rw[g.kS hk hi,h0 i hi]
  have he:∀i,i<ks.length→cExt F' ks i=cExt F ks i:=fun i hi=>by unfold cExt;rw[g.kS hk hi]
  have hs:cSizes F' L ks iw ih c=cSizes F L ks iw ih c:=by
    unfold cSizes;rw[tab_congr h1,tab_congr (f:=fun i=>baseI (cItem F' L ks iw ih c i)) (g:=fun i=>baseI (cItem F L ks iw ih c i)) fun i hi=>by rw[h1 i hi],sumN_congr _ he]
  have h2:∀i,i<ks.length→cF2 F' L ks iw ih c i=cF2 F L ks iw ih c i:=fun i hi=>by
    unfold cF2;rw[hs,g.kS hk hi,h0 i hi]
  have hal:cAlong F' L ks iw ih c=cAlong F L ks iw ih c:=tab_congr fun i hi=>by rw[h2 i hi,g.kS hk hi]
  rw[hal];refine congrArg (·,_) (tab_congr fun i hi=>?_);simp only[cOut,cStart,cRoom];rw[hal,h2 i hi,g.kS hk hi]
end
theorem Agr.inn {L:LayF} {id iw ih:Int} (hid:C id):inP F' L id iw ih=inP F L id iw ih:=by
  have hk:∀k∈kidsP F id false,C k:=fun k h=>g.kc id false k hid h;unfold inP;rw[g.kp id hid,g.st id hid,g.row hk hid,g.column hk hid,g.block hk hid]
theorem Agr.apart {ww wh iw ih k:Int} {L:LayF} {s:List Value} (hk:C k):apartP F' ww wh L s iw ih k=apartP F ww wh L s iw ih k:=by
  have hw:∀rw' rh px py,withinP F' L k rw' rh px py=withinP F L k rw' rh px py:=fun rw' rh px py=>by
    unfold withinP wF wSetW wSetH;rw[g.st k hk]
  unfold apartP;rw[hw,hw,g.st k hk]
theorem Agr.step {ww wh:Int} {L:LayF} {id:Int} (hid:C id) (kt:kidsP F' id true=kidsP F id true) (hL:∀k∈kidsF F id,LB L k):SameL (layStep F' ww wh L) (layStep F ww wh L) id:=fun rw' rh sw sh=>by
  unfold layStep;rw[g.inn hid,g.st id hid,kt]
  congr 2
  · refine List.map_congr_left fun f hf => ?_
    have hi:=(in_ids (F:=F) (L:=L) (iw:=iwP (stF F id) rw' sw) (ih:=ihP (stF F id) rh sh) hL).1;have hm:f.id∈kidsP F id false:=by rw[←hi];exact List.mem_map.2 ⟨f,hf,rfl⟩
    unfold moveF;rw[g.st f.id (g.kc id false _ hid hm)]
  · exact List.map_congr_left fun k hk=>g.apart (g.kc id true k hid hk)
theorem Agr.lay (kt:∀x,C x→kidsP F' x true=kidsP F x true) (hg:∀x,GS (stF F' x)) (ww wh:Int):∀(n:Nat) (k:Int),C k→SameL (layN F' ww wh n) (layN F ww wh n) k
  | 0,k,_=>fun _ _ _ _=>rfl
  | n + 1, k, hk => fun rw' rh sw sh => by
    have h1:=g.step (ww:=ww) (wh:=wh) (L:=layN F' ww wh n) hk (kt k hk) fun j _=>layN_LB ww wh (hg j) n;have h2:=layStep_same (F:=F) (ww:=ww) (wh:=wh) (id:=k) fun j hj=>Agr.lay kt hg ww wh n j (g.kd k j hk hj);exact(h1 rw' rh sw sh).trans (h2 rw' rh sw sh)
theorem Agr.all (kt:∀x,C x→kidsP F' x true=kidsP F x true) (hg:∀x,GS (stF F' x)) (h0:C 0) (hs:shownF F' 0=shownF F 0) (w h:Int):allP F' w h=allP F w h:=by
  unfold allP LAY;rw[hs,g.lay kt hg _ _ 64 0 h0]
end
structure Ext (F G:Forest (List Value)) (up id:Int) (k:Nat):Prop where
  old:∀x,hasF F x=true→G x=addG F up k id zeroS x
  new:hasF F id=false
structure Hid (F G:Forest (List Value)) (up id:Int) (k:Nat):Prop extends Ext F G up id k where
  sty:val (stF G id) 0=3
section
variable {F G:Forest (List Value)} {d d':Int→Nat} {up id:Int} {k:Nat}
theorem Ext.at (h:Ext F G up id k) {x:Int} {b:TBox (List Value)} (hx:F x=some b):G x=some {b with kids:=if x=up then insAt b.kids k id else b.kids}:=by
  have hne:x≠id:=fun e=>by have:=h.new;rw[←e,has_some hx] at this;cases this
  rw[h.old x (has_some hx)];unfold addG
  by_cases e:x=up
  · rw[if_pos e,if_pos e,←e,hx];rfl
  · rw[if_neg e,if_neg hne,if_neg e,hx]
theorem Ext.st (h:Ext F G up id k) {x:Int} (hx:hasF F x=true):stF G x=stF F x:=by
  obtain⟨b,hb⟩:=some_has hx;simp[styF,h.at hb,hb]
theorem Ext.upF (h:Ext F G up id k) {x:Int} (hx:hasF F x=true):upF G x=upF F x:=by
  obtain⟨b,hb⟩:=some_has hx;simp[Go.Proofs.YtbedndijejpcaaaGreat.upF,h.at hb,hb]
theorem Ext.has (h:Ext F G up id k) {x:Int} (hx:hasF F x=true):hasF G x=true:=by
  obtain⟨b,hb⟩:=some_has hx;exact has_some (h.at hb)
theorem up_old (hF:WF F d) {x:Int} (hx:hasF F x=true):hasF F (Go.Proofs.YtbedndijejpcaaaGreat.upF F x)=true∨Go.Proofs.YtbedndijejpcaaaGreat.upF F x= -1:=by
  by_cases h0:x=0
  · right
    obtain⟨b,hb,hu⟩:=hF.root;rw[h0,up_some hb,hu]
  · exact .inl (hF.up_has hx h0).1
theorem Ext.shN (h:Ext F G up id k) (hF:WF F d) (hG:WF G d'):∀(n:Nat) (x:Int),hasF F x=true→shownN G n x=shownN F n x
  | 0,_,_=>rfl
  | n + 1, x, hx => by
    rw[shownN,shownN,if_pos hx,if_pos (h.has hx),h.st hx,h.upF hx]
    rcases up_old hF hx with h1 | h1
    · rw[Ext.shN h hF hG n _ h1]
    · rw [h1]
      cases n with
      | zero=>rfl
      | succ n=>rw[shownN,shownN,if_neg (by rw[has_none (hG.neg (by decide))];decide),if_neg (by rw[has_none (hF.neg (by decide))];decide)]
theorem Ext.sh (h:Ext F G up id k) (hF:WF F d) (hG:WF G d') {x:Int} (hx:hasF F x=true):shownF G x=shownF F x:=by
  unfold shownF;rw[hx,h.has hx,h.shN hF hG 64 x hx]
theorem Hid.no (h:Hid F G up id k):shownF G id=false:=by
  unfold shownF;cases e:hasF G id with
  | false=>rfl
  | true=>rw[show (64:Nat)=63+1 from rfl,shownN,if_pos e,h.sty];rfl
theorem filt_ins {p:Int→Bool} {l:List Int} {x:Int} (hp:p x=false) (k:Nat):(insAt l k x).filter p=l.filter p:=by
  unfold insAt;rw[List.filter_append,List.filter_cons,hp];simp only[Bool.false_eq_true,if_false];rw[←List.filter_append,List.take_append_drop]
theorem Hid.kp (h:Hid F G up id k) (hF:WF F d) (hG:WF G d') {x:Int} (hx:hasF F x=true) (a:Bool):kidsP G x a=kidsP F x a:=by
  obtain⟨b,hb⟩:=some_has hx;unfold kidsP;have hq:(kidsF F x).filter (fun k=>shownF G k&&(outB (stF G k)==a))=(kidsF F x).filter (fun k=>shownF F k&&(outB (stF F k)==a)):=List.filter_congr fun k hk=>by
    have h1:=(kid_rank' hF hk).1;rw[h.sh hF hG h1,h.st h1]
  rw[←hq,kids_some (h.at hb),kids_some hb];simp only
  split
  · exact filt_ins (by rw[h.no];rfl) k
  · rfl
theorem Hid.agr (h:Hid F G up id k) (hF:WF F d) (hG:WF G d'):Agr F G (fun x=>hasF F x=true):=by
  refine⟨fun x hx=>h.st hx,fun x hx=>h.kp hF hG hx false,fun x k hx hk=>(kid_rank' hF hk).1,fun x hx=>h.upF hx,fun x hx h0=>?_⟩
  rcases up_old hF hx with h1 | h1
  · exact h1
  · rw[h1] at h0;omega
theorem Hid.all (h:Hid F G up id k) (hF:WF F d) (hG:WF G d') (hg:∀x,GS (stF G x)) (w hh:Int):allP G w hh=allP F w hh:=by
  have h0:hasF F 0=true:=by obtain⟨b,hb,_⟩:=hF.root;exact has_some hb
  exact(h.agr hF hG).all (fun x hx=>h.kp hF hG hx true) hg h0 (h.sh hF hG h0) w hh
theorem Hid.same {G':Forest (List Value)} (h:Hid F G up id k) (hs:∀x,hasF F x=true→G' x=G x) (hi:stF G' id=stF G id):Hid F G' up id k:=
  ⟨⟨fun x hx=>(hs x hx).trans (h.old x hx),h.new⟩,by rw[hi];exact h.sty⟩
theorem addR_ok (hF:WF F d) {up a:Int} (h:(addR zeroS F up a).2.2=0):(addR zeroS F up a).1=addG F up a.toNat (least F) zeroS∧(addR zeroS F up a).2.1=least F∧hasF F (least F)=false∧hasF F up=true:=by
  have hl:=hF.least_ok.2.2.1;unfold addR at*
  split at h
  · simp at h
  · split at h
    · simp at h
    · split at h
      · simp at h
      · split at h
        · simp at h
        · rename_i h1 h2 h3 h4
          rw[if_neg h1,if_neg h2,if_neg h3,if_neg h4];exact⟨rfl,rfl,hl,by simpa using h1⟩
theorem addR_at (hF:WF F d) {up a x:Int} (hx:hasF F x=true) (hu:x≠up):(addR zeroS F up a).1 x=F x:=by
  have hl:=hF.least_ok.2.2.1;unfold addR
  repeat' split
  all_goals first | rfl | skip
  unfold addG;dsimp only;rw[if_neg hu,if_neg (fun e=>by rw[e,hl] at hx;cases hx)]
theorem addR_st (hF:WF F d) {up a x:Int} (hx:hasF F x=true):stF (addR zeroS F up a).1 x=stF F x:=by
  have hl:=hF.least_ok.2.2.1;unfold addR
  repeat' split
  all_goals first | rfl | skip
  obtain⟨b,hb⟩:=some_has hx;show styF zeroS (addG F up a.toNat (least F) zeroS) x=styF zeroS F x;unfold addG styF;dsimp only
  by_cases e:x=up
  · rw[if_pos e,←e,hb];rfl
  · rw[if_neg e,if_neg (fun e=>by rw[e,hl] at hx;cases hx)]
theorem setR_at {v:List Value→Bool} {i x:Int} {s:List Value} (hu:x≠i):(setR v F i s).1 x=F x:=by
  unfold setR
  repeat' split
  all_goals first | rfl | skip
  unfold setG;dsimp only;rw[if_neg hu]
theorem Hid.add (h:Hid F G up id k) (hG:WF G d') (hi:hasF G id=true) (a:Int):Hid F (addR zeroS G id a).1 up id k:=by
  refine h.same (fun x hx=>addR_at hG (h.has hx) (fun e=>?_)) (addR_st hG hi);have:=h.new;rw[←e,hx] at this;cases this
theorem Hid.set (h:Hid F G up id k) (hG:WF G d') (hi:hasF G id=true) {a:Int} (e3:(addR zeroS G id a).2.2=0) (s:List Value):Hid F (setR validB (addR zeroS G id a).1 (addR zeroS G id a).2.1 s).1 up id k:=by
  obtain⟨_,h2,h3,_⟩:=addR_ok hG e3;have h4:=h.add hG hi a;rw[h2];refine h4.same (fun x hx=>setR_at fun e=>?_) ?_
  · have := h.has hx
    rw[e,h3] at this;cases this
  · have hne : id ≠ least G := fun e => by rw [← e, hi] at h3; cases h3
    simp only[styF,setR_at (F:=(addR zeroS G id a).1) (v:=validB) (s:=s) hne]
def TOk (es:List PE) (n:Nat):Prop:=LOk es∧(∃d,WF (FoR es) d)∧AllGS (FoR es)∧lenF (FoR es)≤n
theorem TOk.add {es es':List PE} {n:Nat} (h:TOk es n) {up a:Int} (he:FoR es'=(addR zeroS (FoR es) up a).1) (hk:LOk es'):TOk es' (n+1):=by
  obtain⟨_,⟨d,hd⟩,hg,hl⟩:=h;have h1:=hd.act_len ⟨0,up,a,0,zeroS⟩;refine⟨hk,by rw[he];exact hd.addR zeroS up a,by rw[he];exact hg.addR up a,?_⟩;rw[he];exact Int.le_trans h1 (by omega)
theorem TOk.set {es es':List PE} {n:Nat} (h:TOk es n) {i:Int} {s:List Value} (hs:SOk s) (he:FoR es'=(setR validB (FoR es) i s).1) (hk:LOk es'):TOk es' (n+1):=by
  obtain⟨_,⟨d,hd⟩,hg,hl⟩:=h;have h1:=hd.act_len ⟨4,i,0,0,s⟩;refine⟨hk,by rw[he];exact hd.setR validB i s,by rw[he];exact hg.setR i hs,?_⟩;rw[he];exact Int.le_trans h1 (by omega)
theorem TOk.kids {es:List PE} {n:Nat} (h:TOk es n) (hn:n≤64) (x:Int):(kidsF (FoR es) x).length≤64:=by
  obtain⟨_,⟨d,hd⟩,_,hl⟩:=h;exact Nat.le_trans (kids_few hd hl x) hn
end
def star (L:LayF):LayF:=fun k rw rh sw sh=>{L k rw rh sw sh with kids:=[⟨k,rw,rh,sw,sh,[]⟩]}
def kidsO (L:LayF) (l:List Frm):List Frm:=match l with | [a]=>(L a.id a.x a.y a.w a.h).kids | _=>l
def dec (L:LayF) (f:Frm):Frm:={f with kids:=kidsO L f.kids}
section
variable {F:Forest (List Value)} {L:LayF} {ks:List Int} {iw ih:Int}
theorem block_dec (id:Int):(blockP F L ks iw ih id).1=(blockP F (star L) ks iw ih id).1.map (dec L)∧(blockP F L ks iw ih id).2=(blockP F (star L) ks iw ih id).2:=by
  unfold blockP;dsimp only;rw[tab_map];exact⟨rfl,rfl⟩
theorem column_dec (id:Int):(columnP F L ks iw ih id).1=(columnP F (star L) ks iw ih id).1.map (dec L)∧(columnP F L ks iw ih id).2=(columnP F (star L) ks iw ih id).2:=by
  unfold columnP;dsimp only;rw[tab_map];exact⟨rfl,rfl⟩
section
variable {c:List Value} {a b:Nat}
theorem lH_star (one:Bool):lH F (star L) ks iw ih c a b one=lH F L ks iw ih c a b one:=rfl
theorem lF2_h (hh:Int) (i:Nat):(lF2 F (star L) ks iw ih c a b hh i).h=(lF2 F L ks iw ih c a b hh i).h:=by
  unfold lF2
  split<;>rfl
theorem dec_star (k x y z u:Int):dec L (star L k x y z u)=L k x y z u:=by
  show ({L k x y z u with kids:=(L k x y z u).kids}:Frm)=_;cases L k x y z u;rfl
theorem lF2_dec (hh:Int) (i:Nat):dec L (lF2 F (star L) ks iw ih c a b hh i)=lF2 F L ks iw ih c a b hh i:=by
  unfold lF2
  split
  · exact dec_star _ _ _ _ _
  · exact dec_star _ _ _ _ _
theorem line_dec (one:Bool):lineP F L ks iw ih c a b one=(lineP F (star L) ks iw ih c a b one).map (dec L):=by
  unfold lineP;rw[tab_map,lH_star];refine tab_congr fun i _=>?_;have h:dec L (lOut F (star L) ks iw ih c a b (lH F L ks iw ih c a b one) i)={dec L (lF2 F (star L) ks iw ih c a b (lH F L ks iw ih c a b one) i) with x:=lStart F L ks iw ih c a b i+mS (kS F ks (a+i)) iw 3,y:=acrossP (val c 44) ((lF2 F (star L) ks iw ih c a b (lH F L ks iw ih c a b one) i).h+mD (kS F ks (a+i))) (lH F L ks iw ih c a b one)+mS (kS F ks (a+i)) iw 0}:=rfl;rw[h,lF2_dec,lF2_h];rfl
end
theorem rowN_dec {c:List Value} {ls:List (Nat×Nat)}:∀n,(rowN F L ks iw ih c ls n).1=(rowN F (star L) ks iw ih c ls n).1.map (dec L)∧(rowN F L ks iw ih c ls n).2=(rowN F (star L) ks iw ih c ls n).2
  | 0=>⟨rfl,rfl⟩
  | n + 1 => by
    obtain⟨h1,h2⟩:=rowN_dec (c:=c) (ls:=ls) n;simp only[rowN];rw[h1,h2,line_dec,lH_star];refine⟨?_,rfl⟩;rw[List.map_append,List.map_map,List.map_map];rfl
theorem row_dec (id:Int):(rowP F L ks iw ih id).1=(rowP F (star L) ks iw ih id).1.map (dec L)∧(rowP F L ks iw ih id).2=(rowP F (star L) ks iw ih id).2:=rowN_dec _
end
section
variable {F:Forest (List Value)} {L:LayF}
theorem inn_dec {id iw ih:Int}:(inP F L id iw ih).1=(inP F (star L) id iw ih).1.map (dec L)∧(inP F L id iw ih).2=(inP F (star L) id iw ih).2:=by
  unfold inP
  split
  · exact⟨rfl,rfl⟩
  · split
    · exact row_dec id
    · split
      · exact column_dec id
      · exact block_dec id
theorem apart_dec {ww wh iw ih k:Int} {s:List Value}:apartP F ww wh L s iw ih k=dec L (apartP F ww wh (star L) s iw ih k):=by
  unfold apartP
  split<;>rfl
theorem apart_kids {ww wh iw ih k:Int} {s:List Value}:∃rw rh sw sh,(apartP F ww wh (star L) s iw ih k).kids=[⟨k,rw,rh,sw,sh,[]⟩]:=by
  unfold apartP
  split<;>exact⟨_,_,_,_,rfl⟩
end
structure Sim (s s':List Value):Prop where
  v:∀j,j≠1→(j<23∨30<j)→val s' j=val s j
  b:∀j,bval s' j=bval s j
  o:outB s'=outB s
  i:outB s=true→s'=s
theorem Sim.refl (s:List Value):Sim s s:=⟨fun _ _ _=>rfl,fun _=>rfl,rfl,fun _=>rfl⟩
section
variable {s s':List Value} (h:Sim s s')
include h
theorem Sim.eS (i:Nat):eS s' i=eS s i:=by unfold Go.Proofs.YtbedndijejpcaaaGreat.eS;rw[h.v _ (by omega) (by omega),h.v _ (by omega) (by omega)]
theorem Sim.eA:eA s'=eA s:=by unfold Go.Proofs.YtbedndijejpcaaaGreat.eA;rw[h.eS,h.eS]
theorem Sim.eD:eD s'=eD s:=by unfold Go.Proofs.YtbedndijejpcaaaGreat.eD;rw[h.eS,h.eS]
theorem Sim.mS (b:Int) {i:Nat} (hi:i<4):mS s' b i=mS s b i:=by unfold Go.Proofs.YtbedndijejpcaaaGreat.mS;rw[h.v _ (by omega) (by omega),h.v _ (by omega) (by omega)]
theorem Sim.mA (b:Int):mA s' b=mA s b:=by unfold Go.Proofs.YtbedndijejpcaaaGreat.mA;rw[h.mS b (by decide),h.mS b (by decide)]
theorem Sim.mD:mD s'=mD s:=by unfold Go.Proofs.YtbedndijejpcaaaGreat.mD;rw[h.mS 0 (by decide),h.mS 0 (by decide)]
theorem Sim.limW (n r:Int):limW s' n r=limW s n r:=by unfold Go.Proofs.YtbedndijejpcaaaGreat.limW;rw[h.v 7 (by decide) (by decide),h.v 8 (by decide) (by decide),h.v 11 (by decide) (by decide),h.v 12 (by decide) (by decide)]
theorem Sim.limH (n r:Int):limH s' n r=limH s n r:=by unfold Go.Proofs.YtbedndijejpcaaaGreat.limH;rw[h.v 9 (by decide) (by decide),h.v 10 (by decide) (by decide),h.v 13 (by decide) (by decide),h.v 14 (by decide) (by decide)]
theorem Sim.iwP (rw' sw:Int):iwP s' rw' sw=iwP s rw' sw:=by unfold Go.Proofs.YtbedndijejpcaaaGreat.iwP;rw[h.limW,h.mA,h.eA,h.v 3 (by decide) (by decide),h.v 4 (by decide) (by decide)]
theorem Sim.ihP (rh sh:Int):ihP s' rh sh=ihP s rh sh:=by unfold Go.Proofs.YtbedndijejpcaaaGreat.ihP;rw[h.limH,h.eD,h.v 5 (by decide) (by decide),h.v 6 (by decide) (by decide)]
theorem Sim.ihEnd (rh ih n:Int):ihEnd s' rh ih n=ihEnd s rh ih n:=by unfold Go.Proofs.YtbedndijejpcaaaGreat.ihEnd;rw[h.limH]
theorem Sim.itA (iw:Int):itA s' iw=itA s iw:=by unfold Go.Proofs.YtbedndijejpcaaaGreat.itA;rw[h.v 41 (by decide) (by decide),h.v 42 (by decide) (by decide),h.v 3 (by decide) (by decide),h.v 4 (by decide) (by decide),h.v 53 (by decide) (by decide),h.v 7 (by decide) (by decide),h.v 8 (by decide) (by decide),h.v 11 (by decide) (by decide),h.v 12 (by decide) (by decide),h.v 39 (by decide) (by decide),h.v 40 (by decide) (by decide)]
theorem Sim.itD (ih own:Int):itD s' ih own=itD s ih own:=by unfold Go.Proofs.YtbedndijejpcaaaGreat.itD;rw[h.v 41 (by decide) (by decide),h.v 42 (by decide) (by decide),h.v 9 (by decide) (by decide),h.v 10 (by decide) (by decide),h.v 13 (by decide) (by decide),h.v 14 (by decide) (by decide),h.v 39 (by decide) (by decide),h.v 40 (by decide) (by decide)]
end
structure Agm (F F':Forest (List Value)):Prop where
  st:∀x,Sim (stF F x) (stF F' x)
  kd:∀x,kidsF F' x=kidsF F x
  up:∀x,upF F' x=upF F x
  sh:∀x,shownF F' x=shownF F x
section
variable {F F':Forest (List Value)} (g:Agm F F')
include g
theorem Agm.kp (x:Int) (a:Bool):kidsP F' x a=kidsP F x a:=by
  unfold kidsP;rw[g.kd];exact List.filter_congr fun k _=>by rw[g.sh,(g.st k).o]
theorem Agm.op (x:Int) (b:Bool):openP F' x b=openP F x b:=by
  unfold openP;rw[g.up x,(g.st _).v 0 (by decide) (by decide),(g.st x).o,(g.st x).v 5 (by decide) (by decide),(g.st x).v 9 (by decide) (by decide),(g.st x).v 0 (by decide) (by decide),(g.st x).v 2 (by decide) (by decide),(g.st x).eS]
theorem Agm.next (x:Int) (b:Bool):nextP F' x b=nextP F x b:=by unfold nextP;rw[g.op,g.kp]
theorem Agm.ends:∀(n:Nat) (x:Int) (b:Bool),endsP F' n x b=endsP F n x b
  | 0,_,_=>rfl
  | n + 1, x, b => by
    rw[endsP,endsP,(g.st x).mS 0 (by cases b<;>decide),g.next];cases h:nextP F x b with
    | none=>rfl
    | some k=>simp only;rw[Agm.ends n k b]
theorem Agm.en (x:Int) (b:Bool):endP F' x b=endP F x b:=congrArg collP (g.ends 64 x b)
section
variable {L:LayF} {ks:List Int} {iw ih:Int}
theorem Agm.kS (i:Nat):Sim (kS F ks i) (kS F' ks i):=g.st _
theorem Agm.block (id:Int):blockP F' L ks iw ih id=blockP F L ks iw ih id:=by
  have ht:∀b,bTops F' ks b=bTops F ks b:=fun b=>tab_congr fun i hi=>g.en _ b;have hf:bFrom F' ks id=bFrom F ks id:=by unfold bFrom;rw[g.op,ht]
  unfold blockP;rw[hf,ht,ht,g.op];refine congrArg (·,_) (tab_congr fun i hi=>?_);have hx:bX F' L ks iw ih i=bX F L ks iw ih i:=by
    unfold bX;rw[(g.kS i).v 21 (by decide) (by decide),(g.kS i).v 22 (by decide) (by decide),(g.kS i).v 17 (by decide) (by decide),(g.kS i).v 18 (by decide) (by decide)]
  rw[hx]
section
variable {c c':List Value} (hc:Sim c c') {a b:Nat}
theorem Agm.rE (i:Nat):rExt F' ks iw i=rExt F ks iw i:=by unfold rExt;rw[(g.kS i).eA,(g.kS i).mA]
include hc
theorem Agm.lS:lSizes F' ks iw c' a b=lSizes F ks iw c a b:=by
  unfold lSizes
  rw [hc.v 46 (by decide) (by decide), tab_congr (f := fun i => itA (Go.Proofs.YtbedndijejpcaaaGreat.kS F' ks (a + i)) iw) (g := fun i => itA (Go.Proofs.YtbedndijejpcaaaGreat.kS F ks (a + i)) iw) fun i hi => (g.kS (a + i)).itA iw,
    sumN_congr (f := fun i => rExt F' ks iw (a + i)) (h := fun i => rExt F ks iw (a + i)) _ fun i hi => g.rE (a + i)]
theorem Agm.l1 (i:Nat):lF1 F' L ks iw ih c' a b i=lF1 F L ks iw ih c a b i:=by unfold lF1;rw[g.lS hc,(g.kS _).eA]
theorem Agm.lM:lMost F' L ks iw ih c' a b=lMost F L ks iw ih c a b:=maxN_congr _ fun i hi=>by rw[g.l1 hc,(g.kS _).mD]
theorem Agm.lHs (one:Bool):lH F' L ks iw ih c' a b one=lH F L ks iw ih c a b one:=by unfold lH;rw[g.lM hc]
theorem Agm.line (one:Bool):lineP F' L ks iw ih c' a b one=lineP F L ks iw ih c a b one:=by
  have hal:lAlong F' L ks iw ih c' a b=lAlong F L ks iw ih c a b:=tab_congr fun i hi=>by rw[g.l1 hc,(g.kS _).mA]
  unfold lineP;rw[g.lHs hc];refine tab_congr fun i hi=>?_;have h2:∀hh,lF2 F' L ks iw ih c' a b hh i=lF2 F L ks iw ih c a b hh i:=fun hh=>by
    unfold lF2;rw[g.l1 hc,hc.v 44 (by decide) (by decide),(g.kS (a+i)).v 5 (by decide) (by decide),(g.kS (a+i)).limH,(g.kS (a+i)).eD,(g.kS (a+i)).mD]
  simp only[lOut,lStart];rw[hal,h2,hc.v 43 (by decide) (by decide),hc.v 44 (by decide) (by decide),hc.v 46 (by decide) (by decide),(g.kS (a+i)).mS iw (by decide),(g.kS (a+i)).mS iw (by decide),(g.kS (a+i)).mD]
theorem Agm.rowN {ls:List (Nat×Nat)}:∀n,rowN F' L ks iw ih c' ls n=rowN F L ks iw ih c ls n
  | 0=>rfl
  | n + 1 => by
    simp only[Go.Proofs.YtbedndijejpcaaaGreat.rowN];rw[Agm.rowN n,g.line hc,g.lHs hc,hc.v 46 (by decide) (by decide)]
theorem Agm.rL:rLines F' ks iw c'=rLines F ks iw c:=by
  unfold rLines rLong;rw[hc.v 46 (by decide) (by decide),hc.b 45,tab_congr (f:=fun i=>baseI (itA (Go.Proofs.YtbedndijejpcaaaGreat.kS F' ks i) iw)+rExt F' ks iw i) (g:=fun i=>baseI (itA (Go.Proofs.YtbedndijejpcaaaGreat.kS F ks i) iw)+rExt F ks iw i) fun i hi=>by rw[(g.kS i).itA,g.rE]]
end
theorem Agm.row (id:Int):rowP F' L ks iw ih id=rowP F L ks iw ih id:=by
  unfold rowP;rw[g.rL (g.st id)];exact g.rowN (g.st id) _
theorem Agm.column (id:Int):columnP F' L ks iw ih id=columnP F L ks iw ih id:=by
  unfold columnP;have hc:=g.st id
  generalize stF F id=c at*
  generalize stF F' id=c' at*
  have h0:∀i,cSet F' ks iw c' i=cSet F ks iw c i:=fun i=>by unfold cSet;rw[hc.v 44 (by decide) (by decide),(g.kS i).v 3 (by decide) (by decide),(g.kS i).limW,(g.kS i).v 53 (by decide) (by decide),(g.kS i).eA]
  have h1:∀i,cItem F' L ks iw ih c' i=cItem F L ks iw ih c i:=fun i=>by
    unfold cItem cF1;rw[h0 i,(g.kS i).itD,(g.kS i).eD]
  have he:∀i,cExt F' ks i=cExt F ks i:=fun i=>by unfold cExt;rw[(g.kS i).eD,(g.kS i).mD]
  have hs:cSizes F' L ks iw ih c'=cSizes F L ks iw ih c:=by
    unfold cSizes;rw[hc.v 46 (by decide) (by decide),tab_congr (fun i _=>h1 i),tab_congr (f:=fun i=>baseI (cItem F' L ks iw ih c' i)) (g:=fun i=>baseI (cItem F L ks iw ih c i)) fun i hi=>by rw[h1 i],sumN_congr _ fun i _=>he i]
  have h2:∀i,cF2 F' L ks iw ih c' i=cF2 F L ks iw ih c i:=fun i=>by
    unfold cF2;rw[hs,h0 i,(g.kS i).eD]
  have hal:cAlong F' L ks iw ih c'=cAlong F L ks iw ih c:=tab_congr fun i hi=>by rw[h2 i,(g.kS i).mD]
  rw[hal,hc.v 46 (by decide) (by decide)];refine congrArg (·,_) (tab_congr fun i hi=>?_);simp only[cOut,cStart,cRoom];rw[hal,h2 i,hc.v 43 (by decide) (by decide),hc.v 44 (by decide) (by decide),hc.v 46 (by decide) (by decide),(g.kS i).mS iw (by decide),(g.kS i).mS iw (by decide),(g.kS i).mA]
end
theorem Agm.inn {L:LayF} {id iw ih:Int}:inP F' L id iw ih=inP F L id iw ih:=by
  unfold inP;rw[g.kp,(g.st id).v 54 (by decide) (by decide),(g.st id).v 0 (by decide) (by decide),g.row,g.column,g.block]
theorem Agm.apart {ww wh iw ih k:Int} {L:LayF} {s s':List Value} (hs:Sim s s') (hk:outB (stF F k)=true):apartP F' ww wh L s' iw ih k=apartP F ww wh L s iw ih k:=by
  have e:=(g.st k).i hk;have hw:∀rw' rh px py,withinP F' L k rw' rh px py=withinP F L k rw' rh px py:=fun rw' rh px py=>by
    unfold withinP wF wSetW wSetH;rw[e]
  unfold apartP;rw[hw,hw,e,hs.v 38 (by decide) (by decide),hs.v 35 (by decide) (by decide),hs.v 34 (by decide) (by decide),hs.v 32 (by decide) (by decide),hs.v 31 (by decide) (by decide),hs.v 33 (by decide) (by decide)]
end
def shf (id dx dy:Int) (f:Frm):Frm:=if f.id=id then {f with x:=f.x+dx,y:=f.y+dy} else f
structure Mvd (F F':Forest (List Value)) (id dx dy:Int):Prop extends Agm F F' where
  at_:∀iw ih,movX (stF F' id) iw=movX (stF F id) iw+dx∧movY (stF F' id) ih=movY (stF F id) ih+dy
  off:∀x,x≠id→stF F' x=stF F x
  inn_:outB (stF F id)=false
def nkM (f:Frm):Frm:={f with kids:=[]}
def allM (n:Nat) (l:List Frm):List Frm:=(l.flatMap (flatN n)).map nkM
section
variable {id dx dy:Int}
theorem allM_cons (n:Nat) (f:Frm) (l:List Frm):allM n (f::l)=allM n [f]++allM n l:=by
  unfold allM;rw[List.flatMap_cons,List.map_append,List.flatMap_singleton]
theorem allM_append (n:Nat) (l m:List Frm):allM n (l++m)=allM n l++allM n m:=by
  unfold allM;rw[List.flatMap_append,List.map_append]
theorem allM_one (n:Nat) (f:Frm):allM (n+1) [f]=nkM f::allM n f.kids:=by
  unfold allM;rw[List.flatMap_singleton,flatN,List.map_cons]
theorem allM_zero (l:List Frm):allM 0 l=[]:=by
  unfold allM;have:l.flatMap (flatN 0)=[]:=List.flatMap_eq_nil_iff.2 fun _ _=>rfl;rw[this];rfl
theorem allM_map {α:Type} (n:Nat) {u v:α→Frm}:∀{l:List α},(∀x∈l,allM n [u x]=(allM n [v x]).map (shf id dx dy))→allM n (l.map u)=(allM n (l.map v)).map (shf id dx dy)
  | [],_=>rfl
  | x :: l, h => by
    rw[List.map_cons,List.map_cons,allM_cons,allM_cons n (v x),h x (by simp),allM_map n fun y hy=>h y (by simp[hy]),List.map_append]
theorem same_mov {L L':LayF} {g:Frm} {j:Int} {rw' rh sw sh:Int} (hk:g.kids=[⟨j,rw',rh,sw,sh,[]⟩]) (hj:∀n,allM n (L' j rw' rh sw sh).kids=(allM n (L j rw' rh sw sh).kids).map (shf id dx dy)) {v v':Frm→Frm} (hv:nkM (v' (dec L' g))=shf id dx dy (nkM (v (dec L g)))) (h1:(v' (dec L' g)).kids=(dec L' g).kids) (h2:(v (dec L g)).kids=(dec L g).kids):∀n,allM n [v' (dec L' g)]=(allM n [v (dec L g)]).map (shf id dx dy)
  | 0=>by rw[allM_zero,allM_zero];rfl
  | n + 1 => by
    rw[allM_one,allM_one,hv,h1,h2,List.map_cons];have e1:(dec L' g).kids=(L' j rw' rh sw sh).kids:=by unfold dec;rw[hk];rfl
    have e2:(dec L g).kids=(L j rw' rh sw sh).kids:=by unfold dec;rw[hk];rfl
    rw[e1,e2,hj n]
variable {F G:Forest (List Value)} {d:Int→Nat}
theorem Mvd.lay (h:Mvd F G id dx dy) (hF:WF F d) (hg:∀x,GS (stF F x)) (ww wh:Int):∀(m:Nat) (j:Int) (rw' rh sw sh:Int),nkM (layN G ww wh m j rw' rh sw sh)=nkM (layN F ww wh m j rw' rh sw sh)∧∀n,allM n (layN G ww wh m j rw' rh sw sh).kids=(allM n (layN F ww wh m j rw' rh sw sh).kids).map (shf id dx dy)
  | 0, _, _, _, _, _ => ⟨rfl, fun n => by
      show allM n [] = (allM n []).map _
      unfold allM
      rfl⟩
  | m + 1, j, rw', rh, sw, sh => by
    have ag:=h.toAgm;have ih:=fun i=>Mvd.lay h hF hg ww wh m i;show nkM (layStep G ww wh (layN G ww wh m) j rw' rh sw sh)=nkM (layStep F ww wh (layN F ww wh m) j rw' rh sw sh)∧∀n,allM n (layStep G ww wh (layN G ww wh m) j rw' rh sw sh).kids=(allM n (layStep F ww wh (layN F ww wh m) j rw' rh sw sh).kids).map (shf id dx dy);have hL:∀i,LB (layN F ww wh m) i:=fun i=>layN_LB ww wh (hg i) m
    generalize hLG:layN G ww wh m=LG at*
    generalize hLF:layN F ww wh m=LF at*
    have hs:∀i,SameL (star LG) (star LF) i:=fun i a b c e=>by
      have h1:=(ih i a b c e).1;show ({nkM (LG i a b c e) with kids:=[⟨i,a,b,c,e,[]⟩]}:Frm)={nkM (LF i a b c e) with kids:=[⟨i,a,b,c,e,[]⟩]};rw[h1]
    have hin:∀iw ihh,inP G (star LG) j iw ihh=inP F (star LF) j iw ihh:=fun iw ihh=>(ag.inn (L:=star LG)).trans (inP_same fun i _=>hs i);have hG1:∀iw ihh,(inP G LG j iw ihh).1=(inP F (star LF) j iw ihh).1.map (dec LG)∧(inP G LG j iw ihh).2=(inP F (star LF) j iw ihh).2:=fun iw ihh=>by
      have h1:=inn_dec (F:=G) (L:=LG) (id:=j) (iw:=iw) (ih:=ihh);rw[hin] at h1;exact h1
    have hF1:∀iw ihh,(inP F LF j iw ihh).1=(inP F (star LF) j iw ihh).1.map (dec LF)∧(inP F LF j iw ihh).2=(inP F (star LF) j iw ihh).2:=fun iw ihh=>inn_dec;have hst:=ag.st j;unfold layStep;rw[hst.iwP,hst.ihP,hst.eA,hst.eD,hst.ihEnd,(hG1 _ _).1,(hG1 _ _).2,(hF1 _ _).1,(hF1 _ _).2];refine⟨rfl,fun n=>?_⟩;dsimp only;rw[allM_append,allM_append,List.map_append,List.map_map,List.map_map,ag.kp]
    congr 1
    · refine allM_map n fun g hgm => ?_
      have hids:=in_ids (F:=F) (L:=star LF) (id:=j) (iw:=iwP (stF F j) rw' sw) (ih:=ihP (stF F j) rh sh) fun i _=>(hL i);have hgi:g.id∈kidsP F j false:=by rw[←hids.1];exact List.mem_map.2 ⟨g,hgm,rfl⟩
      obtain⟨a,b,c,e,_,_,hgk⟩:=hids.2 g hgm;refine same_mov (v':=moveF G _ _ _) (v:=moveF F _ _ _) hgk (fun n=>(ih g.id a b c e).2 n) ?_ rfl rfl n;have e1:(dec LG g).id=g.id:=rfl;have e2:(dec LF g).id=g.id:=rfl;unfold moveF nkM shf;dsimp only;rw[hst.eS,hst.eS,e1,e2]
      by_cases hi:g.id=id
      · rw [if_pos hi, hi, (h.at_ _ (ihP (stF F j) rh sh)).1, (h.at_ (iwP (stF F j) rw' sw) _).2]
        have q1:∀a b c:Int,a+b+(c+dx)=a+b+c+dx:=fun a b c=>by omega
        have q2:∀a b c:Int,a+b+(c+dy)=a+b+c+dy:=fun a b c=>by omega
        rw[q1,q2];rfl
      · rw [if_neg hi, h.off _ hi]
        rfl
    · refine allM_map n fun i hi => ?_
      have hio:outB (stF F i)=true:=by
        have:=(List.mem_filter.1 hi).2;simp only[Bool.and_eq_true,beq_iff_eq] at this;exact this.2
      rw[apart_dec (F:=G),apart_dec (F:=F),ag.apart (L:=star LG) hst hio,apartP_same (hs i)];obtain⟨a,b,c,e,hk⟩:=apart_kids (F:=F) (L:=LF) (ww:=ww) (wh:=wh) (iw:=iwP (stF F j) rw' sw) (ih:=ihEnd (stF F j) rh (ihP (stF F j) rh sh) (inP F (star LF) j (iwP (stF F j) rw' sw) (ihP (stF F j) rh sh)).2) (k:=i) (s:=stF F j);refine same_mov (v':=fun f=>f) (v:=fun f=>f) hk (fun n=>(ih i a b c e).2 n) ?_ rfl rfl n;have hid:(apartP F ww wh (star LF) (stF F j) (iwP (stF F j) rw' sw) (ihEnd (stF F j) rh (ihP (stF F j) rh sh) (inP F (star LF) j (iwP (stF F j) rw' sw) (ihP (stF F j) rh sh)).2) i).id=i:=(apart_ids (L:=star LF) (hL i)).1;have hne:i≠id:=fun q=>by rw[q,h.inn_] at hio;cases hio
      unfold shf;rw[if_neg (by show (apartP F ww wh (star LF) _ _ _ i).id≠id;rw[hid];exact hne)];rfl
theorem Mvd.all (h:Mvd F G id dx dy) (hF:WF F d) (hg:∀x,GS (stF F x)) (h0:id≠0) (w hh:Int):(allP G w hh).map nkM=((allP F w hh).map nkM).map (shf id dx dy):=by
  have h1:=h.lay hF hg (max w 0) (max hh 0) 64 0 (max w 0) (max hh 0) (-1) (-1);have e:∀f:Frm,(flatN 64 f).map nkM=allM 64 [f]:=fun f=>by unfold allM;rw[List.flatMap_singleton]
  have hid:(layN F (max w 0) (max hh 0) 64 0 (max w 0) (max hh 0) (-1) (-1)).id=0:=(layN_LB (max w 0) (max hh 0) (hg 0) 64 (max w 0) (max hh 0) (-1) (-1)).1;unfold allP LAY;rw[h.sh]
  split
  · rw [e, e, show (64 : Nat) = 63 + 1 from rfl, allM_one, allM_one, ← show (64 : Nat) = 63 + 1 from rfl, h1.1, h1.2 63, List.map_cons]
    congr 1
    unfold shf;rw[if_neg (by show (layN F (max w 0) (max hh 0) 64 0 (max w 0) (max hh 0) (-1) (-1)).id≠id;rw[hid];exact fun q=>h0 q.symm)]
  · rfl
end
theorem cut_le {a A:Int} (h:a≤A) (hA:0≤A):cut a≤A:=by unfold cut;omega
theorem le_cut {a A:Int} (h:-A≤a) (hA:0≤A):-A≤cut a:=by unfold cut;omega
theorem addI_le {a b A B:Int} (ha:a≤A) (hb:b≤B) (hA:0≤A) (hB:0≤B):addI a b≤A+B:=cut_le (by have:=cut_le ha hA;have:=cut_le hb hB;omega) (by omega)
theorem le_addI {a b A B:Int} (ha:-A≤a) (hb:-B≤b) (hA:0≤A) (hB:0≤B):-(A+B)≤addI a b:=le_cut (by have:=le_cut ha hA;have:=le_cut hb hB;omega) (by omega)
theorem part_tame {b n:Int} (hb:0≤b) (hn:n≤10000):0≤partI b n∧partI b n≤b:=by
  unfold partI;have h0:0≤cut b:=by unfold cut;omega
  have h1:=cut_le (Int.le_refl b) hb
  generalize cut b=c at*
  have hm:0≤min (max n 0) 1000000∧min (max n 0) 1000000≤10000:=by omega
  generalize min (max n 0) 1000000=m at*
  have h2:0≤c*m:=Int.mul_nonneg h0 hm.1;have h3:c*m≤c*10000:=Int.mul_le_mul_of_nonneg_left hm.2 h0;unfold cut;omega
theorem ofL_hi {k n b d0 B:Int} (ht:lenTame (k,n)) (h1:1048576≤B) (hb:b≤B) (hd:d0≤B):ofL k n b d0≤B:=by
  obtain⟨t1,t2⟩:=ht;unfold ofL
  split
  · exact cut_le hd (by omega)
  · rename_i hf
    have hf':fixedL k b=true:=by simpa using hf
    unfold fixedL at hf';have hf2:=of_decide_eq_true hf'
    split
    · rename_i hk;exact cut_le (by have:=t1 hk;dsimp only at this;omega) (by omega)
    · have hk : k = 2 := by omega
      have:=(part_tame (b:=b) (n:=n) (by omega) (t2 hk)).2;omega
theorem ofL_lo {k n b d0 B:Int} (ht:lenTame (k,n)) (h1:1048576≤B) (hd:-B≤d0):-B≤ofL k n b d0:=by
  obtain⟨t1,t2⟩:=ht;unfold ofL
  split
  · exact le_cut hd (by omega)
  · rename_i hf
    have hf':fixedL k b=true:=by simpa using hf
    unfold fixedL at hf';have hf2:=of_decide_eq_true hf'
    split
    · rename_i hk;exact le_cut (by have:=t1 hk;dsimp only at this;omega) (by omega)
    · have hk : k = 2 := by omega
      have:=(part_tame (b:=b) (n:=n) (by omega) (t2 hk)).1;omega
theorem lim_hi {n lk ln hk hn b B:Int} (ht:lenTame (lk,ln)) (h1:1048576≤B) (hb:b≤B) (h:n≤B):limitL n lk ln hk hn b≤B:=by
  have h2:=ofL_hi (d0:=-1099511627776) ht h1 hb (by omega);have h3:=cut_le h2 (by omega);have h4:=cut_le h (by omega);unfold limitL clamp;omega
section
variable {s:List Value} (ht:TameS s) {B b:Int} (h1:1048576≤B)
include ht
theorem TameS.l {j:Nat} (hj:j=3∨j=5∨j=7∨j=9∨j=11∨j=13∨j=41∨j=15∨j=23∨j=17∨j=25∨j=19∨j=27∨j=21∨j=29):lenTame (val s j,val s (j+1)):=by
  apply ht;unfold tameL
  rcases hj with rfl | rfl | rfl | rfl | rfl | rfl | rfl | rfl | rfl | rfl | rfl | rfl | rfl | rfl | rfl<;>simp
theorem TameS.m {i:Nat} (hi:i<4):lenTame (val s (15+2*i),val s (16+2*i)):=by
  obtain rfl | rfl | rfl | rfl:i=0∨i=1∨i=2∨i=3:=by omega
  · exact ht.l (j:=15) (by decide)
  · exact ht.l (j:=17) (by decide)
  · exact ht.l (j:=19) (by decide)
  · exact ht.l (j:=21) (by decide)
theorem TameS.i {i:Nat} (hi:i<4):lenTame (val s (23+2*i),val s (24+2*i)):=by
  obtain rfl | rfl | rfl | rfl:i=0∨i=1∨i=2∨i=3:=by omega
  · exact ht.l (j:=23) (by decide)
  · exact ht.l (j:=25) (by decide)
  · exact ht.l (j:=27) (by decide)
  · exact ht.l (j:=29) (by decide)
theorem mS_lo (i:Nat) (hi:i<4):-1048576≤mS s b i:=ofL_lo (B:=1048576) (ht.m hi) (by omega) (by omega)
theorem mS_top (i:Nat) (hi:i=0∨i=2):mS s b i≤1048576:=by
  unfold mS;rw[if_neg (by omega)];exact ofL_hi (ht.m (by omega)) (by omega) (by omega) (by omega)
theorem mD_tame:-2097152≤mD s∧mD s≤2097152:=by
  have a:=mS_lo ht (b:=0) 0 (by omega);have c:=mS_lo ht (b:=0) 2 (by omega);have e:=mS_top ht (b:=0) 0 (by omega);have f:=mS_top ht (b:=0) 2 (by omega);unfold mD;omega
include h1
theorem mS_hi (hb:b≤B) (i:Nat) (hi:i<4):mS s b i≤B:=ofL_hi (ht.m hi) h1 (by split<;>omega) (by omega)
theorem mA_tame (hb:b≤B):-2097152≤mA s b∧mA s b≤2*B:=by
  have a:=mS_lo ht (b:=b) 3 (by omega);have c:=mS_lo ht (b:=b) 1 (by omega);have e:=mS_hi ht h1 hb 3 (by omega);have f:=mS_hi ht h1 hb 1 (by omega);unfold mA;omega
theorem inO_tame (hb:b≤B) (i:Nat) (hi:i<4):-1048576≤inO s i b∧inO s i b≤B:=⟨ofL_lo (B:=1048576) (ht.i hi) (by omega) (by omega),ofL_hi (ht.i hi) h1 hb (by omega)⟩
theorem limW_hi {n:Int} (hb:b≤B) (hn:n≤B):limW s n b≤B:=lim_hi (ht.l (j:=7) (by decide)) h1 hb hn
theorem limH_hi {n:Int} (hb:b≤B) (hn:n≤B):limH s n b≤B:=lim_hi (ht.l (j:=9) (by decide)) h1 hb hn
theorem iwP_hi (hg:GS s) {rw sw:Int} (hr:rw≤B) (hs:sw≤B):iwP s rw sw≤B+2097152:=by
  have he:=hg.eA_bd;have hm:=mA_tame ht h1 hr;unfold iwP
  split
  · exact limW_hi ht (by omega) (by omega) (ofL_hi (ht.l (j:=3) (by decide)) (by omega) (by omega) (by omega))
  · omega
theorem ihP_hi (hg:GS s) {rh sh:Int} (hr:rh≤B) (hs:sh≤B):ihP s rh sh≤B:=by
  have he:=hg.eD_bd;unfold ihP
  split
  · split
    · exact limH_hi ht h1 hr (ofL_hi (ht.l (j:=5) (by decide)) h1 hr (by omega))
    · omega
  · omega
end
def numF (F:Forest (List Value)) (x:Int):Int:=((sub F x).length:Int)
section
variable {F:Forest (List Value)} {d:Int→Nat}
theorem num_pos (hF:WF F d) {x:Int} (hx:hasF F x=true):1≤numF F x:=by
  obtain⟨b,hb⟩:=some_has hx;unfold numF;rw[hF.sub_eq hb,List.length_cons];omega
theorem sum_gI (f:Int→Int):∀(l:List Int),sumN (fun i=>f (gI l i)) l.length=(l.map f).sum
  | []=>rfl
  | x :: l => by
    have h:∀n,sumN (fun i=>f (gI (x::l) i)) (n+1)=f x+sumN (fun i=>f (gI l i)) n:=by
      intro n;induction n with
      | zero=>simp[sumN,gI]
      | succ n ih =>
        rw[sumN,ih,sumN];have:gI (x::l) (n+1)=gI l n:=by simp[gI]
        rw[this];omega
    rw[List.length_cons,h,sum_gI f l];simp
theorem sum_filter (f:Int→Int) (p:Int→Bool):∀(l:List Int),(∀x∈l,0≤f x)→((l.filter p).map f).sum≤(l.map f).sum
  | [],_=>by simp
  | x :: l, h => by
    have ih:=sum_filter f p l fun y hy=>h y (by simp[hy]);have hx:=h x (by simp);rw[List.filter_cons]
    split
    · simp only[List.map_cons,List.sum_cons];omega
    · simp only[List.map_cons,List.sum_cons];omega
theorem num_kids (hF:WF F d) {x:Int} (hx:hasF F x=true) (a:Bool):sumN (fun i=>numF F (gI (kidsP F x a) i)) (kidsP F x a).length≤numF F x - 1:=by
  obtain⟨b,hb⟩:=some_has hx;rw[sum_gI];have h1:=sum_filter (numF F) (fun k=>shownF F k&&(outB (stF F k)==a)) (kidsF F x) fun k hk=>by have:=num_pos hF (kid_rank' hF hk).1;omega
  have h2:((kidsF F x).map (numF F)).sum=numF F x - 1:=by
    unfold numF;rw[hF.sub_eq hb,kids_some hb,List.length_cons,List.length_flatMap];have:∀l:List Int,(l.map fun k=>((sub F k).length:Int)).sum=(((l.map fun k=>(sub F k).length).sum:Nat):Int):=by
      intro l;induction l with
      | nil=>rfl
      | cons y l ih=>simp only[List.map_cons,List.sum_cons,ih];omega
    rw[this];omega
  unfold kidsP;omega
end
def HH (F:Forest (List Value)) (L:LayF) (k:Int):Prop:=1≤numF F k∧∀rw rh sw sh,(L k rw rh sw sh).h≤max (16777216*numF F k - 8388608) (max (rh+4194304) sh)
theorem fold_hi (l:List Int) (B:Int) (h:∀x∈l,-B≤x∧x≤B) (hB:0≤B):(hiP l≤B∧0≤hiP l)∧-B≤loP l∧loP l≤0:=by
  have h1:∀(l:List Int) (m:Int),(∀x∈l,-B≤x∧x≤B)→m≤B→l.foldl (fun m x=>max m (cut x)) m≤B:=by
    intro l;induction l with
    | nil=>intro m _ hm;exact hm
    | cons x l ih=>intro m hl hm;exact ih _ (fun y hy=>hl y (by simp[hy])) (by dsimp only;have:=cut_le (hl x (by simp)).2 hB;omega)
  have h2:∀(l:List Int) (m:Int),(∀x∈l,-B≤x∧x≤B)→-B≤m→-B≤l.foldl (fun m x=>min m (cut x)) m:=by
    intro l;induction l with
    | nil=>intro m _ hm;exact hm
    | cons x l ih=>intro m hl hm;exact ih _ (fun y hy=>hl y (by simp[hy])) (by dsimp only;have:=le_cut (hl x (by simp)).1 hB;omega)
  exact⟨⟨h1 l 0 h hB,(hiP_bd l).1⟩,h2 l 0 h (by omega),(loP_bd l).1⟩
theorem coll_tame (l:List Int) (B:Int) (h:∀x∈l,-B≤x∧x≤B) (hB:0≤B):-B≤collP l∧collP l≤B:=by
  have:=fold_hi l B h hB;unfold collP;omega
section
variable {F:Forest (List Value)} (ht:∀x,TameS (stF F x))
include ht
theorem ends_tame:∀(n:Nat) (x:Int) (b:Bool),∀m∈endsP F n x b,-1048576≤m∧m≤1048576
  | 0,_,_,_,h=>by simp[endsP] at h
  | n + 1, x, b, m, h => by
    rw[endsP] at h
    rcases List.mem_cons.1 h with rfl | h
    · cases b
      · exact⟨mS_lo (ht x) 0 (by omega),mS_top (ht x) 0 (by omega)⟩
      · exact⟨mS_lo (ht x) 2 (by omega),mS_top (ht x) 2 (by omega)⟩
    · split at h
      · exact ends_tame n _ b m h
      · simp at h
theorem end_tame (x:Int) (b:Bool):-1048576≤endP F x b∧endP F x b≤1048576:=coll_tame _ _ (ends_tame ht 64 x b) (by omega)
theorem gaps_tame (ks:List Int) (b:Bool) (i:Nat):-1048576≤gI (bTops F ks b) i∧gI (bTops F ks b) i≤1048576:=by
  unfold bTops
  by_cases h:i<ks.length
  · rw[gI_tab h];exact end_tame ht _ _
  · unfold gI;rw[List.getD_eq_getElem?_getD,tab_none (by omega)];simp
end
section
variable {F:Forest (List Value)} (hg:∀x,GS (stF F x)) (ht:∀x,TameS (stF F x)) {L:LayF} {ks:List Int} {A:Int→Int}
theorem sum_nn {a:Nat→Int} (ha:∀i,0≤a i):∀k,0≤sumN a k
  | 0=>by simp[sumN]
  | k+1=>by rw[sumN];have:=sum_nn ha k;have:=ha k;omega
theorem stk_hi {sizes tops bots:List Int} {a:Nat→Int} {G:Int} (hG:0≤G) (ha:∀i,0≤a i) (hs:∀i,i<sizes.length→gI sizes i≤a i) (hc:∀i,collP [gI bots i,gI tops (i+1)]≤G):
    ∀k,k≤sizes.length→stkStart sizes tops bots k≤sumN a k+G*k∧stkAt sizes tops bots k≤sumN a k+G*k
  | 0,_=>by simp[stkStart,stkAt,sumN]
  | k + 1, hk => by
    obtain⟨h1,_⟩:=stk_hi hG ha hs hc k (by omega);have h0:=sum_nn ha k;have hk1:0≤G*(k:Int):=Int.mul_nonneg hG (by omega);have h2:=hs k (by omega);have h3:=ha k;have e:G*((k+1:Nat):Int)=G*(k:Int)+G:=by rw[Int.natCast_add,Int.mul_add];simp
    have h4:=addI_le h1 h2 (by omega) h3;rw[stkStart,stkAt,sumN,e];refine⟨?_,by omega⟩;have:=addI_le h4 (hc k) (by omega) hG;omega
theorem sum_le {f g:Nat→Int}:∀n,(∀i,i<n→f i≤g i)→sumN f n≤sumN g n
  | 0,_=>Int.le_refl _
  | n+1,h=>by rw[sumN,sumN];have:=sum_le n fun i hi=>h i (by omega);have:=h n (by omega);omega
theorem sum_lin (f:Nat→Int) (p q:Int):∀n,sumN (fun i=>p*f i+q) n=p*sumN f n+q*n
  | 0=>by simp[sumN]
  | n+1=>by rw[sumN,sumN,sum_lin f p q n,Int.mul_add,Int.natCast_add,Int.mul_add];simp;omega
theorem sum_split (f:Nat→Int) (a:Nat):∀n,sumN f (a+n)=sumN f a+sumN (fun i=>f (a+i)) n
  | 0=>by simp[sumN]
  | n+1=>by rw[←Nat.add_assoc,sumN,sum_split f a n,sumN];omega
theorem max_le_sum {f g:Nat→Int}:∀n,(∀i,i<n→f i≤g i∧0≤g i)→maxN f n≤sumN g n∧0≤sumN g n
  | 0,_=>by simp[maxN,sumN]
  | n+1,h=>by rw[maxN,sumN];have:=max_le_sum n fun i hi=>h i (by omega);have:=h n (by omega);omega
theorem long_hi {l:List Int} {gap:Int} {a:Nat→Int} (hgp:0≤gap) (ha:∀i,0≤a i) (hs:∀i,i<l.length→gI l i≤a i):∀k,k≤l.length→longK l gap k≤sumN a k+gap*k∧0≤sumN a k
  | 0,_=>by simp[longK,sumN]
  | k + 1, hk => by
    obtain⟨h1,h0⟩:=long_hi hgp ha hs k (by omega);have h2:=hs k (by omega);have h3:=ha k;have hk1:0≤gap*(k:Int):=Int.mul_nonneg hgp (by omega);have e:gap*((k+1:Nat):Int)=gap*(k:Int)+gap:=by rw[Int.natCast_add,Int.mul_add];simp
    rw[longK,sumN,e];refine⟨?_,by omega⟩
    split
    · have:=addI_le h1 h2 (by omega) h3;omega
    · have:=addI_le (addI_le h1 (Int.le_refl gap) (by omega) hgp) h2 (by omega) h3;omega
include hg ht
theorem block_hi (hL:∀k∈ks,HH F L k) (iw id:Int) (hn:ks≠[]):(blockP F L ks iw (-1) id).2≤16777216*sumN (fun i=>numF F (gI ks i)) ks.length:=by
  have hp:1≤ks.length:=List.length_pos_iff.2 hn;have hlen:(bSizes L ks iw (-1)).length=ks.length:=tab_len;have hnum:∀i,i<ks.length→1≤numF F (gI ks i):=fun i hi=>(hL _ (gI_mem hi)).1;have h1:=stk_hi (sizes:=bSizes L ks iw (-1)) (tops:=bTops F ks false) (bots:=bTops F ks true) (a:=fun i=>if i<ks.length then 16777216*numF F (gI ks i)+-8388608 else 0) (G:=1048576) (by omega)
    (fun i => by try dsimp only
                 split; have := hnum i (by omega); omega; omega)
    (fun i hi => by
      rw [hlen] at hi
      try dsimp only
      rw [if_pos hi]
      unfold bSizes
      rw [gI_tab hi]
      have := (hL _ (gI_mem hi)).2 iw (-1) (-1) (-1)
      have := hnum i hi
      unfold bF
      omega)
    (fun i => (coll_tame _ 1048576 (fun x hx => by
      simp only [List.mem_cons, List.not_mem_nil, or_false] at hx
      rcases hx with rfl | rfl
      · exact gaps_tame ht _ _ _
      · exact gaps_tame ht _ _ _) (by omega)).2) ks.length (by omega)
  have h2:sumN (fun i=>if i<ks.length then 16777216*numF F (gI ks i)+-8388608 else 0) ks.length=16777216*sumN (fun i=>numF F (gI ks i)) ks.length+-8388608*ks.length:=by
    rw[←sum_lin];have:∀n,n≤ks.length→sumN (fun i=>if i<ks.length then 16777216*numF F (gI ks i)+-8388608 else 0) n=sumN (fun i=>16777216*numF F (gI ks i)+-8388608) n:=by
      intro n;induction n with
      | zero=>intro _;rfl
      | succ n ih=>intro hn2;rw[sumN,sumN,ih (by omega),if_pos (by omega)]
    exact this _ (Nat.le_refl _)
  have h3:=gaps_tame ht ks false 0;have h4:=gaps_tame ht ks true (ks.length - 1);unfold blockP bFrom;dsimp only;have h5:=h1.2;rw[h2] at h5
  split<;>split<;>omega
theorem kid_h (hL:∀k∈ks,HH F L k) {j:Nat} (hj:j<ks.length) (iw sw:Int) {sh:Int} (hsh:sh≤8388608):(L (gI ks j) iw (-1) sw sh).h≤16777216*numF F (gI ks j) - 8388608∧1≤numF F (gI ks j):=by
  obtain⟨h1,h2⟩:=hL _ (gI_mem hj);have:=h2 iw (-1) sw sh;omega
theorem line_hi (hL:∀k∈ks,HH F L k) (iw:Int) (c:List Value) {a b:Nat} (hab:a≤b) (hb:b≤ks.length) (one:Bool):
    lH F L ks iw (-1) c a b one≤16777216*(sumN (fun i=>numF F (gI ks i)) b - sumN (fun i=>numF F (gI ks i)) a)+-6291456*((b - a:Nat):Int):=by
  have h1 := (max_le_sum (f := fun i => (lF1 F L ks iw (-1) c a b i).h + mD (kS F ks (a + i))) (g := fun i => 16777216 * numF F (gI ks (a + i)) + -6291456) (b - a) fun i hi => by
    have h3 := kid_h hg ht hL (j := a + i) (by omega) iw (gI (lSizes F ks iw c a b) i + eA (kS F ks (a + i))) (sh := -1) (by omega)
    have h4 : -2097152 ≤ mD (kS F ks (a + i)) ∧ mD (kS F ks (a + i)) ≤ 2097152 := mD_tame (ht (gI ks (a + i)))
    have h5 : (lF1 F L ks iw (-1) c a b i).h = (L (gI ks (a + i)) iw (-1) (gI (lSizes F ks iw c a b) i + eA (kS F ks (a + i))) (-1)).h := rfl
    try dsimp only
    rw [h5]
    omega).1
  rw[sum_lin (fun i=>numF F (gI ks (a+i)))] at h1;have h2:=sum_split (fun i=>numF F (gI ks i)) a (b - a);rw[show a+(b - a)=b by omega] at h2;unfold lH;rw[if_neg (by simp)];unfold lMost;omega
theorem rowN_hi (hL:∀k∈ks,HH F L k) (iw:Int) {c:List Value} (hc46:0≤val c 46∧val c 46≤1048576) {ls:List (Nat×Nat)} (hls:∀p∈ls,p.1<p.2∧p.2≤ks.length) (hc:contig ls 0 ks.length):
    ∀n,n≤ls.length→(rowN F L ks iw (-1) c ls n).2≤16777216*sumN (fun i=>numF F (gI ks i)) (ptr ls n)+-5242880*(ptr ls n:Int)
  | 0,_=>by simp[rowN,ptr,sumN]
  | n + 1, hn => by
    have h1:=rowN_hi hL iw hc46 hls hc n (by omega);have hp:(ls.getD n (0,0)).1<(ls.getD n (0,0)).2∧(ls.getD n (0,0)).2≤ks.length:=by
      rw[List.getD_eq_getElem?_getD,List.getElem?_eq_getElem (by omega)];exact hls _ (List.getElem_mem _)
    have hs:(ls.getD n (0,0)).1=ptr ls n:=by
      have h:=contig_get hc n (by omega);cases n with
      | zero=>exact h
      | succ n=>rwa [if_neg (by omega)] at h
    have h2:=line_hi hg ht hL iw c (a:=(ls.getD n (0,0)).1) (b:=(ls.getD n (0,0)).2) (by omega) hp.2 (decide (ls.length=1));have e:ptr ls (n+1)=(ls.getD n (0,0)).2:=rfl;rw[e];rw[hs] at hp h2;simp only[rowN];rw[hs]
    split<;>omega
theorem row_hi (hL:∀k∈ks,HH F L k) (iw id:Int):(rowP F L ks iw (-1) id).2≤16777216*sumN (fun i=>numF F (gI ks i)) ks.length:=by
  have hll:(rLong F ks iw).length=ks.length:=tab_len;have hc:contig (rLines F ks iw (stF F id)) 0 ks.length:=by rw[←hll];exact breaks_contig
  have h:=rowN_hi hg ht hL iw ((hg id).siz 46 (by decide)) (ls:=rLines F ks iw (stF F id)) (fun p hp=>by have h:=breaks_in hp;rw[hll] at h;exact⟨h.1,h.2.1⟩) hc _ (Nat.le_refl _);have he:=contig_end hc;unfold rowP
  split at he
  · rename_i e
    rw[e] at h ⊢;rw[←he];simp only[ptr,sumN] at h ⊢;omega
  · rw [he] at h
    omega
theorem column_hi (hL:∀k∈ks,HH F L k) (iw id:Int):(columnP F L ks iw (-1) id).2≤16777216*sumN (fun i=>numF F (gI ks i)) ks.length:=by
  have hlen:(cAlong F L ks iw (-1) (stF F id)).length=ks.length:=tab_len;have h46:=(hg id).siz 46 (by decide)
  have h1 := (long_hi (l := cAlong F L ks iw (-1) (stF F id)) (gap := val (stF F id) 46) (a := fun i => if i < ks.length then 16777216 * numF F (gI ks i) + -6291456 else 0) h46.1
    (fun i => by
      try dsimp only
      split
      · have := (hL _ (gI_mem (by assumption))).1; omega
      · omega)
    (fun i hi => by
      rw [hlen] at hi
      try dsimp only
      rw [if_pos hi]
      unfold cAlong
      rw [gI_tab hi]
      have h3 : 0 ≤ gI (cSizes F L ks iw (-1) (stF F id)) i ∧ gI (cSizes F L ks iw (-1) (stF F id)) i ≤ 1048576 := by
        unfold cSizes
        rw [if_pos rfl, gI_tab hi]
        exact baseI_bd _
      have h4 : 0 ≤ eD (kS F ks i) ∧ eD (kS F ks i) ≤ 4194304 := (hg (gI ks i)).eD_bd
      have h5 := kid_h hg ht hL hi iw (cSet F ks iw (stF F id) i) (sh := gI (cSizes F L ks iw (-1) (stF F id)) i + eD (kS F ks i)) (by omega)
      have h6 : -2097152 ≤ mD (kS F ks i) ∧ mD (kS F ks i) ≤ 2097152 := mD_tame (ht (gI ks i))
      have h7 : (cF2 F L ks iw (-1) (stF F id) i).h = (L (gI ks i) iw (-1) (cSet F ks iw (stF F id) i) (gI (cSizes F L ks iw (-1) (stF F id)) i + eD (kS F ks i))).h := rfl
      rw [h7]
      omega) ks.length (by omega)).1
  have h2:sumN (fun i=>if i<ks.length then 16777216*numF F (gI ks i)+-6291456 else 0) ks.length=16777216*sumN (fun i=>numF F (gI ks i)) ks.length+-6291456*ks.length:=by
    rw[←sum_lin];have:∀n,n≤ks.length→sumN (fun i=>if i<ks.length then 16777216*numF F (gI ks i)+-6291456 else 0) n=sumN (fun i=>16777216*numF F (gI ks i)+-6291456) n:=by
      intro n;induction n with
      | zero=>intro _;rfl
      | succ n ih=>intro hn2;rw[sumN,sumN,ih (by omega),if_pos (by omega)]
    exact this _ (Nat.le_refl _)
  have h8:val (stF F id) 46*(ks.length:Int)≤1048576*(ks.length:Int):=Int.mul_le_mul_of_nonneg_right h46.2 (by omega);unfold columnP longP;dsimp only;rw[hlen];rw[h2] at h1;omega
theorem in_hi {x:Int} (hL:∀k∈kidsP F x false,HH F L k) (iw:Int):(inP F L x iw (-1)).2≤max 1048576 (16777216*sumN (fun i=>numF F (gI (kidsP F x false) i)) (kidsP F x false).length):=by
  unfold inP
  split
  · have:=(hg x).siz 54 (by decide);dsimp only;omega
  · split
    · have:=row_hi hg ht hL iw x;omega
    · split
      · have:=column_hi hg ht hL iw x;omega
      · have:=block_hi hg ht hL iw x (by assumption);omega
end
section
variable {F:Forest (List Value)} {d:Int→Nat} (hF:WF F d) (hg:∀x,GS (stF F x)) (ht:∀x,TameS (stF F x))
include hF hg ht
theorem hh_all (ww wh:Int):∀(n:Nat) (x:Int),hasF F x=true→63<n+d x→HH F (LAY F ww wh) x
  | 0,x,hx,h=>by obtain⟨b,hb⟩:=some_has hx;have:=hF.deep x b hb;omega
  | n + 1, x, hx, h => by
    have hnum:=num_pos hF hx;have hL:∀k∈kidsP F x false,HH F (LAY F ww wh) k:=fun k hk=>by
      obtain⟨h3,h4,_,_⟩:=kid_rank' hF (kidsP_sub hk);exact hh_all ww wh n k h3 (by omega)
    have hsum:=num_kids hF hx false;refine⟨hnum,fun rw' rh sw sh=>?_⟩;rw[LAY_eq hF hx];have he:=(hg x).eD_bd;have hin:=in_hi hg ht hL (iwP (stF F x) rw' sw);have key:∀ih n:Int,ih=ihP (stF F x) rh sh→(ih= -1→n≤max 1048576 (16777216*(numF F x - 1)))→ihEnd (stF F x) rh ih n+eD (stF F x)≤max (16777216*numF F x - 8388608) (max (rh+4194304) sh):=by
      intro ih n hih hn;unfold ihEnd
      by_cases h0:ih= -1
      · rw [if_pos h0]
        have h1:=limH_hi (ht x) (B:=max (max 1048576 rh) (max n 0)) (b:=rh) (n:=max n 0) (by omega) (by omega) (by omega);have h2:=hn h0;omega
      · rw [if_neg h0, hih]
        rw[hih] at h0;unfold ihP at h0 ⊢
        by_cases h1:sh= -1
        · rw [if_pos h1] at h0 ⊢
          by_cases h2:fixedL (val (stF F x) 5) rh=true
          · rw [if_pos h2]
            have h3:=ofL_hi (d0:=0) (b:=rh) (B:=max 1048576 rh) ((ht x).l (j:=5) (by decide)) (by omega) (by omega) (by omega);have h4:=limH_hi (ht x) (B:=max 1048576 rh) (b:=rh) (by omega) (by omega) h3;dsimp only[Nat.reduceAdd] at h4;omega
          · rw[if_neg h2] at h0;exact absurd rfl h0
        · rw[if_neg h1];omega
    have h5:=key (ihP (stF F x) rh sh) (inP F (LAY F ww wh) x (iwP (stF F x) rw' sw) (ihP (stF F x) rh sh)).2 rfl (fun e=>by rw[e];omega);unfold layStep;dsimp only;exact h5
end
def SZ (L:LayF) (k:Int):Prop:=∀B rw rh sw sh:Int,536870912≤B→0≤rw→rw≤B→-1≤rh→rh≤B→-1≤sw→sw≤B→-1≤sh→sh≤B→(L k rw rh sw sh).id=k∧(0≤(L k rw rh sw sh).w∧(L k rw rh sw sh).w≤B+6291456)∧0≤(L k rw rh sw sh).h∧(L k rw rh sw sh).h≤B+4194304
def RoomL (L:LayF) (B:Int) (f:Frm):Prop:=∃rw rh sw sh:Int,(0≤rw∧rw≤B)∧(-1≤rh∧rh≤B)∧(-1≤sw∧sw≤B)∧(-1≤sh∧sh≤B)∧f.w=(L f.id rw rh sw sh).w∧f.h=(L f.id rw rh sw sh).h∧f.kids=(L f.id rw rh sw sh).kids
def At (X:Int) (f:Frm):Prop:=(-X≤f.x∧f.x≤X)∧-X≤f.y∧f.y≤X
theorem room_of {L:LayF} {B:Int} {k:Int} {f:Frm} {rw rh sw sh:Int} (hid:(L k rw rh sw sh).id=k) (h1:0≤rw∧rw≤B) (h2:-1≤rh∧rh≤B) (h3:-1≤sw∧sw≤B) (h4:-1≤sh∧sh≤B) (e1:f.id=(L k rw rh sw sh).id) (e2:f.w=(L k rw rh sw sh).w) (e3:f.h=(L k rw rh sw sh).h) (e4:f.kids=(L k rw rh sw sh).kids):RoomL L B f:=by
  have e:f.id=k:=e1.trans hid;exact⟨rw,rh,sw,sh,h1,h2,h3,h4,by rw[e];exact e2,by rw[e];exact e3,by rw[e];exact e4⟩
theorem sum_const {S:Int} (h:0≤S):∀k:Nat,k≤31→sumN (fun _=>S) k≤31*S∧0≤sumN (fun _=>S) k:=by
  intro k hk;have e:∀n:Nat,sumN (fun _=>S) n=S*n:=by
    intro n;induction n with
    | zero=>simp[sumN]
    | succ n ih=>rw[sumN,ih,Int.natCast_add,Int.mul_add];simp
  rw[e];have h1:S*(k:Int)≤S*31:=Int.mul_le_mul_of_nonneg_left (by omega) h;have h2:0≤S*(k:Int):=Int.mul_nonneg h (by omega);omega
theorem mul31 {G:Int} (h:0≤G) {k:Nat} (hk:k≤31):G*(k:Int)≤31*G∧0≤G*(k:Int):=by
  have h1:G*(k:Int)≤G*31:=Int.mul_le_mul_of_nonneg_left (by omega) h;have h2:0≤G*(k:Int):=Int.mul_nonneg h (by omega);omega
theorem stk_lo {sizes tops bots:List Int} {G:Int} (hG:0≤G) (hs:∀i,i<sizes.length→0≤gI sizes i) (hc:∀i,-G≤collP [gI bots i,gI tops (i+1)]):∀k,k≤sizes.length→-(G*k)≤stkStart sizes tops bots k
  | 0,_=>by simp[stkStart]
  | k + 1, hk => by
    have h1:=stk_lo hG hs hc k (by omega);have hk1:0≤G*(k:Int):=Int.mul_nonneg hG (by omega);have e:G*((k+1:Nat):Int)=G*(k:Int)+G:=by rw[Int.natCast_add,Int.mul_add];simp
    have h2:=hs k (by omega);have h4:=le_addI (B:=0) h1 (by omega:-0≤gI sizes k) hk1 (by omega);rw[stkStart,e];have:=le_addI h4 (hc k) (by omega) hG;omega
theorem long_lo {l:List Int} {gap A:Int} (hgp:0≤gap) (hA:0≤A) (hs:∀i,i<l.length→-A≤gI l i):∀k,k≤l.length→-(A*k)≤longK l gap k
  | 0,_=>by simp[longK]
  | k + 1, hk => by
    have h1:=long_lo hgp hA hs k (by omega);have h2:=hs k (by omega);have hk1:0≤A*(k:Int):=Int.mul_nonneg hA (by omega);have e:A*((k+1:Nat):Int)=A*(k:Int)+A:=by rw[Int.natCast_add,Int.mul_add];simp
    rw[longK,e]
    split
    · have:=le_addI h1 h2 hk1 hA;omega
    · have:=le_addI (le_addI (B:=0) h1 (by omega:-0≤gap) hk1 (by omega)) h2 (by omega) hA;omega
theorem part_bd {left k n:Int} (hl:0≤left∧left≤137438953472) (hk:0≤k∧k≤n) (hn:0<n∧n≤64):0≤partJ left k n∧partJ left k n≤left:=by
  unfold partJ divI mulI;rw[if_neg (by omega)];have e1:cut left=left:=cut_id (by omega) (by omega);have e2:cut k=k:=cut_id (by omega) (by omega);have e3:cut n=n:=cut_id (by omega) (by omega);rw[e1,e2,e3];have h1:0≤left*k:=Int.mul_nonneg hl.1 hk.1;have h2:left*k≤left*n:=Int.mul_le_mul_of_nonneg_left hk.2 hl.1;have hc:0≤cut (cut (left*k))∧cut (cut (left*k))≤left*k:=by unfold cut;omega
  generalize cut (cut (left*k))=q at*
  refine⟨Int.ediv_nonneg hc.1 (by omega),?_⟩;have h3:q / n≤(left*n) / n:=Int.ediv_le_ediv (by omega) (by omega);rw[Int.mul_ediv_cancel _ (by omega)] at h3;exact h3
theorem before_bd {kind left:Int} {n k:Nat} (hl:-137438953472≤left∧left≤137438953472) (hk:k<n) (hn:n≤31):min left 0≤beforeP kind left n k∧beforeP kind left n k≤max left 0:=by
  unfold beforeP
  have hk1 : kindJ kind left n = 3 → 0 < left ∧ 2 ≤ n := by unfold kindJ; intro h; repeat' split at h
                                                            all_goals first | omega | (subst h;omega)
  have hk2 : kindJ kind left n = 4 ∨ kindJ kind left n = 5 → 0 < left := by unfold kindJ; intro h; repeat' split at h
                                                                            all_goals omega
  split
  · omega
  · split
    · unfold divI;rw[if_neg (by omega),cut_id (by omega) (by omega),show cut 2=2 from rfl];omega
    · split
      · rename_i h3
        obtain⟨q1,q2⟩:=hk1 h3;have:=part_bd (left:=left) (k:=k) (n:=n - 1) (by omega) (by omega) (by omega);omega
      · split
        · rename_i h4
          have:=hk2 (.inl h4);have:=part_bd (left:=left) (k:=2*k+1) (n:=2*n) (by omega) (by omega) (by omega);omega
        · split
          · rename_i h5
            have:=hk2 (.inr h5);have:=part_bd (left:=left) (k:=k+1) (n:=n+1) (by omega) (by omega) (by omega);omega
          · omega
theorem addI_id {a b:Int} (ha:-1099511627776≤a∧a≤1099511627776) (hb:-1099511627776≤b∧b≤1099511627776) (h:-1099511627776≤a+b∧a+b≤1099511627776):addI a b=a+b:=by
  unfold addI;rw[cut_id (n:=a) ha.1 ha.2,cut_id (n:=b) hb.1 hb.2,cut_id h.1 h.2]
theorem subI_id {a b:Int} (ha:-1099511627776≤a∧a≤1099511627776) (hb:-1099511627776≤b∧b≤1099511627776) (h:-1099511627776≤a - b∧a - b≤1099511627776):subI a b=a - b:=by
  unfold subI;rw[cut_id (n:=a) ha.1 ha.2,cut_id (n:=b) hb.1 hb.2,cut_id h.1 h.2]
theorem j_arith {sm b0 b1 x gap:Int} (h1:-137438953472≤sm∧sm≤137438953472) (h2:-137438953472≤b0∧b0≤137438953472) (h3:-137438953472≤b1∧b1≤137438953472) (h4:-4294967296≤x∧x≤4294967296) (h5:0≤gap∧gap≤1048576):addI (addI (addI (sm+b0) x) gap) (b1 - b0)=sm+(x+gap)+b1:=by
  have i1:addI (sm+b0) x=sm+b0+x:=addI_id (by omega) (by omega) (by omega);have i2:addI (sm+b0+x) gap=sm+b0+x+gap:=addI_id (by omega) (by omega) (by omega);rw[i1,i2];have i3:addI (sm+b0+x+gap) (b1 - b0)=sm+b0+x+gap+(b1 - b0):=addI_id (by omega) (by omega) (by omega);rw[i3];omega
theorem j_sum {kind left gap A C:Int} {l:List Int} (hgp:0≤gap∧gap≤1048576) (hA:0≤A∧A≤4294967296) (hC:0≤C∧C≤4294967296) (hn:l.length≤31) (hs:∀i,i<l.length→-A≤gI l i∧gI l i≤C) (hl:-137438953472≤left∧left≤137438953472):
    ∀k:Nat,k<l.length→jStart kind left gap l k=sumN (fun i=>gI l i+gap) k+beforeP kind left l.length k∧-(A*k)≤sumN (fun i=>gI l i+gap) k∧sumN (fun i=>gI l i+gap) k≤(C+1048576)*k
  | 0, hk => by
    have hb:=before_bd (kind:=kind) hl hk hn;refine⟨?_,by simp[sumN],by simp[sumN]⟩;simp only[jStart,jAt,sumN,if_true,Int.sub_zero,Int.zero_add];unfold addI;rw[show ((0:Nat):Int)=0 from rfl] at hb ⊢;unfold cut;omega
  | k + 1, hk => by
    obtain⟨h1,h2,h3⟩:=j_sum hgp hA hC hn hs hl k (by omega);have hb:=before_bd (kind:=kind) (k:=k) hl (by omega) hn;have hb2:=before_bd (kind:=kind) (k:=k+1) hl hk hn;have hx:=hs k (by omega);have e:A*((k+1:Nat):Int)=A*(k:Int)+A:=by rw[Int.natCast_add,Int.mul_add];simp
    have e2:(C+1048576)*((k+1:Nat):Int)=(C+1048576)*(k:Int)+(C+1048576):=by rw[Int.natCast_add,Int.mul_add];simp
    have m1:=mul31 hA.1 (k:=k) (by omega);have m2:=mul31 (G:=C+1048576) (by omega) (k:=k) (by omega);rw[sumN,e,e2];refine⟨?_,by omega,by omega⟩;have hj:jAt kind left gap l (k+1)=addI (jStart kind left gap l k) (gI l k):=by rw[jAt];rfl
    have e3:(((k+1:Nat):Int) - 1)=(k:Int):=by omega
    have hst:jStart kind left gap l (k+1)=addI (addI (jAt kind left gap l (k+1)) gap) (beforeP kind left l.length ((k+1:Nat):Int) - beforeP kind left l.length (k:Int)):=by
      unfold jStart;rw[if_neg (by omega),if_neg (by omega),e3]
    rw[hst,hj,h1];exact j_arith (by omega) (by omega) (by omega) (by omega) (by omega)
theorem j_bd {kind room gap A C R:Int} {l:List Int} (hgp:0≤gap∧gap≤1048576) (hA:0≤A∧A≤4194304) (hC:0≤C∧C≤3221225472) (hR:0≤R∧R≤34359738368) (hr:-R≤room∧room≤R) (hn:l.length≤31) (hs:∀i,i<l.length→-A≤gI l i∧gI l i≤C) {k:Nat} (hk:k<l.length):
    -(62*A+31*C+R+67108864)≤jStart kind (subI room (longP l gap)) gap l k∧jStart kind (subI room (longP l gap)) gap l k≤62*A+31*C+R+67108864:=by
  have h1:=(long_hi (l:=l) (gap:=gap) (a:=fun _=>C) hgp.1 (fun _=>hC.1) (fun i hi=>(hs i hi).2) l.length (Nat.le_refl _)).1;have h2:=long_lo (l:=l) (gap:=gap) hgp.1 hA.1 (fun i hi=>(hs i hi).1) l.length (Nat.le_refl _);have c1:=(sum_const hC.1 l.length hn).1;have m1:=mul31 hgp.1 hn;have m2:=mul31 hA.1 hn;unfold longP
  generalize longK l gap l.length=lg at*
  have hsub:subI room lg=room - lg:=subI_id (by omega) (by omega) (by omega);rw[hsub];obtain⟨s1,s2,s3⟩:=j_sum (kind:=kind) (left:=room - lg) hgp (by omega) (by omega) hn hs (by omega) k hk;have hb:=before_bd (kind:=kind) (left:=room - lg) (k:=k) (by omega) hk hn;have m3:=mul31 hA.1 (k:=k) (by omega);have m4:=mul31 (G:=C+1048576) (by omega) (k:=k) (by omega);omega
theorem across_bd {kind size room P Q:Int} (hs:-P≤size∧size≤P) (hr:-Q≤room∧room≤Q) (hP:0≤P) (hQ:0≤Q):-(P+Q)≤acrossP kind size room∧acrossP kind size room≤P+Q:=by
  have h1:-(P+Q)≤subI room size∧subI room size≤P+Q:=by
    unfold subI;have a1:=cut_le hr.2 hQ;have a2:=le_cut hr.1 hQ;have a3:=cut_le hs.2 hP;have a4:=le_cut hs.1 hP;exact⟨le_cut (by omega) (by omega),cut_le (by omega) (by omega)⟩
  unfold acrossP
  split
  · unfold divI
    rw[if_neg (by omega),show cut 2=2 from rfl];have b1:=cut_le h1.2 (by omega);have b2:=le_cut h1.1 (by omega);omega
  · split<;>omega
theorem auto_bd {room size bk bn ek en base P Q:Int} (hb:lenTame (bk,bn)) (he:lenTame (ek,en)) (h1:1048576≤P) (hbase:base≤P) (hQ:0≤Q) (hr:room≤Q) (hs:0≤size):-1048576≤(autoP room size bk bn ek en base).1∧(autoP room size bk bn ek en base).1≤max P (Q+2097152):=by
  have a1:=ofL_hi (d0:=0) hb h1 hbase (by omega);have a2:=ofL_lo (b:=base) (d0:=0) (B:=1048576) hb (by omega) (by omega);have b2:=ofL_lo (b:=base) (d0:=0) (B:=1048576) he (by omega) (by omega);have hl:autoLeft room size (ofL bk bn base 0) (ofL ek en base 0)≤Q+2097152:=by
    unfold autoLeft subI;have c1:=cut_le hr hQ;have c2:0≤cut size:=by unfold cut;omega
    have c3:=cut_le (a:=cut room - cut size) (A:=Q) (by omega) hQ;have c4:=cut_le c3 hQ;have c5:=le_cut (a:=ofL bk bn base 0) (A:=1048576) (by omega) (by omega);have c6:=le_cut (a:=ofL ek en base 0) (A:=1048576) (by omega) (by omega);have c7:=cut_le (a:=cut (cut (cut room - cut size)) - cut (ofL bk bn base 0)) (A:=Q+1048576) (by omega) (by omega);have c8:=cut_le c7 (by omega);exact cut_le (by omega) (by omega)
  unfold autoP;dsimp only
  split
  · dsimp only;omega
  · split
    · dsimp only;omega
    · split
      · dsimp only;omega
      · split<;>(dsimp only;omega)
section
variable {F:Forest (List Value)} (hg:∀x,GS (stF F x)) (ht:∀x,TameS (stF F x)) {L:LayF} {ks:List Int} (hL:∀k∈ks,SZ L k) {iw ih B:Int} (hB:536870912≤B∧B≤671088640) (hiw:0≤iw∧iw≤B+2097152) (hih:-1≤ih∧ih≤B) (hn:ks.length≤31)
include hg ht hL hB hiw hih hn
omit hg in
theorem block_pos (id:Int):∀f∈(blockP F L ks iw ih id).1,RoomL L (B+16777216) f∧At (110*(B+33554432)) f:=fun f hf=>by
  obtain⟨i,hi,rfl⟩:=tab_mem.1 hf;have hk:∀j,j<ks.length→(bF L ks iw ih j).id=gI ks j∧(0≤(bF L ks iw ih j).w∧(bF L ks iw ih j).w≤B+23068672)∧0≤(bF L ks iw ih j).h∧(bF L ks iw ih j).h≤B+20971520:=fun j hj=>by
    have h:=hL (gI ks j) (gI_mem hj) (B+16777216) iw ih (-1) (-1) (by omega) (by omega) (by omega) (by omega) (by omega) (by omega) (by omega) (by omega) (by omega);unfold bF;exact⟨h.1,by omega,by omega⟩
  have h:=hk i hi;refine⟨room_of (k:=gI ks i) (rw:=iw) (rh:=ih) (sw:=-1) (sh:=-1) h.1 (by omega) (by omega) (by omega) (by omega) rfl rfl rfl rfl,?_⟩;have hlen:(bSizes L ks iw ih).length=ks.length:=tab_len;have hsz:∀j,j<(bSizes L ks iw ih).length→0≤gI (bSizes L ks iw ih) j∧gI (bSizes L ks iw ih) j≤B+20971520:=fun j hj=>by
    rw[hlen] at hj;unfold bSizes;rw[gI_tab hj];exact(hk j hj).2.2
  have hcc : ∀ j, -1048576 ≤ collP [gI (bTops F ks true) j, gI (bTops F ks false) (j + 1)] ∧ collP [gI (bTops F ks true) j, gI (bTops F ks false) (j + 1)] ≤ 1048576 := fun j => coll_tame _ 1048576 (fun x hx => by
      simp only [List.mem_cons, List.not_mem_nil, or_false] at hx
      rcases hx with rfl | rfl
      · exact gaps_tame ht _ _ _
      · exact gaps_tame ht _ _ _) (by omega)
  have s1:=(stk_hi (sizes:=bSizes L ks iw ih) (tops:=bTops F ks false) (bots:=bTops F ks true) (a:=fun _=>B+20971520) (G:=1048576) (by omega) (fun _=>by omega) (fun j hj=>(hsz j hj).2) (fun j=>(hcc j).2) i (by omega)).1;have s2:=stk_lo (sizes:=bSizes L ks iw ih) (tops:=bTops F ks false) (bots:=bTops F ks true) (G:=1048576) (by omega) (fun j hj=>(hsz j hj).1) (fun j=>(hcc j).1) i (by omega);have m1:=(sum_const (S:=B+20971520) (by omega) i (by omega)).1;have m2:=mul31 (G:=1048576) (by omega) (k:=i) (by omega);have g1:=gaps_tame ht ks false 0;have x1:-1048576≤bX F L ks iw ih i∧bX F L ks iw ih i≤max (B+2097152) (B+2097152+2097152):=auto_bd ((ht (gI ks i)).l (j:=21) (by decide)) ((ht (gI ks i)).l (j:=17) (by decide)) (by omega) hiw.2 (by omega) hiw.2 h.2.1.1;unfold At bFrom;dsimp only
  generalize stkStart (bSizes L ks iw ih) (bTops F ks false) (bTops F ks true) i=st at*
  refine⟨by omega,?_⟩
  split<;>omega
section
variable {c:List Value} (h46:0≤val c 46∧val c 46≤1048576) {a b:Nat} (hab:a≤b) (hb:b≤ks.length)
include hab hb
theorem lF1_sz {i:Nat} (hi:i<b - a):(lF1 F L ks iw ih c a b i).id=gI ks (a+i)∧(0≤(lF1 F L ks iw ih c a b i).w∧(lF1 F L ks iw ih c a b i).w≤B+8388608)∧0≤(lF1 F L ks iw ih c a b i).h∧(lF1 F L ks iw ih c a b i).h≤B+6291456:=by
  have h2:0≤eA (kS F ks (a+i))∧eA (kS F ks (a+i))≤4194304:=(hg (gI ks (a+i))).eA_bd;have h3:0≤gI (lSizes F ks iw c a b) i∧gI (lSizes F ks iw c a b) i≤1048576:=gI_bd i;have h:=hL (gI ks (a+i)) (gI_mem (by omega)) (B+2097152) iw ih (gI (lSizes F ks iw c a b) i+eA (kS F ks (a+i))) (-1) (by omega) (by omega) (by omega) (by omega) (by omega) (by omega) (by omega) (by omega) (by omega);unfold lF1;exact⟨h.1,by omega,by omega⟩
theorem lH_sz (one:Bool):0≤lH F L ks iw ih c a b one∧lH F L ks iw ih c a b one≤B+8388608:=by
  have h1:=maxN_bd (f:=fun i=>(lF1 F L ks iw ih c a b i).h+mD (kS F ks (a+i))) (B:=B+8388608) (by omega) (b - a) fun i hi=>by
    have h2:=lF1_sz hg ht hL hB hiw hih hn (c:=c) hab hb hi;have h3:-2097152≤mD (kS F ks (a+i))∧mD (kS F ks (a+i))≤2097152:=mD_tame (ht (gI ks (a+i)));omega
  unfold lH lMost
  split
  · omega
  · omega
include h46 in
theorem line_pos (one:Bool):∀f∈lineP F L ks iw ih c a b one,RoomL L (B+16777216) f∧((-(96*(B+33554432))≤f.x∧f.x≤96*(B+33554432))∧-(3*(B+33554432))≤f.y∧f.y≤3*(B+33554432)):=fun f hf=>by
  obtain⟨i,hi,rfl⟩:=tab_mem.1 hf;have hh:=lH_sz hg ht hL hB hiw hih hn (c:=c) hab hb one;have h1:=lF1_sz hg ht hL hB hiw hih hn (c:=c) hab hb hi
  generalize hhe:lH F L ks iw ih c a b one=H at*
  have h2:0≤eA (kS F ks (a+i))∧eA (kS F ks (a+i))≤4194304:=(hg (gI ks (a+i))).eA_bd;have h2d:0≤eD (kS F ks (a+i))∧eD (kS F ks (a+i))≤4194304:=(hg (gI ks (a+i))).eD_bd;have h3:0≤gI (lSizes F ks iw c a b) i∧gI (lSizes F ks iw c a b) i≤1048576:=gI_bd i;have h4:-2097152≤mD (kS F ks (a+i))∧mD (kS F ks (a+i))≤2097152:=mD_tame (ht (gI ks (a+i)));have hl:limH (kS F ks (a+i)) (max (H - (eD (kS F ks (a+i))+mD (kS F ks (a+i)))) 0) ih≤B+10485760:=limH_hi (ht (gI ks (a+i))) (by omega) (by omega) (by omega);have hl0:=(limH_bd (kS F ks (a+i)) (max (H - (eD (kS F ks (a+i))+mD (kS F ks (a+i)))) 0) ih).1;have key:RoomL L (B+16777216) (lF2 F L ks iw ih c a b H i)∧(0≤(lF2 F L ks iw ih c a b H i).h∧(lF2 F L ks iw ih c a b H i).h≤B+20971520):=by
    unfold lF2
    split
    · have h5 := hL (gI ks (a + i)) (gI_mem (by omega)) (B + 16777216) iw ih (lF1 F L ks iw ih c a b i).w (limH (kS F ks (a + i)) (max (H - (eD (kS F ks (a + i)) + mD (kS F ks (a + i)))) 0) ih + eD (kS F ks (a + i))) (by omega) (by omega) (by omega) (by omega) (by omega) (by omega) (by omega) (by omega) (by omega)
      exact⟨room_of h5.1 (by omega) (by omega) (by omega) (by omega) rfl rfl rfl rfl,by omega⟩
    · refine⟨room_of (k:=gI ks (a+i)) (rw:=iw) (rh:=ih) (sw:=gI (lSizes F ks iw c a b) i+eA (kS F ks (a+i))) (sh:=-1) h1.1 (by omega) (by omega) (by omega) (by omega) rfl rfl rfl rfl,by omega⟩
  have hal:(lAlong F L ks iw ih c a b).length=b - a:=tab_len
  have hx := j_bd (kind := val c 43) (room := iw) (gap := val c 46) (A := 2097152) (C := 3 * B + 12582912) (R := B + 2097152) (l := lAlong F L ks iw ih c a b) h46 (by omega) (by omega) (by omega) (by omega) (by omega) (fun j hj => by
    rw [hal] at hj
    unfold lAlong
    rw [gI_tab hj]
    have q1 := lF1_sz hg ht hL hB hiw hih hn (c := c) hab hb hj
    have q2 : -2097152 ≤ mA (kS F ks (a + j)) iw ∧ mA (kS F ks (a + j)) iw ≤ 2 * (B + 2097152) := mA_tame (ht (gI ks (a + j))) (by omega) hiw.2
    omega) (k := i) (by omega)
  have hy:=across_bd (kind:=val c 44) (size:=(lF2 F L ks iw ih c a b H i).h+mD (kS F ks (a+i))) (room:=H) (P:=B+23068672) (Q:=B+8388608) (by omega) (by omega) (by omega) (by omega);have m3:-1048576≤mS (kS F ks (a+i)) iw 3∧mS (kS F ks (a+i)) iw 3≤B+2097152:=⟨mS_lo (ht (gI ks (a+i))) 3 (by omega),mS_hi (ht (gI ks (a+i))) (by omega) hiw.2 3 (by omega)⟩;have m0:-1048576≤mS (kS F ks (a+i)) iw 0∧mS (kS F ks (a+i)) iw 0≤1048576:=⟨mS_lo (ht (gI ks (a+i))) 0 (by omega),mS_top (ht (gI ks (a+i))) 0 (by omega)⟩;refine⟨key.1,?_⟩;have e:(lStart F L ks iw ih c a b i)=jStart (val c 43) (subI iw (longP (lAlong F L ks iw ih c a b) (val c 46))) (val c 46) (lAlong F L ks iw ih c a b) i:=rfl;unfold lOut;dsimp only;rw[e];omega
end
theorem rowN_pos {c:List Value} (h46:0≤val c 46∧val c 46≤1048576) {ls:List (Nat×Nat)} (hls:∀p∈ls,p.1<p.2∧p.2≤ks.length) (hll:ls.length≤31):
    ∀n,n≤ls.length→(0≤(rowN F L ks iw ih c ls n).2∧(rowN F L ks iw ih c ls n).2≤sumN (fun _=>B+9437184) n)∧∀f∈(rowN F L ks iw ih c ls n).1,RoomL L (B+16777216) f∧At (110*(B+33554432)) f
  | 0,_=>⟨by simp[rowN,sumN],fun f hf=>by simp[rowN] at hf⟩
  | n + 1, hn1 => by
    obtain⟨h1,h2⟩:=rowN_pos h46 hls hll n (by omega);have hp:(ls.getD n (0,0)).1<(ls.getD n (0,0)).2∧(ls.getD n (0,0)).2≤ks.length:=by
      rw[List.getD_eq_getElem?_getD,List.getElem?_eq_getElem (by omega)];exact hls _ (List.getElem_mem _)
    have h3:=lH_sz hg ht hL hB hiw hih hn (c:=c) (a:=(ls.getD n (0,0)).1) (b:=(ls.getD n (0,0)).2) (by omega) hp.2 (decide (ls.length=1));have h4:=line_pos hg ht hL hB hiw hih hn h46 (a:=(ls.getD n (0,0)).1) (b:=(ls.getD n (0,0)).2) (by omega) hp.2 (decide (ls.length=1));have m1:=(sum_const (S:=B+9437184) (by omega) n (by omega)).1;refine⟨?_,fun f hf=>?_⟩
    · simp only [rowN, sumN]
      split<;>omega
    · simp only [rowN] at hf
      rcases List.mem_append.1 hf with hf | hf
      · exact h2 f hf
      · obtain ⟨f0, hf0, rfl⟩ := List.mem_map.1 hf
        obtain⟨q1,q2⟩:=h4 f0 hf0;refine⟨q1,?_⟩;unfold At;simp only[shiftY]
        split<;>omega
theorem row_pos (id:Int):∀f∈(rowP F L ks iw ih id).1,RoomL L (B+16777216) f∧At (110*(B+33554432)) f:=by
  have hll:(rLong F ks iw).length=ks.length:=tab_len;have hbl:(rLines F ks iw (stF F id)).length≤31:=Nat.le_trans breaks_len (by omega);exact(rowN_pos hg ht hL hB hiw hih hn ((hg id).siz 46 (by decide)) (ls:=rLines F ks iw (stF F id)) (fun p hp=>by have h:=breaks_in hp;rw[hll] at h;exact⟨h.1,h.2.1⟩) hbl _ (Nat.le_refl _)).2
theorem column_pos (id:Int):∀f∈(columnP F L ks iw ih id).1,RoomL L (B+16777216) f∧At (110*(B+33554432)) f:=fun f hf=>by
  obtain⟨i,hi,rfl⟩:=tab_mem.1 hf;have h46:=(hg id).siz 46 (by decide);have hset:∀j,j<ks.length→-1≤cSet F ks iw (stF F id) j∧cSet F ks iw (stF F id) j≤B+6291456:=fun j hj=>by
    have h2:0≤eA (kS F ks j)∧eA (kS F ks j)≤4194304:=(hg (gI ks j)).eA_bd;have h3:0≤val (kS F ks j) 53∧val (kS F ks j) 53≤1048576:=(hg (gI ks j)).siz 53 (by decide);have h4:limW (kS F ks j) (val (kS F ks j) 53) iw≤B+2097152:=limW_hi (ht (gI ks j)) (by omega) hiw.2 (by omega);have h5:=(limW_bd (kS F ks j) (val (kS F ks j) 53) iw).1;unfold cSet
    split<;>omega
  have hsz:∀j,j<ks.length→0≤gI (cSizes F L ks iw ih (stF F id)) j∧gI (cSizes F L ks iw ih (stF F id)) j≤1048576:=fun j hj=>by
    unfold cSizes
    split
    · rw[gI_tab hj];exact baseI_bd _
    · exact gI_bd j
  have hF2:∀j,j<ks.length→(cF2 F L ks iw ih (stF F id) j).id=gI ks j∧(0≤(cF2 F L ks iw ih (stF F id) j).w∧(cF2 F L ks iw ih (stF F id) j).w≤B+14680064)∧0≤(cF2 F L ks iw ih (stF F id) j).h∧(cF2 F L ks iw ih (stF F id) j).h≤B+12582912:=fun j hj=>by
    have h2:0≤eD (kS F ks j)∧eD (kS F ks j)≤4194304:=(hg (gI ks j)).eD_bd;have h3:=hset j hj;have h4:=hsz j hj;have h:=hL (gI ks j) (gI_mem hj) (B+8388608) iw ih (cSet F ks iw (stF F id) j) (gI (cSizes F L ks iw ih (stF F id)) j+eD (kS F ks j)) (by omega) (by omega) (by omega) (by omega) (by omega) (by omega) (by omega) (by omega) (by omega);unfold cF2;exact⟨h.1,by omega,by omega⟩
  have h1:=hF2 i hi;have h2d:0≤eD (kS F ks i)∧eD (kS F ks i)≤4194304:=(hg (gI ks i)).eD_bd;have h3:=hset i hi;have h4:=hsz i hi;refine⟨room_of (k:=gI ks i) (rw:=iw) (rh:=ih) (sw:=cSet F ks iw (stF F id) i) (sh:=gI (cSizes F L ks iw ih (stF F id)) i+eD (kS F ks i)) h1.1 (by omega) (by omega) (by omega) (by omega) rfl rfl rfl rfl,?_⟩;have hal:(cAlong F L ks iw ih (stF F id)).length=ks.length:=tab_len;have hel:∀j,j<(cAlong F L ks iw ih (stF F id)).length→-2097152≤gI (cAlong F L ks iw ih (stF F id)) j∧gI (cAlong F L ks iw ih (stF F id)) j≤B+14680064:=fun j hj=>by
    rw[hal] at hj;unfold cAlong;rw[gI_tab hj];have q1:=hF2 j hj;have q2:-2097152≤mD (kS F ks j)∧mD (kS F ks j)≤2097152:=mD_tame (ht (gI ks j));omega
  have hroom:-(32*(B+33554432))≤cRoom F L ks iw ih (stF F id)∧cRoom F L ks iw ih (stF F id)≤32*(B+33554432):=by
    have l1:=(long_hi (l:=cAlong F L ks iw ih (stF F id)) (gap:=val (stF F id) 46) (a:=fun _=>B+14680064) h46.1 (fun _=>by omega) (fun j hj=>(hel j hj).2) ks.length (by omega)).1;have l2:=long_lo (l:=cAlong F L ks iw ih (stF F id)) (gap:=val (stF F id) 46) (A:=2097152) h46.1 (by omega) (fun j hj=>(hel j hj).1) ks.length (by omega);have c1:=(sum_const (S:=B+14680064) (by omega) ks.length hn).1;have m1:=mul31 h46.1 hn;have m2:=mul31 (G:=2097152) (by omega) hn;unfold cRoom longP;rw[hal]
    split<;>omega
  have hy:=j_bd (kind:=val (stF F id) 43) (room:=cRoom F L ks iw ih (stF F id)) (gap:=val (stF F id) 46) (A:=2097152) (C:=B+14680064) (R:=32*(B+33554432)) (l:=cAlong F L ks iw ih (stF F id)) h46 (by omega) (by omega) (by omega) hroom (by omega) hel (k:=i) (by omega);have q2:-2097152≤mA (kS F ks i) iw∧mA (kS F ks i) iw≤2*(B+2097152):=mA_tame (ht (gI ks i)) (by omega) hiw.2;have hx:=across_bd (kind:=val (stF F id) 44) (size:=(cF2 F L ks iw ih (stF F id) i).w+mA (kS F ks i) iw) (room:=iw) (P:=3*B+18874368) (Q:=B+2097152) (by omega) (by omega) (by omega) (by omega);have m3:-1048576≤mS (kS F ks i) iw 3∧mS (kS F ks i) iw 3≤B+2097152:=⟨mS_lo (ht (gI ks i)) 3 (by omega),mS_hi (ht (gI ks i)) (by omega) hiw.2 3 (by omega)⟩;have m0:-1048576≤mS (kS F ks i) iw 0∧mS (kS F ks i) iw 0≤1048576:=⟨mS_lo (ht (gI ks i)) 0 (by omega),mS_top (ht (gI ks i)) 0 (by omega)⟩;have e:cStart F L ks iw ih (stF F id) i=jStart (val (stF F id) 43) (subI (cRoom F L ks iw ih (stF F id)) (longP (cAlong F L ks iw ih (stF F id)) (val (stF F id) 46))) (val (stF F id) 46) (cAlong F L ks iw ih (stF F id)) i:=rfl;unfold At cOut;dsimp only;rw[e];omega
end
section
variable {F:Forest (List Value)} (hg:∀x,GS (stF F x)) (ht:∀x,TameS (stF F x)) {L:LayF} {B:Int} (hB:536870912≤B∧B≤671088640)
include hg ht hB
theorem within_pos {k:Int} (hL:SZ L k) {rw rh px py:Int} (hrw:0≤rw∧rw≤B+6291456) (hrh:-1≤rh∧rh≤B+6291456) (hpx:0≤px∧px≤1048576) (hpy:0≤py∧py≤1048576):
    RoomL L (B+16777216) (withinP F L k rw rh px py)∧At (110*(B+33554432)) (withinP F L k rw rh px py):=by
  have h2:0≤eA (stF F k)∧eA (stF F k)≤4194304:=(hg k).eA_bd;have h3:=(hg k).siz 53 (by decide);have h4:limW (stF F k) (val (stF F k) 53) rw≤B+6291456:=limW_hi (ht k) (by omega) hrw.2 (by omega);have h5:=(limW_bd (stF F k) (val (stF F k) 53) rw).1;have i0:=inO_tame (ht k) (b:=rh) (B:=B+6291456) (by omega) hrh.2 0 (by omega);have i1:=inO_tame (ht k) (b:=rw) (B:=B+6291456) (by omega) hrw.2 1 (by omega);have i2:=inO_tame (ht k) (b:=rh) (B:=B+6291456) (by omega) hrh.2 2 (by omega);have i3:=inO_tame (ht k) (b:=rw) (B:=B+6291456) (by omega) hrw.2 3 (by omega);have ma:=mA_tame (ht k) (b:=rw) (B:=B+6291456) (by omega) hrw.2;have md:=mD_tame (ht k);have sw:-1≤wSetW F k rw∧wSetW F k rw≤B+10485760:=by unfold wSetW;split<;>(try split)<;>omega
  have sh:-1≤wSetH F k rh∧wSetH F k rh≤B+10485760:=by unfold wSetH;split<;>omega
  have h:=hL (B+16777216) rw rh (wSetW F k rw) (wSetH F k rh) (by omega) (by omega) (by omega) (by omega) (by omega) (by omega) (by omega) (by omega) (by omega);have hid:(wF F L k rw rh).id=k:=h.1;have hw:0≤(wF F L k rw rh).w∧(wF F L k rw rh).w≤B+16777216+6291456:=h.2.1;have hh:0≤(wF F L k rw rh).h∧(wF F L k rw rh).h≤B+16777216+4194304:=h.2.2;refine⟨room_of (k:=k) (rw:=rw) (rh:=rh) (sw:=wSetW F k rw) (sh:=wSetH F k rh) hid (by omega) (by omega) (by omega) (by omega) rfl rfl rfl rfl,?_⟩;have m3:-1048576≤mS (stF F k) rw 3∧mS (stF F k) rw 3≤B+6291456:=⟨mS_lo (ht k) 3 (by omega),mS_hi (ht k) (by omega) hrw.2 3 (by omega)⟩;have m0:-1048576≤mS (stF F k) rw 0∧mS (stF F k) rw 0≤1048576:=⟨mS_lo (ht k) 0 (by omega),mS_top (ht k) 0 (by omega)⟩;have hx:-(8*(B+33554432))≤(withinP F L k rw rh px py).x∧(withinP F L k rw rh px py).x≤8*(B+33554432):=by
    unfold withinP;dsimp only
    split
    · omega
    · split<;>omega
  have hy:-(8*(B+33554432))≤(withinP F L k rw rh px py).y∧(withinP F L k rw rh px py).y≤8*(B+33554432):=by
    unfold withinP;dsimp only
    split
    · omega
    · split<;>omega
  unfold At;omega
theorem apart_pos {ww wh k iw ih:Int} {s:List Value} (hs:GS s) (hL:SZ L k) (hww:0≤ww∧ww≤1048576) (hwh:0≤wh∧wh≤1048576) (hiw:0≤iw∧iw≤B+2097152) (hih:0≤ih∧ih≤B+4194304):
    RoomL L (B+16777216) (apartP F ww wh L s iw ih k)∧At (128*(B+33554432)) (apartP F ww wh L s iw ih k):=by
  have b1:=hs.siz 31 (by decide);have b3:=hs.siz 33 (by decide);have b4:=hs.siz 34 (by decide);have b2:=hs.siz 32 (by decide);have b5:=hs.siz 38 (by decide);have b6:=hs.siz 35 (by decide);unfold apartP
  split
  · obtain ⟨h1, h2⟩ := within_pos hg ht hB hL (rw := ww) (rh := wh) (px := 0) (py := 0) (by omega) (by omega) (by omega) (by omega)
    refine⟨h1,?_⟩;unfold At at h2 ⊢;omega
  · obtain ⟨⟨a, b, c, d, h1⟩, h2⟩ := within_pos hg ht hB hL (rw := iw + (val s 34 + val s 32)) (rh := ih + (val s 31 + val s 33)) (px := val s 34) (py := val s 31) (by omega) (by omega) (by omega) (by omega)
    refine⟨⟨a,b,c,d,h1⟩,?_⟩;unfold At at h2 ⊢;unfold shiftXY;dsimp only;omega
theorem in_pos {x iw ih:Int} (hL:∀k∈kidsP F x false,SZ L k) (hiw:0≤iw∧iw≤B+2097152) (hih:-1≤ih∧ih≤B) (hn:(kidsP F x false).length≤31):∀f∈(inP F L x iw ih).1,RoomL L (B+16777216) f∧At (110*(B+33554432)) f:=by
  unfold inP
  split
  · intro f hf;simp at hf
  · split
    · exact row_pos hg ht hL hB hiw hih hn x
    · split
      · exact column_pos hg ht hL hB hiw hih hn x
      · exact block_pos ht hL hB hiw hih hn x
theorem step_pos {ww wh x rw rh sw sh:Int} (hww:0≤ww∧ww≤1048576) (hwh:0≤wh∧wh≤1048576) (hL:∀k∈kidsF F x,SZ L k) (hn:(kidsF F x).length≤31) (hrw:0≤rw∧rw≤B) (hrh:-1≤rh∧rh≤B) (hsw:-1≤sw∧sw≤B) (hsh:-1≤sh∧sh≤B)
    (hend:ihEnd (stF F x) rh (ihP (stF F x) rh sh) (inP F L x (iwP (stF F x) rw sw) (ihP (stF F x) rh sh)).2≤B+4194304):
    ∀f∈(layStep F ww wh L x rw rh sw sh).kids,RoomL L (B+16777216) f∧At (128*(B+33554432)) f:=fun f hf=>by
  have w1:=iwP_hi (ht x) (B:=B) (by omega) (hg x) hrw.2 hsw.2;have w2:=((hg x).iwP_bd rw sw).1;have v1:=ihP_hi (ht x) (B:=B) (by omega) (hg x) hrh.2 hsh.2;have v2:=((hg x).ihP_bd rh sh).1;have e0:=(ihEnd_bd (stF F x) rh (ihP (stF F x) rh sh) (inP F L x (iwP (stF F x) rw sw) (ihP (stF F x) rh sh)).2 v2).1;unfold layStep at hf
  rcases List.mem_append.1 hf with hf | hf
  · obtain ⟨f0, hf0, rfl⟩ := List.mem_map.1 hf
    obtain⟨⟨a,b,c,d,h1⟩,h2⟩:=in_pos hg ht hB (fun k hk=>hL k (kidsP_sub hk)) ⟨w2,w1⟩ ⟨v2,v1⟩ (Nat.le_trans (kidsP_le F x false) hn) f0 hf0;refine⟨⟨a,b,c,d,h1⟩,?_⟩;have q3:=(hg x).eS_bd 3 (by decide);have q0:=(hg x).eS_bd 0 (by decide);have i1:=inO_tame (ht f0.id) (b:=iwP (stF F x) rw sw) (B:=B+2097152) (by omega) w1 1 (by omega);have i2:=inO_tame (ht f0.id) (b:=ihP (stF F x) rh sh) (B:=B) (by omega) v1 2 (by omega);have mx:-(B+2097152)≤movX (stF F f0.id) (iwP (stF F x) rw sw)∧movX (stF F f0.id) (iwP (stF F x) rw sw)≤B+2097152:=by
      unfold movX
      split
      · exact⟨ofL_lo ((ht f0.id).l (j:=29) (by decide)) (by omega) (by omega),ofL_hi ((ht f0.id).l (j:=29) (by decide)) (by omega) w1 (by omega)⟩
      · omega
    have my:-(B+2097152)≤movY (stF F f0.id) (ihP (stF F x) rh sh)∧movY (stF F f0.id) (ihP (stF F x) rh sh)≤B+2097152:=by
      unfold movY
      split
      · exact⟨ofL_lo ((ht f0.id).l (j:=23) (by decide)) (by omega) (by omega),ofL_hi ((ht f0.id).l (j:=23) (by decide)) (by omega) (by omega) (by omega)⟩
      · omega
    unfold At at h2 ⊢;unfold moveF;dsimp only;omega
  · obtain ⟨k, hk, rfl⟩ := List.mem_map.1 hf
    exact apart_pos hg ht hB (hg x) (hL k (kidsP_sub hk)) hww hwh ⟨w2,w1⟩ ⟨e0,hend⟩
end
section
variable {F:Forest (List Value)} {d:Int→Nat} (hF:WF F d) (hg:∀x,GS (stF F x)) (ht:∀x,TameS (stF F x)) (hlen:lenF F≤31)
include hF hg ht hlen
omit hg ht in
theorem num_few (x:Int):numF F x≤31:=by
  have h1:=nodup_len (l:=sub F x) (m:=order F) (hF.sub_nodup x) fun y hy=>hF.mem_order.2 (sub_has hy);unfold lenF at hlen;unfold numF;omega
theorem sz_all (ww wh:Int) {x:Int} (hx:hasF F x=true):SZ (LAY F ww wh) x:=by
  intro B rw rh sw sh hB h1 h2 h3 h4 h5 h6 h7 h8;have hb:=layN_LB ww wh (hg x) 64 rw rh sw sh;have hh:=(hh_all hF hg ht ww wh 64 x hx (by omega)).2 rw rh sw sh;have hnum:=num_few hF hlen x;have w1:=iwP_hi (ht x) (B:=B) (by omega) (hg x) h2 h6;have e1:=(hg x).eA_bd;have hw:(LAY F ww wh x rw rh sw sh).w=iwP (stF F x) rw sw+eA (stF F x):=by rw[LAY_eq hF hx];rfl
  refine⟨hb.1,⟨hb.2.2.2.1.1,by omega⟩,hb.2.2.2.2.1,by omega⟩
def SmF (F:Forest (List Value)) (d:Int→Nat) (ww wh:Int) (f:Frm):Prop:=hasF F f.id=true∧RoomL (LAY F ww wh) (536870912+16777216*(d f.id:Int)) f∧At 90194313216 f
theorem SmF.size {ww wh:Int} {f:Frm} (h:SmF F d ww wh f) (hd:d f.id≤6):(0≤f.w∧f.w≤671088640)∧0≤f.h∧f.h≤671088640:=by
  obtain⟨hx,⟨rw,rh,sw,sh,h1,h2,h3,h4,e1,e2,_⟩,_⟩:=h;have hs:=sz_all hF hg ht hlen ww wh hx (536870912+16777216*(d f.id:Int)) rw rh sw sh (by omega) (by omega) (by omega) (by omega) (by omega) (by omega) (by omega) (by omega) (by omega);rw[e1,e2];omega
theorem SmF.kids (hdep:∀x,hasF F x=true→d x≤6) {ww wh:Int} (hww:0≤ww∧ww≤1048576) (hwh:0≤wh∧wh≤1048576) {f:Frm} (h:SmF F d ww wh f):∀g∈f.kids,SmF F d ww wh g:=fun g hgk=>by
  obtain⟨hx,⟨rw,rh,sw,sh,h1,h2,h3,h4,e1,e2,e3⟩,h6⟩:=h;have hgood:Good F ww wh f:=⟨hx,rw,rh,sw,sh,e1,e2,e3⟩;obtain⟨⟨k1,_⟩,k2⟩:=hgood.kids hF hg g hgk;have hd:=hdep f.id hx;have hL:∀k∈kidsF F f.id,SZ (LAY F ww wh) k:=fun k hk=>sz_all hF hg ht hlen ww wh (kid_rank' hF hk).1;have hs:=sz_all hF hg ht hlen ww wh hx (536870912+16777216*(d f.id:Int)) rw rh sw sh (by omega) (by omega) (by omega) (by omega) (by omega) (by omega) (by omega) (by omega) (by omega);have hh:(LAY F ww wh f.id rw rh sw sh).h=ihEnd (stF F f.id) rh (ihP (stF F f.id) rh sh) (inP F (LAY F ww wh) f.id (iwP (stF F f.id) rw sw) (ihP (stF F f.id) rh sh)).2+eD (stF F f.id):=by rw[LAY_eq hF hx];rfl
  have hed:=(hg f.id).eD_bd;rw[e3,LAY_eq hF hx] at hgk;have hst:=step_pos hg ht (B:=536870912+16777216*(d f.id:Int)) (by omega) hww hwh hL (kids_few hF hlen f.id) h1 h2 h3 h4 (by omega) g hgk;refine⟨k1,?_,?_⟩
  · have e : (536870912 + 16777216 * (d f.id : Int) + 16777216 : Int) = 536870912 + 16777216 * (d g.id : Int) := by rw [k2]; omega
    rw[←e];exact hst.1
  · have h7 := hst.2
    unfold At at h7 ⊢;omega
theorem flat_small (hdep:∀x,hasF F x=true→d x≤6) {ww wh:Int} (hww:0≤ww∧ww≤1048576) (hwh:0≤wh∧wh≤1048576):∀(n:Nat) (f:Frm),SmF F d ww wh f→∀g∈flatN n f,SmF F d ww wh g
  | 0,f,_,g,hm=>by simp[flatN] at hm
  | n + 1, f, h, g, hm => by
    rw[flatN] at hm
    rcases List.mem_cons.1 hm with rfl | hm
    · exact h
    · obtain ⟨k, hk, hm⟩ := List.mem_flatMap.1 hm
      exact flat_small hdep hww hwh n k (h.kids hF hg ht hlen hdep hww hwh k hk) g hm
theorem all_small (hdep:∀x,hasF F x=true→d x≤6) {w h:Int} (hw:w≤1048576) (hh:h≤1048576):∀f∈allP F w h,At 90194313216 f∧(0≤f.w∧f.w≤671088640)∧0≤f.h∧f.h≤671088640:=fun f hf=>by
  unfold allP at hf
  split at hf
  · obtain ⟨b, hb, _⟩ := hF.root
    have h0:=has_some hb;have hr:=layN_LB (max w 0) (max h 0) (hg 0) 64 (max w 0) (max h 0) (-1) (-1);have hid:(LAY F (max w 0) (max h 0) 0 (max w 0) (max h 0) (-1) (-1)).id=0:=hr.1;have hx0:(LAY F (max w 0) (max h 0) 0 (max w 0) (max h 0) (-1) (-1)).x=0:=hr.2.1;have hy0:(LAY F (max w 0) (max h 0) 0 (max w 0) (max h 0) (-1) (-1)).y=0:=hr.2.2.1;have hs:SmF F d (max w 0) (max h 0) (LAY F (max w 0) (max h 0) 0 (max w 0) (max h 0) (-1) (-1)):=by
      refine⟨by rw[hid];exact h0,?_,?_⟩
      · refine room_of (k:=0) hid ?_ ?_ ?_ ?_ rfl rfl rfl rfl<;>(rw[hid,hF.rank0];omega)
      · unfold At;rw[hx0,hy0];omega
    have hq:=flat_small hF hg ht hlen hdep (by omega) (by omega) 64 _ hs f hf;exact⟨hq.2.2,hq.size hF hg ht hlen (hdep f.id hq.1)⟩
  · simp at hf
end
def TameL (l:List AC) (k:Nat):Prop:=∀i x,i<k→l[i]?=some x→TameS x.1.sty
def DeepL (F:Forest (List Value)) (j:Nat):Prop:=∀i y,i<j→(sub F 0)[i]?=some y→depthF F y≤6
def GrT (l:List AC) (es:List PE) (bs:List RB):Prop:=GrOK l es bs∧TameL l l.length∧DeepL (absR bs) (sub (absR bs) 0).length
theorem TameL.step {l:List AC} {k:Nat} {x:AC} (h:TameL l k) (hx:l[k]?=some x) (ht:TameS x.1.sty):TameL l (k+1):=fun i y hi hy=>by
  rcases Nat.lt_succ_iff_lt_or_eq.1 hi with hi | rfl
  · exact h i y hi hy
  · rw[hx] at hy;cases hy;exact ht
theorem DeepL.step {F:Forest (List Value)} {j:Nat} {y:Int} (h:DeepL F j) (hy:(sub F 0)[j]?=some y) (hd:depthF F y≤6):DeepL F (j+1):=fun i z hi hz=>by
  rcases Nat.lt_succ_iff_lt_or_eq.1 hi with hi | rfl
  · exact h i z hi hz
  · rw[hy] at hz;cases hz;exact hd
def AllTS (F:Forest (List Value)):Prop:=∀x b,F x=some b→TameS b.sty
theorem zero_tame:TameS zeroS:=fun p hp=>by
  have h:∀q∈tameL zeroS,q=(0,0):=by decide+kernel
  rw[h p hp];exact⟨fun h=>by simp at h,fun h=>by simp at h⟩
theorem AllTS.st {F:Forest (List Value)} (h:AllTS F) (x:Int):TameS (stF F x):=by
  unfold stF styF
  split
  · rename_i b hb;exact h x b hb
  · exact zero_tame
theorem AllTS.act {F:Forest (List Value)} (h:AllTS F) (a:Act (List Value)) (ha:TameS a.sty):AllTS (actR zeroS validB F a):=by
  have hadd:∀up k id,AllTS (addG F up k id zeroS):=fun up k id x b hb=>by
    unfold addG at hb
    split at hb
    · obtain ⟨c, hc, rfl⟩ := Option.map_eq_some_iff.1 hb
      exact h _ c hc
    · split at hb
      · cases hb;exact zero_tame
      · exact h x b hb
  have hrem:∀id,AllTS (remG F id):=fun id x b hb=>by
    unfold remG at hb
    split at hb
    · cases hb
    · obtain ⟨c, hc, rfl⟩ := Option.map_eq_some_iff.1 hb
      split<;>exact h x c hc
  have hmov:∀id up k,AllTS (movG F id up k):=fun id up k x b hb=>by
    unfold movG at hb;obtain⟨c,hc,rfl⟩:=Option.map_eq_some_iff.1 hb;exact h x c hc
  have hset:∀id,AllTS (setG F id a.sty):=fun id x b hb=>by
    unfold setG at hb
    split at hb
    · obtain ⟨c, hc, rfl⟩ := Option.map_eq_some_iff.1 hb
      exact ha
    · exact h x b hb
  unfold actR
  split
  · unfold remR
    repeat' split
    all_goals first | exact h | exact hrem _
  · split
    · unfold movR
      repeat' split
      all_goals first | exact h | exact hmov _ _ _
    · split
      · unfold setR
        repeat' split
        all_goals first | exact h | exact hset _
      · unfold addR
        repeat' split
        all_goals first | exact h | exact hadd _ _ _
theorem AF_ts (l:List AC) (ht:TameL l l.length):∀k≤l.length,AllTS (AF (l.take k))
  | 0, _ => fun x b h => by
    have h':newF zeroS x=some b:=h;unfold newF at h'
    split at h'
    · cases h';exact zero_tame
    · cases h'
  | k + 1, hk => by
    obtain⟨x,hx⟩:∃x,l[k]?=some x:=⟨_,List.getElem?_eq_getElem (by omega)⟩;rw[AF_snoc hx];exact(AF_ts l ht k (by omega)).act x.1 (ht k x (by omega) hx)
theorem AF_tame {l:List AC} (ht:TameL l l.length):AllTS (AF l):=by
  have h:=AF_ts l ht l.length (Nat.le_refl _)
  rwa [List.take_of_length_le (Nat.le_refl _)] at h
theorem deep_d {F:Forest (List Value)} {d:Int→Nat} (hF:WF F d) (h:DeepL F (sub F 0).length):∀x,hasF F x=true→d x≤6:=fun x hx=>by
  obtain⟨i,hi,e⟩:=List.getElem_of_mem (hF.mem_order.2 hx);have h0:(order F)[i]?=some x:=by rw[List.getElem?_eq_getElem hi];exact congrArg some e
  have h1:=h i x hi h0;rw[hF.depth hx] at h1;omega
theorem grow3_ct (A:Option Addr) (c:Nat) (l:List AC):Ct Tryz.prog 17 #[.slice A l.length c] [] (fun w=>RdE w A 59 encA l) (X:=Bool×Nat×Nat×List PE×Nat×Nat×Nat×List RB) (fun p=>.tuple #[.pointer (some ⟨p.2.1,0,none⟩),.pointer (some ⟨p.2.2.2.2.1,0,none⟩),.bool p.1])
    (fun p=>p.1=true→GrT l p.2.2.2.1 p.2.2.2.2.2.2.2) (fun p=>[treeI p.2.1 p.2.2.1 p.2.2.2.1,refI p.2.2.2.2.1 p.2.2.2.2.2.1 p.2.2.2.2.2.2.1 p.2.2.2.2.2.2.2]):=by
  refine Ct.intro Tryz.func17 rfl Tryz.ntmps17 (by simp) (fun w0 hz=>?_);refine sqR ?_;refine sg (v:=.pointer none) rfl ?_;refine sg (v:=.pointer none) rfl ?_;refine sg (v:=.bool false) rfl ?_;refine nl (oo ?_);refine sqR ?_;refine WPL.ef (x_call Tryz.call49 new_ct [] [] rfl (fun w hw=>trivial) (τ:=fun _=>[_]) (fun _=>rfl)) (fun⟨tp,mb,nb⟩=>?_);refine WPL.fact (fun _=>?_);refine sgP rfl ?_;refine nl (oo ?_);refine sqR ?_;refine WPL.ef (x_call Tryz.call52 rnew_ct [] [0] rfl (fun w hw=>trivial) (τ:=fun _=>[_,_]) (fun _=>rfl)) (fun⟨rp,g0⟩=>?_);refine WPL.fact (fun _=>?_);refine sgP rfl ?_;refine nl (oo ?_);refine sq ?_;refine sqR ?_;refine mvS rfl ?_;refine vl (v_len Tryz.underlying22 rfl) ?_;refine vl (v_gtr rfl rfl) ?_;refine mvB rfl ?_;refine WPL.split 15 rfl (fun h15=>?_) (fun h15=>?_)
  ·refine sk ?_;refine sk ?_;refine vl (v_pickT (u:=.bool _) rfl rfl) ?_;refine nl (oo ?_);refine WP.condT rfl ?_;refine sqR ?_;refine mvP rfl ?_;refine mvP rfl ?_;refine sgP rfl ?_;refine sgP rfl ?_;refine sg (v:=.bool false) rfl ?_;refine nl (oo ?_);exact WP.ret3 Tryz.results17 (fun _ h=>h) (fun w hw=>by first | exact⟨(false,tp,mb,[newE 0 nb (-1)],rp,g0,1,[liveRB (-1)]),rfl,(fun h=>by cases h),(hw.sel [0,1] (by decide))⟩ | exact⟨(true,tp,mb,[newE 0 nb (-1)],rp,g0,1,[liveRB (-1)]),rfl,(fun _=>⟨⟨hl30,hFo,hk,hab,hkr⟩,htl,hdl⟩),(hw.sel [0,1] (by decide))⟩)
  ·refine vg (v_move (v:=.pointer _) rfl) ?_;refine vg (v_eqNil Tryz.underlying24 rfl rfl) ?_;refine vl (v_pickF (v:=.bool _) rfl rfl) ?_;refine nl (oo ?_);refine WP.condF rfl ?_;refine WP.skip (onto_of ?_);refine sq ?_;refine sqR ?_;refine sg (v:=.int .i64 (0)) rfl ?_;refine nl (oo ?_);refine WP.block ?_;refine WP.loopK (X:=Nat×List PE×Nat×Nat×List RB) [0,5,6] (fun p=>[(7,.int .i64 (p.1:Int))]) (fun p w=>(p.1≤l.length∧FoR p.2.1=AF (l.take p.1)∧LOk p.2.1∧absR p.2.2.2.2=FoR p.2.1∧ROk p.2.2.2.2∧TameL l p.1)∧St w0 (foots []) [treeI tp mb p.2.1,refI rp p.2.2.1 p.2.2.2.1 p.2.2.2.2] w) (fun p=>l.length - p.1) (0,[newE 0 nb (-1)],g0,1,[liveRB (-1)]) ⟨rfl,trivial⟩ (fun w hw=>⟨⟨Nat.zero_le _,(newE_ok nb).1,(newE_ok nb).2,rnew_ok.1.trans (newE_ok nb).1.symm,rnew_ok.2,fun i x hi=>by omega⟩,(hw.sel [0,1] (by decide))⟩) (fun p ρ0=>?_);obtain⟨k,es,g,bc,bs⟩:=p;dsimp only;refine WP.fact (fun⟨hkl,hFo,hk,hab,hkr,htl⟩=>?_);refine sq ?_;refine sqR ?_;refine mvI rfl ?_;refine mvS rfl ?_;refine vl (v_len Tryz.underlying22 rfl) ?_;refine vl (v_lss rfl rfl) ?_;refine nl (oo ?_);refine WP.condP rfl (fun h24=>?_) (fun h24=>?_)
   ·obtain⟨x,hx⟩:∃x,l[k]?=some x:=⟨_,List.getElem?_eq_getElem (by omega)⟩;obtain⟨ab,ao,rfl,hc⟩:=hz k x hx;obtain⟨d,hF⟩:=AF_wf (l.take k);rw[←hFo] at hF;refine WP.skip (onto_of ?_);refine sq ?_;refine WP.block ?_;refine sq ?_;refine sqR ?_;refine mvS rfl ?_;refine mvI rfl ?_;refine vl (v_index (j:=k) Tryz.underlying22 Tryz.sizeOf99 rfl rfl rfl (by omega)) ?_;refine vl (v_field (off:=4) Tryz.underlying99 rfl Tryz.sizeOf42 rfl) ?_;refine vl (v_loadA (cs:=x.1.sty) Tryz.isAgg42 Tryz.sizeOf42 rfl (fun w hw=>(hw.old_at hc (noNil _)).part 4 (by show List.take _ x.1.sty=_;exact List.take_of_length_le (Nat.le_refl _))) x.2.len) ?_;refine WPL.ef (x_call Tryz.call53 (tame_ct x.1.sty x.2) [] [0,1] rfl (fun w hw=>trivial) (τ:=fun _=>[_,_]) (fun _=>rfl)) (fun tb=>?_);refine WPL.fact (fun htm=>?_);refine vl (v_not rfl) ?_;refine nl (oo ?_);refine WP.cond rfl (fun h33=>?_) (fun h33=>?_)
    ·refine sqR ?_;refine mvP rfl ?_;refine mvP rfl ?_;refine sgP rfl ?_;refine sgP rfl ?_;refine sg (v:=.bool false) rfl ?_;refine nl (oo ?_);exact WP.ret3 Tryz.results17 (fun _ h=>h) (fun w hw=>by first | exact⟨(false,tp,mb,es,rp,g,bc,bs),rfl,(fun h=>by cases h),(hw.sel [0,1] (by decide))⟩ | exact⟨(true,tp,mb,es,rp,g,bc,bs),rfl,(fun _=>⟨⟨hl30,hFo,hk,hab,hkr⟩,htl,hdl⟩),(hw.sel [0,1] (by decide))⟩)
    ·refine WP.skip (onto_of ?_);refine sqR ?_;refine mvP rfl ?_;refine mvP rfl ?_;refine mvS rfl ?_;refine mvI rfl ?_;refine vl (v_index (j:=k) Tryz.underlying22 Tryz.sizeOf99 rfl rfl rfl (by omega)) ?_;refine vl (v_loadA (cs:=encA x) Tryz.isAgg99 Tryz.sizeOf99 rfl (fun w hw=>hw.old_at hc (noNil _)) (encA_len x)) ?_;refine WPL.ef (x_call Tryz.call54 (both_ct tp mb es hk hF rp g bc bs hkr hab x.1 x.2) [0,1] [] rfl (fun w hw=>trivial) (τ:=fun _=>[_,_]) (fun _=>rfl)) (fun⟨es1,g1,bc1,bs1⟩=>?_);refine WPL.fact (fun hf=>?_);obtain⟨f1,hk1,hab1,hkr1⟩:=hf;dsimp only at f1 hk1 hab1 hkr1;have hAF:FoR es1=AF (l.take (k+1)):=by rw[AF_snoc hx,←hFo];exact f1
     refine vl (v_not rfl) ?_;refine nl (oo ?_);refine WP.condF rfl ?_;refine WP.skip (onto_of ?_);refine WP.region ?_;refine mvI rfl ?_;refine vl (v_add rfl rfl (by omega)) ?_;refine sgI rfl ?_;exact nl fun w hw=>⟨rfl,(k+1,es1,g1,bc1,bs1),(by simp only;omega),⟨rfl,(via (.slice _ _ _) rfl rfl),(via (.pointer _) rfl rfl),(via (.pointer _) rfl rfl),trivial⟩,⟨⟨by simp only;omega,hAF,hk1,hab1,hkr1,htl.step hx (htm (by simpa using h33))⟩,(hw.sel [0,1] (by decide))⟩⟩
   ·obtain rfl:k=l.length:=by omega
    rw[List.take_of_length_le (Nat.le_refl _)] at hFo;obtain⟨d,hF⟩:=AF_wf l;rw[←hFo] at hF;have hFr:WF (absR bs) d:=by rw[hab];exact hF
    have hl30:l.length≤30:=by omega
    refine WP.exit (onto_of ?_);refine sqR ?_;refine mvP rfl ?_;refine WPL.ef (x_call Tryz.call55 (rinside_ct rp g bc bs hkr hFr 0) [1] [0] rfl (fun w hw=>trivial) (τ:=fun _=>[_,_,_]) (fun _=>rfl)) (fun⟨rA,rc⟩=>?_);refine WPL.fact (fun _=>?_);refine sgS rfl ?_;refine nl (oo ?_);refine sq ?_;refine sqR ?_;refine sg (v:=.int .i64 (0)) rfl ?_;refine nl (oo ?_);refine WP.block ?_;refine WP.loopK (X:=Nat) [5,6,8] (fun j=>[(9,.int .i64 (j:Int))]) (fun j w=>(j≤(sub (absR bs) 0).length∧DeepL (absR bs) j)∧St w0 (foots []) [treeI tp mb es,refI rp g bc bs,kidsI rA (sub (absR bs) 0).length rc (sub (absR bs) 0)] w) (fun j=>(sub (absR bs) 0).length - j) 0 ⟨rfl,trivial⟩ (fun w hw=>⟨⟨Nat.zero_le _,fun i x hi=>by omega⟩,(hw.sel [0,1,2] (by decide))⟩) (fun j ρ0=>?_);refine WP.fact (fun⟨hjn,hdl⟩=>?_);refine sq ?_;refine sqR ?_;refine mvI rfl ?_;refine mvS rfl ?_;refine vl (v_len Tryz.underlying49 rfl) ?_;refine vl (v_lss rfl rfl) ?_;refine nl (oo ?_);refine WP.condP rfl (fun h51=>?_) (fun h51=>?_)
    ·obtain⟨y,hy⟩:∃y,(sub (absR bs) 0)[j]?=some y:=⟨_,List.getElem?_eq_getElem (by omega)⟩;refine WP.holds (fun w hw=>hw.row_pos (i:=2) rfl (by omega)) (fun⟨ib,hA⟩=>?_);subst hA;have hll:=hFr.len_le 0;refine WP.skip (onto_of ?_);refine sq ?_;refine WP.block ?_;refine sqR ?_;refine mvP rfl ?_;refine mvS rfl ?_;refine mvI rfl ?_;refine vl (v_index (j:=j) Tryz.underlying49 Tryz.sizeOf3 rfl rfl rfl (by omega)) ?_;refine vl (v_load1 (u:=.int .i64 _) Tryz.isAgg3 rfl (fun w hw=>hw.row_at1 (i:=2) rfl (by rw[List.getElem?_map,hy];rfl) (by omega))) ?_;refine WPL.ef (x_call Tryz.call56 (rdepth_ct rp g bc bs hkr hFr y) [1] [0,2] rfl (fun w hw=>trivial) (τ:=fun _=>[_,_,_]) (fun _=>rfl)) (fun _=>?_);refine WPL.fact (fun _=>?_);refine vl (v_gtr rfl rfl) ?_;refine nl (oo ?_);refine WP.condP rfl (fun h60=>?_) (fun h60=>?_)
     ·refine sqR ?_;refine mvP rfl ?_;refine mvP rfl ?_;refine sgP rfl ?_;refine sgP rfl ?_;refine sg (v:=.bool false) rfl ?_;refine nl (oo ?_);exact WP.ret3 Tryz.results17 (fun _ h=>h) (fun w hw=>by first | exact⟨(false,tp,mb,es,rp,g,bc,bs),rfl,(fun h=>by cases h),(hw.sel [0,2] (by decide))⟩ | exact⟨(true,tp,mb,es,rp,g,bc,bs),rfl,(fun _=>⟨⟨hl30,hFo,hk,hab,hkr⟩,htl,hdl⟩),(hw.sel [0,2] (by decide))⟩)
     ·refine WP.skip (onto_of ?_);refine WP.region ?_;refine mvI rfl ?_;refine vl (v_add rfl rfl (by omega)) ?_;refine sgI rfl ?_;exact nl fun w hw=>⟨rfl,j+1,(by omega),⟨rfl,(via (.pointer _) rfl rfl),(via (.pointer _) rfl rfl),(via (.slice _ _ _) rfl rfl),trivial⟩,⟨⟨by omega,hdl.step hy (by omega)⟩,(hw.sel [0,2,1] (by decide))⟩⟩
    ·obtain rfl:j=(sub (absR bs) 0).length:=by omega
     refine WP.exit (onto_of ?_);refine sqR ?_;refine mvP rfl ?_;refine mvP rfl ?_;refine sgP rfl ?_;refine sgP rfl ?_;refine sg (v:=.bool true) rfl ?_;refine nl (oo ?_);exact WP.ret3 Tryz.results17 (fun _ h=>h) (fun w hw=>by first | exact⟨(false,tp,mb,es,rp,g,bc,bs),rfl,(fun h=>by cases h),(hw.sel [0,1] (by decide))⟩ | exact⟨(true,tp,mb,es,rp,g,bc,bs),rfl,(fun _=>⟨⟨hl30,hFo,hk,hab,hkr⟩,htl,hdl⟩),(hw.sel [0,1] (by decide))⟩)
theorem SOk.setM {cs:List Value} (hs:SOk cs) (j:Nat) (hj:isBit j=false) (z:Int):SOk (cs.set j (.int .i64 z)):=by
  refine SOk.of_dec (f:=fun i=>if i=j then z else val cs i) (g:=fun i=>bval cs i) (by rw[List.length_set,hs.len]) fun i hi=>?_
  by_cases e:i=j
  · subst e
    rw[List.getElem?_set_self (by rw[hs.len];exact hi),hj];simp
  · rw [List.getElem?_set_ne (Ne.symm e)]
    cases hb:isBit i with
    | false=>rw[hs.int i hi hb];simp[e]
    | true=>rw[hs.bit i hi hb];simp
theorem val_setM (cs:List Value) (j:Nat) (v:Value) (i:Nat) (h:i≠j):val (cs.set j v) i=val cs i∧bval (cs.set j v) i=bval cs i:=by
  unfold val bval;rw[List.getD_eq_getElem?_getD,List.getD_eq_getElem?_getD,List.getElem?_set_ne (Ne.symm h)];exact⟨rfl,rfl⟩
theorem val_setN {cs:List Value} (hs:SOk cs) (j:Nat) (z:Int) (h:j<55):val (cs.set j (.int .i64 z)) j=z:=by
  unfold val;rw[List.getD_eq_getElem?_getD,List.getElem?_set_self (by rw[hs.len];exact h)];rfl
theorem bval_int {cs:List Value} (hs:SOk cs) {j:Nat} (h:j<55) (hb:isBit j=false):bval cs j=false:=by
  unfold bval;rw[List.getD_eq_getElem?_getD,hs.int j h hb];rfl
abbrev movS (s:List Value):List Value:=s.set 1 (.int .i64 0)
abbrev movT (s:List Value) (dx dy:Int):List Value:=(((((movS s).set 1 (.int .i64 1)).set 29 (.int .i64 1)).set 30 (.int .i64 dx)).set 23 (.int .i64 1)).set 24 (.int .i64 dy)
section
variable {s:List Value} (hs:SOk s) (dx dy:Int)
include hs
theorem movS_ok:SOk (movS s):=hs.setM 1 rfl 0
theorem movT_ok:SOk (movT s dx dy):=((((((movS_ok hs).setM 1 rfl 1).setM 29 rfl 1).setM 30 rfl dx).setM 23 rfl 1).setM 24 rfl dy)
theorem movT_val {j:Nat} (h:j≠1∧j≠29∧j≠30∧j≠23∧j≠24):val (movT s dx dy) j=val (movS s) j∧bval (movT s dx dy) j=bval (movS s) j:=by
  unfold movT
  rw [(val_setM _ 24 _ j h.2.2.2.2).1, (val_setM _ 23 _ j h.2.2.2.1).1, (val_setM _ 30 _ j h.2.2.1).1, (val_setM _ 29 _ j h.2.1).1, (val_setM _ 1 _ j h.1).1,
    (val_setM _ 24 _ j h.2.2.2.2).2, (val_setM _ 23 _ j h.2.2.2.1).2, (val_setM _ 30 _ j h.2.2.1).2, (val_setM _ 29 _ j h.2.1).2, (val_setM _ 1 _ j h.1).2]
  exact⟨rfl,rfl⟩
theorem movT_at:val (movT s dx dy) 1=1∧(val (movT s dx dy) 29=1∧val (movT s dx dy) 30=dx)∧val (movT s dx dy) 23=1∧val (movT s dx dy) 24=dy:=by
  have h1:=(movS_ok hs).setM 1 rfl 1;have h2:=h1.setM 29 rfl 1;have h3:=h2.setM 30 rfl dx;have h4:=h3.setM 23 rfl 1;refine⟨?_,⟨?_,?_⟩,?_,val_setN h4 24 dy (by decide)⟩
  · unfold movT
    rw[(val_setM _ 24 _ 1 (by decide)).1,(val_setM _ 23 _ 1 (by decide)).1,(val_setM _ 30 _ 1 (by decide)).1,(val_setM _ 29 _ 1 (by decide)).1];exact val_setN (movS_ok hs) 1 1 (by decide)
  · unfold movT
    rw[(val_setM _ 24 _ 29 (by decide)).1,(val_setM _ 23 _ 29 (by decide)).1,(val_setM _ 30 _ 29 (by decide)).1];exact val_setN h1 29 1 (by decide)
  · unfold movT
    rw[(val_setM _ 24 _ 30 (by decide)).1,(val_setM _ 23 _ 30 (by decide)).1];exact val_setN h2 30 dx (by decide)
  · unfold movT
    rw[(val_setM _ 24 _ 23 (by decide)).1];exact val_setN h3 23 1 (by decide)
theorem movS_1:val (movS s) 1=0:=val_setN hs 1 0 (by decide)
theorem movT_valid (hv:validB (movS s)=true) (hx:-1048576≤dx∧dx≤1048576) (hy:-1048576≤dy∧dy≤1048576):validB (movT s dx dy)=true:=by
  obtain⟨t1,⟨t29,t30⟩,t23,t24⟩:=movT_at hs dx dy;have v:∀j,j≠1∧j≠29∧j≠30∧j≠23∧j≠24→val (movT s dx dy) j=val (movS s) j:=fun j hj=>(movT_val hs dx dy hj).1;unfold validB at hv ⊢;simp only[Bool.and_eq_true] at hv ⊢;obtain⟨⟨⟨⟨⟨⟨hk,hw⟩,hl⟩,hz⟩,h39⟩,h40⟩,h48⟩:=hv;refine⟨⟨⟨⟨⟨⟨?_,?_⟩,?_⟩,?_⟩,?_⟩,?_⟩,?_⟩
  · unfold kindsB at hk ⊢
    rw[t1,v 0 (by decide),v 2 (by decide)];simp only[Bool.and_eq_true] at hk ⊢;exact⟨⟨hk.1.1,rfl⟩,hk.2⟩
  · unfold waysB at hw ⊢
    rw[v 43 (by decide),v 44 (by decide),v 49 (by decide),v 50 (by decide)];exact hw
  · unfold lensB lensOf at hl ⊢
    rw[←all_any (fun p:Int×Int=>lenOk p.1 p.2),List.all_eq_true] at hl ⊢;intro p hp;obtain⟨j,hj,rfl⟩:=List.mem_map.1 hp;have h0:=hl _ (List.mem_map.2 ⟨j,hj,rfl⟩)
    by_cases h29:j=29
    · subst h29
      show lenOk (val (movT s dx dy) 29) (val (movT s dx dy) 30)=true;rw[t29,t30];exact decide_eq_true (by omega)
    · by_cases h23 : j = 23
      · subst h23
        show lenOk (val (movT s dx dy) 23) (val (movT s dx dy) 24)=true;rw[t23,t24];exact decide_eq_true (by omega)
      · have hq : ∀ q ∈ lenPos, q ≠ 29 → q ≠ 23 → (q ≠ 1 ∧ q ≠ 29 ∧ q ≠ 30 ∧ q ≠ 23 ∧ q ≠ 24) ∧ (q + 1 ≠ 1 ∧ q + 1 ≠ 29 ∧ q + 1 ≠ 30 ∧ q + 1 ≠ 23 ∧ q + 1 ≠ 24) := by decide
        obtain⟨q1,q2⟩:=hq j hj h29 h23;dsimp only;rw[v j q1,v (j+1) q2];exact h0
  · unfold sizesB sizesOf at hz ⊢
    have e:sizPos.map (val (movT s dx dy))=sizPos.map (val (movS s)):=List.map_congr_left fun j hj=>v j ((by decide:∀q∈sizPos,q≠1∧q≠29∧q≠30∧q≠23∧q≠24) j hj);rw[e];exact hz
  · rw[v 39 (by decide)];exact h39
  · rw[v 40 (by decide)];exact h40
  · rw[v 48 (by decide)];exact h48
theorem mov_sim:Sim (movS s) (movT s dx dy):=by
  obtain⟨t1,_,_,_⟩:=movT_at hs dx dy;have o1:outB (movS s)=false:=by unfold outB;rw[movS_1 hs];rfl
  refine⟨fun j h1 h2=>(movT_val hs dx dy ⟨h1,by omega,by omega,by omega,by omega⟩).1,fun j=>?_,by rw[o1];unfold outB;rw[t1];rfl,fun h=>by rw[o1] at h;cases h⟩
  by_cases h:j≠1∧j≠29∧j≠30∧j≠23∧j≠24
  · exact(movT_val hs dx dy h).2
  · have hj : j = 1 ∨ j = 29 ∨ j = 30 ∨ j = 23 ∨ j = 24 := by omega
    have hb:isBit j=false:=by rcases hj with rfl | rfl | rfl | rfl | rfl<;>rfl
    rw[bval_int (movT_ok hs dx dy) (by omega) hb,bval_int (movS_ok hs) (by omega) hb]
omit hs in
theorem movS_tame (ht:TameS s):TameS (movS s):=fun p hp=>by
  have e:tameL (movS s)=tameL s:=by
    unfold tameL;simp only[(val_setM s 1 _ _ (by decide:(3:Nat)≠1)).1,(val_setM s 1 _ _ (by decide:(4:Nat)≠1)).1,(val_setM s 1 _ _ (by decide:(5:Nat)≠1)).1,(val_setM s 1 _ _ (by decide:(6:Nat)≠1)).1,(val_setM s 1 _ _ (by decide:(7:Nat)≠1)).1,(val_setM s 1 _ _ (by decide:(8:Nat)≠1)).1,(val_setM s 1 _ _ (by decide:(9:Nat)≠1)).1,(val_setM s 1 _ _ (by decide:(10:Nat)≠1)).1,(val_setM s 1 _ _ (by decide:(11:Nat)≠1)).1,(val_setM s 1 _ _ (by decide:(12:Nat)≠1)).1,(val_setM s 1 _ _ (by decide:(13:Nat)≠1)).1,(val_setM s 1 _ _ (by decide:(14:Nat)≠1)).1,(val_setM s 1 _ _ (by decide:(15:Nat)≠1)).1,(val_setM s 1 _ _ (by decide:(16:Nat)≠1)).1,(val_setM s 1 _ _ (by decide:(17:Nat)≠1)).1,(val_setM s 1 _ _ (by decide:(18:Nat)≠1)).1,(val_setM s 1 _ _ (by decide:(19:Nat)≠1)).1,(val_setM s 1 _ _ (by decide:(20:Nat)≠1)).1,(val_setM s 1 _ _ (by decide:(21:Nat)≠1)).1,(val_setM s 1 _ _ (by decide:(22:Nat)≠1)).1,(val_setM s 1 _ _ (by decide:(23:Nat)≠1)).1,(val_setM s 1 _ _ (by decide:(24:Nat)≠1)).1,(val_setM s 1 _ _ (by decide:(25:Nat)≠1)).1,(val_setM s 1 _ _ (by decide:(26:Nat)≠1)).1,(val_setM s 1 _ _ (by decide:(27:Nat)≠1)).1,(val_setM s 1 _ _ (by decide:(28:Nat)≠1)).1,(val_setM s 1 _ _ (by decide:(29:Nat)≠1)).1,(val_setM s 1 _ _ (by decide:(30:Nat)≠1)).1,(val_setM s 1 _ _ (by decide:(41:Nat)≠1)).1,(val_setM s 1 _ _ (by decide:(42:Nat)≠1)).1]
  rw[e] at hp;exact ht p hp
end
theorem setR_is {F:Forest (List Value)} {i:Int} {s:List Value} (h:(setR validB F i s).2=0):hasF F i=true∧validB s=true∧(setR validB F i s).1=setG F i s:=by
  unfold setR at h ⊢
  split at h
  · simp at h
  · rename_i h1
    split at h
    · simp at h
    · rename_i h2
      exact⟨by simpa using h1,by simpa using h2,by rw[if_neg h1,if_neg h2]⟩
theorem setR_do {F:Forest (List Value)} {i:Int} {s:List Value} (h1:hasF F i=true) (h2:validB s=true):(setR validB F i s).1=setG F i s:=by
  unfold setR;rw[if_neg (by simp[h1]),if_neg (by simp[h2])]
section
variable {F:Forest (List Value)} {d:Int→Nat} {i:Int} {s:List Value}
theorem setG_st (h:hasF F i=true) (x:Int):stF (setG F i s) x=if x=i then s else stF F x:=by
  unfold stF styF setG
  by_cases hx:x=i
  · subst hx
    obtain⟨b,hb⟩:=some_has h;simp[hb]
  · simp[hx]
theorem setG_kids (x:Int):kidsF (setG F i s) x=kidsF F x:=by
  unfold kidsF setG
  by_cases hx:x=i
  · subst hx;rw[if_pos rfl];cases F x<;>rfl
  · rw[if_neg hx]
theorem setG_up (x:Int):upF (setG F i s) x=upF F x:=by
  unfold upF setG
  by_cases hx:x=i
  · subst hx;rw[if_pos rfl];cases F x<;>rfl
  · rw[if_neg hx]
theorem setG_has (x:Int):hasF (setG F i s) x=hasF F x:=by
  unfold hasF setG
  by_cases hx:x=i
  · subst hx;rw[if_pos rfl];cases F x<;>rfl
  · rw[if_neg hx]
theorem two_mov (hF:WF F d) (hi:hasF F i=true) (hs:SOk (stF F i)) (hv:validB (movS (stF F i))=true) (dx dy:Int) (hx:-1048576≤dx∧dx≤1048576) (hy:-1048576≤dy∧dy≤1048576):
    Mvd (setG F i (movS (stF F i))) (setR validB (setG F i (movS (stF F i))) i (movT (stF F i) dx dy)).1 i dx dy:=by
  have hi1:hasF (setG F i (movS (stF F i))) i=true:=by rw[setG_has];exact hi
  rw[setR_do hi1 (movT_valid hs dx dy hv hx hy)];have hst:∀x,Sim (stF (setG F i (movS (stF F i))) x) (stF (setG (setG F i (movS (stF F i))) i (movT (stF F i) dx dy)) x):=fun x=>by
    rw[setG_st hi1,setG_st hi]
    by_cases h:x=i
    · rw[if_pos h,if_pos h];exact mov_sim hs dx dy
    · rw[if_neg h,if_neg h];exact Sim.refl _
  obtain⟨t1,⟨t29,t30⟩,t23,t24⟩:=movT_at hs dx dy;have e0:stF (setG F i (movS (stF F i))) i=movS (stF F i):=by rw[setG_st hi,if_pos rfl]
  have e1:stF (setG (setG F i (movS (stF F i))) i (movT (stF F i) dx dy)) i=movT (stF F i) dx dy:=by rw[setG_st hi1,if_pos rfl]
  have hsN:∀(n:Nat) (x:Int),shownN (setG (setG F i (movS (stF F i))) i (movT (stF F i) dx dy)) n x=shownN (setG F i (movS (stF F i))) n x:=by
    intro n;induction n with
    | zero=>intro x;rfl
    | succ n ih=>intro x;unfold shownN;rw[setG_has,setG_up (F:=setG F i (movS (stF F i))),(hst x).v 0 (by decide) (by decide),ih]
  refine⟨⟨hst,fun x=>setG_kids x,fun x=>setG_up x,fun x=>by unfold shownF;rw[setG_has,hsN]⟩,fun iw ih=>?_,fun x hx=>?_,?_⟩
  · rw [e0, e1]
    unfold movX movY;rw[t1,t23,t24,t29,t30,movS_1 hs,if_pos rfl,if_pos rfl,if_neg (by decide),if_neg (by decide)];have f1:∀b q z:Int,ofL 1 z b q=cut z:=fun b q z=>by unfold ofL fixedL;simp
    rw[f1,f1,cut_id (by omega) (by omega),cut_id (by omega) (by omega)];omega
  · rw[setG_st hi1,if_neg hx]
  · rw[e0];unfold outB;rw[movS_1 hs];rfl
theorem set_tame (ht:∀x,TameS (stF F x)) (hi:hasF F i=true) (x:Int):TameS (stF (setG F i (movS (stF F i))) x):=by
  rw[setG_st hi]
  split
  · exact movS_tame (ht i)
  · exact ht x
end
theorem MapOf.mov {m m':List (Int×Value)} {l l':List Frm} {id dx dy:Int} (h:MapOf m l) (h':MapOf m' l') (hl:l'.map nkM=(l.map nkM).map (shf id dx dy)) (hx:-1048576≤dx∧dx≤1048576) (hy:-1048576≤dy∧dy≤1048576) (hb:∀f∈l,At 90194313216 f) (y:Int):
    ∃ a1 a2 b1 b2 c e : Int, (lookM m y).getD (.agg #[.int .i64 0, .int .i64 0, .int .i64 0, .int .i64 0]) = .agg #[.int .i64 a1, .int .i64 a2, .int .i64 c, .int .i64 e] ∧ (lookM m' y).getD (.agg #[.int .i64 0, .int .i64 0, .int .i64 0, .int .i64 0]) = .agg #[.int .i64 b1, .int .i64 b2, .int .i64 c, .int .i64 e] ∧
      (lookM m' y).isSome=(lookM m y).isSome∧(-1099511627776≤a1∧a1≤1099511627776)∧(-1099511627776≤a2∧a2≤1099511627776)∧(y=id→(lookM m y).isSome=true→b1=a1+dx∧b2=a2+dy)∧(y=id→(lookM m y).isSome=false→b1=a1∧b2=a2)∧(y≠id→b1=a1∧b2=a2):=by
  by_cases hh:∃f∈l,f.id=y
  · obtain ⟨f, hf, hi⟩ := hh
    have h1:shf id dx dy (nkM f)∈l'.map nkM:=by rw[hl];exact List.mem_map.2 ⟨_,List.mem_map.2 ⟨f,hf,rfl⟩,rfl⟩
    obtain⟨f',hf',he⟩:=List.mem_map.1 h1;have hid':f'.id=y:=by
      have h3:(nkM f').id=(shf id dx dy (nkM f)).id:=congrArg Frm.id he;have h4:f'.id=(nkM f').id:=rfl;rw[h4,h3,←hi];unfold shf
      split<;>rfl
    have a:=h.2.1 f hf;have a':=h'.2.1 f' hf';rw[hi] at a;rw[hid'] at a';have hr:rectV f'=rectV (shf id dx dy (nkM f)):=(show rectV f'=rectV (nkM f') from rfl).trans (congrArg rectV he);rw[a,a',hr];have hbf:=hb f hf;unfold At at hbf;unfold shf nkM rectV
    by_cases e:f.id=id
    · rw [if_pos (show (({ f with kids := [] } : Frm)).id = id from e)]
      refine⟨cut f.x,cut f.y,cut (f.x+dx),cut (f.y+dy),cut f.w,cut f.h,rfl,rfl,rfl,cut_bd _,cut_bd _,fun _ _=>?_,(fun _ q=>by simp at q),fun q=>absurd (hi.symm.trans e) q⟩;unfold cut;omega
    · rw [if_neg (show ¬ (({ f with kids := [] } : Frm)).id = id from e)]
      exact⟨cut f.x,cut f.y,cut f.x,cut f.y,cut f.w,cut f.h,rfl,rfl,rfl,cut_bd _,cut_bd _,fun q _=>absurd (hi.trans q) e,fun q _=>absurd (hi.trans q) e,fun _=>⟨rfl,rfl⟩⟩
  · have hn : ∀ f ∈ l, f.id ≠ y := fun f hf e => hh ⟨f, hf, e⟩
    have hn':∀f∈l',f.id≠y:=fun f hf e=>by
      have h1:nkM f∈(l.map nkM).map (shf id dx dy):=by rw[←hl];exact List.mem_map.2 ⟨f,hf,rfl⟩
      obtain⟨q,hq,he⟩:=List.mem_map.1 h1;obtain⟨f0,hf0,rfl⟩:=List.mem_map.1 hq;refine hn f0 hf0 ?_;have h3:(shf id dx dy (nkM f0)).id=(nkM f).id:=congrArg Frm.id he;have h4:f.id=(nkM f).id:=rfl;rw[←e,h4,←h3];unfold shf
      split<;>rfl
    rw[h.2.2 y hn,h'.2.2 y hn'];exact⟨0,0,0,0,0,0,rfl,rfl,rfl,by omega,by omega,(fun _ q=>by simp at q),fun _ _=>⟨rfl,rfl⟩,fun _=>⟨rfl,rfl⟩⟩
theorem lawMoved_ct (A:Option Addr) (c:Nat) (l:List AC) (id dx dy wd ht:Int):Ct Tryz.prog 3 #[.slice A l.length c,.int .i64 id,.int .i64 dx,.int .i64 dy,.int .i64 wd,.int .i64 ht] [] (fun w=>RdE w A 59 encA l) (X:=Unit) (fun _=>.bool true) (fun _=>True) (fun _=>[]):=by
  refine Ct.intro Tryz.func3 rfl Tryz.ntmps3 (by simp) (fun w0 hz=>?_);refine sqR ?_;refine sg (v:=.bool false) rfl ?_;refine nl (oo ?_);refine sqR ?_;refine WPL.ef (x_call Tryz.call16 fworks_ct [] [] rfl (fun w hw=>trivial) (τ:=fun _=>[]) (fun _=>rfl)) (fun _=>?_);refine WPL.fact (fun _=>?_);refine sgB rfl ?_;refine nl (oo ?_);refine sq ?_;refine sqR ?_;refine mvB rfl ?_;refine vl (v_not rfl) ?_;refine nl (oo ?_);refine WP.condF rfl ?_;refine WP.skip (onto_of ?_);refine sqR ?_;refine mvS rfl ?_;refine WPL.ef (x_call Tryz.call17 (grow3_ct A c l) [] [] rfl (fun w hw=>hw.rd hz noNil) (τ:=fun _=>[_,_]) (fun _=>rfl)) (fun⟨gb,tp,mb,es,rp,g,bc,bs⟩=>?_);refine WPL.fact (fun hgr3=>?_);dsimp only at hgr3;refine mv rfl ?_;refine vl (v_extract (v:=.pointer _) rfl rfl) ?_;refine vl (v_extract (v:=.pointer _) rfl rfl) ?_;refine vl (v_extract (v:=.bool _) rfl rfl) ?_;refine sgP rfl ?_;refine sgP rfl ?_;refine sgB rfl ?_;refine nl (oo ?_);refine sq ?_;refine sqR ?_;refine mvB rfl ?_;refine vl (v_not rfl) ?_;refine mvB rfl ?_;refine WPL.splitB 37 rfl (fun h37=>?_) (fun h37=>?_)
  ·refine sk ?_;refine sk ?_;refine vl (v_pickT (u:=.bool _) rfl rfl) ?_;refine mvB rfl ?_;refine sk ?_;refine sk ?_;refine vl (v_pickT (u:=.bool _) rfl rfl) ?_;refine mvB rfl ?_;refine sk ?_;refine sk ?_;refine vl (v_pickT (u:=.bool _) rfl rfl) ?_;refine mvB rfl ?_;refine sk ?_;refine sk ?_;refine vl (v_pickT (u:=.bool _) rfl rfl) ?_;refine mvB rfl ?_;refine sk ?_;refine sk ?_;refine vl (v_pickT (u:=.bool _) rfl rfl) ?_;refine mvB rfl ?_;refine sk ?_;refine sk ?_;refine vl (v_pickT (u:=.bool _) rfl rfl) ?_;refine mvB rfl ?_;refine sk ?_;refine sk ?_;refine vl (v_pickT (u:=.bool _) rfl rfl) ?_;refine nl (oo ?_);refine WP.condT rfl ?_;refine sqR ?_;refine mvB rfl ?_;refine sgB rfl ?_;refine nl (oo ?_);exact WP.ret1 Tryz.results3 (fun _ h=>h) (fun w hw=>⟨(),rfl,trivial,hw.sel [] (by decide)⟩)
  ·refine vg (v_move (v:=.int .i64 _) rfl) ?_;refine vg (v_gtr rfl rfl) ?_;refine vl (v_pickF (v:=.bool _) rfl rfl) ?_;refine mvB rfl ?_;refine WPL.split 41 rfl (fun h41=>?_) (fun h41=>?_)
   ·refine sk ?_;refine sk ?_;refine vl (v_pickT (u:=.bool _) rfl rfl) ?_;refine mvB rfl ?_;refine sk ?_;refine sk ?_;refine vl (v_pickT (u:=.bool _) rfl rfl) ?_;refine mvB rfl ?_;refine sk ?_;refine sk ?_;refine vl (v_pickT (u:=.bool _) rfl rfl) ?_;refine mvB rfl ?_;refine sk ?_;refine sk ?_;refine vl (v_pickT (u:=.bool _) rfl rfl) ?_;refine mvB rfl ?_;refine sk ?_;refine sk ?_;refine vl (v_pickT (u:=.bool _) rfl rfl) ?_;refine mvB rfl ?_;refine sk ?_;refine sk ?_;refine vl (v_pickT (u:=.bool _) rfl rfl) ?_;refine nl (oo ?_);refine WP.condT rfl ?_;refine sqR ?_;refine mvB rfl ?_;refine sgB rfl ?_;refine nl (oo ?_);exact WP.ret1 Tryz.results3 (fun _ h=>h) (fun w hw=>⟨(),rfl,trivial,hw.sel [] (by decide)⟩)
   ·refine vg (v_move (v:=.int .i64 _) rfl) ?_;refine vg (v_gtr rfl rfl) ?_;refine vl (v_pickF (v:=.bool _) rfl rfl) ?_;refine mvB rfl ?_;refine WPL.split 45 rfl (fun h45=>?_) (fun h45=>?_)
    ·refine sk ?_;refine sk ?_;refine vl (v_pickT (u:=.bool _) rfl rfl) ?_;refine mvB rfl ?_;refine sk ?_;refine sk ?_;refine vl (v_pickT (u:=.bool _) rfl rfl) ?_;refine mvB rfl ?_;refine sk ?_;refine sk ?_;refine vl (v_pickT (u:=.bool _) rfl rfl) ?_;refine mvB rfl ?_;refine sk ?_;refine sk ?_;refine vl (v_pickT (u:=.bool _) rfl rfl) ?_;refine mvB rfl ?_;refine sk ?_;refine sk ?_;refine vl (v_pickT (u:=.bool _) rfl rfl) ?_;refine nl (oo ?_);refine WP.condT rfl ?_;refine sqR ?_;refine mvB rfl ?_;refine sgB rfl ?_;refine nl (oo ?_);exact WP.ret1 Tryz.results3 (fun _ h=>h) (fun w hw=>⟨(),rfl,trivial,hw.sel [] (by decide)⟩)
    ·refine vg (v_move (v:=.int .i64 _) rfl) ?_;refine vg (v_lss rfl rfl) ?_;refine vl (v_pickF (v:=.bool _) rfl rfl) ?_;refine mvB rfl ?_;refine WPL.split 49 rfl (fun h49=>?_) (fun h49=>?_)
     ·refine sk ?_;refine sk ?_;refine vl (v_pickT (u:=.bool _) rfl rfl) ?_;refine mvB rfl ?_;refine sk ?_;refine sk ?_;refine vl (v_pickT (u:=.bool _) rfl rfl) ?_;refine mvB rfl ?_;refine sk ?_;refine sk ?_;refine vl (v_pickT (u:=.bool _) rfl rfl) ?_;refine mvB rfl ?_;refine sk ?_;refine sk ?_;refine vl (v_pickT (u:=.bool _) rfl rfl) ?_;refine nl (oo ?_);refine WP.condT rfl ?_;refine sqR ?_;refine mvB rfl ?_;refine sgB rfl ?_;refine nl (oo ?_);exact WP.ret1 Tryz.results3 (fun _ h=>h) (fun w hw=>⟨(),rfl,trivial,hw.sel [] (by decide)⟩)
     ·refine vg (v_move (v:=.int .i64 _) rfl) ?_;refine vg (v_gtr rfl rfl) ?_;refine vl (v_pickF (v:=.bool _) rfl rfl) ?_;refine mvB rfl ?_;refine WPL.split 53 rfl (fun h53=>?_) (fun h53=>?_)
      ·refine sk ?_;refine sk ?_;refine vl (v_pickT (u:=.bool _) rfl rfl) ?_;refine mvB rfl ?_;refine sk ?_;refine sk ?_;refine vl (v_pickT (u:=.bool _) rfl rfl) ?_;refine mvB rfl ?_;refine sk ?_;refine sk ?_;refine vl (v_pickT (u:=.bool _) rfl rfl) ?_;refine nl (oo ?_);refine WP.condT rfl ?_;refine sqR ?_;refine mvB rfl ?_;refine sgB rfl ?_;refine nl (oo ?_);exact WP.ret1 Tryz.results3 (fun _ h=>h) (fun w hw=>⟨(),rfl,trivial,hw.sel [] (by decide)⟩)
      ·refine vg (v_move (v:=.int .i64 _) rfl) ?_;refine vg (v_lss rfl rfl) ?_;refine vl (v_pickF (v:=.bool _) rfl rfl) ?_;refine mvB rfl ?_;refine WPL.split 57 rfl (fun h57=>?_) (fun h57=>?_)
       ·refine sk ?_;refine sk ?_;refine vl (v_pickT (u:=.bool _) rfl rfl) ?_;refine mvB rfl ?_;refine sk ?_;refine sk ?_;refine vl (v_pickT (u:=.bool _) rfl rfl) ?_;refine nl (oo ?_);refine WP.condT rfl ?_;refine sqR ?_;refine mvB rfl ?_;refine sgB rfl ?_;refine nl (oo ?_);exact WP.ret1 Tryz.results3 (fun _ h=>h) (fun w hw=>⟨(),rfl,trivial,hw.sel [] (by decide)⟩)
       ·refine vg (v_move (v:=.int .i64 _) rfl) ?_;refine vg (v_gtr rfl rfl) ?_;refine vl (v_pickF (v:=.bool _) rfl rfl) ?_;refine mvB rfl ?_;refine WPL.split 61 rfl (fun h61=>?_) (fun h61=>?_)
        ·refine sk ?_;refine sk ?_;refine vl (v_pickT (u:=.bool _) rfl rfl) ?_;refine nl (oo ?_);refine WP.condT rfl ?_;refine sqR ?_;refine mvB rfl ?_;refine sgB rfl ?_;refine nl (oo ?_);exact WP.ret1 Tryz.results3 (fun _ h=>h) (fun w hw=>⟨(),rfl,trivial,hw.sel [] (by decide)⟩)
        ·refine vg (v_move (v:=.int .i64 _) rfl) ?_;refine vg (v_eql rfl rfl) ?_;refine vl (v_pickF (v:=.bool _) rfl rfl) ?_;refine nl (oo ?_);refine WP.condP rfl (fun h64=>?_) (fun h64=>?_)
         ·refine sqR ?_;refine mvB rfl ?_;refine sgB rfl ?_;refine nl (oo ?_);exact WP.ret1 Tryz.results3 (fun _ h=>h) (fun w hw=>⟨(),rfl,trivial,hw.sel [] (by decide)⟩)
         ·obtain⟨hgr0,htl,hdl⟩:=hgr3 (by simpa using h37);have hgr:gb=true→GrOK l es bs:=fun _=>hgr0;obtain⟨hl30,hFo,hk,hab,hkr⟩:=hgr0;obtain⟨d,hF0⟩:=AF_wf l;have hF:WF (FoR es) d:=by rw[hFo];exact hF0
          have hFr:WF (absR bs) d:=by rw[hab];exact hF
          have hgs:∀x,GS (stF (FoR es) x):=by rw[hFo];exact(AF_all l).st
          have hgr2:∀x,GS (stF (absR bs) x):=by rw[hab];exact hgs
          have hlf:=AF_few l;have hK:∀x,(kidsF (FoR es) x).length≤64:=fun x=>Nat.le_trans (kids_few (n:=31) hF (by rw[hFo];omega) x) (by decide);have hKr:∀x,(kidsF (absR bs) x).length≤64:=by rw[hab];exact hK
          have hgt:∀x,TameS (stF (FoR es) x):=by rw[hFo];exact(AF_tame htl).st
          have hdep:∀x,hasF (FoR es) x=true→d x≤6:=deep_d hF (by rw[←hab];exact hdl);have hlen31:lenF (FoR es)≤31:=by rw[hFo];omega
          have hT0:TOk es 31:=⟨hk,⟨d,hF⟩,by rw[hFo];exact AF_all l,by rw[hFo];omega⟩;have hdx:-1048576≤dx∧dx≤1048576:=by omega
          have hdy:-1048576≤dy∧dy≤1048576:=by omega
          refine WP.skip (onto_of ?_);refine sqR ?_;refine mvP rfl ?_;refine mvI rfl ?_;refine WPL.ef (x_call Tryz.call18 (style_ct tp mb es hk id) [0] [1] rfl (fun w hw=>trivial) (τ:=fun _=>[_,_]) (fun _=>rfl)) (fun _=>?_);refine WPL.fact (fun _=>?_);refine WPL.ef (x_alloc (us:=zeroS) (σ':=fun _=>[_,_,_]) Tryz.zeroValue42 rfl (fun _=>rfl)) (fun b17=>?_);refine WPL.ef0 (x_storeW (us:=(stF (FoR es) id)) (σ':=[_,_,_]) Tryz.sizeOf42 rfl rfl (i:=2) rfl (SOk.len (hk.styOk id)) rfl (SOk.one (hk.styOk id)) (SOk.len (hk.styOk id))) (fun _=>?_);refine nl (oo ?_);refine sqR ?_;refine vl (v_fieldL (o':=1) Tryz.underlying42 rfl Tryz.sizeOf29 rfl rfl) ?_;refine WPL.ef0 (x_store (u:=.int .i64 _) (σ':=[_,_,_]) Tryz.sizeOf29 rfl rfl (i:=2) rfl (by simp[(hk.styOk id).len]) rfl) (fun _=>?_);refine nl (oo ?_);refine sq ?_;refine sqR ?_;refine mvP rfl ?_;refine mvI rfl ?_;refine WPL.ef (x_call Tryz.call19 (has_ct tp mb es id) [1] [0,2] rfl (fun w hw=>trivial) (τ:=fun _=>[_,_,_]) (fun _=>rfl)) (fun _=>?_);refine WPL.fact (fun _=>?_);refine vl (v_not rfl) ?_;refine mvB rfl ?_;refine WPL.splitB 74 rfl (fun h74=>?_) (fun h74=>?_)
          ·refine sk ?_;refine sk ?_;refine sk ?_;refine sk ?_;refine sk ?_;refine vl (v_pickT (u:=.bool _) rfl rfl) ?_;refine mvB rfl ?_;refine sk ?_;refine sk ?_;refine sk ?_;refine sk ?_;refine sk ?_;refine vl (v_pickT (u:=.bool _) rfl rfl) ?_;refine mvB rfl ?_;refine sk ?_;refine sk ?_;refine sk ?_;refine sk ?_;refine sk ?_;refine vl (v_pickT (u:=.bool _) rfl rfl) ?_;refine nl (oo ?_);refine WP.condT rfl ?_;refine sqR ?_;refine mvB rfl ?_;refine sgB rfl ?_;refine nl (oo ?_);exact WP.ret1 Tryz.results3 (fun _ h=>h) (fun w hw=>⟨(),rfl,trivial,hw.sel [] (by decide)⟩)
          ·refine vg (v_move (v:=.pointer _) rfl) ?_;refine vg (v_move (v:=.int .i64 _) rfl) ?_;refine WPL.efG (x_call Tryz.call18 (style_ct tp mb es hk id) [2] [0,1] rfl (fun w hw=>trivial) (τ:=fun _=>[_,_,_]) (fun _=>rfl)) (fun _=>?_);refine WPL.fact (fun _=>?_);refine vg (v_part (u:=.int .i64 (val (stF (FoR es) id) 1)) Tryz.underlying42 rfl Tryz.isAgg29 rfl (toArr (SOk.int (hk.styOk id) 1 (by decide) rfl))) ?_;refine vg (v_eql rfl rfl) ?_;refine vl (v_pickF (v:=.bool _) rfl rfl) ?_;refine mvB rfl ?_;refine WPL.split 81 rfl (fun h81=>?_) (fun h81=>?_)
           ·refine sk ?_;refine sk ?_;refine sk ?_;refine sk ?_;refine sk ?_;refine vl (v_pickT (u:=.bool _) rfl rfl) ?_;refine mvB rfl ?_;refine sk ?_;refine sk ?_;refine sk ?_;refine sk ?_;refine sk ?_;refine vl (v_pickT (u:=.bool _) rfl rfl) ?_;refine nl (oo ?_);refine WP.condT rfl ?_;refine sqR ?_;refine mvB rfl ?_;refine sgB rfl ?_;refine nl (oo ?_);exact WP.ret1 Tryz.results3 (fun _ h=>h) (fun w hw=>⟨(),rfl,trivial,hw.sel [] (by decide)⟩)
           ·refine vg (v_move (v:=.pointer _) rfl) ?_;refine vg (v_move (v:=.int .i64 _) rfl) ?_;refine WPL.efG (x_call Tryz.call18 (style_ct tp mb es hk id) [2] [0,1] rfl (fun w hw=>trivial) (τ:=fun _=>[_,_,_]) (fun _=>rfl)) (fun _=>?_);refine WPL.fact (fun _=>?_);refine vg (v_part (u:=.int .i64 (val (stF (FoR es) id) 1)) Tryz.underlying42 rfl Tryz.isAgg29 rfl (toArr (SOk.int (hk.styOk id) 1 (by decide) rfl))) ?_;refine vg (v_eql rfl rfl) ?_;refine vl (v_pickF (v:=.bool _) rfl rfl) ?_;refine mvB rfl ?_;refine WPL.split 88 rfl (fun h88=>?_) (fun h88=>?_)
            ·refine sk ?_;refine sk ?_;refine sk ?_;refine sk ?_;refine sk ?_;refine vl (v_pickT (u:=.bool _) rfl rfl) ?_;refine nl (oo ?_);refine WP.condT rfl ?_;refine sqR ?_;refine mvB rfl ?_;refine sgB rfl ?_;refine nl (oo ?_);exact WP.ret1 Tryz.results3 (fun _ h=>h) (fun w hw=>⟨(),rfl,trivial,hw.sel [] (by decide)⟩)
            ·refine vg (v_move (v:=.pointer _) rfl) ?_;refine vg (v_move (v:=.int .i64 _) rfl) ?_;refine vg (v_loadA (cs:=(movS (stF (FoR es) id))) Tryz.isAgg42 Tryz.sizeOf42 rfl (fun w hw=>hw.cl_at (i:=1) rfl 0 (whole _)) (SOk.len (movS_ok (hk.styOk id)))) ?_;refine WPL.efG (x_call Tryz.call20 (set_ct tp mb es hk id (movS (stF (FoR es) id)) (movS_ok (hk.styOk id))) [2] [0,1] rfl (fun w hw=>trivial) (τ:=fun _=>[_,_,_]) (fun _=>rfl)) (fun es1=>?_);refine WPL.fact (fun hf1=>?_);refine vg (v_neq rfl rfl) ?_;refine vl (v_pickF (v:=.bool _) rfl rfl) ?_;refine nl (oo ?_);refine WP.condP rfl (fun h94=>?_) (fun h94=>?_)
             ·refine sqR ?_;refine mvB rfl ?_;refine sgB rfl ?_;refine nl (oo ?_);exact WP.ret1 Tryz.results3 (fun _ h=>h) (fun w hw=>⟨(),rfl,trivial,hw.sel [] (by decide)⟩)
             ·obtain⟨hid,hval,hset⟩:=setR_is (show (setR validB (FoR es) id (movS (stF (FoR es) id))).2=0 by omega);have hT1:=hT0.set (movS_ok (hk.styOk id)) hf1.1 hf1.2;have hE1:FoR es1=setG (FoR es) id (movS (stF (FoR es) id)):=by rw[hf1.1,hset]
              have hF1:WF (FoR es1) d:=by rw[hE1];exact hF.set id _
              have hg1:=hT1.2.2.1.st;have htm1:∀x,TameS (stF (FoR es1) x):=by rw[hE1];exact set_tame hgt hid
              have hdep1:∀x,hasF (FoR es1) x=true→d x≤6:=fun x hx=>hdep x (by rw[hE1,setG_has] at hx;exact hx);have hlen1:lenF (FoR es1)≤31:=by rw[hE1];unfold lenF;rw[set_order];exact hlen31
              refine WP.skip (onto_of ?_);refine sqR ?_;refine mvP rfl ?_;refine mvI rfl ?_;refine mvI rfl ?_;refine WPL.ef (x_call Tryz.call21 (flowLay_ct tp mb es1 hT1.1 hF1 hg1 (hT1.kids (by decide)) wd ht (by omega) (by omega)) [2] [0,1] rfl (fun w hw=>trivial) (τ:=fun _=>[_,_,_,_]) (fun _=>rfl)) (fun⟨mp,ps⟩=>?_);refine WPL.fact (fun hps=>?_);have hmo:=mapOf hps (all_nodup hF1 hg1 wd ht);have hsm:∀f∈allP (FoR es1) wd ht,At 90194313216 f:=fun f hf=>(all_small hF1 hg1 htm1 hlen1 hdep1 (by omega) (by omega) f hf).1;refine sg (v:=.map _) rfl ?_;refine nl (oo ?_);refine sqR ?_;refine vl (v_fieldL (o':=1) Tryz.underlying42 rfl Tryz.sizeOf29 rfl rfl) ?_;refine WPL.ef0 (x_store (u:=.int .i64 _) (σ':=[_,_,_,_]) Tryz.sizeOf29 rfl rfl (i:=1) rfl (by simp[(hk.styOk id).len]) rfl) (fun _=>?_);refine nl (oo ?_);refine sqR ?_;refine mvI rfl ?_;refine vl (v_struct (us:=[.int .i64 _,.int .i64 _]) (pl:=[(0,1),(1,1)]) Tryz.underlying33 Tryz.zeroValue33 rfl (by kernel_rfl) rfl rfl (by kernel_rfl)) ?_;refine vl (v_fieldL (o':=23) Tryz.underlying42 rfl Tryz.sizeOf34 rfl rfl) ?_;refine vl (v_indexA (j:=3) Tryz.underlying34 Tryz.sizeOf33 rfl rfl rfl (by decide)) ?_;refine WPL.ef0 (x_storeA (us:=[.int .i64 1,.int .i64 dx]) (σ':=[_,_,_,_]) Tryz.sizeOf33 rfl rfl (i:=1) rfl (by simp[(hk.styOk id).len]) rfl (by simp[Value.oneCell'])) (fun _=>?_);rw[show setL ((movS (stF (FoR es) id)).set 1 (.int .i64 1)) 29 [.int .i64 1,.int .i64 dx]=((((movS (stF (FoR es) id)).set 1 (.int .i64 1)).set 29 (.int .i64 1)).set 30 (.int .i64 dx)) from rfl];refine nl (oo ?_);refine sqR ?_;refine mvI rfl ?_;refine vl (v_struct (us:=[.int .i64 _,.int .i64 _]) (pl:=[(0,1),(1,1)]) Tryz.underlying33 Tryz.zeroValue33 rfl (by kernel_rfl) rfl rfl (by kernel_rfl)) ?_;refine vl (v_fieldL (o':=23) Tryz.underlying42 rfl Tryz.sizeOf34 rfl rfl) ?_;refine vl (v_indexA (j:=0) Tryz.underlying34 Tryz.sizeOf33 rfl rfl rfl (by decide)) ?_;refine WPL.ef0 (x_storeA (us:=[.int .i64 1,.int .i64 dy]) (σ':=[_,_,_,_]) Tryz.sizeOf33 rfl rfl (i:=1) rfl (by simp[(hk.styOk id).len]) rfl (by simp[Value.oneCell'])) (fun _=>?_);rw[show setL ((((movS (stF (FoR es) id)).set 1 (.int .i64 1)).set 29 (.int .i64 1)).set 30 (.int .i64 dx)) 23 [.int .i64 1,.int .i64 dy]=(movT (stF (FoR es) id) dx dy) from rfl];refine nl (oo ?_);refine sqR ?_;refine mvP rfl ?_;refine mvI rfl ?_;refine vl (v_loadA (cs:=(movT (stF (FoR es) id) dx dy)) Tryz.isAgg42 Tryz.sizeOf42 rfl (fun w hw=>hw.cl_at (i:=1) rfl 0 (whole _)) (SOk.len (movT_ok (hk.styOk id) dx dy))) ?_;refine WPL.ef (x_call Tryz.call20 (set_ct tp mb es1 hf1.2 id (movT (stF (FoR es) id) dx dy) (movT_ok (hk.styOk id) dx dy)) [2] [0,1,3] rfl (fun w hw=>trivial) (τ:=fun _=>[_,_,_,_]) (fun _=>rfl)) (fun es2=>?_);refine WPL.fact (fun hf2=>?_);have hT2:=hT1.set (movT_ok (hk.styOk id) dx dy) hf2.1 hf2.2;have hMv:Mvd (FoR es1) (FoR es2) id dx dy:=by rw[hf2.1,hE1];exact two_mov hF hid (hk.styOk id) hval dx dy hdx hdy
              obtain⟨d2,hF2⟩:=hT2.2.1;have hg2:=hT2.2.2.1.st;have hall:=hMv.all hF1 hg1 (by omega) wd ht;refine nl (oo ?_);refine sqR ?_;refine mvP rfl ?_;refine mvI rfl ?_;refine mvI rfl ?_;refine WPL.ef (x_call Tryz.call21 (flowLay_ct tp mb es2 hT2.1 hF2 hg2 (hT2.kids (by decide)) wd ht (by omega) (by omega)) [3] [0,1,2] rfl (fun w hw=>trivial) (τ:=fun _=>[_,_,_,_,_]) (fun _=>rfl)) (fun⟨mp2,ps2⟩=>?_);refine WPL.fact (fun hps2=>?_);have hmo2:=mapOf hps2 (all_nodup hF2 hg2 wd ht);refine sg (v:=.map _) rfl ?_;refine nl (oo ?_);refine sqR ?_;refine mvP rfl ?_;refine WPL.ef (x_call Tryz.call22 (order_ct tp mb es2 hT2.1 hF2) [3] [0,1,2,4] rfl (fun w hw=>trivial) (τ:=fun _=>[_,_,_,_,_,_]) (fun _=>rfl)) (fun⟨A6,c6⟩=>?_);refine WPL.fact (fun _=>?_);have hol:(order (FoR es2)).length≤4096:=hF2.len_le 0;refine sgS rfl ?_;refine nl (oo ?_);refine sq ?_;refine sqR ?_;refine sg (v:=.int .i64 (0)) rfl ?_;refine nl (oo ?_);refine WP.block ?_;refine WP.loopK (X:=Nat) [1,2,3,13,18,19,20] (fun k=>[(21,.int .i64 (k:Int))]) (fun k w=>k≤(order (FoR es2)).length∧St w0 (foots []) [treeI tp mb es2,mapI mp (putAll ps),mapI mp2 (putAll ps2),kidsI A6 (order (FoR es2)).length c6 (order (FoR es2))] w) (fun k=>(order (FoR es2)).length - k) 0 ⟨rfl,trivial⟩ (fun w hw=>⟨Nat.zero_le _,(hw.sel [4,2,3,5] (by decide))⟩) (fun k ρ0=>?_);refine WP.fact (fun hkn=>?_);refine sq ?_;refine sqR ?_;refine mvI rfl ?_;refine mvS rfl ?_;refine vl (v_len Tryz.underlying49 rfl) ?_;refine vl (v_lss rfl rfl) ?_;refine nl (oo ?_);refine WP.condP rfl (fun h122=>?_) (fun h122=>?_)
              ·obtain⟨y,hy⟩:∃y,(order (FoR es2))[k]?=some y:=⟨_,List.getElem?_eq_getElem (by omega)⟩;obtain⟨ra1,ra2,rb1,rb2,rc,re,hla,hlb,hli,hq1,hq2,hm1,hm2,hm3⟩:=MapOf.mov hmo hmo2 hall hdx hdy hsm y;refine WP.holds (fun w hw=>hw.row_pos (i:=3) rfl (by omega)) (fun⟨rb,hA⟩=>?_);subst hA;refine WP.skip (onto_of ?_);refine sq ?_;refine WP.block ?_;refine sqR ?_;refine mv (v:=.map _) rfl ?_;refine mvS rfl ?_;refine mvI rfl ?_;refine vl (v_index (j:=k) Tryz.underlying49 Tryz.sizeOf3 rfl rfl rfl (by omega)) ?_;refine vl (v_load1 (u:=.int .i64 _) Tryz.isAgg3 rfl (fun w hw=>hw.row_at1 (i:=3) rfl (by rw[List.getElem?_map,hy];rfl) (by omega))) ?_;refine vl (v_of (v_lookupOk (m:=putAll ps) (k:=y) (z:=.agg #[.int .i64 0,.int .i64 0,.int .i64 0,.int .i64 0]) Tryz.underlying47 Tryz.underlying3 Tryz.zeroValue52 rfl rfl (fun w hw=>hw.mapAt (i:=1) rfl)) (v':=.tuple #[.agg #[.int .i64 ra1,.int .i64 ra2,.int .i64 rc,.int .i64 re],.bool (lookM (putAll ps) y).isSome]) (by rw[hla])) ?_;refine mv rfl ?_;refine vl (v_extract (v:=.agg _) rfl rfl) ?_;refine vl (v_extract (v:=.bool _) rfl rfl) ?_;refine WPL.ef (x_alloc (us:=[_,_,_,_]) (σ':=fun _=>[_,_,_,_,_]) Tryz.zeroValue52 rfl (fun _=>rfl)) (fun b22=>?_);refine WPL.ef0 (x_storeW (us:=[.int .i64 _,.int .i64 _,.int .i64 _,.int .i64 _]) (σ':=[_,_,_,_,.cl _ _ [_,_,_,_]]) Tryz.sizeOf52 rfl rfl (i:=4) rfl rfl rfl (by simp[Value.oneCell'])) (fun _=>?_);refine sgB rfl ?_;refine nl (oo ?_);refine sqR ?_;refine mv (v:=.map _) rfl ?_;refine mvS rfl ?_;refine mvI rfl ?_;refine vl (v_index (j:=k) Tryz.underlying49 Tryz.sizeOf3 rfl rfl rfl (by omega)) ?_;refine vl (v_load1 (u:=.int .i64 _) Tryz.isAgg3 rfl (fun w hw=>hw.row_at1 (i:=3) rfl (by rw[List.getElem?_map,hy];rfl) (by omega))) ?_;refine vl (v_of (v_lookupOk (m:=putAll ps2) (k:=y) (z:=.agg #[.int .i64 0,.int .i64 0,.int .i64 0,.int .i64 0]) Tryz.underlying47 Tryz.underlying3 Tryz.zeroValue52 rfl rfl (fun w hw=>hw.mapAt (i:=2) rfl)) (v':=.tuple #[.agg #[.int .i64 rb1,.int .i64 rb2,.int .i64 rc,.int .i64 re],.bool (lookM (putAll ps) y).isSome]) (by rw[hlb,hli])) ?_;refine mv rfl ?_;refine vl (v_extract (v:=.agg _) rfl rfl) ?_;refine vl (v_extract (v:=.bool _) rfl rfl) ?_;refine WPL.ef (x_alloc (us:=[_,_,_,_]) (σ':=fun _=>[_,_,_,_,_,_]) Tryz.zeroValue52 rfl (fun _=>rfl)) (fun b24=>?_);refine WPL.ef0 (x_storeW (us:=[.int .i64 _,.int .i64 _,.int .i64 _,.int .i64 _]) (σ':=[_,_,_,_,_,.cl _ _ [_,_,_,_]]) Tryz.sizeOf52 rfl rfl (i:=5) rfl rfl rfl (by simp[Value.oneCell'])) (fun _=>?_);refine sgB rfl ?_;refine nl (oo ?_);refine sq ?_;refine sqR ?_;refine mvS rfl ?_;refine mvI rfl ?_;refine vl (v_index (j:=k) Tryz.underlying49 Tryz.sizeOf3 rfl rfl rfl (by omega)) ?_;refine vl (v_load1 (u:=.int .i64 _) Tryz.isAgg3 rfl (fun w hw=>hw.row_at1 (i:=3) rfl (by rw[List.getElem?_map,hy];rfl) (by omega))) ?_;refine mvI rfl ?_;refine vl (v_eql rfl rfl) ?_;refine mvB rfl ?_;refine WPL.split 149 rfl (fun h149=>?_) (fun h149=>?_)
               case' _=>
                refine vg (v_move (v:=.bool _) rfl) ?_;refine vl (v_pickT (u:=.bool _) rfl rfl) ?_;refine nl (oo ?_);refine WP.cond rfl (fun h151=>?_) (fun h151=>?_)
                case' _=>
                 obtain⟨rfl,rfl⟩:=hm1 (by omega) (by simpa using h151);refine sqR ?_;refine vl (v_fieldL (o':=0) Tryz.underlying52 rfl Tryz.sizeOf3 rfl rfl) ?_;refine vl (v_load1 (u:=.int .i64 _) Tryz.isAgg3 rfl (fun w hw=>hw.cl_at (i:=4) rfl _ rfl)) ?_;refine mvI rfl ?_;refine vl (v_add rfl rfl (by omega)) ?_;refine vl (v_fieldL (o':=0) Tryz.underlying52 rfl Tryz.sizeOf3 rfl rfl) ?_;refine WPL.ef0 (x_store (u:=.int .i64 _) (σ':=[_,_,_,_,.cl _ _ [_,_,_,_],_]) Tryz.sizeOf3 rfl rfl (i:=4) rfl (Nat.lt_of_lt_of_le (Nat.lt_succ_self _) (Nat.le_of_ble_eq_true rfl)) rfl) (fun _=>?_);refine nl (oo ?_);refine WP.region ?_;refine vl (v_fieldL (o':=1) Tryz.underlying52 rfl Tryz.sizeOf3 rfl rfl) ?_;refine vl (v_load1 (u:=.int .i64 _) Tryz.isAgg3 rfl (fun w hw=>hw.cl_at (i:=4) rfl _ rfl)) ?_;refine mvI rfl ?_;refine vl (v_add rfl rfl (by omega)) ?_;refine vl (v_fieldL (o':=1) Tryz.underlying52 rfl Tryz.sizeOf3 rfl rfl) ?_;refine WPL.ef0 (x_store (u:=.int .i64 _) (σ':=[_,_,_,_,.cl _ _ [_,_,_,_],_]) Tryz.sizeOf3 rfl rfl (i:=4) rfl (Nat.lt_of_lt_of_le (Nat.lt_succ_self _) (Nat.le_of_ble_eq_true rfl)) rfl) (fun _=>?_);refine nl (oo ?_)
                rotate_left
                case' _=>
                 obtain⟨rfl,rfl⟩:=hm2 (by omega) (by simpa using h151);refine WP.skip (onto_of ?_)
               rotate_left 2
               case' _=>
                refine sk ?_;refine vl (v_pickF (v:=.bool _) rfl rfl) ?_;refine nl (oo ?_);obtain⟨rfl,rfl⟩:=hm3 (by omega);refine WP.condF rfl ?_;refine WP.skip (onto_of ?_)
               all_goals
                refine sqR ?_;refine mvB rfl ?_;refine mvB rfl ?_;refine vl (v_is (b:=false) (v_neB Tryz.underlying4 rfl rfl) (by simp)) ?_;refine mvB rfl ?_;refine vg (v_loadA (cs:=[.int .i64 _,.int .i64 _,.int .i64 _,.int .i64 _]) Tryz.isAgg52 Tryz.sizeOf52 rfl (fun w hw=>hw.cl_at (i:=4) rfl _ rfl)) ?_;refine vg (v_loadA (cs:=[.int .i64 _,.int .i64 _,.int .i64 _,.int .i64 _]) Tryz.isAgg52 Tryz.sizeOf52 rfl (fun w hw=>hw.cl_at (i:=5) rfl _ rfl)) ?_;refine vg (v_is (b:=false) (v_neA leaf52 (by kernel_rfl) (fun _=>rfl) rfl rfl rfl rfl) (by rw[eqv_self];rfl)) ?_;refine vl (v_pickF (v:=.bool _) rfl rfl) ?_;refine nl (oo ?_);refine WP.condF rfl ?_;refine WP.skip (onto_of ?_);refine WP.region ?_;refine mvI rfl ?_;refine vl (v_add rfl rfl (by omega)) ?_;refine sgI rfl ?_;exact nl fun w hw=>⟨rfl,k+1,(by omega),⟨rfl,(via (.int .i64 _) rfl rfl),(via (.int .i64 _) rfl rfl),(via (.int .i64 _) rfl rfl),(via (.bool _) rfl rfl),(via (.map _) rfl rfl),(via (.map _) rfl rfl),(via (.slice _ _ _) rfl rfl),trivial⟩,⟨by omega,(hw.sel [0,1,2,3] (by decide))⟩⟩
              ·refine WP.exit (onto_of ?_);refine sqR ?_;refine mvB rfl ?_;refine sgB rfl ?_;refine nl (oo ?_);exact WP.ret1 Tryz.results3 (fun _ h=>h) (fun w hw=>⟨(),rfl,trivial,hw.sel [] (by decide)⟩)
end Go.Proofs.YtbedndijejpcaaaGreat
namespace Go.Proofs.YtbedndijejpcaaaGreat
open Go.ChangeShapes Go.WideShapes Go.ChangeAt Go.RowKit Go.Deep
theorem flowMoved_lifted (os:Os) (started:os.Started) (H:Type) (enc:TypeId×Value→H):
    ReturnsInHanded {} Tryz.checked os 3 .any (Rows.flowMovedSpec.pre6 enc Tryz.prog Tryz.f3 Rows.flowMovedRow.domain false) (Rows.flowMovedSpec.post enc Tryz.prog Tryz.f3 false true false false):=by
  refine returnsInHanded_of_change (C:=Tryz.checked) own started (by kernel_rfl) Tryz.func3
    (ChangeSpec.witness6 (enc:=enc) (C:=Tryz.checked) false ⟨#[],#[.slice none 0 0,.int .i64 0,.int .i64 0,.int .i64 0,.int .i64 0,.int .i64 0],[]⟩ 8 (by kernel_rfl) (by kernel_rfl) (by kernel_rfl) (by kernel_rfl)) ?_
  intro W base args ds gs before hval0 hW _ _;have hval:∀(j:Nat) t v,Tryz.f3.params[j]?=some t→args[j]?=some v→Value.okWide Tryz.prog W .any base t v:=hval0;have hW':=hW;obtain⟨p,q,hA0,hV,rfl,hfz,hnd⟩:=hW;have hA:DataW.TrodAll enc Tryz.prog W 0 (fun _=>true) true Tryz.f3.params.toList args.toList ds p:=hA0;rw[Tryz.params3] at hA hval;obtain⟨v0,vs0,d0,ds0,p0,q0,hargs,rfl,rfl,h0,r0⟩:=trodAll_cons hA;obtain⟨v1,vs1,d1,ds1,p1,q1,rfl,rfl,rfl,h1,r1⟩:=trodAll_cons r0;obtain⟨v2,vs2,d2,ds2,p2,q2,rfl,rfl,rfl,h2,r2⟩:=trodAll_cons r1;obtain⟨v3,vs3,d3,ds3,p3,q3,rfl,rfl,rfl,h3,r3⟩:=trodAll_cons r2;obtain⟨v4,vs4,d4,ds4,p4,q4,rfl,rfl,rfl,h4,r4⟩:=trodAll_cons r3;obtain⟨v5,vs5,d5,ds5,p5,q5,rfl,rfl,rfl,h5,r5⟩:=trodAll_cons r4;obtain⟨rfl,rfl,rfl⟩:=trodAll_nil r5;obtain⟨args⟩:=args;obtain rfl:args=_:=hargs;obtain⟨A,l,c,rfl,hrd⟩:=open_acts (hval 0 22 v0 rfl rfl) h0;obtain⟨id,rfl,-,-,-⟩:=open_int Tryz.underlying3 (hval 1 3 v1 rfl rfl) h1;obtain⟨dx,rfl,-,-,-⟩:=open_int Tryz.underlying3 (hval 2 3 v2 rfl rfl) h2;obtain⟨dy,rfl,-,-,-⟩:=open_int Tryz.underlying3 (hval 3 3 v3 rfl rfl) h3;obtain⟨wd,rfl,-,-,-⟩:=open_int Tryz.underlying3 (hval 4 3 v4 rfl rfl) h4;obtain⟨ht,rfl,-,-,-⟩:=open_int Tryz.underlying3 (hval 5 3 v5 rfl rfl) h5;refine(Ct.lawF (lawMoved_ct A c l id dx dy wd ht) hrd).mono fun e W' ⟨he,hb⟩=>?_;subst he;exact⟨_,rfl,law_post laidOut hW' rfl (by kernel_rfl) rfl Tryz.underlying4 (fun _=>rfl) hb⟩
theorem flowMoved_ja:mapsRowed Tryz.pinned.checked.prog=true:=by kernel_rfl
theorem flowMoved_jb:(Rows.flowMovedRow.inPlace==Tryz.pinned.checked.prog.inPlace 3)=true:=by kernel_rfl
theorem flowMoved_jc:(Rows.flowMovedRow.unfollowed==Tryz.pinned.checked.prog.unfollowed 3)=true:=by kernel_rfl
theorem flowMoved_jd:(Rows.flowMovedRow.recurses==Tryz.pinned.checked.prog.recurses 3)=true:=by kernel_rfl
theorem flowMoved_je:(Rows.flowMovedRow.named==Tryz.pinned.checked.prog.varsNamed 3)=true:=by kernel_rfl
theorem flowMoved_jl:laidOutB Tryz.pinned.checked.prog=true:=laidOut
theorem flowMoved_said:Rows.FlowMovedSaid:=
  OpenClaim.holds_of_wide 3 Tryz.f3 rfl rfl rfl rfl rfl rfl rfl ⟨rfl,rfl,rfl,rfl,rfl⟩ rfl rfl rfl rfl rfl (by kernel_rfl) Tryz.func3 (by unfold joinedFacts;rw[flowMoved_jl,flowMoved_ja,flowMoved_jb,flowMoved_jc,flowMoved_jd,flowMoved_je];kernel_rfl)
    (of_decide_eq_true (by kernel_rfl)) (by unfold Func.isWrapper;rw[if_neg (by decide+kernel)];exact⟨rfl,rfl⟩)
    (fun os started H enc _=>flowMoved_lifted os started H enc)
end Go.Proofs.YtbedndijejpcaaaGreat
