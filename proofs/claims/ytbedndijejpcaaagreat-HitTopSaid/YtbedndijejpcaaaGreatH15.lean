/- FlowBd FlowA FlowB FlowC FlowD -/
import Derived.Test.YtbedndijejpcaaaGreatH14
set_option linter.unusedVariables false
set_option linter.unusedSimpArgs false
set_option linter.unusedSectionVars false
set_option maxRecDepth 100000
set_option maxHeartbeats 8000000
namespace Go.Proofs.YtbedndijejpcaaaGreat
open Go.RowKit
theorem CN {f:Nat→Int} {B:Int} (hB:0≤B):∀(n:Nat),(∀i,i<n→f i≤B)→0≤s8 f n∧s8 f n≤B
  | 0,_=>by simp only[s8];omega
  | n + 1, h => by
    have h1:=CN hB n fun i hi=>h i (by omega);have h2:=h n (by omega);simp only[s8];omega
theorem Kg {l:List bt} {room:Int} {i:Nat} {s:Int} (hs:(sizes l room)[i]?=some s):0≤s∧s≤1048576:=by
  unfold sizes at hs;rw[List.getElem?_map] at hs;cases he:(final (dX l room) (qm room) (l.map (start (dX l room))))[i]? with
  | none=>rw[he] at hs;cases hs
  | some e =>
    rw[he] at hs;obtain rfl:e.size=s:=by simpa using hs
    have h:=tZ (g:=dX l room) (room:=qm room) (fy (l.map (start (dX l room))) (l.map (start (dX l room))).length) (vD _ l) i e he;unfold FE.ok at h;omega
theorem Gq {l:List bt} {room:Int} (i:Nat):0≤gI (sizes l room) i∧gI (sizes l room) i≤1048576:=by
  unfold gI;rw[List.getD_eq_getElem?_getD];cases h:(sizes l room)[i]? with
  | none=>simp
  | some s=>exact Kg h
theorem lr (kind size room:Int):-1099511627776≤dv kind size room∧dv kind size room≤1099511627776:=by
  unfold dv
  split
  · exact Db _ _
  · split
    · exact na _ _
    · omega
theorem xG {f:Nat→Int} {B:Int}:∀(n:Nat),(∀i,i<n→-B≤f i∧f i≤B)→-(n*B)≤sumN f n∧sumN f n≤n*B
  | 0,_=>by simp[sumN]
  | n + 1, h => by
    have h1:=xG n fun i hi=>h i (by omega);have h2:=h n (by omega);rw[sumN,show ((n+1:Nat):Int)*B=n*B+B by rw[Int.natCast_add,Int.add_mul];simp];omega
section
variable {l:List Int} {room gap:Int} {wrap:Bool}
theorem CW:∀i,(brkS l room gap wrap i).1.length≤(brkS l room gap wrap i).2.1∧(brkS l room gap wrap i).2.1≤i
  | 0=>by simp[brkS]
  | i + 1 => by
    have h:=CW i;rw[brkS]
    split
    · simp only;omega
    · split
      · simp only;omega
      · simp only[List.length_append,List.length_singleton];omega
theorem ox:(bL l room gap wrap).length≤l.length:=by
  have h:=CW (l:=l) (room:=room) (gap:=gap) (wrap:=wrap) l.length;unfold bL
  split
  · rw[List.length_append,List.length_singleton];omega
  · omega
end
def FB (X:Int) (f:ew):Prop:=(-X≤f.x∧f.x≤X)∧-X≤f.y∧f.y≤X
section
variable {F:ar (List Value)} (hg:∀x,GS (ah F x)) {L:er} {ks:List Int} (hL:∀k∈ks,LB L k) {iw ih:Int} {c:List Value}
include hg hL
section
variable {a b:Nat} (hb:b≤ks.length)
include hb
theorem Bk {i:Nat} (hi:i<b - a):(0≤(lB F L ks iw ih c a b i).w∧(lB F L ks iw ih c a b i).w≤1099515822080)∧0≤(lB F L ks iw ih c a b i).h∧(lB F L ks iw ih c a b i).h≤1099515822080:=by
  have h1:=hL (gI ks (a+i)) (eo (by omega)) iw ih (gI (eY F ks iw c a b) i+eA (kS F ks (a+i))) (-1);have h2:0≤eA (kS F ks (a+i))∧eA (kS F ks (a+i))≤4194304:=(hg (gI ks (a+i))).j6;have h3:0≤gI (eY F ks iw c a b) i∧gI (eY F ks iw c a b) i≤1048576:=Gq i;unfold lB;omega
theorem Gi (one:Bool) {B:Int} (hih:ih≤B) (hB:B≤2251799813685248) (hi:-1≤ih):0≤lH F L ks iw ih c a b one∧lH F L ks iw ih c a b one≤2251799813685248:=by
  have h1:=CN (f:=fun i=>(lB F L ks iw ih c a b i).h+mD (kS F ks (a+i))) (B:=4398046511104) (by decide) (b - a) fun i hi=>by
    have h2:=Bk hg hL (iw:=iw) (ih:=ih) (c:=c) hb hi;have h3:=pn (kS F ks (a+i));omega
  unfold lH Dr
  split
  · omega
  · omega
theorem Rj {hh:Int} (hh1:0≤hh∧hh≤2251799813685248) {j:Nat} (hj:j<b - a):((lT F L ks iw ih c a b hh j).x=0∧(lT F L ks iw ih c a b hh j).y=0)∧0≤(lT F L ks iw ih c a b hh j).h∧(lT F L ks iw ih c a b hh j).h≤2251799813685248:=by
  unfold lT
  split
  · have h1 := hL (gI ks (a + j)) (eo (by omega)) iw ih (lB F L ks iw ih c a b j).w (tC (kS F ks (a + j)) (max (hh - (eD (kS F ks (a + j)) + mD (kS F ks (a + j)))) 0) ih + eD (kS F ks (a + j)))
    have h2:0≤eD (kS F ks (a+j))∧eD (kS F ks (a+j))≤4194304:=(hg (gI ks (a+j))).nQ;have h3:=rM (kS F ks (a+j)) (max (hh - (eD (kS F ks (a+j))+mD (kS F ks (a+j)))) 0) ih;exact⟨⟨h1.2.1,h1.2.2.1⟩,h1.2.2.2.2.1,by omega⟩
  · have h1 := hL (gI ks (a + j)) (eo (by omega)) iw ih (gI (eY F ks iw c a b) j + eA (kS F ks (a + j))) (-1)
    have h2:=Bk hg hL (iw:=iw) (ih:=ih) (c:=c) hb hj;exact⟨⟨h1.2.1,h1.2.2.1⟩,h2.2.1,by omega⟩
omit hg hL hb in
theorem Jw (hh:Int) (j:Nat):FB 2199023255552 (E2 F L ks iw ih c a b hh j):=by
  have h0:=jd (kS F ks (a+j)) iw 0;have h3:=jd (kS F ks (a+j)) iw 3;have hx:-1099511627776≤jz F L ks iw ih c a b j∧jz F L ks iw ih c a b j≤1099511627776:=lK _ _;have hy:=lr (val c 44) ((lT F L ks iw ih c a b hh j).h+mD (kS F ks (a+j))) hh;unfold FB E2;simp only;omega
omit hg hL hb in
theorem yl (one:Bool):∀f∈kG F L ks iw ih c a b one,FB 2199023255552 f:=fun f hf=>by
  obtain⟨i,_,rfl⟩:=mX.1 hf;exact Jw _ _
end
theorem xb {ls:List (Nat×Nat)} (hls:∀p∈ls,p.2≤ks.length) {B:Int} (hih:ih≤B) (hB:B≤2251799813685248) (hi:-1≤ih) (hc:0≤val c 46∧val c 46≤1048576):∀n,n≤ls.length→(0≤(du F L ks iw ih c ls n).2∧(du F L ks iw ih c ls n).2≤n*2251799814733824)∧∀f∈(du F L ks iw ih c ls n).1,FB (2199023255552+n*2251799814733824) f
  | 0,_=>⟨by simp[du],fun f hf=>by simp[du] at hf⟩
  | n + 1, hn => by
    obtain⟨h1,h2⟩:=xb hls hih hB hi hc n (by omega);have hp:(ls.getD n (0,0)).2≤ks.length:=by
      rw[List.getD_eq_getElem?_getD,List.getElem?_eq_getElem (by omega)];exact hls _ (List.getElem_mem _)
    have h3:=Gi hg hL (iw:=iw) (c:=c) (a:=(ls.getD n (0,0)).1) hp (decide (ls.length=1)) hih hB hi;have e:((n+1:Nat):Int)*2251799814733824=n*2251799814733824+2251799814733824:=by omega
    rw[e];refine⟨?_,fun f hf=>?_⟩
    · simp only [du]
      split<;>omega
    · simp only [du] at hf
      rcases List.mem_append.1 hf with hf | hf
      · have := h2 f hf
        unfold FB at this ⊢;omega
      · obtain ⟨f0, hf0, rfl⟩ := List.mem_map.1 hf
        have:=yl _ f0 hf0;unfold FB at this ⊢;simp only[ss]
        split<;>omega
omit hg hL in
theorem sZ {ls:List (Nat×Nat)} (hls:∀p∈ls,p.2≤p.1+64):∀n,n≤ls.length→(du F L ks iw ih c ls n).1.length≤64*n
  | 0,_=>by simp[du]
  | n + 1, hn => by
    have h1:=sZ hls n (by omega);have hp:(ls.getD n (0,0)).2≤(ls.getD n (0,0)).1+64:=by
      rw[List.getD_eq_getElem?_getD,List.getElem?_eq_getElem (by omega)];exact hls _ (List.getElem_mem _)
    simp only[du,List.length_append,List.length_map,kG,bH];omega
end
abbrev q4 (a b c d:Int):Value:=.agg #[.int .i64 a,.int .i64 b,.int .i64 c,.int .i64 d]
abbrev q2 (a b:Int):Value:=.agg #[.int .i64 a,.int .i64 b]
abbrev e4 (s:List Value):Value:=q4 (eS s 0) (eS s 1) (eS s 2) (eS s 3)
abbrev m4 (s:List Value) (b:Int):Value:=q4 (mS s b 0) (mS s b 1) (mS s b 2) (mS s b 3)
theorem nt:Ct Tryz.prog 179 #[.int .i64 0] [] (fun _=>True) (X:=Unit) (fun _=>.tuple #[.int .i64 3,.int .i64 1]) (fun _=>True) (fun _=>[]):=by
  refine Ci fun w0 _=>?_;refine gg ?_;refine WP.aQ rfl ?_;refine gg ?_;exact rF fun w hw=>⟨(),rfl,trivial,hw.pk⟩
theorem dR (a b c d:Int) (h:-4611686018427387904≤d+b∧d+b≤4611686018427387904):Ct Tryz.prog 171 #[q4 (a) (b) (c) (d),.int .i64 0] [] (fun _=>True) (X:=Unit) (fun _=>.int .i64 (d+b)) (fun _=>True) (fun _=>[]):=by
  refine Ci fun w0 _=>?_;refine gg ?_;refine aj.ef xB fun b2=>?_;refine gg ?_;refine eF (xC nt) fun _ _=>?_;refine mv rfl ?_;refine gg ?_;refine WP.fj none [(0,true),(1,true),(2,true),(3,true),(4,true),(5,true),(6,true),(7,true)] mixed (by kernel_rfl) (by decide) (fun _ h=>h.drawn) ?_;refine gg ?_;exact aT fun w hw=>⟨(),rfl,trivial,hw.pk⟩
theorem mV:Ct Tryz.prog 179 #[.int .i64 1] [] (fun _=>True) (X:=Unit) (fun _=>.tuple #[.int .i64 0,.int .i64 2]) (fun _=>True) (fun _=>[]):=by
  refine Ci fun w0 _=>?_;refine gg ?_;refine WP.br rfl ?_;refine gg ?_;exact rF fun w hw=>⟨(),rfl,trivial,hw.pk⟩
theorem dN (a b c d:Int) (h:-4611686018427387904≤a+c∧a+c≤4611686018427387904):Ct Tryz.prog 171 #[q4 (a) (b) (c) (d),.int .i64 1] [] (fun _=>True) (X:=Unit) (fun _=>.int .i64 (a+c)) (fun _=>True) (fun _=>[]):=by
  refine Ci fun w0 _=>?_;refine gg ?_;refine aj.ef xB fun b2=>?_;refine gg ?_;refine eF (xC mV) fun _ _=>?_;refine mv rfl ?_;refine gg ?_;refine WP.fj none [(0,true),(1,true),(2,true),(3,true),(4,true),(5,true),(6,true),(7,true)] mixed (by kernel_rfl) (by decide) (fun _ h=>h.drawn) ?_;refine gg ?_;exact aT fun w hw=>⟨(),rfl,trivial,hw.pk⟩
theorem tj (a b c d:Int) (h1:-4611686018427387904≤d+b∧d+b≤4611686018427387904) (h2:-4611686018427387904≤a+c∧a+c≤4611686018427387904):Ct Tryz.prog 152 #[q4 (a) (b) (c) (d)] [] (fun _=>True) (X:=Unit) (fun _=>q2 (d+b) (a+c)) (fun _=>True) (fun _=>[]):=by
  refine Ci fun w0 _=>?_;refine gg ?_;refine aj.ef xB fun b1=>?_;refine aj.ef cg fun b2=>?_;refine gg ?_;refine wP (some 5) [0,1] [pT 0,pT 2,pF 1,pF 3,pT 4,pF 5] ?_;refine gg ?_;refine dG (xC (dR a b c d h1)) fun _ _=>?_;refine dG (xC (dN a b c d h2)) fun _ _=>?_;refine tE rfl (cB (us:=[.int .i64 _,.int .i64 _]) Tryz.underlying109 Tryz.zeroValue109 Tryz.sizeOf3 rfl rfl rfl) ?_;refine uz (xW rfl) fun _=>?_;refine gg ?_;exact jf rfl fun w hw=>⟨(),rfl,trivial,hw.pk⟩
theorem dn (a b c d:Int):Ct Tryz.prog 149 #[q4 (a) (b) (c) (d)] [] (fun _=>True) (X:=Unit) (fun _=>q2 d a) (fun _=>True) (fun _=>[]):=by
  refine Ci fun w0 _=>?_;refine gg ?_;refine aj.ef xB fun b1=>?_;refine aj.ef cg fun b2=>?_;refine iX ?_;refine vl (cB (us:=[.int .i64 _,.int .i64 _]) Tryz.underlying109 Tryz.zeroValue109 Tryz.sizeOf3 rfl rfl rfl) ?_;refine aj.aX (xW rfl) fun _=>?_;refine gg ?_;exact jf rfl fun w hw=>⟨(),rfl,trivial,hw.pk⟩
theorem ep (a b c d:Int) (h1:-4611686018427387904≤a+c∧a+c≤4611686018427387904) (h2:-4611686018427387904≤b+d∧b+d≤4611686018427387904):Ct Tryz.prog 148 #[q2 a b,q2 c d] [] (fun _=>True) (X:=Unit) (fun _=>q2 (a+c) (b+d)) (fun _=>True) (fun _=>[]):=by
  refine Ci fun w0 _=>?_;refine gg ?_;refine aj.ef xB fun b2=>?_;refine aj.ef xB fun b3=>?_;refine aj.ef cg fun b4=>?_;refine uE ?_;refine vl (cB (us:=[.int .i64 _,.int .i64 _]) Tryz.underlying109 Tryz.zeroValue109 Tryz.sizeOf3 rfl rfl rfl) ?_;refine aj.aX (xW rfl) fun _=>?_;refine gg ?_;exact jf rfl fun w hw=>⟨(),rfl,trivial,hw.pk⟩
theorem xO (s:List Value) (hs:bZ s):Ct Tryz.prog 133 #[.agg s.toArray] [] (fun _=>True) (X:=Unit) (fun _=>.bool (xj s)) (fun _=>True) (fun _=>[]):=by
  refine Ci fun w0 _=>?_;refine gg ?_;refine aj.ef (xB (us:=s)) fun b1=>?_;refine gg ?_;refine vl (vS hs 1) ?_;refine bW ?_;refine aj.split 6 rfl (fun h6=>?_) (fun h6=>?_)
  ·refine gg ?_;exact aT fun w hw=>⟨(),congrArg Value.bool (by unfold xj;simp_all),trivial,hw.pk⟩
  ·refine ag ?_;refine vg (vS hs 1) ?_;refine gg ?_;exact aT fun w hw=>⟨(),congrArg Value.bool (by unfold xj;simp_all),trivial,hw.pk⟩
theorem dg (s:List Value) (hs:bZ s) (hb:∀i,i<4→-4611686018427387904≤val s (31+i)+val s (35+i)∧val s (31+i)+val s (35+i)≤4611686018427387904):Ct Tryz.prog 40 #[.agg s.toArray] [] (fun _=>True) (X:=Unit) (fun _=>e4 s) (fun _=>True) (fun _=>[]):=by
  refine Ci fun w0 _=>?_;have e0:=hb 0 (by decide);have e1:=hb 1 (by decide);have e2:=hb 2 (by decide);have e3:=hb 3 (by decide);dsimp only[Nat.reduceAdd] at e0 e1 e2 e3;refine gg ?_;refine aj.ef (xB (us:=s)) fun b1=>?_;refine aj.ef cg fun b2=>?_;refine gg ?_;refine vl (IX hs 31 32 33 34) ?_;refine aj.ef cg fun b3=>?_;refine aj.aX (xW rfl) fun _=>?_;refine gg ?_;refine vl (IX hs 35 36 37 38) ?_;refine gg ?_;refine WP.jH 5 ?_;refine fS.succ ?_;refine gg ?_;refine WP.aQ rfl ?_;refine cR ?_;refine vl (lI (j:=0) (u:=.int .i64 _) Tryz.underlying35 Tryz.isAgg3 Tryz.sizeOf3 rfl rfl rfl (by decide) rfl) ?_;refine gg ?_;refine aj.aX (xS rfl (jJ rfl)) fun _=>?_;refine bS ?_;refine aj.nil (aI ?_);refine fS.succ ?_;refine gg ?_;refine WP.aQ rfl ?_;refine cR ?_;refine vl (lI (j:=1) (u:=.int .i64 _) Tryz.underlying35 Tryz.isAgg3 Tryz.sizeOf3 rfl rfl rfl (by decide) rfl) ?_;refine gg ?_;refine aj.aX (xS rfl (jJ rfl)) fun _=>?_;refine bS ?_;refine aj.nil (aI ?_);refine fS.succ ?_;refine gg ?_;refine WP.aQ rfl ?_;refine cR ?_;refine vl (lI (j:=2) (u:=.int .i64 _) Tryz.underlying35 Tryz.isAgg3 Tryz.sizeOf3 rfl rfl rfl (by decide) rfl) ?_;refine gg ?_;refine aj.aX (xS rfl (jJ rfl)) fun _=>?_;refine bS ?_;refine aj.nil (aI ?_);refine fS.succ ?_;refine gg ?_;refine WP.aQ rfl ?_;refine cR ?_;refine vl (lI (j:=3) (u:=.int .i64 _) Tryz.underlying35 Tryz.isAgg3 Tryz.sizeOf3 rfl rfl rfl (by decide) rfl) ?_;refine gg ?_;refine aj.aX (xS rfl (jJ rfl)) fun _=>?_;refine bS ?_;refine aj.nil (aI ?_);refine fS.succ ?_;refine gg ?_;refine WP.br rfl ?_;refine WP.exit (an ?_);refine gg ?_;refine aj.aX (xW rfl) fun _=>?_;refine gg ?_;exact jf rfl fun w hw=>⟨(),rfl,trivial,hw.pk⟩
theorem eC (s:List Value) (hs:bZ s) (base:Int):Ct Tryz.prog 172 #[.agg s.toArray,.int .i64 base] [] (fun _=>True) (X:=Unit) (fun _=>m4 s base) (fun _=>True) (fun _=>[]):=by
  refine Ci fun w0 _=>?_;refine gg ?_;refine aj.ef (xB (us:=s)) fun b2=>?_;refine aj.ef cg fun b4=>?_;refine cK ?_;refine vl (au (cs:=[.int .i64 (val s 15),.int .i64 (val s 16),.int .i64 (val s 17),.int .i64 (val s 18),.int .i64 (val s 19),.int .i64 (val s 20),.int .i64 (val s 21),.int .i64 (val s 22)]) Tryz.isAgg34 Tryz.sizeOf34 rfl (fun w hw=>hw.aq (i:=0) rfl 15 (bZ.gu hs 8 15 (by decide) rfl rfl rfl))) ?_;refine gg ?_;refine eF (xC (Gr (val s 15) (val s 16) (val s 17) (val s 18) (val s 19) (val s 20) (val s 21) (val s 22) base)) fun _ _=>?_;refine aj.ef cg fun b5=>?_;refine aj.aX (xW rfl) fun _=>?_;refine cK ?_;refine vl (cB (us:=[.int .i64 _,.int .i64 _]) Tryz.underlying40 Tryz.zeroValue40 Tryz.sizeOf3 rfl rfl rfl) ?_;refine gg ?_;refine WP.jH 3 ?_;refine fS.succ ?_;refine gg ?_;refine WP.aQ rfl ?_;refine bS ?_;refine vl (lI (j:=0) (u:=.int .i64 _) Tryz.underlying40 Tryz.isAgg3 Tryz.sizeOf3 rfl rfl rfl (by decide) rfl) ?_;refine gg ?_;refine vl (gC hs 15 16) ?_;refine eF (xC (a7 _ _ (-1) 0)) fun _ _=>?_;refine gg ?_;refine aj.aX (xS rfl (jJ rfl)) fun _=>?_;refine bS ?_;refine aj.nil (aI ?_);refine fS.succ ?_;refine gg ?_;refine WP.aQ rfl ?_;refine bS ?_;refine vl (lI (j:=1) (u:=.int .i64 _) Tryz.underlying40 Tryz.isAgg3 Tryz.sizeOf3 rfl rfl rfl (by decide) rfl) ?_;refine gg ?_;refine vl (gC hs 19 20) ?_;refine eF (xC (a7 _ _ (-1) 0)) fun _ _=>?_;refine gg ?_;refine aj.aX (xS rfl (jJ rfl)) fun _=>?_;refine bS ?_;refine aj.nil (aI ?_);refine fS.succ ?_;refine gg ?_;refine WP.br rfl ?_;refine WP.exit (an ?_);refine gg ?_;refine aj.aX (xW rfl) fun _=>?_;refine gg ?_;exact jf rfl fun w hw=>⟨(),rfl,trivial,hw.pk⟩
theorem Al (s:List Value) (hs:bZ s) (rw sw:Int) (he:∀i,i<4→0≤val s (31+i)+val s (35+i)∧val s (31+i)+val s (35+i)≤2097152) (hr:-1≤rw∧rw≤2305843009213693952) (hw1:-1≤sw∧sw≤2305843009213693952):Ct Tryz.prog 145 #[.agg s.toArray,.int .i64 rw,.int .i64 sw] [] (fun _=>True) (X:=Unit) (fun _=>.int .i64 (gy s rw sw)) (fun _=>True) (fun _=>[]):=by
  refine Ci fun w0 _=>?_;have e0:=he 0 (by decide);have e1:=he 1 (by decide);have e2:=he 2 (by decide);have e3:=he 3 (by decide);dsimp only[Nat.reduceAdd] at e0 e1 e2 e3;have ea:0≤eA s∧eA s≤4194304:=by unfold eA eS;dsimp only[Nat.reduceAdd];omega
  have ed:0≤eD s∧eD s≤4194304:=by unfold eD eS;dsimp only[Nat.reduceAdd];omega
  refine gg ?_;refine aj.ef (xB (us:=s)) fun b3=>?_;refine gg ?_;refine vl (vW (bZ.len hs)) ?_;refine eF (xC (dg s hs (fun i hi=>by have:=he i hi;omega))) fun _ _=>?_;refine eF (xC (dR _ _ _ _ (by show _≤eA s∧eA s≤_;omega))) fun _ _=>?_;refine bS ?_;have hea:eA s=eS s 3+eS s 1:=rfl;refine gg ?_;refine WP.aw rfl (fun h13=>?_) (fun h13=>?_)
  ·have hr:gy s rw sw=max (sw - eA s) 0:=by unfold gy;rw[if_neg h13]
   refine gg ?_;exact aT fun w hw=>⟨(),congrArg (Value.int .i64) (by rw[hr];try rfl),trivial,hw.pk⟩
  ·have hr:gy s rw sw=pM s (cC (val s 3) (val s 4) rw (max (rw - mA s rw - eA s) 0)) rw:=by unfold gy;rw[if_pos (by omega)]
   have hm:=mh s rw;have hma:mA s rw=mS s rw 3+mS s rw 1:=rfl;have hea:eA s=eS s 3+eS s 1:=rfl;refine gg ?_;refine vl (vW (bZ.len hs)) ?_;refine gg ?_;refine eF (xC (eC s hs rw)) fun _ _=>?_;refine eF (xC (dR _ _ _ _ (by have:=mh s rw;show _≤mA s rw∧mA s rw≤_;omega))) fun _ _=>?_;refine gg ?_;refine wP none [0] [pT 0,pT 1,pT 2,pT 3,pT 5,pT 6,pT 7,pT 8,pT 9,pF 4,pF 10,pT 11] ?_;refine gg ?_;refine tD (gC hs 3 4) ?_;refine gg ?_;refine tD (gC hs 7 8) ?_;refine gg ?_;refine tD (gC hs 11 12) ?_;refine gg ?_;refine dG (xC (a7 (val s 3) (val s 4) rw _)) fun _ _=>?_;refine dG (xC (pN _ (val s 7) (val s 8) (val s 11) (val s 12) rw)) fun _ _=>?_;refine gg ?_;exact aT fun w hw=>⟨(),congrArg (Value.int .i64) (by rw[hr];try rfl),trivial,hw.pk⟩
theorem qE (s:List Value) (hs:bZ s) (n r:Int):Ct Tryz.prog 151 #[.agg s.toArray,.int .i64 n,.int .i64 r] [] (fun _=>True) (X:=Unit) (fun _=>.int .i64 (tC s n r)) (fun _=>True) (fun _=>[]):=by
  refine Ci fun w0 _=>?_;refine gg ?_;refine aj.ef (xB (us:=s)) fun b3=>?_;refine gg ?_;refine vl (gC hs 9 10) ?_;refine gg ?_;refine vl (gC hs 13 14) ?_;refine gg ?_;refine eF (xC (pN n (val s 9) (val s 10) (val s 13) (val s 14) r)) fun _ _=>?_;refine gg ?_;exact aT fun w hw=>⟨(),rfl,trivial,hw.pk⟩
theorem tz (s:List Value) (hs:bZ s) (rh sh:Int) (he:∀i,i<4→0≤val s (31+i)+val s (35+i)∧val s (31+i)+val s (35+i)≤2097152) (hr:-1≤rh∧rh≤2305843009213693952) (hw1:-1≤sh∧sh≤2305843009213693952):Ct Tryz.prog 146 #[.agg s.toArray,.int .i64 rh,.int .i64 sh] [] (fun _=>True) (X:=Unit) (fun _=>.int .i64 (fU s rh sh)) (fun _=>True) (fun _=>[]):=by
  refine Ci fun w0 _=>?_;have e0:=he 0 (by decide);have e1:=he 1 (by decide);have e2:=he 2 (by decide);have e3:=he 3 (by decide);dsimp only[Nat.reduceAdd] at e0 e1 e2 e3;have ea:0≤eA s∧eA s≤4194304:=by unfold eA eS;dsimp only[Nat.reduceAdd];omega
  have ed:0≤eD s∧eD s≤4194304:=by unfold eD eS;dsimp only[Nat.reduceAdd];omega
  refine gg ?_;refine aj.ef (xB (us:=s)) fun b3=>?_;refine gg ?_;refine WP.aw rfl (fun h7=>?_) (fun h7=>?_)
  ·have hr:fU s rh sh=max (sh - eD s) 0:=by unfold fU;rw[if_neg h7]
   have hed:eD s=eS s 0+eS s 2:=rfl;refine gg ?_;refine vl (vW (bZ.len hs)) ?_;refine eF (xC (dg s hs (fun i hi=>by have:=he i hi;omega))) fun _ _=>?_;refine eF (xC (dN _ _ _ _ (by show _≤eD s∧eD s≤_;omega))) fun _ _=>?_;refine gg ?_;exact aT fun w hw=>⟨(),congrArg (Value.int .i64) (by rw[hr];try rfl),trivial,hw.pk⟩
  ·refine gg ?_;refine vl (gC hs 5 6) ?_;refine gg ?_;refine eF (xC (cp (val s 5) (val s 6) rh)) fun _ _=>?_;refine gg ?_;refine WP.cond rfl (fun h16=>?_) (fun h16=>?_)
   ·have hr:fU s rh sh=tC s (cC (val s 5) (val s 6) rh 0) rh:=by unfold fU;rw[if_pos (by omega),if_pos h16]
    refine gg ?_;refine wP none [0] [pT 0,pT 1,pT 2,pT 3,pT 5,pF 4,pF 6,pT 7] ?_;refine tD (vW (bZ.len hs)) ?_;refine gg ?_;refine tD (gC hs 5 6) ?_;refine gg ?_;refine dG (xC (a7 (val s 5) (val s 6) rh 0)) fun _ _=>?_;refine dG (xC (qE s hs _ rh)) fun _ _=>?_;refine gg ?_;exact aT fun w hw=>⟨(),congrArg (Value.int .i64) (by rw[hr];try rfl),trivial,hw.pk⟩
   ·have hr:fU s rh sh= -1:=by unfold fU;rw[if_pos (by omega),if_neg (by simp[h16])]
    refine gg ?_;exact aT fun w hw=>⟨(),congrArg (Value.int .i64) (by rw[hr];try rfl),trivial,hw.pk⟩
theorem EB (s:List Value) (hs:bZ s) (iw ih:Int):Ct Tryz.prog 150 #[.agg s.toArray,q2 iw ih] [] (fun _=>True) (X:=Unit) (fun _=>q2 (uC s iw) (uJ s ih)) (fun _=>True) (fun _=>[]):=by
  refine Ci fun w0 _=>?_;refine gg ?_;refine aj.ef (xB (us:=s)) fun b2=>?_;refine aj.ef xB fun b3=>?_;refine aj.ef cg fun b4=>?_;refine gg ?_;refine aj.ef cg fun b5=>?_;refine gg ?_;refine vl (vS hs 1) ?_;refine gg ?_;refine WP.aw rfl (fun h11=>?_) (fun h11=>?_)
  ·have hr1:uC s iw=0:=by unfold uC;rw[if_neg h11]
   have hr2:uJ s ih=0:=by unfold uJ;rw[if_neg h11]
   refine gg ?_;refine aj.aX (xW rfl) fun _=>?_;refine gg ?_;exact jf rfl fun w hw=>⟨(),by rw[hr1,hr2];try rfl,trivial,hw.pk⟩
  ·have hr1:uC s iw=cC (val s 29) (val s 30) iw (-(gT s 1 iw)):=by unfold uC;rw[if_pos (by omega)]
   have hr2:uJ s ih=cC (val s 23) (val s 24) ih (-(gT s 2 ih)):=by unfold uJ;rw[if_pos (by omega)]
   refine gg ?_;refine WP.jH 3 ?_;refine fS.succ ?_;refine gg ?_;refine WP.aQ rfl ?_;refine gg ?_;refine eF (xC nt) fun _ _=>?_;refine mv rfl ?_;refine av ?_
   skip
   refine av ?_
   skip
   refine gg ?_;refine wP (some 19) [0,1,2] [pT 0,pT 1,pT 2,pT 3,pT 4,pT 5,pT 6,pT 7,pT 8,pT 9,pT 10,pT 11,pT 12,pT 13,pT 14,pF 15,pT 16,pF 17,pT 18,pF 19] ?_;refine gg ?_;refine tD (gC hs 29 30) ?_;refine gg ?_;refine tD (gC hs 25 26) ?_;refine gg ?_;refine dG (xC (a7 (val s 25) (val s 26) iw 0)) fun _ _=>?_;refine tE rfl (pO rfl (by have h1:=js (val s 25) (val s 26) iw 0;have h2:=js (val s 27) (val s 28) ih 0;omega)) ?_;refine dG (xC (a7 (val s 29) (val s 30) iw _)) fun _ _=>?_;refine gg ?_;refine uz (xS rfl (jJ rfl)) fun _=>?_;refine bS ?_;refine aj.nil (aI ?_);refine fS.succ ?_;refine gg ?_;refine WP.aQ rfl ?_;refine gg ?_;refine eF (xC mV) fun _ _=>?_;refine mv rfl ?_;refine av ?_
   skip
   refine av ?_
   skip
   refine gg ?_;refine wP (some 19) [0,1,2] [pT 0,pT 1,pT 2,pT 3,pT 4,pT 5,pT 6,pT 7,pT 8,pT 9,pT 10,pT 11,pT 12,pT 13,pT 14,pF 15,pT 16,pF 17,pT 18,pF 19] ?_;refine gg ?_;refine tD (gC hs 23 24) ?_;refine gg ?_;refine tD (gC hs 27 28) ?_;refine gg ?_;refine dG (xC (a7 (val s 27) (val s 28) ih 0)) fun _ _=>?_;refine tE rfl (pO rfl (by have h1:=js (val s 25) (val s 26) iw 0;have h2:=js (val s 27) (val s 28) ih 0;omega)) ?_;refine dG (xC (a7 (val s 23) (val s 24) ih _)) fun _ _=>?_;refine gg ?_;refine uz (xS rfl (jJ rfl)) fun _=>?_;refine bS ?_;refine aj.nil (aI ?_);refine fS.succ ?_;refine gg ?_;refine WP.br rfl ?_;refine WP.exit (an ?_);refine gg ?_;refine aj.aX (xW rfl) fun _=>?_;refine gg ?_;exact jf rfl fun w hw=>⟨(),by rw[hr1,hr2];try rfl,trivial,hw.pk⟩
theorem WF.wI {S:Type} {F:ar S} {d:Int→Nat} (hF:WF F d) (x:Int):(aH F x).length≤4096:=by
  cases e:F x with
  | none=>simp[aH,e]
  | some b=>rw[cj e];exact hF.j5 e
theorem eK (A:Option Addr) (n c:Nat) (l:List Int) (x:Int):az A (n+1) c (l++[x])=.row 3 1 A (n+1) c (l.map (Value.int .i64)++[.int .i64 x]):=by simp[az]
section
variable {F:ar (List Value)} {d:Int→Nat}
def GQ (F:ar (List Value)) (d:Int→Nat) (n:Nat) (y:Int):Prop:=y= -1∨(aK F y=true∧d y+1≤n)
theorem GQ.start (hF:WF F d) {x:Int} (h:aK F x=true):GQ F d 64 x:=.inr ⟨h,by obtain⟨b,hb⟩:=aL h;have:=hF.deep x b hb;omega⟩
theorem GQ.next (hF:WF F d) {n:Nat} {y:Int} (h:GQ F d n y) (hy:0≤y):∃m,n=m+1∧aK F y=true∧GQ F d m (upF F y):=by
  rcases h with h | ⟨h1,h2⟩
  · omega
  · refine ⟨n - 1, by omega, h1, ?_⟩
    by_cases h0:y=0
    · left
      obtain⟨b,hb,hu⟩:=hF.root;rw[h0,ch hb,hu]
    · right
      obtain⟨h3,_,_,h4⟩:=hF.iV h1 h0;exact⟨h3,by omega⟩
theorem GQ.neg (hF:WF F d) {n:Nat} {y:Int} (h:GQ F d n y) (hy:¬0≤y):shownN F n y=true:=by
  rcases h with rfl | ⟨h1,_⟩
  · cases n with
    | zero=>rfl
    | succ n=>rw[shownN,kZ (hF.neg (by omega))];rfl
  · obtain ⟨b, hb⟩ := aL h1
    have:=hF.range y b hb;omega
theorem o6 {l:List Int} {k:Nat} {x:Int} {p:Int→Bool} (h:l[k]?=some x) (hp:p x=true):(l.take (k+1)).filter p=(l.take k).filter p++[x]:=by rw[l6 h,List.filter_append];simp[hp]
theorem rQ {l:List Int} {k:Nat} {x:Int} {p:Int→Bool} (h:l[k]?=some x) (hp:p x=false):(l.take (k+1)).filter p=(l.take k).filter p:=by rw[l6 h,List.filter_append];simp[hp]
theorem C3 (l:List Int) (k:Nat) (p:Int→Bool):((l.take k).filter p).length≤k:=Nat.le_trans (List.length_filter_le _ _) (by rw[List.length_take];omega)
end
abbrev jR (F:ar (List Value)) (a:Bool):Int→Bool:=fun k=>cM F k&&(xj (ah F k)==a)
theorem v8 (tp mb:Nat) (es:List PE) (hk:eG es) {d:Int→Nat} (hF:WF (ae es) d) (x:Int):
    Ct Tryz.prog 48 #[.pointer (some ⟨tp,0,none⟩),.int .i64 x] [al tp mb es] (fun _=>True) (X:=Unit) (fun _=>.bool (cM (ae es) x)) (fun _=>True) (fun _=>[al tp mb es]):=by
  refine Ci fun w0 _=>?_;refine gg ?_;refine eF (xC (lE tp mb es x)) fun _ _=>?_;refine gg ?_;refine WP.cond rfl (fun h8=>?_) (fun h8=>?_)
  ·have hr:cM (ae es) x=false:=by unfold cM;simp at h8;rw[h8];rfl
   refine gg ?_;exact aT fun w hw=>⟨(),congrArg Value.bool hr.symm,trivial,hw.pk⟩
  ·have hx:aK (ae es) x=true:=by simpa using h8
   refine gg ?_;refine WP.bm (X:=Nat×Int) [0] (fun p=>[(1,.int .i64 p.2)]) (fun p w=>(cM (ae es) x=shownN (ae es) p.1 p.2∧GQ (ae es) d p.1 p.2)∧St w0 (ay [al tp mb es]) [al tp mb es] w) (fun p=>p.1) (64,x) ⟨rfl,trivial⟩ (fun w hw=>⟨⟨by unfold cM;rw[hx];rfl,GQ.start hF hx⟩,hw⟩) (fun p ρ0=>?_);refine WP.fact (fun⟨hs,hu⟩=>?_);refine gg ?_;refine WP.aw rfl (fun h10=>?_) (fun h10=>?_)
   ·obtain⟨m,hm,hhas,hu2⟩:=hu.next hF (by omega);have hsn:shownN (ae es) p.1 p.2=(decide (val (ah (ae es) p.2) 0≠3)&&shownN (ae es) m (upF (ae es) p.2)):=by rw[hm,shownN,if_pos hhas]
    refine gg ?_;refine eF (xC (a6 tp mb es hk p.2)) fun _ _=>?_;refine vl (hR (u:=.int .i64 (val (ah (ae es) (p.2)) 0)) Tryz.underlying42 rfl Tryz.isAgg28 rfl (oP (bZ.int (hk.aE (p.2)) 0 (by decide) rfl))) ?_;refine gg ?_;refine WP.aw rfl (fun h18=>?_) (fun h18=>?_)
    ·have hr:cM (ae es) x=false:=by rw[hs,hsn,decide_eq_false (fun h=>h h18),Bool.false_and]
     refine gg ?_;exact aT fun w hw=>⟨(),congrArg Value.bool hr.symm,trivial,hw.pk⟩
    ·have h18n:val (ah (ae es) p.2) 0≠3:=h18;refine gg ?_;refine eF (xC (mm tp mb es hk p.2)) fun _ _=>?_;refine av ?_;exact nl fun w hw=>⟨rfl,(m,upF (ae es) p.2),(by simp only;omega),⟨rfl,jP,trivial⟩,⟨by rw[hs,hsn,decide_eq_true h18n,Bool.true_and],hu2⟩,hw⟩
   ·have hr:cM (ae es) x=true:=by rw[hs];exact hu.neg hF (by omega)
    refine WP.exit (an ?_);refine gg ?_;exact aT fun w hw=>⟨(),congrArg Value.bool hr.symm,trivial,hw.pk⟩
theorem zS (tp mb:Nat) (es:List PE) (hk:eG es) {d:Int→Nat} (hF:WF (ae es) d) (x:Int) (a:Bool):
    Ct Tryz.prog 87 #[.pointer (some ⟨tp,0,none⟩),.int .i64 x,.bool a] [al tp mb es] (fun _=>True) (X:=Option Addr×Nat) (fun p=>.slice p.1 (aZ (ae es) x a).length p.2) (fun _=>True) (fun p=>[al tp mb es,az p.1 (aZ (ae es) x a).length p.2 (aZ (ae es) x a)]):=by
  refine Ci fun w0 _=>?_;refine uw ?_;have hkn:=hF.wI x;refine gg ?_;refine eF (xC (CC tp mb es hk x (by have:=hF.wI x;omega))) fun⟨kA,kc⟩ _=>?_;refine gg ?_;refine WP.bm (X:=Nat×Option Addr×Nat) [0,2,12,13] (fun p=>[(7,.slice p.2.1 (((aH (ae es) x).take p.1).filter (jR (ae es) a)).length p.2.2),(14,.int .i64 (p.1:Int))]) (fun p w=>p.1≤(aH (ae es) x).length∧St w0 (ay [al tp mb es]) [al tp mb es,az kA (aH (ae es) x).length kc (aH (ae es) x),az p.2.1 (((aH (ae es) x).take p.1).filter (jR (ae es) a)).length p.2.2 (((aH (ae es) x).take p.1).filter (jR (ae es) a))] w) (fun p=>(aH (ae es) x).length - p.1) (0,none,0) ⟨rfl,rfl,trivial⟩ (fun w hw=>⟨Nat.zero_le _,hw.bB 3 1⟩) (fun p ρ0=>?_);obtain⟨k,oA,oc⟩:=p;dsimp only;refine WP.fact (fun hkl=>?_);refine gg ?_;refine WP.aw rfl (fun h15=>?_) (fun h15=>?_)
  ·obtain⟨kid,hkid⟩:∃kid,(aH (ae es) x)[k]?=some kid:=⟨_,List.getElem?_eq_getElem (by omega)⟩;have hfl:=C3 (aH (ae es) x) k (jR (ae es) a);refine WP.holds (fun w hw=>hw.aM (i:=1) rfl (by omega)) (fun⟨kb,hA⟩=>?_);subst hA;refine gg ?_;refine vl (vR 1 (by rw[List.getElem?_map,hkid];rfl)) ?_;refine gg ?_;refine eF (xC (v8 tp mb es hk hF kid)) fun _ _=>?_;refine av ?_;refine aj.aY 21 rfl (fun h21=>?_) (fun h21=>?_)
   ·refine gg ?_;refine aj.kn (xC (a6 tp mb es hk kid)) (fun _=>?_);refine aj.fact (fun _=>?_);refine aj.kn (xC (xO _ (hk.aE kid))) (fun _=>?_);refine aj.fact (fun _=>?_);refine ag ?_;refine vg (acD Tryz.underlying4 rfl rfl) ?_;refine gg ?_;refine WP.cond rfl (fun h28=>?_) (fun h28=>?_)
    ·have hq:jR (ae es) a kid=true:=by simp only[jR];simp_all
     have hfy:=o6 hkid hq;refine gg ?_;refine aj.ef (xN (L1 rfl)) fun g31=>?_;refine aj.ef (xP 1 3) fun⟨A32,c32⟩=>?_;refine cR ?_;exact nl fun w hw=>⟨rfl,(k+1,A32,c32),(by simp only;omega),⟨(via (.slice A32 ((((aH (ae es) x).take k).filter (jR (ae es) a)).length+1) c32) rfl (by simp only;rw[hfy,List.length_append];rfl)),rfl,jP,jB,jS,jI,trivial⟩,⟨by simp only;omega,by simp only;rw[hfy,List.length_append,List.length_singleton,eK];exact hw.pk⟩⟩
    ·have hq:jR (ae es) a kid=false:=by simp only[jR];simp_all
     have hfn:=rQ hkid hq;refine bS ?_;exact nl fun w hw=>⟨rfl,(k+1,oA,oc),(by simp only;omega),⟨(via (.slice oA ((((aH (ae es) x).take k).filter (jR (ae es) a)).length) oc) rfl (by simp only;rw[hfn])),rfl,jP,jB,jS,jI,trivial⟩,⟨by simp only;omega,by simp only;rw[hfn];exact hw.pk⟩⟩
   ·refine gg ?_;have hq:jR (ae es) a kid=false:=by simp only[jR];simp_all
    have hfn:=rQ hkid hq;refine WP.br rfl ?_;refine bS ?_;exact nl fun w hw=>⟨rfl,(k+1,oA,oc),(by simp only;omega),⟨(via (.slice oA ((((aH (ae es) x).take k).filter (jR (ae es) a)).length) oc) rfl (by simp only;rw[hfn])),rfl,jP,jB,jS,jI,trivial⟩,⟨by simp only;omega,by simp only;rw[hfn];exact hw.pk⟩⟩
  ·obtain rfl:k=(aH (ae es) x).length:=by omega
   have htk:(((aH (ae es) x).take (aH (ae es) x).length).filter (jR (ae es) a))=aZ (ae es) x a:=by rw[List.take_of_length_le (Nat.le_refl _)];rfl
   refine WP.exit (an ?_);refine gg ?_;exact aT fun w hw=>⟨(oA,oc),by rw[←htk];rfl,trivial,by rw[←htk];exact hw.pk⟩
theorem qJ (tp mb:Nat) (es:List PE) (hk:eG es) {d:Int→Nat} (hF:WF (ae es) d) (x:Int):
    Ct Tryz.prog 51 #[.pointer (some ⟨tp,0,none⟩),.int .i64 x] [al tp mb es] (fun _=>True) (X:=Option Addr×Nat) (fun p=>.slice p.1 (aZ (ae es) x false).length p.2) (fun _=>True) (fun p=>[al tp mb es,az p.1 (aZ (ae es) x false).length p.2 (aZ (ae es) x false)]):=by
  refine Ci fun w0 _=>?_;refine gg ?_;refine eF (xC (zS tp mb es hk hF x false)) fun⟨kA,kc⟩ _=>?_;refine gg ?_;exact aT fun w hw=>⟨(kA,kc),rfl,trivial,hw.pk⟩
abbrev dV (fb tp lb:Nat) (ww wh:Int):HI:=.cl fb 112 [.pointer (some ⟨tp,0,none⟩),.int .i64 ww,.int .i64 wh,.map (some lb)]
theorem GS.uu {s:List Value} (h:GS s):∀i,i<4→0≤val s (31+i)+val s (35+i)∧val s (31+i)+val s (35+i)≤2097152:=fun i hi=>h.rB i hi
theorem GS.iW {s:List Value} (h:GS s):∀i,i<4→-4611686018427387904≤val s (31+i)+val s (35+i)∧val s (31+i)+val s (35+i)≤4611686018427387904:=fun i hi=>by have:=h.rB i hi;unfold eS at this;omega
section
variable {F:ar (List Value)} {d:Int→Nat}
theorem fe {x:Int} {b:Bool} (h:¬0≤upF F x):cf F x b=false:=by unfold cf;rw[decide_eq_false h];simp
theorem zp (hF:WF F d) {x k:Int} {b:Bool} (h:gN F x b=some k):k∈aZ F x false:=by
  unfold gN at h
  split at h
  · split at h
    · exact List.mem_of_getLast? h
    · exact List.mem_of_head? h
  · cases h
theorem dA (hF:WF F d) {x k:Int} (h:k∈aH F x):aK F k=true∧d k=d x+1∧0≤k∧aK F x=true:=by
  cases e:F x with
  | none=>simp[aH,e] at h
  | some b =>
    rw[cj e] at h;obtain⟨_,c,hc,_⟩:=hF.kid x b e k h;exact⟨cG hc,hF.gr e h,(hF.range k c hc).1,cG e⟩
theorem Ah {x:Int} {b:Bool} (h:cf F x b=false):gN F x b=none:=by unfold gN;rw[h];rfl
theorem wo {x:Int} {b:Bool} (h:aZ F x false=[]):gN F x b=none:=by unfold gN;rw[h];split<;>simp
theorem Eh {x k:Int} (h:cf F x false=true) (hk:(aZ F x false)[0]?=some k):gN F x false=some k:=by
  unfold gN;rw[h];rw[←List.head?_eq_getElem?] at hk
  simpa using hk
theorem Fe {x k:Int} (h:cf F x true=true) (hk:(aZ F x false)[(aZ F x false).length - 1]?=some k):gN F x true=some k:=by
  unfold gN;rw[h];rw[←List.getLast?_eq_getElem?] at hk
  simpa using hk
theorem DA {n:Nat} {x k:Int} {b:Bool} (h:gN F x b=some k):endsP F (n+1) x b=mS (ah F x) 0 (if b then 2 else 0)::endsP F n k b:=by rw[endsP,h]
theorem nj {n:Nat} {x:Int} {b:Bool} (h:gN F x b=none):endsP F (n+1) x b=[mS (ah F x) 0 (if b then 2 else 0)]:=by rw[endsP,h]
def DnI (F:ar (List Value)) (d:Int→Nat) (n:Nat) (y:Int):Prop:=y= -1∨(aK F y=true∧64≤n+d y∧0≤y)
def fg (F:ar (List Value)) (n:Nat) (y:Int) (b:Bool):List Int:=if y= -1 then [] else endsP F n y b
end
section
variable (fb lb:Nat) (ww wh:Int)
theorem wz (tp mb:Nat) (es:List PE) (hk:eG es) {d:Int→Nat} (hF:WF (ae es) d) (hg:∀x,GS (ah (ae es) x)) (x:Int):
    Ct Tryz.prog 204 #[.pointer (some ⟨fb,0,none⟩),.int .i64 x,.int .i64 0] [al tp mb es,dV fb tp lb ww wh] (fun _=>True) (X:=Unit) (fun _=>.bool (cf (ae es) x false)) (fun _=>True) (fun _=>[al tp mb es,dV fb tp lb ww wh]):=by
  refine Ci fun w0 _=>?_;refine gg ?_;refine eF (xC (a6 tp mb es hk x)) fun _ _=>?_;refine aj.ef cg fun b7=>?_;refine aj.aX (xZ (hk.aE (x)) rfl) fun _=>?_;refine gg ?_;refine eF (xC (mm tp mb es hk x)) fun _ _=>?_;refine qa ?_;refine aj.split 24 rfl (fun h24=>?_) (fun h24=>?_)
  ·refine gg ?_;refine WP.aQ rfl ?_;refine gg ?_;exact aT fun w hw=>⟨(),congrArg Value.bool (by first | (rw[fe (by omega)];done) | (unfold cf;simp_all;done) | (unfold cf;simp_all [eS];done)),trivial,hw.pk⟩
  ·refine gg ?_;refine aj.kn (xC (a6 tp mb es hk (upF (ae es) x))) (fun _=>?_);refine aj.fact (fun _=>?_);refine vg (hR (u:=.int .i64 (val (ah (ae es) (upF (ae es) x)) 0)) Tryz.underlying42 rfl Tryz.isAgg28 rfl (oP (bZ.int (hk.aE (upF (ae es) x)) 0 (by decide) rfl))) ?_;refine cK ?_;refine aj.split 34 rfl (fun h34=>?_) (fun h34=>?_)
   ·refine gg ?_;refine WP.aQ rfl ?_;refine gg ?_;exact aT fun w hw=>⟨(),congrArg Value.bool (by first | (rw[fe (by omega)];done) | (unfold cf;simp_all;done) | (unfold cf;simp_all [eS];done)),trivial,hw.pk⟩
   ·refine vg (vW (bZ.len (hk.aE (x)))) ?_;refine aj.kn (xC (xO _ (hk.aE x))) (fun _=>?_);refine aj.fact (fun _=>?_);refine gg ?_;refine WP.cond rfl (fun h37=>?_) (fun h37=>?_)
    ·refine gg ?_;exact aT fun w hw=>⟨(),congrArg Value.bool (by first | (rw[fe (by omega)];done) | (unfold cf;simp_all;done) | (unfold cf;simp_all [eS];done)),trivial,hw.pk⟩
    ·refine WP.skip (an ?_);refine eh ?_
     iterate 3 refine av ?_
     iterate 10 refine sk ?_
     iterate 2 refine av ?_
     refine nl (oo ?_);refine eh ?_
     iterate 2 refine av ?_
     refine ag ?_;refine vg (vS (hk.aE (x)) 0) ?_;refine cK ?_;refine aj.split 58 rfl (fun h58=>?_) (fun h58=>?_)
     ·refine ag ?_;refine vg (vS (hk.aE (x)) 2) ?_;refine cK ?_;refine aj.split 63 rfl (fun h63=>?_) (fun h63=>?_)
      ·refine vg (vW (bZ.len (hk.aE (x)))) ?_;refine aj.kn (xC (dg _ (hk.aE x) (hg x).iW)) (fun _=>?_);refine aj.fact (fun _=>?_);refine ag ?_;refine vg (lI (j:=0) (u:=.int .i64 _) Tryz.underlying35 Tryz.isAgg3 Tryz.sizeOf3 rfl rfl rfl (by decide) rfl) ?_;refine gg ?_;exact aT fun w hw=>⟨(),congrArg Value.bool (by first | (rw[fe (by omega)];done) | (unfold cf;simp_all;done) | (unfold cf;simp_all [eS];done)),trivial,hw.pk⟩
      ·refine gg ?_;exact aT fun w hw=>⟨(),congrArg Value.bool (by first | (rw[fe (by omega)];done) | (unfold cf;simp_all;done) | (unfold cf;simp_all [eS];done)),trivial,hw.pk⟩
     ·refine gg ?_;exact aT fun w hw=>⟨(),congrArg Value.bool (by first | (rw[fe (by omega)];done) | (unfold cf;simp_all;done) | (unfold cf;simp_all [eS];done)),trivial,hw.pk⟩
theorem FC (tp mb:Nat) (es:List PE) (hk:eG es) {d:Int→Nat} (hF:WF (ae es) d) (hg:∀x,GS (ah (ae es) x)) (x0:Int) (hx:aK (ae es) x0=true) (hx0:0≤x0):
    Ct Tryz.prog 202 #[.pointer (some ⟨fb,0,none⟩),.int .i64 x0,.int .i64 0] [al tp mb es,dV fb tp lb ww wh] (fun _=>True) (X:=Unit) (fun _=>.int .i64 (Am (ae es) x0 false)) (fun _=>True) (fun _=>[al tp mb es,dV fb tp lb ww wh]):=by
  refine Ci fun w0 _=>?_;refine gg ?_;refine WP.bm (X:=Nat×Int×List Int×Option Addr×Nat) [0,2] (fun p=>[(1,.int .i64 p.2.1),(7,.slice p.2.2.2.1 p.2.2.1.length p.2.2.2.2)]) (fun p w=>(DnI (ae es) d p.1 p.2.1∧endsP (ae es) 64 x0 false=p.2.2.1++fg (ae es) p.1 p.2.1 false∧p.2.2.1.length+p.1≤64)∧St w0 (ay [al tp mb es,dV fb tp lb ww wh]) [al tp mb es,dV fb tp lb ww wh,az p.2.2.2.1 p.2.2.1.length p.2.2.2.2 p.2.2.1] w) (fun p=>p.1) (64,x0,[],none,0) ⟨rfl,rfl,trivial⟩ (fun w hw=>⟨⟨.inr ⟨hx,by simp only;omega,hx0⟩,by simp only[fg];rw[if_neg (by omega)];rfl,by simp⟩,hw.bB 3 1⟩) (fun p ρ0=>?_);obtain⟨n,x,acc,oA,oc⟩:=p;dsimp only;refine WP.fact (fun⟨hdn,hacc,hlen⟩=>?_);refine gg ?_;refine WP.aw rfl (fun h10=>?_) (fun h10=>?_)
  ·obtain⟨hh,hn64,hx1⟩:aK (ae es) x=true∧64≤n+d x∧0≤x:=hdn.elim (fun h=>absurd h (by omega)) id;obtain⟨bq,hbq⟩:=aL hh;have hdp:=hF.deep x bq hbq;obtain⟨m,rfl⟩:∃m,n=m+1:=⟨n - 1,by omega⟩;refine gg ?_;refine eF (xC (a6 tp mb es hk x)) fun _ _=>?_;refine vl (j3 (us:=#[.int .i64 (val (ah (ae es) (x)) 15),.int .i64 (val (ah (ae es) (x)) 16),.int .i64 (val (ah (ae es) (x)) 17),.int .i64 (val (ah (ae es) (x)) 18),.int .i64 (val (ah (ae es) (x)) 19),.int .i64 (val (ah (ae es) (x)) 20),.int .i64 (val (ah (ae es) (x)) 21),.int .i64 (val (ah (ae es) (x)) 22)]) Tryz.underlying42 rfl Tryz.isAgg34 Tryz.sizeOf34 rfl (BD (by have h:=bZ.seg (hk.aE (x)) 8 15 (by decide) rfl;exact h))) ?_;refine av ?_;refine vl (iO (j:=0) (us:=#[.int .i64 _,.int .i64 _]) Tryz.underlying34 Tryz.isAgg33 Tryz.sizeOf33 rfl rfl rfl (by decide) rfl) ?_;refine eF (xC (a7 _ _ (-1) 0)) fun _ _=>?_;refine aj.ef (xN (L1 rfl)) fun g22=>?_;refine aj.ef (xP 1 3) fun⟨A23,c23⟩=>?_;refine gg ?_;refine eF (xC (qJ tp mb es hk hF x)) fun⟨kA,kc⟩ _=>?_;refine gg ?_;refine eF (xC (wz fb lb ww wh tp mb es hk hF hg x)) fun _ _=>?_;refine bW ?_;refine aj.aY 42 rfl (fun h42=>?_) (fun h42=>?_)
   ·refine gg ?_;have hnx:gN (ae es) x false=none:=Ah (by simpa using h42);have hrest:fg (ae es) (m+1) x false=[mS (ah (ae es) x) 0 0]:=by unfold fg;rw[if_neg (by omega)];exact nj hnx
    refine WP.aQ rfl ?_;refine bW ?_;exact nl fun w hw=>⟨rfl,(m,-1,acc++[mS (ah (ae es) x) 0 0],A23,c23),(by simp only;omega),⟨rfl,(via (.slice A23 (acc.length+1) c23) rfl (by simp only;rw[List.length_append];rfl)),jP,jI,trivial⟩,⟨⟨.inl rfl,by simp only;rw[hacc,hrest];simp[fg],by simp only[List.length_append,List.length_singleton];omega⟩,by simp only;rw[List.length_append,List.length_singleton,eK];exact(hw.sel [3,4,0] (by decide))⟩⟩
   ·refine gg ?_;refine WP.aw rfl (fun h36=>?_) (fun h36=>?_)
    ·have hnx:gN (ae es) x false=none:=wo (List.eq_nil_of_length_eq_zero (by omega));have hrest:fg (ae es) (m+1) x false=[mS (ah (ae es) x) 0 0]:=by unfold fg;rw[if_neg (by omega)];exact nj hnx
     refine bW ?_;exact nl fun w hw=>⟨rfl,(m,-1,acc++[mS (ah (ae es) x) 0 0],A23,c23),(by simp only;omega),⟨rfl,(via (.slice A23 (acc.length+1) c23) rfl (by simp only;rw[List.length_append];rfl)),jP,jI,trivial⟩,⟨⟨.inl rfl,by simp only;rw[hacc,hrest];simp[fg],by simp only[List.length_append,List.length_singleton];omega⟩,by simp only;rw[List.length_append,List.length_singleton,eK];exact(hw.sel [3,4,0] (by decide))⟩⟩
    ·have hkl:=Nat.le_trans (ku (ae es) x false) (hF.wI x);have hln:(aZ (ae es) x false).length≠0:=by omega
     obtain⟨kid,hkid⟩:∃k,(aZ (ae es) x false)[0]?=some k:=⟨_,List.getElem?_eq_getElem (by omega)⟩;refine WP.holds (fun w hw=>hw.aM (i:=2) rfl (by omega)) (fun⟨kb,hA⟩=>?_);subst hA;have hnx:gN (ae es) x false=some kid:=Eh (by simpa using h42) hkid;have hrest:fg (ae es) (m+1) x false=mS (ah (ae es) x) 0 0::endsP (ae es) m kid false:=by unfold fg;rw[if_neg (by omega)];exact DA hnx
     obtain⟨hk1,hk2,hk3,_⟩:=dA hF (dz (zp hF hnx));refine gg ?_;refine WP.aQ rfl ?_;refine gg ?_;refine vl (vR 2 (by rw[List.getElem?_map,hkid];rfl)) ?_;refine av ?_;exact nl fun w hw=>⟨rfl,(m,kid,acc++[mS (ah (ae es) x) 0 0],A23,c23),(by simp only;omega),⟨rfl,(via (.slice A23 (acc.length+1) c23) rfl (by simp only;rw[List.length_append];rfl)),jP,jI,trivial⟩,⟨⟨.inr ⟨hk1,by simp only;omega,hk3⟩,by simp only;rw[hacc,hrest];simp only[fg];rw[if_neg (by omega)];simp,by simp only[List.length_append,List.length_singleton];omega⟩,by simp only;rw[List.length_append,List.length_singleton,eK];exact(hw.sel [3,4,0] (by decide))⟩⟩
  ·have hfin:endsP (ae es) 64 x0 false=acc:=hdn.elim (fun h=>by rw[hacc,h];simp[fg]) (fun h=>by omega);refine WP.exit (an ?_);refine gg ?_;refine eF (xC (rl oA oc acc (by omega)) (hF:=fun w hw=>hw.eO (i:=2) (f:=Value.int .i64) rfl)) fun _ _=>?_;refine gg ?_;exact aT fun w hw=>⟨(),congrArg (Value.int .i64) (by unfold Am;rw[hfin]),trivial,hw.pk⟩
theorem u5 (tp mb:Nat) (es:List PE) (hk:eG es) {d:Int→Nat} (hF:WF (ae es) d) (hg:∀x,GS (ah (ae es) x)) (x:Int):
    Ct Tryz.prog 204 #[.pointer (some ⟨fb,0,none⟩),.int .i64 x,.int .i64 2] [al tp mb es,dV fb tp lb ww wh] (fun _=>True) (X:=Unit) (fun _=>.bool (cf (ae es) x true)) (fun _=>True) (fun _=>[al tp mb es,dV fb tp lb ww wh]):=by
  refine Ci fun w0 _=>?_;refine gg ?_;refine eF (xC (a6 tp mb es hk x)) fun _ _=>?_;refine aj.ef cg fun b7=>?_;refine aj.aX (xZ (hk.aE (x)) rfl) fun _=>?_;refine gg ?_;refine eF (xC (mm tp mb es hk x)) fun _ _=>?_;refine qa ?_;refine aj.split 24 rfl (fun h24=>?_) (fun h24=>?_)
  ·refine gg ?_;refine WP.aQ rfl ?_;refine gg ?_;exact aT fun w hw=>⟨(),congrArg Value.bool (by first | (rw[fe (by omega)];done) | (unfold cf;simp_all;done) | (unfold cf;simp_all [eS];done)),trivial,hw.pk⟩
  ·refine gg ?_;refine aj.kn (xC (a6 tp mb es hk (upF (ae es) x))) (fun _=>?_);refine aj.fact (fun _=>?_);refine vg (hR (u:=.int .i64 (val (ah (ae es) (upF (ae es) x)) 0)) Tryz.underlying42 rfl Tryz.isAgg28 rfl (oP (bZ.int (hk.aE (upF (ae es) x)) 0 (by decide) rfl))) ?_;refine cK ?_;refine aj.split 34 rfl (fun h34=>?_) (fun h34=>?_)
   ·refine gg ?_;refine WP.aQ rfl ?_;refine gg ?_;exact aT fun w hw=>⟨(),congrArg Value.bool (by first | (rw[fe (by omega)];done) | (unfold cf;simp_all;done) | (unfold cf;simp_all [eS];done)),trivial,hw.pk⟩
   ·refine vg (vW (bZ.len (hk.aE (x)))) ?_;refine aj.kn (xC (xO _ (hk.aE x))) (fun _=>?_);refine aj.fact (fun _=>?_);refine gg ?_;refine WP.cond rfl (fun h37=>?_) (fun h37=>?_)
    ·refine gg ?_;exact aT fun w hw=>⟨(),congrArg Value.bool (by first | (rw[fe (by omega)];done) | (unfold cf;simp_all;done) | (unfold cf;simp_all [eS];done)),trivial,hw.pk⟩
    ·refine qa ?_;refine vg (vS (hk.aE (x)) 5) ?_;refine bW ?_;refine aj.split 45 rfl (fun h45=>?_) (fun h45=>?_)
     ·refine bW ?_;refine vg (vS (hk.aE (x)) 9) ?_;refine uw ?_;refine aj.split 53 rfl (fun h53=>?_) (fun h53=>?_)
      ·refine ag ?_;refine vg (vS (hk.aE (x)) 0) ?_;refine cK ?_;refine aj.split 58 rfl (fun h58=>?_) (fun h58=>?_)
       ·refine ag ?_;refine vg (vS (hk.aE (x)) 2) ?_;refine cK ?_;refine aj.split 63 rfl (fun h63=>?_) (fun h63=>?_)
        ·refine vg (vW (bZ.len (hk.aE (x)))) ?_;refine aj.kn (xC (dg _ (hk.aE x) (hg x).iW)) (fun _=>?_);refine aj.fact (fun _=>?_);refine ag ?_;refine vg (lI (j:=2) (u:=.int .i64 _) Tryz.underlying35 Tryz.isAgg3 Tryz.sizeOf3 rfl rfl rfl (by decide) rfl) ?_;refine gg ?_;exact aT fun w hw=>⟨(),congrArg Value.bool (by first | (rw[fe (by omega)];done) | (unfold cf;simp_all;done) | (unfold cf;simp_all [eS];done)),trivial,hw.pk⟩
        ·refine gg ?_;exact aT fun w hw=>⟨(),congrArg Value.bool (by first | (rw[fe (by omega)];done) | (unfold cf;simp_all;done) | (unfold cf;simp_all [eS];done)),trivial,hw.pk⟩
       ·refine gg ?_;exact aT fun w hw=>⟨(),congrArg Value.bool (by first | (rw[fe (by omega)];done) | (unfold cf;simp_all;done) | (unfold cf;simp_all [eS];done)),trivial,hw.pk⟩
      ·refine gg ?_;exact aT fun w hw=>⟨(),congrArg Value.bool (by first | (rw[fe (by omega)];done) | (unfold cf;simp_all;done) | (unfold cf;simp_all [eS];done)),trivial,hw.pk⟩
     ·refine gg ?_;exact aT fun w hw=>⟨(),congrArg Value.bool (by first | (rw[fe (by omega)];done) | (unfold cf;simp_all;done) | (unfold cf;simp_all [eS];done)),trivial,hw.pk⟩
theorem GM (tp mb:Nat) (es:List PE) (hk:eG es) {d:Int→Nat} (hF:WF (ae es) d) (hg:∀x,GS (ah (ae es) x)) (x0:Int) (hx:aK (ae es) x0=true) (hx0:0≤x0):
    Ct Tryz.prog 202 #[.pointer (some ⟨fb,0,none⟩),.int .i64 x0,.int .i64 2] [al tp mb es,dV fb tp lb ww wh] (fun _=>True) (X:=Unit) (fun _=>.int .i64 (Am (ae es) x0 true)) (fun _=>True) (fun _=>[al tp mb es,dV fb tp lb ww wh]):=by
  refine Ci fun w0 _=>?_;refine gg ?_;refine WP.bm (X:=Nat×Int×List Int×Option Addr×Nat) [0,2] (fun p=>[(1,.int .i64 p.2.1),(7,.slice p.2.2.2.1 p.2.2.1.length p.2.2.2.2)]) (fun p w=>(DnI (ae es) d p.1 p.2.1∧endsP (ae es) 64 x0 true=p.2.2.1++fg (ae es) p.1 p.2.1 true∧p.2.2.1.length+p.1≤64)∧St w0 (ay [al tp mb es,dV fb tp lb ww wh]) [al tp mb es,dV fb tp lb ww wh,az p.2.2.2.1 p.2.2.1.length p.2.2.2.2 p.2.2.1] w) (fun p=>p.1) (64,x0,[],none,0) ⟨rfl,rfl,trivial⟩ (fun w hw=>⟨⟨.inr ⟨hx,by simp only;omega,hx0⟩,by simp only[fg];rw[if_neg (by omega)];rfl,by simp⟩,hw.bB 3 1⟩) (fun p ρ0=>?_);obtain⟨n,x,acc,oA,oc⟩:=p;dsimp only;refine WP.fact (fun⟨hdn,hacc,hlen⟩=>?_);refine gg ?_;refine WP.aw rfl (fun h10=>?_) (fun h10=>?_)
  ·obtain⟨hh,hn64,hx1⟩:aK (ae es) x=true∧64≤n+d x∧0≤x:=hdn.elim (fun h=>absurd h (by omega)) id;obtain⟨bq,hbq⟩:=aL hh;have hdp:=hF.deep x bq hbq;obtain⟨m,rfl⟩:∃m,n=m+1:=⟨n - 1,by omega⟩;refine gg ?_;refine eF (xC (a6 tp mb es hk x)) fun _ _=>?_;refine vl (j3 (us:=#[.int .i64 (val (ah (ae es) (x)) 15),.int .i64 (val (ah (ae es) (x)) 16),.int .i64 (val (ah (ae es) (x)) 17),.int .i64 (val (ah (ae es) (x)) 18),.int .i64 (val (ah (ae es) (x)) 19),.int .i64 (val (ah (ae es) (x)) 20),.int .i64 (val (ah (ae es) (x)) 21),.int .i64 (val (ah (ae es) (x)) 22)]) Tryz.underlying42 rfl Tryz.isAgg34 Tryz.sizeOf34 rfl (BD (by have h:=bZ.seg (hk.aE (x)) 8 15 (by decide) rfl;exact h))) ?_;refine av ?_;refine vl (iO (j:=2) (us:=#[.int .i64 _,.int .i64 _]) Tryz.underlying34 Tryz.isAgg33 Tryz.sizeOf33 rfl rfl rfl (by decide) rfl) ?_;refine eF (xC (a7 _ _ (-1) 0)) fun _ _=>?_;refine aj.ef (xN (L1 rfl)) fun g22=>?_;refine aj.ef (xP 1 3) fun⟨A23,c23⟩=>?_;refine gg ?_;refine eF (xC (qJ tp mb es hk hF x)) fun⟨kA,kc⟩ _=>?_;refine gg ?_;refine eF (xC (u5 fb lb ww wh tp mb es hk hF hg x)) fun _ _=>?_;refine bW ?_;refine aj.aY 42 rfl (fun h42=>?_) (fun h42=>?_)
   ·refine gg ?_;have hnx:gN (ae es) x true=none:=Ah (by simpa using h42);have hrest:fg (ae es) (m+1) x true=[mS (ah (ae es) x) 0 2]:=by unfold fg;rw[if_neg (by omega)];exact nj hnx
    refine WP.aQ rfl ?_;refine bW ?_;exact nl fun w hw=>⟨rfl,(m,-1,acc++[mS (ah (ae es) x) 0 2],A23,c23),(by simp only;omega),⟨rfl,(via (.slice A23 (acc.length+1) c23) rfl (by simp only;rw[List.length_append];rfl)),jP,jI,trivial⟩,⟨⟨.inl rfl,by simp only;rw[hacc,hrest];simp[fg],by simp only[List.length_append,List.length_singleton];omega⟩,by simp only;rw[List.length_append,List.length_singleton,eK];exact(hw.sel [3,4,0] (by decide))⟩⟩
   ·refine gg ?_;refine WP.aw rfl (fun h36=>?_) (fun h36=>?_)
    ·have hnx:gN (ae es) x true=none:=wo (List.eq_nil_of_length_eq_zero (by omega));have hrest:fg (ae es) (m+1) x true=[mS (ah (ae es) x) 0 2]:=by unfold fg;rw[if_neg (by omega)];exact nj hnx
     refine bW ?_;exact nl fun w hw=>⟨rfl,(m,-1,acc++[mS (ah (ae es) x) 0 2],A23,c23),(by simp only;omega),⟨rfl,(via (.slice A23 (acc.length+1) c23) rfl (by simp only;rw[List.length_append];rfl)),jP,jI,trivial⟩,⟨⟨.inl rfl,by simp only;rw[hacc,hrest];simp[fg],by simp only[List.length_append,List.length_singleton];omega⟩,by simp only;rw[List.length_append,List.length_singleton,eK];exact(hw.sel [3,4,0] (by decide))⟩⟩
    ·have hkl:=Nat.le_trans (ku (ae es) x false) (hF.wI x);have hln:(aZ (ae es) x false).length≠0:=by omega
     obtain⟨kid,hkid⟩:∃k,(aZ (ae es) x false)[(aZ (ae es) x false).length - 1]?=some k:=⟨_,List.getElem?_eq_getElem (by omega)⟩;refine WP.holds (fun w hw=>hw.aM (i:=2) rfl (by omega)) (fun⟨kb,hA⟩=>?_);subst hA;have hnx:gN (ae es) x true=some kid:=Fe (by simpa using h42) hkid;have hrest:fg (ae es) (m+1) x true=mS (ah (ae es) x) 0 2::endsP (ae es) m kid true:=by unfold fg;rw[if_neg (by omega)];exact DA hnx
     obtain⟨hk1,hk2,hk3,_⟩:=dA hF (dz (zp hF hnx));refine gg ?_;refine WP.br rfl ?_;refine cR ?_;refine vl (vX (((aZ (ae es) x false).length - 1))) ?_;refine vl (vR 2 (by rw[List.getElem?_map,hkid];rfl)) ?_;refine av ?_;exact nl fun w hw=>⟨rfl,(m,kid,acc++[mS (ah (ae es) x) 0 2],A23,c23),(by simp only;omega),⟨rfl,(via (.slice A23 (acc.length+1) c23) rfl (by simp only;rw[List.length_append];rfl)),jP,jI,trivial⟩,⟨⟨.inr ⟨hk1,by simp only;omega,hk3⟩,by simp only;rw[hacc,hrest];simp only[fg];rw[if_neg (by omega)];simp,by simp only[List.length_append,List.length_singleton];omega⟩,by simp only;rw[List.length_append,List.length_singleton,eK];exact(hw.sel [3,4,0] (by decide))⟩⟩
  ·have hfin:endsP (ae es) 64 x0 true=acc:=hdn.elim (fun h=>by rw[hacc,h];simp[fg]) (fun h=>by omega);refine WP.exit (an ?_);refine gg ?_;refine eF (xC (rl oA oc acc (by omega)) (hF:=fun w hw=>hw.eO (i:=2) (f:=Value.int .i64) rfl)) fun _ _=>?_;refine gg ?_;exact aT fun w hw=>⟨(),congrArg (Value.int .i64) (by unfold Am;rw[hfin]),trivial,hw.pk⟩
end
end Go.Proofs.YtbedndijejpcaaaGreat
