/- FlowBd FlowA FlowB FlowC FlowD -/
import Derived.Test.YtpgjbbaplpdaiaaGreatS14
set_option linter.unusedVariables false
set_option linter.unusedSimpArgs false
set_option linter.unusedSectionVars false
set_option maxRecDepth 100000
set_option maxHeartbeats 8000000
namespace Go.Proofs.YtpgjbbaplpdaiaaGreat
open Go.RowKit
theorem maxN_bd {f:Nat→Int} {B:Int} (hB:0≤B):∀(n:Nat),(∀i,i<n→f i≤B)→0≤maxN f n∧maxN f n≤B
  | 0,_=>by simp only[maxN];omega
  | n + 1, h => by
    have h1:=maxN_bd hB n fun i hi=>h i (by omega);have h2:=h n (by omega);simp only[maxN];omega
theorem size_bd {l:List FItem} {room:Int} {i:Nat} {s:Int} (hs:(sizes l room)[i]?=some s):0≤s∧s≤1048576:=by
  unfold sizes at hs;rw[List.getElem?_map] at hs;cases he:(final (grows l room) (lot room) (l.map (start (grows l room))))[i]? with
  | none=>rw[he] at hs;cases hs
  | some e =>
    rw[he] at hs;obtain rfl:e.size=s:=by simpa using hs
    have h:=rounds_oks (g:=grows l room) (room:=lot room) (kth (l.map (start (grows l room))) (l.map (start (grows l room))).length) (start_oks _ l) i e he;unfold FE.ok at h;omega
theorem gI_bd {l:List FItem} {room:Int} (i:Nat):0≤gI (sizes l room) i∧gI (sizes l room) i≤1048576:=by
  unfold gI;rw[List.getD_eq_getElem?_getD];cases h:(sizes l room)[i]? with
  | none=>simp
  | some s=>exact size_bd h
theorem acrossP_bd (kind size room:Int):-1099511627776≤acrossP kind size room∧acrossP kind size room≤1099511627776:=by
  unfold acrossP
  split
  · exact divI_bd _ _
  · split
    · exact subI_bd _ _
    · omega
theorem sumN_bd {f:Nat→Int} {B:Int}:∀(n:Nat),(∀i,i<n→-B≤f i∧f i≤B)→-(n*B)≤sumN f n∧sumN f n≤n*B
  | 0,_=>by simp[sumN]
  | n + 1, h => by
    have h1:=sumN_bd n fun i hi=>h i (by omega);have h2:=h n (by omega);rw[sumN,show ((n+1:Nat):Int)*B=n*B+B by rw[Int.natCast_add,Int.add_mul];simp];omega
section
variable {l:List Int} {room gap:Int} {wrap:Bool}
theorem brk_len:∀i,(brkS l room gap wrap i).1.length≤(brkS l room gap wrap i).2.1∧(brkS l room gap wrap i).2.1≤i
  | 0=>by simp[brkS]
  | i + 1 => by
    have h:=brk_len i;rw[brkS]
    split
    · simp only;omega
    · split
      · simp only;omega
      · simp only[List.length_append,List.length_singleton];omega
theorem breaks_len:(breaksP l room gap wrap).length≤l.length:=by
  have h:=brk_len (l:=l) (room:=room) (gap:=gap) (wrap:=wrap) l.length;unfold breaksP
  split
  · rw[List.length_append,List.length_singleton];omega
  · omega
end
def FB (X:Int) (f:Frm):Prop:=(-X≤f.x∧f.x≤X)∧-X≤f.y∧f.y≤X
section
variable {F:Forest (List Value)} (hg:∀x,GS (stF F x)) {L:LayF} {ks:List Int} (hL:∀k∈ks,LB L k) {iw ih:Int} {c:List Value}
include hg hL
section
variable {a b:Nat} (hb:b≤ks.length)
include hb
theorem lF1_bd {i:Nat} (hi:i<b - a):(0≤(lF1 F L ks iw ih c a b i).w∧(lF1 F L ks iw ih c a b i).w≤1099515822080)∧0≤(lF1 F L ks iw ih c a b i).h∧(lF1 F L ks iw ih c a b i).h≤1099515822080:=by
  have h1:=hL (gI ks (a+i)) (gI_mem (by omega)) iw ih (gI (lSizes F ks iw c a b) i+eA (kS F ks (a+i))) (-1);have h2:0≤eA (kS F ks (a+i))∧eA (kS F ks (a+i))≤4194304:=(hg (gI ks (a+i))).eA_bd;have h3:0≤gI (lSizes F ks iw c a b) i∧gI (lSizes F ks iw c a b) i≤1048576:=gI_bd i;unfold lF1;omega
theorem lH_bd (one:Bool) {B:Int} (hih:ih≤B) (hB:B≤2251799813685248) (hi:-1≤ih):0≤lH F L ks iw ih c a b one∧lH F L ks iw ih c a b one≤2251799813685248:=by
  have h1:=maxN_bd (f:=fun i=>(lF1 F L ks iw ih c a b i).h+mD (kS F ks (a+i))) (B:=4398046511104) (by decide) (b - a) fun i hi=>by
    have h2:=lF1_bd hg hL (iw:=iw) (ih:=ih) (c:=c) hb hi;have h3:=mD_bd (kS F ks (a+i));omega
  unfold lH lMost
  split
  · omega
  · omega
theorem lF2_bd {hh:Int} (hh1:0≤hh∧hh≤2251799813685248) {j:Nat} (hj:j<b - a):((lF2 F L ks iw ih c a b hh j).x=0∧(lF2 F L ks iw ih c a b hh j).y=0)∧0≤(lF2 F L ks iw ih c a b hh j).h∧(lF2 F L ks iw ih c a b hh j).h≤2251799813685248:=by
  unfold lF2
  split
  · have h1 := hL (gI ks (a + j)) (gI_mem (by omega)) iw ih (lF1 F L ks iw ih c a b j).w (limH (kS F ks (a + j)) (max (hh - (eD (kS F ks (a + j)) + mD (kS F ks (a + j)))) 0) ih + eD (kS F ks (a + j)))
    have h2:0≤eD (kS F ks (a+j))∧eD (kS F ks (a+j))≤4194304:=(hg (gI ks (a+j))).eD_bd;have h3:=limH_bd (kS F ks (a+j)) (max (hh - (eD (kS F ks (a+j))+mD (kS F ks (a+j)))) 0) ih;exact⟨⟨h1.2.1,h1.2.2.1⟩,h1.2.2.2.2.1,by omega⟩
  · have h1 := hL (gI ks (a + j)) (gI_mem (by omega)) iw ih (gI (lSizes F ks iw c a b) j + eA (kS F ks (a + j))) (-1)
    have h2:=lF1_bd hg hL (iw:=iw) (ih:=ih) (c:=c) hb hj;exact⟨⟨h1.2.1,h1.2.2.1⟩,h2.2.1,by omega⟩
omit hg hL hb in
theorem lOut_bd (hh:Int) (j:Nat):FB 2199023255552 (lOut F L ks iw ih c a b hh j):=by
  have h0:=mS_bd (kS F ks (a+j)) iw 0;have h3:=mS_bd (kS F ks (a+j)) iw 3;have hx:-1099511627776≤lStart F L ks iw ih c a b j∧lStart F L ks iw ih c a b j≤1099511627776:=addI_bd _ _;have hy:=acrossP_bd (val c 44) ((lF2 F L ks iw ih c a b hh j).h+mD (kS F ks (a+j))) hh;unfold FB lOut;simp only;omega
omit hg hL hb in
theorem lineP_bd (one:Bool):∀f∈lineP F L ks iw ih c a b one,FB 2199023255552 f:=fun f hf=>by
  obtain⟨i,_,rfl⟩:=tab_mem.1 hf;exact lOut_bd _ _
end
theorem rowN_bd {ls:List (Nat×Nat)} (hls:∀p∈ls,p.2≤ks.length) {B:Int} (hih:ih≤B) (hB:B≤2251799813685248) (hi:-1≤ih) (hc:0≤val c 46∧val c 46≤1048576):∀n,n≤ls.length→(0≤(rowN F L ks iw ih c ls n).2∧(rowN F L ks iw ih c ls n).2≤n*2251799814733824)∧∀f∈(rowN F L ks iw ih c ls n).1,FB (2199023255552+n*2251799814733824) f
  | 0,_=>⟨by simp[rowN],fun f hf=>by simp[rowN] at hf⟩
  | n + 1, hn => by
    obtain⟨h1,h2⟩:=rowN_bd hls hih hB hi hc n (by omega);have hp:(ls.getD n (0,0)).2≤ks.length:=by
      rw[List.getD_eq_getElem?_getD,List.getElem?_eq_getElem (by omega)];exact hls _ (List.getElem_mem _)
    have h3:=lH_bd hg hL (iw:=iw) (c:=c) (a:=(ls.getD n (0,0)).1) hp (decide (ls.length=1)) hih hB hi;have e:((n+1:Nat):Int)*2251799814733824=n*2251799814733824+2251799814733824:=by omega
    rw[e];refine⟨?_,fun f hf=>?_⟩
    · simp only [rowN]
      split<;>omega
    · simp only [rowN] at hf
      rcases List.mem_append.1 hf with hf | hf
      · have := h2 f hf
        unfold FB at this ⊢;omega
      · obtain ⟨f0, hf0, rfl⟩ := List.mem_map.1 hf
        have:=lineP_bd _ f0 hf0;unfold FB at this ⊢;simp only[shiftY]
        split<;>omega
omit hg hL in
theorem rowN_len {ls:List (Nat×Nat)} (hls:∀p∈ls,p.2≤p.1+64):∀n,n≤ls.length→(rowN F L ks iw ih c ls n).1.length≤64*n
  | 0,_=>by simp[rowN]
  | n + 1, hn => by
    have h1:=rowN_len hls n (by omega);have hp:(ls.getD n (0,0)).2≤(ls.getD n (0,0)).1+64:=by
      rw[List.getD_eq_getElem?_getD,List.getElem?_eq_getElem (by omega)];exact hls _ (List.getElem_mem _)
    simp only[rowN,List.length_append,List.length_map,lineP,tab_len];omega
end
abbrev q4 (a b c d:Int):Value:=.agg #[.int .i64 a,.int .i64 b,.int .i64 c,.int .i64 d]
abbrev q2 (a b:Int):Value:=.agg #[.int .i64 a,.int .i64 b]
abbrev e4 (s:List Value):Value:=q4 (eS s 0) (eS s 1) (eS s 2) (eS s 3)
abbrev m4 (s:List Value) (b:Int):Value:=q4 (mS s b 0) (mS s b 1) (mS s b 2) (mS s b 3)
theorem fends0_ct:Ct Tryz.prog 141 #[.int .i64 0] [] (fun _=>True) (X:=Unit) (fun _=>.tuple #[.int .i64 3,.int .i64 1]) (fun _=>True) (fun _=>[]):=by
  refine Ci fun w0 _=>?_;refine gg ?_;refine WP.condT rfl ?_;refine gg ?_;exact rt2 fun w hw=>⟨(),rfl,trivial,hw.pk⟩
theorem fsum0_ct (a b c d:Int) (h:-4611686018427387904≤d+b∧d+b≤4611686018427387904):Ct Tryz.prog 136 #[q4 (a) (b) (c) (d),.int .i64 0] [] (fun _=>True) (X:=Unit) (fun _=>.int .i64 (d+b)) (fun _=>True) (fun _=>[]):=by
  refine Ci fun w0 _=>?_;refine gg ?_;refine WPL.ef xB fun b2=>?_;refine gg ?_;refine eF (xC fends0_ct) fun _ _=>?_;refine mv rfl ?_;refine gg ?_;refine WP.drawS none [(0,true),(1,true),(2,true),(3,true),(4,true),(5,true),(6,true),(7,true)] mixed (by kernel_rfl) (by decide) (fun _ h=>h.drawn) ?_;refine gg ?_;exact rt1 fun w hw=>⟨(),rfl,trivial,hw.pk⟩
theorem fends1_ct:Ct Tryz.prog 141 #[.int .i64 1] [] (fun _=>True) (X:=Unit) (fun _=>.tuple #[.int .i64 0,.int .i64 2]) (fun _=>True) (fun _=>[]):=by
  refine Ci fun w0 _=>?_;refine gg ?_;refine WP.condF rfl ?_;refine gg ?_;exact rt2 fun w hw=>⟨(),rfl,trivial,hw.pk⟩
theorem fsum1_ct (a b c d:Int) (h:-4611686018427387904≤a+c∧a+c≤4611686018427387904):Ct Tryz.prog 136 #[q4 (a) (b) (c) (d),.int .i64 1] [] (fun _=>True) (X:=Unit) (fun _=>.int .i64 (a+c)) (fun _=>True) (fun _=>[]):=by
  refine Ci fun w0 _=>?_;refine gg ?_;refine WPL.ef xB fun b2=>?_;refine gg ?_;refine eF (xC fends1_ct) fun _ _=>?_;refine mv rfl ?_;refine gg ?_;refine WP.drawS none [(0,true),(1,true),(2,true),(3,true),(4,true),(5,true),(6,true),(7,true)] mixed (by kernel_rfl) (by decide) (fun _ h=>h.drawn) ?_;refine gg ?_;exact rt1 fun w hw=>⟨(),rfl,trivial,hw.pk⟩
theorem fsums_ct (a b c d:Int) (h1:-4611686018427387904≤d+b∧d+b≤4611686018427387904) (h2:-4611686018427387904≤a+c∧a+c≤4611686018427387904):Ct Tryz.prog 111 #[q4 (a) (b) (c) (d)] [] (fun _=>True) (X:=Unit) (fun _=>q2 (d+b) (a+c)) (fun _=>True) (fun _=>[]):=by
  refine Ci fun w0 _=>?_;refine gg ?_;refine WPL.ef xB fun b1=>?_;refine WPL.ef xAl fun b2=>?_;refine gg ?_;refine wP (some 5) [0,1] [pT 0,pT 2,pF 1,pF 3,pT 4,pF 5] ?_;refine gg ?_;refine dG (xC (fsum0_ct a b c d h1)) fun _ _=>?_;refine dG (xC (fsum1_ct a b c d h2)) fun _ _=>?_;refine tE rfl (v_array (us:=[.int .i64 _,.int .i64 _]) Tryz.underlying88 Tryz.zeroValue88 Tryz.sizeOf3 rfl rfl rfl) ?_;refine dE0 (xW rfl) fun _=>?_;refine gg ?_;exact rtC rfl fun w hw=>⟨(),rfl,trivial,hw.pk⟩
theorem fbegins_ct (a b c d:Int):Ct Tryz.prog 108 #[q4 (a) (b) (c) (d)] [] (fun _=>True) (X:=Unit) (fun _=>q2 d a) (fun _=>True) (fun _=>[]):=by
  refine Ci fun w0 _=>?_;refine gg ?_;refine WPL.ef xB fun b1=>?_;refine WPL.ef xAl fun b2=>?_;refine nl (oo ?_);refine sqR ?_
  iterate 4 refine av ?_
  refine vl (v_array (us:=[.int .i64 _,.int .i64 _]) Tryz.underlying88 Tryz.zeroValue88 Tryz.sizeOf3 rfl rfl rfl) ?_;refine WPL.ef0 (xW rfl) fun _=>?_;refine gg ?_;exact rtC rfl fun w hw=>⟨(),rfl,trivial,hw.pk⟩
theorem fplus_ct (a b c d:Int) (h1:-4611686018427387904≤a+c∧a+c≤4611686018427387904) (h2:-4611686018427387904≤b+d∧b+d≤4611686018427387904):Ct Tryz.prog 107 #[q2 a b,q2 c d] [] (fun _=>True) (X:=Unit) (fun _=>q2 (a+c) (b+d)) (fun _=>True) (fun _=>[]):=by
  refine Ci fun w0 _=>?_;refine gg ?_;refine WPL.ef xB fun b2=>?_;refine WPL.ef xB fun b3=>?_;refine WPL.ef xAl fun b4=>?_;refine nl (oo ?_);refine sqR ?_
  iterate 10 refine av ?_
  refine vl (v_array (us:=[.int .i64 _,.int .i64 _]) Tryz.underlying88 Tryz.zeroValue88 Tryz.sizeOf3 rfl rfl rfl) ?_;refine WPL.ef0 (xW rfl) fun _=>?_;refine gg ?_;exact rtC rfl fun w hw=>⟨(),rfl,trivial,hw.pk⟩
theorem fout_ct (s:List Value) (hs:SOk s):Ct Tryz.prog 79 #[.agg s.toArray] [] (fun _=>True) (X:=Unit) (fun _=>.bool (outB s)) (fun _=>True) (fun _=>[]):=by
  refine Ci fun w0 _=>?_;refine gg ?_;refine WPL.ef (xB (us:=s)) fun b1=>?_;refine gg ?_;refine vl (vS hs 1) ?_
  iterate 2 refine av ?_
  refine WPL.split 6 rfl (fun h6=>?_) (fun h6=>?_)
  ·refine gg ?_;exact rt1 fun w hw=>⟨(),congrArg Value.bool (by unfold outB;simp_all),trivial,hw.pk⟩
  ·refine ag ?_;refine vg (vS hs 1) ?_;refine gg ?_;exact rt1 fun w hw=>⟨(),congrArg Value.bool (by unfold outB;simp_all),trivial,hw.pk⟩
theorem fedges_ct (s:List Value) (hs:SOk s) (hb:∀i,i<4→-4611686018427387904≤val s (31+i)+val s (35+i)∧val s (31+i)+val s (35+i)≤4611686018427387904):Ct Tryz.prog 16 #[.agg s.toArray] [] (fun _=>True) (X:=Unit) (fun _=>e4 s) (fun _=>True) (fun _=>[]):=by
  refine Ci fun w0 _=>?_;have e0:=hb 0 (by decide);have e1:=hb 1 (by decide);have e2:=hb 2 (by decide);have e3:=hb 3 (by decide);dsimp only[Nat.reduceAdd] at e0 e1 e2 e3;refine gg ?_;refine WPL.ef (xB (us:=s)) fun b1=>?_;refine WPL.ef xAl fun b2=>?_;refine gg ?_;refine vl (vS4 hs 31 32 33 34) ?_;refine WPL.ef xAl fun b3=>?_;refine WPL.ef0 (xW rfl) fun _=>?_;refine gg ?_;refine vl (vS4 hs 35 36 37 38) ?_;refine gg ?_;refine WP.loopN 5 ?_;refine WPR.succ ?_;refine gg ?_;refine WP.condT rfl ?_;refine WP.skip (onto_of ?_);refine sq ?_;refine WP.block ?_;refine sqR ?_;refine av ?_;refine vl (v_idx1 (j:=0) (u:=.int .i64 _) Tryz.underlying29 Tryz.isAgg3 Tryz.sizeOf3 rfl rfl rfl (by decide) rfl) ?_;refine gg ?_;refine WPL.ef0 (xS rfl (isI rfl)) fun _=>?_;refine nl (oo ?_);refine WP.region ?_
  iterate 2 refine av ?_
  refine WPL.nil (rounds_of ?_);refine WPR.succ ?_;refine gg ?_;refine WP.condT rfl ?_;refine WP.skip (onto_of ?_);refine sq ?_;refine WP.block ?_;refine sqR ?_;refine av ?_;refine vl (v_idx1 (j:=1) (u:=.int .i64 _) Tryz.underlying29 Tryz.isAgg3 Tryz.sizeOf3 rfl rfl rfl (by decide) rfl) ?_;refine gg ?_;refine WPL.ef0 (xS rfl (isI rfl)) fun _=>?_;refine nl (oo ?_);refine WP.region ?_
  iterate 2 refine av ?_
  refine WPL.nil (rounds_of ?_);refine WPR.succ ?_;refine gg ?_;refine WP.condT rfl ?_;refine WP.skip (onto_of ?_);refine sq ?_;refine WP.block ?_;refine sqR ?_;refine av ?_;refine vl (v_idx1 (j:=2) (u:=.int .i64 _) Tryz.underlying29 Tryz.isAgg3 Tryz.sizeOf3 rfl rfl rfl (by decide) rfl) ?_;refine gg ?_;refine WPL.ef0 (xS rfl (isI rfl)) fun _=>?_;refine nl (oo ?_);refine WP.region ?_
  iterate 2 refine av ?_
  refine WPL.nil (rounds_of ?_);refine WPR.succ ?_;refine gg ?_;refine WP.condT rfl ?_;refine WP.skip (onto_of ?_);refine sq ?_;refine WP.block ?_;refine sqR ?_;refine av ?_;refine vl (v_idx1 (j:=3) (u:=.int .i64 _) Tryz.underlying29 Tryz.isAgg3 Tryz.sizeOf3 rfl rfl rfl (by decide) rfl) ?_;refine gg ?_;refine WPL.ef0 (xS rfl (isI rfl)) fun _=>?_;refine nl (oo ?_);refine WP.region ?_
  iterate 2 refine av ?_
  refine WPL.nil (rounds_of ?_);refine WPR.succ ?_;refine gg ?_;refine WP.condF rfl ?_;refine WP.exit (onto_of ?_);refine gg ?_;refine WPL.ef0 (xW rfl) fun _=>?_;refine gg ?_;exact rtC rfl fun w hw=>⟨(),rfl,trivial,hw.pk⟩
theorem fmargins_ct (s:List Value) (hs:SOk s) (base:Int):Ct Tryz.prog 137 #[.agg s.toArray,.int .i64 base] [] (fun _=>True) (X:=Unit) (fun _=>m4 s base) (fun _=>True) (fun _=>[]):=by
  refine Ci fun w0 _=>?_;refine gg ?_;refine WPL.ef (xB (us:=s)) fun b2=>?_;refine WPL.ef xAl fun b4=>?_;refine nl (oo ?_);refine sqR ?_;refine av ?_;refine vl (v_loadA (cs:=[.int .i64 (val s 15),.int .i64 (val s 16),.int .i64 (val s 17),.int .i64 (val s 18),.int .i64 (val s 19),.int .i64 (val s 20),.int .i64 (val s 21),.int .i64 (val s 22)]) Tryz.isAgg28 Tryz.sizeOf28 rfl (fun w hw=>hw.cl_at (i:=0) rfl 15 (SOk.segE hs 8 15 (by decide) rfl rfl rfl))) ?_;refine gg ?_;refine eF (xC (sides_ct (val s 15) (val s 16) (val s 17) (val s 18) (val s 19) (val s 20) (val s 21) (val s 22) base)) fun _ _=>?_;refine WPL.ef xAl fun b5=>?_;refine WPL.ef0 (xW rfl) fun _=>?_;refine nl (oo ?_);refine sq ?_;refine sqR ?_;refine vl (v_array (us:=[.int .i64 _,.int .i64 _]) Tryz.underlying34 Tryz.zeroValue34 Tryz.sizeOf3 rfl rfl rfl) ?_;refine gg ?_;refine WP.loopN 3 ?_;refine WPR.succ ?_;refine gg ?_;refine WP.condT rfl ?_;refine WP.skip (onto_of ?_);refine sq ?_;refine WP.block ?_;refine sqR ?_;refine vl (v_idx1 (j:=0) (u:=.int .i64 _) Tryz.underlying34 Tryz.isAgg3 Tryz.sizeOf3 rfl rfl rfl (by decide) rfl) ?_;refine gg ?_;refine vl (vS2 hs 15 16) ?_;refine eF (xC (lenof_ct _ _ (-1) 0)) fun _ _=>?_;refine gg ?_;refine WPL.ef0 (xS rfl (isI rfl)) fun _=>?_;refine nl (oo ?_);refine WP.region ?_
  iterate 2 refine av ?_
  refine WPL.nil (rounds_of ?_);refine WPR.succ ?_;refine gg ?_;refine WP.condT rfl ?_;refine WP.skip (onto_of ?_);refine sq ?_;refine WP.block ?_;refine sqR ?_;refine vl (v_idx1 (j:=1) (u:=.int .i64 _) Tryz.underlying34 Tryz.isAgg3 Tryz.sizeOf3 rfl rfl rfl (by decide) rfl) ?_;refine gg ?_;refine vl (vS2 hs 19 20) ?_;refine eF (xC (lenof_ct _ _ (-1) 0)) fun _ _=>?_;refine gg ?_;refine WPL.ef0 (xS rfl (isI rfl)) fun _=>?_;refine nl (oo ?_);refine WP.region ?_
  iterate 2 refine av ?_
  refine WPL.nil (rounds_of ?_);refine WPR.succ ?_;refine gg ?_;refine WP.condF rfl ?_;refine WP.exit (onto_of ?_);refine gg ?_;refine WPL.ef0 (xW rfl) fun _=>?_;refine gg ?_;exact rtC rfl fun w hw=>⟨(),rfl,trivial,hw.pk⟩
theorem fwide_ct (s:List Value) (hs:SOk s) (rw sw:Int) (he:∀i,i<4→0≤val s (31+i)+val s (35+i)∧val s (31+i)+val s (35+i)≤2097152) (hr:-1≤rw∧rw≤2305843009213693952) (hw1:-1≤sw∧sw≤2305843009213693952):Ct Tryz.prog 104 #[.agg s.toArray,.int .i64 rw,.int .i64 sw] [] (fun _=>True) (X:=Unit) (fun _=>.int .i64 (iwP s rw sw)) (fun _=>True) (fun _=>[]):=by
  refine Ci fun w0 _=>?_;have e0:=he 0 (by decide);have e1:=he 1 (by decide);have e2:=he 2 (by decide);have e3:=he 3 (by decide);dsimp only[Nat.reduceAdd] at e0 e1 e2 e3;have ea:0≤eA s∧eA s≤4194304:=by unfold eA eS;dsimp only[Nat.reduceAdd];omega
  have ed:0≤eD s∧eD s≤4194304:=by unfold eD eS;dsimp only[Nat.reduceAdd];omega
  refine gg ?_;refine WPL.ef (xB (us:=s)) fun b3=>?_;refine gg ?_;refine vl (vW (SOk.len hs)) ?_;refine eF (xC (fedges_ct s hs (fun i hi=>by have:=he i hi;omega))) fun _ _=>?_;refine eF (xC (fsum0_ct _ _ _ _ (by show _≤eA s∧eA s≤_;omega))) fun _ _=>?_;refine av ?_;refine nl (oo ?_)
  iterate 2 refine sq ?_
  have hea:eA s=eS s 3+eS s 1:=rfl;refine gg ?_;refine WP.condP rfl (fun h13=>?_) (fun h13=>?_)
  ·have hr:iwP s rw sw=max (sw - eA s) 0:=by unfold iwP;rw[if_neg h13]
   refine gg ?_;exact rt1 fun w hw=>⟨(),congrArg (Value.int .i64) (by rw[hr];try rfl),trivial,hw.pk⟩
  ·have hr:iwP s rw sw=limW s (ofL (val s 3) (val s 4) rw (max (rw - mA s rw - eA s) 0)) rw:=by unfold iwP;rw[if_pos (by omega)]
   have hm:=mA_bd s rw;have hma:mA s rw=mS s rw 3+mS s rw 1:=rfl;have hea:eA s=eS s 3+eS s 1:=rfl;refine gg ?_;refine vl (vW (SOk.len hs)) ?_;refine gg ?_;refine eF (xC (fmargins_ct s hs rw)) fun _ _=>?_;refine eF (xC (fsum0_ct _ _ _ _ (by have:=mA_bd s rw;show _≤mA s rw∧mA s rw≤_;omega))) fun _ _=>?_;refine gg ?_;refine wP none [0] [pT 0,pT 1,pT 2,pT 3,pT 5,pT 6,pT 7,pT 8,pT 9,pF 4,pF 10,pT 11] ?_;refine gg ?_;refine tD (vS2 hs 3 4) ?_;refine gg ?_;refine tD (vS2 hs 7 8) ?_;refine gg ?_;refine tD (vS2 hs 11 12) ?_;refine gg ?_;refine dG (xC (lenof_ct (val s 3) (val s 4) rw _)) fun _ _=>?_;refine dG (xC (limit_ct _ (val s 7) (val s 8) (val s 11) (val s 12) rw)) fun _ _=>?_;refine gg ?_;exact rt1 fun w hw=>⟨(),congrArg (Value.int .i64) (by rw[hr];try rfl),trivial,hw.pk⟩
theorem flimit_ct (s:List Value) (hs:SOk s) (n r:Int):Ct Tryz.prog 110 #[.agg s.toArray,.int .i64 n,.int .i64 r] [] (fun _=>True) (X:=Unit) (fun _=>.int .i64 (limH s n r)) (fun _=>True) (fun _=>[]):=by
  refine Ci fun w0 _=>?_;refine gg ?_;refine WPL.ef (xB (us:=s)) fun b3=>?_;refine gg ?_;refine vl (vS2 hs 9 10) ?_;refine gg ?_;refine vl (vS2 hs 13 14) ?_;refine gg ?_;refine eF (xC (limit_ct n (val s 9) (val s 10) (val s 13) (val s 14) r)) fun _ _=>?_;refine gg ?_;exact rt1 fun w hw=>⟨(),rfl,trivial,hw.pk⟩
theorem fhigh_ct (s:List Value) (hs:SOk s) (rh sh:Int) (he:∀i,i<4→0≤val s (31+i)+val s (35+i)∧val s (31+i)+val s (35+i)≤2097152) (hr:-1≤rh∧rh≤2305843009213693952) (hw1:-1≤sh∧sh≤2305843009213693952):Ct Tryz.prog 105 #[.agg s.toArray,.int .i64 rh,.int .i64 sh] [] (fun _=>True) (X:=Unit) (fun _=>.int .i64 (ihP s rh sh)) (fun _=>True) (fun _=>[]):=by
  refine Ci fun w0 _=>?_;have e0:=he 0 (by decide);have e1:=he 1 (by decide);have e2:=he 2 (by decide);have e3:=he 3 (by decide);dsimp only[Nat.reduceAdd] at e0 e1 e2 e3;have ea:0≤eA s∧eA s≤4194304:=by unfold eA eS;dsimp only[Nat.reduceAdd];omega
  have ed:0≤eD s∧eD s≤4194304:=by unfold eD eS;dsimp only[Nat.reduceAdd];omega
  refine gg ?_;refine WPL.ef (xB (us:=s)) fun b3=>?_;refine gg ?_;refine WP.condP rfl (fun h7=>?_) (fun h7=>?_)
  ·have hr:ihP s rh sh=max (sh - eD s) 0:=by unfold ihP;rw[if_neg h7]
   have hed:eD s=eS s 0+eS s 2:=rfl;refine gg ?_;refine vl (vW (SOk.len hs)) ?_;refine eF (xC (fedges_ct s hs (fun i hi=>by have:=he i hi;omega))) fun _ _=>?_;refine eF (xC (fsum1_ct _ _ _ _ (by show _≤eD s∧eD s≤_;omega))) fun _ _=>?_;refine gg ?_;exact rt1 fun w hw=>⟨(),congrArg (Value.int .i64) (by rw[hr];try rfl),trivial,hw.pk⟩
  ·refine gg ?_;refine vl (vS2 hs 5 6) ?_;refine gg ?_;refine eF (xC (fixed_ct (val s 5) (val s 6) rh)) fun _ _=>?_;refine gg ?_;refine WP.cond rfl (fun h16=>?_) (fun h16=>?_)
   ·have hr:ihP s rh sh=limH s (ofL (val s 5) (val s 6) rh 0) rh:=by unfold ihP;rw[if_pos (by omega),if_pos h16]
    refine gg ?_;refine wP none [0] [pT 0,pT 1,pT 2,pT 3,pT 5,pF 4,pF 6,pT 7] ?_;refine tD (vW (SOk.len hs)) ?_;refine gg ?_;refine tD (vS2 hs 5 6) ?_;refine gg ?_;refine dG (xC (lenof_ct (val s 5) (val s 6) rh 0)) fun _ _=>?_;refine dG (xC (flimit_ct s hs _ rh)) fun _ _=>?_;refine gg ?_;exact rt1 fun w hw=>⟨(),congrArg (Value.int .i64) (by rw[hr];try rfl),trivial,hw.pk⟩
   ·have hr:ihP s rh sh= -1:=by unfold ihP;rw[if_pos (by omega),if_neg (by simp[h16])]
    refine gg ?_;exact rt1 fun w hw=>⟨(),congrArg (Value.int .i64) (by rw[hr];try rfl),trivial,hw.pk⟩
theorem fmoved_ct (s:List Value) (hs:SOk s) (iw ih:Int):Ct Tryz.prog 109 #[.agg s.toArray,q2 iw ih] [] (fun _=>True) (X:=Unit) (fun _=>q2 (movX s iw) (movY s ih)) (fun _=>True) (fun _=>[]):=by
  refine Ci fun w0 _=>?_;refine gg ?_;refine WPL.ef (xB (us:=s)) fun b2=>?_;refine WPL.ef xB fun b3=>?_;refine WPL.ef xAl fun b4=>?_;refine gg ?_;refine WPL.ef xAl fun b5=>?_;refine gg ?_;refine vl (vS hs 1) ?_;refine gg ?_;refine WP.condP rfl (fun h11=>?_) (fun h11=>?_)
  ·have hr1:movX s iw=0:=by unfold movX;rw[if_neg h11]
   have hr2:movY s ih=0:=by unfold movY;rw[if_neg h11]
   refine gg ?_;refine WPL.ef0 (xW rfl) fun _=>?_;refine gg ?_;exact rtC rfl fun w hw=>⟨(),by rw[hr1,hr2];try rfl,trivial,hw.pk⟩
  ·have hr1:movX s iw=ofL (val s 29) (val s 30) iw (-(inO s 1 iw)):=by unfold movX;rw[if_pos (by omega)]
   have hr2:movY s ih=ofL (val s 23) (val s 24) ih (-(inO s 2 ih)):=by unfold movY;rw[if_pos (by omega)]
   refine gg ?_;refine WP.loopN 3 ?_;refine WPR.succ ?_;refine gg ?_;refine WP.condT rfl ?_;refine gg ?_;refine eF (xC fends0_ct) fun _ _=>?_;refine mv rfl ?_;refine av ?_
   skip
   refine av ?_
   skip
   refine gg ?_;refine wP (some 19) [0,1,2] [pT 0,pT 1,pT 2,pT 3,pT 4,pT 5,pT 6,pT 7,pT 8,pT 9,pT 10,pT 11,pT 12,pT 13,pT 14,pF 15,pT 16,pF 17,pT 18,pF 19] ?_;refine gg ?_;refine tD (vS2 hs 29 30) ?_;refine gg ?_;refine tD (vS2 hs 25 26) ?_;refine gg ?_;refine dG (xC (lenof_ct (val s 25) (val s 26) iw 0)) fun _ _=>?_;refine tE rfl (v_neg rfl (by have h1:=ofL_bd (val s 25) (val s 26) iw 0;have h2:=ofL_bd (val s 27) (val s 28) ih 0;omega)) ?_;refine dG (xC (lenof_ct (val s 29) (val s 30) iw _)) fun _ _=>?_;refine gg ?_;refine dE0 (xS rfl (isI rfl)) fun _=>?_;refine WPD.nil (onto_of ?_);refine WP.region ?_
   iterate 2 refine av ?_
   refine WPL.nil (rounds_of ?_);refine WPR.succ ?_;refine gg ?_;refine WP.condT rfl ?_;refine gg ?_;refine eF (xC fends1_ct) fun _ _=>?_;refine mv rfl ?_;refine av ?_
   skip
   refine av ?_
   skip
   refine gg ?_;refine wP (some 19) [0,1,2] [pT 0,pT 1,pT 2,pT 3,pT 4,pT 5,pT 6,pT 7,pT 8,pT 9,pT 10,pT 11,pT 12,pT 13,pT 14,pF 15,pT 16,pF 17,pT 18,pF 19] ?_;refine gg ?_;refine tD (vS2 hs 23 24) ?_;refine gg ?_;refine tD (vS2 hs 27 28) ?_;refine gg ?_;refine dG (xC (lenof_ct (val s 27) (val s 28) ih 0)) fun _ _=>?_;refine tE rfl (v_neg rfl (by have h1:=ofL_bd (val s 25) (val s 26) iw 0;have h2:=ofL_bd (val s 27) (val s 28) ih 0;omega)) ?_;refine dG (xC (lenof_ct (val s 23) (val s 24) ih _)) fun _ _=>?_;refine gg ?_;refine dE0 (xS rfl (isI rfl)) fun _=>?_;refine WPD.nil (onto_of ?_);refine WP.region ?_
   iterate 2 refine av ?_
   refine WPL.nil (rounds_of ?_);refine WPR.succ ?_;refine gg ?_;refine WP.condF rfl ?_;refine WP.exit (onto_of ?_);refine gg ?_;refine WPL.ef0 (xW rfl) fun _=>?_;refine gg ?_;exact rtC rfl fun w hw=>⟨(),by rw[hr1,hr2];try rfl,trivial,hw.pk⟩
theorem WF.kidsL {S:Type} {F:Forest S} {d:Int→Nat} (hF:WF F d) (x:Int):(kidsF F x).length≤4096:=by
  cases e:F x with
  | none=>simp[kidsF,e]
  | some b=>rw[kids_some e];exact hF.kids_le e
theorem kidsI_snoc (A:Option Addr) (n c:Nat) (l:List Int) (x:Int):kidsI A (n+1) c (l++[x])=.row 3 1 A (n+1) c (l.map (Value.int .i64)++[.int .i64 x]):=by simp[kidsI]
section
variable {F:Forest (List Value)} {d:Int→Nat}
def UpI (F:Forest (List Value)) (d:Int→Nat) (n:Nat) (y:Int):Prop:=y= -1∨(hasF F y=true∧d y+1≤n)
theorem UpI.start (hF:WF F d) {x:Int} (h:hasF F x=true):UpI F d 64 x:=.inr ⟨h,by obtain⟨b,hb⟩:=some_has h;have:=hF.deep x b hb;omega⟩
theorem UpI.next (hF:WF F d) {n:Nat} {y:Int} (h:UpI F d n y) (hy:0≤y):∃m,n=m+1∧hasF F y=true∧UpI F d m (upF F y):=by
  rcases h with h | ⟨h1,h2⟩
  · omega
  · refine ⟨n - 1, by omega, h1, ?_⟩
    by_cases h0:y=0
    · left
      obtain⟨b,hb,hu⟩:=hF.root;rw[h0,up_some hb,hu]
    · right
      obtain⟨h3,_,_,h4⟩:=hF.up_has h1 h0;exact⟨h3,by omega⟩
theorem UpI.neg (hF:WF F d) {n:Nat} {y:Int} (h:UpI F d n y) (hy:¬0≤y):shownN F n y=true:=by
  rcases h with rfl | ⟨h1,_⟩
  · cases n with
    | zero=>rfl
    | succ n=>rw[shownN,has_none (hF.neg (by omega))];rfl
  · obtain ⟨b, hb⟩ := some_has h1
    have:=hF.range y b hb;omega
theorem filt_yes {l:List Int} {k:Nat} {x:Int} {p:Int→Bool} (h:l[k]?=some x) (hp:p x=true):(l.take (k+1)).filter p=(l.take k).filter p++[x]:=by rw[takeS h,List.filter_append];simp[hp]
theorem filt_no {l:List Int} {k:Nat} {x:Int} {p:Int→Bool} (h:l[k]?=some x) (hp:p x=false):(l.take (k+1)).filter p=(l.take k).filter p:=by rw[takeS h,List.filter_append];simp[hp]
theorem filt_le (l:List Int) (k:Nat) (p:Int→Bool):((l.take k).filter p).length≤k:=Nat.le_trans (List.length_filter_le _ _) (by rw[List.length_take];omega)
end
abbrev flowQ (F:Forest (List Value)) (a:Bool):Int→Bool:=fun k=>shownF F k&&(outB (stF F k)==a)
theorem fshown_ct (tp mb:Nat) (es:List PE) (hk:LOk es) {d:Int→Nat} (hF:WF (FoR es) d) (x:Int):
    Ct Tryz.prog 29 #[.pointer (some ⟨tp,0,none⟩),.int .i64 x] [treeI tp mb es] (fun _=>True) (X:=Unit) (fun _=>.bool (shownF (FoR es) x)) (fun _=>True) (fun _=>[treeI tp mb es]):=by
  refine Ci fun w0 _=>?_;refine gg ?_;refine eF (xC (has_ct tp mb es x)) fun _ _=>?_;refine gg ?_;refine WP.cond rfl (fun h8=>?_) (fun h8=>?_)
  ·have hr:shownF (FoR es) x=false:=by unfold shownF;simp at h8;rw[h8];rfl
   refine gg ?_;exact rt1 fun w hw=>⟨(),congrArg Value.bool hr.symm,trivial,hw.pk⟩
  ·have hx:hasF (FoR es) x=true:=by simpa using h8
   refine gg ?_;refine WP.loopK (X:=Nat×Int) [0] (fun p=>[(1,.int .i64 p.2)]) (fun p w=>(shownF (FoR es) x=shownN (FoR es) p.1 p.2∧UpI (FoR es) d p.1 p.2)∧St w0 (foots [treeI tp mb es]) [treeI tp mb es] w) (fun p=>p.1) (64,x) ⟨rfl,trivial⟩ (fun w hw=>⟨⟨by unfold shownF;rw[hx];rfl,UpI.start hF hx⟩,hw⟩) (fun p ρ0=>?_);refine WP.fact (fun⟨hs,hu⟩=>?_);refine gg ?_;refine WP.condP rfl (fun h10=>?_) (fun h10=>?_)
   ·obtain⟨m,hm,hhas,hu2⟩:=hu.next hF (by omega);have hsn:shownN (FoR es) p.1 p.2=(decide (val (stF (FoR es) p.2) 0≠3)&&shownN (FoR es) m (upF (FoR es) p.2)):=by rw[hm,shownN,if_pos hhas]
    refine gg ?_;refine eF (xC (style_ct tp mb es hk p.2)) fun _ _=>?_;refine vl (v_part (u:=.int .i64 (val (stF (FoR es) (p.2)) 0)) Tryz.underlying36 rfl Tryz.isAgg22 rfl (toArr (SOk.int (hk.styOk (p.2)) 0 (by decide) rfl))) ?_;refine gg ?_;refine WP.condP rfl (fun h18=>?_) (fun h18=>?_)
    ·have hr:shownF (FoR es) x=false:=by rw[hs,hsn,decide_eq_false (fun h=>h h18),Bool.false_and]
     refine gg ?_;exact rt1 fun w hw=>⟨(),congrArg Value.bool hr.symm,trivial,hw.pk⟩
    ·have h18n:val (stF (FoR es) p.2) 0≠3:=h18;refine gg ?_;refine eF (xC (up_ct tp mb es hk p.2)) fun _ _=>?_;refine av ?_;exact nl fun w hw=>⟨rfl,(m,upF (FoR es) p.2),(by simp only;omega),⟨rfl,jP,trivial⟩,⟨by rw[hs,hsn,decide_eq_true h18n,Bool.true_and],hu2⟩,hw⟩
   ·have hr:shownF (FoR es) x=true:=by rw[hs];exact hu.neg hF (by omega)
    refine WP.exit (onto_of ?_);refine gg ?_;exact rt1 fun w hw=>⟨(),congrArg Value.bool hr.symm,trivial,hw.pk⟩
theorem fkids_ct (tp mb:Nat) (es:List PE) (hk:LOk es) {d:Int→Nat} (hF:WF (FoR es) d) (x:Int) (a:Bool):
    Ct Tryz.prog 43 #[.pointer (some ⟨tp,0,none⟩),.int .i64 x,.bool a] [treeI tp mb es] (fun _=>True) (X:=Option Addr×Nat) (fun p=>.slice p.1 (kidsP (FoR es) x a).length p.2) (fun _=>True) (fun p=>[treeI tp mb es,kidsI p.1 (kidsP (FoR es) x a).length p.2 (kidsP (FoR es) x a)]):=by
  refine Ci fun w0 _=>?_;refine sqR ?_;refine av ?_;refine nl (oo ?_);refine sqR ?_;refine av ?_;refine nl (oo ?_)
  iterate 2 refine sq ?_
  have hkn:=hF.kidsL x;refine gg ?_;refine eF (xC (kids_ct tp mb es hk x (by have:=hF.kidsL x;omega))) fun⟨kA,kc⟩ _=>?_;refine gg ?_;refine WP.loopK (X:=Nat×Option Addr×Nat) [0,2,12,13] (fun p=>[(7,.slice p.2.1 (((kidsF (FoR es) x).take p.1).filter (flowQ (FoR es) a)).length p.2.2),(14,.int .i64 (p.1:Int))]) (fun p w=>p.1≤(kidsF (FoR es) x).length∧St w0 (foots [treeI tp mb es]) [treeI tp mb es,kidsI kA (kidsF (FoR es) x).length kc (kidsF (FoR es) x),kidsI p.2.1 (((kidsF (FoR es) x).take p.1).filter (flowQ (FoR es) a)).length p.2.2 (((kidsF (FoR es) x).take p.1).filter (flowQ (FoR es) a))] w) (fun p=>(kidsF (FoR es) x).length - p.1) (0,none,0) ⟨rfl,rfl,trivial⟩ (fun w hw=>⟨Nat.zero_le _,hw.nilRow 3 1⟩) (fun p ρ0=>?_);obtain⟨k,oA,oc⟩:=p;dsimp only;refine WP.fact (fun hkl=>?_);refine gg ?_;refine WP.condP rfl (fun h15=>?_) (fun h15=>?_)
  ·obtain⟨kid,hkid⟩:∃kid,(kidsF (FoR es) x)[k]?=some kid:=⟨_,List.getElem?_eq_getElem (by omega)⟩;have hfl:=filt_le (kidsF (FoR es) x) k (flowQ (FoR es) a);refine WP.holds (fun w hw=>hw.row_pos (i:=1) rfl (by omega)) (fun⟨kb,hA⟩=>?_);subst hA;refine gg ?_;refine vl (vR 1 (by rw[List.getElem?_map,hkid];rfl)) ?_;refine gg ?_;refine eF (xC (fshown_ct tp mb es hk hF kid)) fun _ _=>?_;refine av ?_;refine WPL.splitB 21 rfl (fun h21=>?_) (fun h21=>?_)
   ·refine gg ?_;refine WPL.efG (xC (style_ct tp mb es hk kid)) (fun _=>?_);refine WPL.fact (fun _=>?_);refine WPL.efG (xC (fout_ct _ (hk.styOk kid))) (fun _=>?_);refine WPL.fact (fun _=>?_);refine ag ?_;refine vg (v_eqB Tryz.underlying4 rfl rfl) ?_;refine gg ?_;refine WP.cond rfl (fun h28=>?_) (fun h28=>?_)
    ·have hq:flowQ (FoR es) a kid=true:=by simp only[flowQ];simp_all
     have hfy:=filt_yes hkid hq;refine gg ?_;refine WPL.ef (xN (L1 rfl)) fun g31=>?_;refine WPL.ef (xP 1 3) fun⟨A32,c32⟩=>?_;refine av ?_;refine nl (oo ?_);refine WP.region ?_
     iterate 2 refine av ?_
     exact nl fun w hw=>⟨rfl,(k+1,A32,c32),(by simp only;omega),⟨(via (.slice A32 ((((kidsF (FoR es) x).take k).filter (flowQ (FoR es) a)).length+1) c32) rfl (by simp only;rw[hfy,List.length_append];rfl)),rfl,jP,jB,jS,jI,trivial⟩,⟨by simp only;omega,by simp only;rw[hfy,List.length_append,List.length_singleton,kidsI_snoc];exact hw.pk⟩⟩
    ·have hq:flowQ (FoR es) a kid=false:=by simp only[flowQ];simp_all
     have hfn:=filt_no hkid hq;refine WP.skip (onto_of ?_);refine WP.region ?_
     iterate 2 refine av ?_
     exact nl fun w hw=>⟨rfl,(k+1,oA,oc),(by simp only;omega),⟨(via (.slice oA ((((kidsF (FoR es) x).take k).filter (flowQ (FoR es) a)).length) oc) rfl (by simp only;rw[hfn])),rfl,jP,jB,jS,jI,trivial⟩,⟨by simp only;omega,by simp only;rw[hfn];exact hw.pk⟩⟩
   ·refine gg ?_;have hq:flowQ (FoR es) a kid=false:=by simp only[flowQ];simp_all
    have hfn:=filt_no hkid hq;refine WP.condF rfl ?_;refine WP.skip (onto_of ?_);refine WP.region ?_
    iterate 2 refine av ?_
    exact nl fun w hw=>⟨rfl,(k+1,oA,oc),(by simp only;omega),⟨(via (.slice oA ((((kidsF (FoR es) x).take k).filter (flowQ (FoR es) a)).length) oc) rfl (by simp only;rw[hfn])),rfl,jP,jB,jS,jI,trivial⟩,⟨by simp only;omega,by simp only;rw[hfn];exact hw.pk⟩⟩
  ·obtain rfl:k=(kidsF (FoR es) x).length:=by omega
   have htk:(((kidsF (FoR es) x).take (kidsF (FoR es) x).length).filter (flowQ (FoR es) a))=kidsP (FoR es) x a:=by rw[List.take_of_length_le (Nat.le_refl _)];rfl
   refine WP.exit (onto_of ?_);refine gg ?_;exact rt1 fun w hw=>⟨(oA,oc),by rw[←htk];rfl,trivial,by rw[←htk];exact hw.pk⟩
theorem fflows_ct (tp mb:Nat) (es:List PE) (hk:LOk es) {d:Int→Nat} (hF:WF (FoR es) d) (x:Int):
    Ct Tryz.prog 21 #[.pointer (some ⟨tp,0,none⟩),.int .i64 x] [treeI tp mb es] (fun _=>True) (X:=Option Addr×Nat) (fun p=>.slice p.1 (kidsP (FoR es) x false).length p.2) (fun _=>True) (fun p=>[treeI tp mb es,kidsI p.1 (kidsP (FoR es) x false).length p.2 (kidsP (FoR es) x false)]):=by
  refine Ci fun w0 _=>?_;refine gg ?_;refine eF (xC (fkids_ct tp mb es hk hF x false)) fun⟨kA,kc⟩ _=>?_;refine gg ?_;exact rt1 fun w hw=>⟨(kA,kc),rfl,trivial,hw.pk⟩
abbrev flI (fb tp lb:Nat) (ww wh:Int):HI:=.cl fb 91 [.pointer (some ⟨tp,0,none⟩),.int .i64 ww,.int .i64 wh,.map (some lb)]
theorem GS.eS_all {s:List Value} (h:GS s):∀i,i<4→0≤val s (31+i)+val s (35+i)∧val s (31+i)+val s (35+i)≤2097152:=fun i hi=>h.eS_bd i hi
theorem GS.eS_far {s:List Value} (h:GS s):∀i,i<4→-4611686018427387904≤val s (31+i)+val s (35+i)∧val s (31+i)+val s (35+i)≤4611686018427387904:=fun i hi=>by have:=h.eS_bd i hi;unfold eS at this;omega
section
variable {F:Forest (List Value)} {d:Int→Nat}
theorem open_up {x:Int} {b:Bool} (h:¬0≤upF F x):openP F x b=false:=by unfold openP;rw[decide_eq_false h];simp
theorem next_has (hF:WF F d) {x k:Int} {b:Bool} (h:nextP F x b=some k):k∈kidsP F x false:=by
  unfold nextP at h
  split at h
  · split at h
    · exact List.mem_of_getLast? h
    · exact List.mem_of_head? h
  · cases h
theorem kid_rank' (hF:WF F d) {x k:Int} (h:k∈kidsF F x):hasF F k=true∧d k=d x+1∧0≤k∧hasF F x=true:=by
  cases e:F x with
  | none=>simp[kidsF,e] at h
  | some b =>
    rw[kids_some e] at h;obtain⟨_,c,hc,_⟩:=hF.kid x b e k h;exact⟨has_some hc,hF.kid_rank e h,(hF.range k c hc).1,has_some e⟩
theorem nextP_no {x:Int} {b:Bool} (h:openP F x b=false):nextP F x b=none:=by unfold nextP;rw[h];rfl
theorem nextP_nil {x:Int} {b:Bool} (h:kidsP F x false=[]):nextP F x b=none:=by unfold nextP;rw[h];split<;>simp
theorem nextP_top {x k:Int} (h:openP F x false=true) (hk:(kidsP F x false)[0]?=some k):nextP F x false=some k:=by
  unfold nextP;rw[h];rw[←List.head?_eq_getElem?] at hk
  simpa using hk
theorem nextP_bot {x k:Int} (h:openP F x true=true) (hk:(kidsP F x false)[(kidsP F x false).length - 1]?=some k):nextP F x true=some k:=by
  unfold nextP;rw[h];rw[←List.getLast?_eq_getElem?] at hk
  simpa using hk
theorem ends_go {n:Nat} {x k:Int} {b:Bool} (h:nextP F x b=some k):endsP F (n+1) x b=mS (stF F x) 0 (if b then 2 else 0)::endsP F n k b:=by rw[endsP,h]
theorem ends_stop {n:Nat} {x:Int} {b:Bool} (h:nextP F x b=none):endsP F (n+1) x b=[mS (stF F x) 0 (if b then 2 else 0)]:=by rw[endsP,h]
def DnI (F:Forest (List Value)) (d:Int→Nat) (n:Nat) (y:Int):Prop:=y= -1∨(hasF F y=true∧64≤n+d y∧0≤y)
def restP (F:Forest (List Value)) (n:Nat) (y:Int) (b:Bool):List Int:=if y= -1 then [] else endsP F n y b
end
section
variable (fb lb:Nat) (ww wh:Int)
theorem fopen0_ct (tp mb:Nat) (es:List PE) (hk:LOk es) {d:Int→Nat} (hF:WF (FoR es) d) (hg:∀x,GS (stF (FoR es) x)) (x:Int):
    Ct Tryz.prog 158 #[.pointer (some ⟨fb,0,none⟩),.int .i64 x,.int .i64 0] [treeI tp mb es,flI fb tp lb ww wh] (fun _=>True) (X:=Unit) (fun _=>.bool (openP (FoR es) x false)) (fun _=>True) (fun _=>[treeI tp mb es,flI fb tp lb ww wh]):=by
  refine Ci fun w0 _=>?_;refine gg ?_;refine eF (xC (style_ct tp mb es hk x)) fun _ _=>?_;refine WPL.ef xAl fun b7=>?_;refine WPL.ef0 (xZ (hk.styOk (x)) rfl) fun _=>?_;refine gg ?_;refine eF (xC (up_ct tp mb es hk x)) fun _ _=>?_;refine av ?_;refine nl (oo ?_);refine sq ?_;refine sqR ?_
  iterate 3 refine av ?_
  refine WPL.split 24 rfl (fun h24=>?_) (fun h24=>?_)
  ·refine gg ?_;refine WP.condT rfl ?_;refine gg ?_;exact rt1 fun w hw=>⟨(),congrArg Value.bool (by first | (rw[open_up (by omega)];done) | (unfold openP;simp_all;done) | (unfold openP;simp_all [eS];done)),trivial,hw.pk⟩
  ·refine gg ?_;refine WPL.efG (xC (style_ct tp mb es hk (upF (FoR es) x))) (fun _=>?_);refine WPL.fact (fun _=>?_);refine vg (v_part (u:=.int .i64 (val (stF (FoR es) (upF (FoR es) x)) 0)) Tryz.underlying36 rfl Tryz.isAgg22 rfl (toArr (SOk.int (hk.styOk (upF (FoR es) x)) 0 (by decide) rfl))) ?_;refine ag ?_
   iterate 2 refine av ?_
   refine WPL.split 34 rfl (fun h34=>?_) (fun h34=>?_)
   ·refine gg ?_;refine WP.condT rfl ?_;refine gg ?_;exact rt1 fun w hw=>⟨(),congrArg Value.bool (by first | (rw[open_up (by omega)];done) | (unfold openP;simp_all;done) | (unfold openP;simp_all [eS];done)),trivial,hw.pk⟩
   ·refine vg (vW (SOk.len (hk.styOk (x)))) ?_;refine WPL.efG (xC (fout_ct _ (hk.styOk x))) (fun _=>?_);refine WPL.fact (fun _=>?_);refine gg ?_;refine WP.cond rfl (fun h37=>?_) (fun h37=>?_)
    ·refine gg ?_;exact rt1 fun w hw=>⟨(),congrArg Value.bool (by first | (rw[open_up (by omega)];done) | (unfold openP;simp_all;done) | (unfold openP;simp_all [eS];done)),trivial,hw.pk⟩
    ·refine WP.skip (onto_of ?_);refine sqR ?_
     iterate 3 refine av ?_
     iterate 10 refine sk ?_
     iterate 2 refine av ?_
     refine nl (oo ?_);refine sqR ?_
     iterate 2 refine av ?_
     refine ag ?_;refine vg (vS (hk.styOk (x)) 0) ?_;refine ag ?_
     iterate 2 refine av ?_
     refine WPL.split 58 rfl (fun h58=>?_) (fun h58=>?_)
     ·refine ag ?_;refine vg (vS (hk.styOk (x)) 2) ?_;refine ag ?_
      iterate 2 refine av ?_
      refine WPL.split 63 rfl (fun h63=>?_) (fun h63=>?_)
      ·refine vg (vW (SOk.len (hk.styOk (x)))) ?_;refine WPL.efG (xC (fedges_ct _ (hk.styOk x) (hg x).eS_far)) (fun _=>?_);refine WPL.fact (fun _=>?_);refine ag ?_;refine vg (v_idx1 (j:=0) (u:=.int .i64 _) Tryz.underlying29 Tryz.isAgg3 Tryz.sizeOf3 rfl rfl rfl (by decide) rfl) ?_;refine gg ?_;exact rt1 fun w hw=>⟨(),congrArg Value.bool (by first | (rw[open_up (by omega)];done) | (unfold openP;simp_all;done) | (unfold openP;simp_all [eS];done)),trivial,hw.pk⟩
      ·refine gg ?_;exact rt1 fun w hw=>⟨(),congrArg Value.bool (by first | (rw[open_up (by omega)];done) | (unfold openP;simp_all;done) | (unfold openP;simp_all [eS];done)),trivial,hw.pk⟩
     ·refine gg ?_;exact rt1 fun w hw=>⟨(),congrArg Value.bool (by first | (rw[open_up (by omega)];done) | (unfold openP;simp_all;done) | (unfold openP;simp_all [eS];done)),trivial,hw.pk⟩
theorem fend0_ct (tp mb:Nat) (es:List PE) (hk:LOk es) {d:Int→Nat} (hF:WF (FoR es) d) (hg:∀x,GS (stF (FoR es) x)) (x0:Int) (hx:hasF (FoR es) x0=true) (hx0:0≤x0):
    Ct Tryz.prog 156 #[.pointer (some ⟨fb,0,none⟩),.int .i64 x0,.int .i64 0] [treeI tp mb es,flI fb tp lb ww wh] (fun _=>True) (X:=Unit) (fun _=>.int .i64 (endP (FoR es) x0 false)) (fun _=>True) (fun _=>[treeI tp mb es,flI fb tp lb ww wh]):=by
  refine Ci fun w0 _=>?_;refine gg ?_;refine WP.loopK (X:=Nat×Int×List Int×Option Addr×Nat) [0,2] (fun p=>[(1,.int .i64 p.2.1),(7,.slice p.2.2.2.1 p.2.2.1.length p.2.2.2.2)]) (fun p w=>(DnI (FoR es) d p.1 p.2.1∧endsP (FoR es) 64 x0 false=p.2.2.1++restP (FoR es) p.1 p.2.1 false∧p.2.2.1.length+p.1≤64)∧St w0 (foots [treeI tp mb es,flI fb tp lb ww wh]) [treeI tp mb es,flI fb tp lb ww wh,kidsI p.2.2.2.1 p.2.2.1.length p.2.2.2.2 p.2.2.1] w) (fun p=>p.1) (64,x0,[],none,0) ⟨rfl,rfl,trivial⟩ (fun w hw=>⟨⟨.inr ⟨hx,by simp only;omega,hx0⟩,by simp only[restP];rw[if_neg (by omega)];rfl,by simp⟩,hw.nilRow 3 1⟩) (fun p ρ0=>?_);obtain⟨n,x,acc,oA,oc⟩:=p;dsimp only;refine WP.fact (fun⟨hdn,hacc,hlen⟩=>?_);refine gg ?_;refine WP.condP rfl (fun h10=>?_) (fun h10=>?_)
  ·obtain⟨hh,hn64,hx1⟩:hasF (FoR es) x=true∧64≤n+d x∧0≤x:=hdn.elim (fun h=>absurd h (by omega)) id;obtain⟨bq,hbq⟩:=some_has hh;have hdp:=hF.deep x bq hbq;obtain⟨m,rfl⟩:∃m,n=m+1:=⟨n - 1,by omega⟩;refine gg ?_;refine eF (xC (style_ct tp mb es hk x)) fun _ _=>?_;refine vl (v_partA (us:=#[.int .i64 (val (stF (FoR es) (x)) 15),.int .i64 (val (stF (FoR es) (x)) 16),.int .i64 (val (stF (FoR es) (x)) 17),.int .i64 (val (stF (FoR es) (x)) 18),.int .i64 (val (stF (FoR es) (x)) 19),.int .i64 (val (stF (FoR es) (x)) 20),.int .i64 (val (stF (FoR es) (x)) 21),.int .i64 (val (stF (FoR es) (x)) 22)]) Tryz.underlying36 rfl Tryz.isAgg28 Tryz.sizeOf28 rfl (extArr (by have h:=SOk.seg (hk.styOk (x)) 8 15 (by decide) rfl;exact h))) ?_;refine av ?_;refine vl (v_idxA (j:=0) (us:=#[.int .i64 _,.int .i64 _]) Tryz.underlying28 Tryz.isAgg27 Tryz.sizeOf27 rfl rfl rfl (by decide) rfl) ?_;refine eF (xC (lenof_ct _ _ (-1) 0)) fun _ _=>?_;refine WPL.ef (xN (L1 rfl)) fun g22=>?_;refine WPL.ef (xP 1 3) fun⟨A23,c23⟩=>?_;refine gg ?_;refine eF (xC (fflows_ct tp mb es hk hF x)) fun⟨kA,kc⟩ _=>?_;refine gg ?_;refine eF (xC (fopen0_ct fb lb ww wh tp mb es hk hF hg x)) fun _ _=>?_
   iterate 2 refine av ?_
   refine WPL.splitB 42 rfl (fun h42=>?_) (fun h42=>?_)
   ·refine gg ?_;have hnx:nextP (FoR es) x false=none:=nextP_no (by simpa using h42);have hrest:restP (FoR es) (m+1) x false=[mS (stF (FoR es) x) 0 0]:=by unfold restP;rw[if_neg (by omega)];exact ends_stop hnx
    refine WP.condT rfl ?_;refine WP.region ?_;refine av ?_;exact nl fun w hw=>⟨rfl,(m,-1,acc++[mS (stF (FoR es) x) 0 0],A23,c23),(by simp only;omega),⟨rfl,(via (.slice A23 (acc.length+1) c23) rfl (by simp only;rw[List.length_append];rfl)),jP,jI,trivial⟩,⟨⟨.inl rfl,by simp only;rw[hacc,hrest];simp[restP],by simp only[List.length_append,List.length_singleton];omega⟩,by simp only;rw[List.length_append,List.length_singleton,kidsI_snoc];exact(hw.sel [3,4,0] (by decide))⟩⟩
   ·refine gg ?_;refine WP.condP rfl (fun h36=>?_) (fun h36=>?_)
    ·have hnx:nextP (FoR es) x false=none:=nextP_nil (List.eq_nil_of_length_eq_zero (by omega));have hrest:restP (FoR es) (m+1) x false=[mS (stF (FoR es) x) 0 0]:=by unfold restP;rw[if_neg (by omega)];exact ends_stop hnx
     refine WP.region ?_;refine av ?_;exact nl fun w hw=>⟨rfl,(m,-1,acc++[mS (stF (FoR es) x) 0 0],A23,c23),(by simp only;omega),⟨rfl,(via (.slice A23 (acc.length+1) c23) rfl (by simp only;rw[List.length_append];rfl)),jP,jI,trivial⟩,⟨⟨.inl rfl,by simp only;rw[hacc,hrest];simp[restP],by simp only[List.length_append,List.length_singleton];omega⟩,by simp only;rw[List.length_append,List.length_singleton,kidsI_snoc];exact(hw.sel [3,4,0] (by decide))⟩⟩
    ·have hkl:=Nat.le_trans (kidsP_le (FoR es) x false) (hF.kidsL x);have hln:(kidsP (FoR es) x false).length≠0:=by omega
     obtain⟨kid,hkid⟩:∃k,(kidsP (FoR es) x false)[0]?=some k:=⟨_,List.getElem?_eq_getElem (by omega)⟩;refine WP.holds (fun w hw=>hw.row_pos (i:=2) rfl (by omega)) (fun⟨kb,hA⟩=>?_);subst hA;have hnx:nextP (FoR es) x false=some kid:=nextP_top (by simpa using h42) hkid;have hrest:restP (FoR es) (m+1) x false=mS (stF (FoR es) x) 0 0::endsP (FoR es) m kid false:=by unfold restP;rw[if_neg (by omega)];exact ends_go hnx
     obtain⟨hk1,hk2,hk3,_⟩:=kid_rank' hF (kidsP_sub (next_has hF hnx));refine gg ?_;refine WP.condT rfl ?_;refine gg ?_;refine vl (vR 2 (by rw[List.getElem?_map,hkid];rfl)) ?_;refine av ?_;exact nl fun w hw=>⟨rfl,(m,kid,acc++[mS (stF (FoR es) x) 0 0],A23,c23),(by simp only;omega),⟨rfl,(via (.slice A23 (acc.length+1) c23) rfl (by simp only;rw[List.length_append];rfl)),jP,jI,trivial⟩,⟨⟨.inr ⟨hk1,by simp only;omega,hk3⟩,by simp only;rw[hacc,hrest];simp only[restP];rw[if_neg (by omega)];simp,by simp only[List.length_append,List.length_singleton];omega⟩,by simp only;rw[List.length_append,List.length_singleton,kidsI_snoc];exact(hw.sel [3,4,0] (by decide))⟩⟩
  ·have hfin:endsP (FoR es) 64 x0 false=acc:=hdn.elim (fun h=>by rw[hacc,h];simp[restP]) (fun h=>by omega);refine WP.exit (onto_of ?_);refine gg ?_;refine eF (xC (collapse_ct oA oc acc (by omega)) (hF:=fun w hw=>hw.rd_row1 (i:=2) (f:=Value.int .i64) rfl)) fun _ _=>?_;refine gg ?_;exact rt1 fun w hw=>⟨(),congrArg (Value.int .i64) (by unfold endP;rw[hfin]),trivial,hw.pk⟩
theorem fopen2_ct (tp mb:Nat) (es:List PE) (hk:LOk es) {d:Int→Nat} (hF:WF (FoR es) d) (hg:∀x,GS (stF (FoR es) x)) (x:Int):
    Ct Tryz.prog 158 #[.pointer (some ⟨fb,0,none⟩),.int .i64 x,.int .i64 2] [treeI tp mb es,flI fb tp lb ww wh] (fun _=>True) (X:=Unit) (fun _=>.bool (openP (FoR es) x true)) (fun _=>True) (fun _=>[treeI tp mb es,flI fb tp lb ww wh]):=by
  refine Ci fun w0 _=>?_;refine gg ?_;refine eF (xC (style_ct tp mb es hk x)) fun _ _=>?_;refine WPL.ef xAl fun b7=>?_;refine WPL.ef0 (xZ (hk.styOk (x)) rfl) fun _=>?_;refine gg ?_;refine eF (xC (up_ct tp mb es hk x)) fun _ _=>?_;refine av ?_;refine nl (oo ?_);refine sq ?_;refine sqR ?_
  iterate 3 refine av ?_
  refine WPL.split 24 rfl (fun h24=>?_) (fun h24=>?_)
  ·refine gg ?_;refine WP.condT rfl ?_;refine gg ?_;exact rt1 fun w hw=>⟨(),congrArg Value.bool (by first | (rw[open_up (by omega)];done) | (unfold openP;simp_all;done) | (unfold openP;simp_all [eS];done)),trivial,hw.pk⟩
  ·refine gg ?_;refine WPL.efG (xC (style_ct tp mb es hk (upF (FoR es) x))) (fun _=>?_);refine WPL.fact (fun _=>?_);refine vg (v_part (u:=.int .i64 (val (stF (FoR es) (upF (FoR es) x)) 0)) Tryz.underlying36 rfl Tryz.isAgg22 rfl (toArr (SOk.int (hk.styOk (upF (FoR es) x)) 0 (by decide) rfl))) ?_;refine ag ?_
   iterate 2 refine av ?_
   refine WPL.split 34 rfl (fun h34=>?_) (fun h34=>?_)
   ·refine gg ?_;refine WP.condT rfl ?_;refine gg ?_;exact rt1 fun w hw=>⟨(),congrArg Value.bool (by first | (rw[open_up (by omega)];done) | (unfold openP;simp_all;done) | (unfold openP;simp_all [eS];done)),trivial,hw.pk⟩
   ·refine vg (vW (SOk.len (hk.styOk (x)))) ?_;refine WPL.efG (xC (fout_ct _ (hk.styOk x))) (fun _=>?_);refine WPL.fact (fun _=>?_);refine gg ?_;refine WP.cond rfl (fun h37=>?_) (fun h37=>?_)
    ·refine gg ?_;exact rt1 fun w hw=>⟨(),congrArg Value.bool (by first | (rw[open_up (by omega)];done) | (unfold openP;simp_all;done) | (unfold openP;simp_all [eS];done)),trivial,hw.pk⟩
    ·refine WP.skip (onto_of ?_);refine sqR ?_
     iterate 3 refine av ?_
     iterate 2 refine ag ?_
     refine vg (vS (hk.styOk (x)) 5) ?_
     iterate 2 refine ag ?_
     refine WPL.split 45 rfl (fun h45=>?_) (fun h45=>?_)
     ·iterate 2 refine ag ?_
      refine vg (vS (hk.styOk (x)) 9) ?_
      iterate 2 refine ag ?_
      iterate 2 refine av ?_
      refine nl (oo ?_);refine sqR ?_
      iterate 2 refine av ?_
      refine WPL.split 53 rfl (fun h53=>?_) (fun h53=>?_)
      ·refine ag ?_;refine vg (vS (hk.styOk (x)) 0) ?_;refine ag ?_
       iterate 2 refine av ?_
       refine WPL.split 58 rfl (fun h58=>?_) (fun h58=>?_)
       ·refine ag ?_;refine vg (vS (hk.styOk (x)) 2) ?_;refine ag ?_
        iterate 2 refine av ?_
        refine WPL.split 63 rfl (fun h63=>?_) (fun h63=>?_)
        ·refine vg (vW (SOk.len (hk.styOk (x)))) ?_;refine WPL.efG (xC (fedges_ct _ (hk.styOk x) (hg x).eS_far)) (fun _=>?_);refine WPL.fact (fun _=>?_);refine ag ?_;refine vg (v_idx1 (j:=2) (u:=.int .i64 _) Tryz.underlying29 Tryz.isAgg3 Tryz.sizeOf3 rfl rfl rfl (by decide) rfl) ?_;refine gg ?_;exact rt1 fun w hw=>⟨(),congrArg Value.bool (by first | (rw[open_up (by omega)];done) | (unfold openP;simp_all;done) | (unfold openP;simp_all [eS];done)),trivial,hw.pk⟩
        ·refine gg ?_;exact rt1 fun w hw=>⟨(),congrArg Value.bool (by first | (rw[open_up (by omega)];done) | (unfold openP;simp_all;done) | (unfold openP;simp_all [eS];done)),trivial,hw.pk⟩
       ·refine gg ?_;exact rt1 fun w hw=>⟨(),congrArg Value.bool (by first | (rw[open_up (by omega)];done) | (unfold openP;simp_all;done) | (unfold openP;simp_all [eS];done)),trivial,hw.pk⟩
      ·refine gg ?_;exact rt1 fun w hw=>⟨(),congrArg Value.bool (by first | (rw[open_up (by omega)];done) | (unfold openP;simp_all;done) | (unfold openP;simp_all [eS];done)),trivial,hw.pk⟩
     ·refine gg ?_;exact rt1 fun w hw=>⟨(),congrArg Value.bool (by first | (rw[open_up (by omega)];done) | (unfold openP;simp_all;done) | (unfold openP;simp_all [eS];done)),trivial,hw.pk⟩
theorem fend2_ct (tp mb:Nat) (es:List PE) (hk:LOk es) {d:Int→Nat} (hF:WF (FoR es) d) (hg:∀x,GS (stF (FoR es) x)) (x0:Int) (hx:hasF (FoR es) x0=true) (hx0:0≤x0):
    Ct Tryz.prog 156 #[.pointer (some ⟨fb,0,none⟩),.int .i64 x0,.int .i64 2] [treeI tp mb es,flI fb tp lb ww wh] (fun _=>True) (X:=Unit) (fun _=>.int .i64 (endP (FoR es) x0 true)) (fun _=>True) (fun _=>[treeI tp mb es,flI fb tp lb ww wh]):=by
  refine Ci fun w0 _=>?_;refine gg ?_;refine WP.loopK (X:=Nat×Int×List Int×Option Addr×Nat) [0,2] (fun p=>[(1,.int .i64 p.2.1),(7,.slice p.2.2.2.1 p.2.2.1.length p.2.2.2.2)]) (fun p w=>(DnI (FoR es) d p.1 p.2.1∧endsP (FoR es) 64 x0 true=p.2.2.1++restP (FoR es) p.1 p.2.1 true∧p.2.2.1.length+p.1≤64)∧St w0 (foots [treeI tp mb es,flI fb tp lb ww wh]) [treeI tp mb es,flI fb tp lb ww wh,kidsI p.2.2.2.1 p.2.2.1.length p.2.2.2.2 p.2.2.1] w) (fun p=>p.1) (64,x0,[],none,0) ⟨rfl,rfl,trivial⟩ (fun w hw=>⟨⟨.inr ⟨hx,by simp only;omega,hx0⟩,by simp only[restP];rw[if_neg (by omega)];rfl,by simp⟩,hw.nilRow 3 1⟩) (fun p ρ0=>?_);obtain⟨n,x,acc,oA,oc⟩:=p;dsimp only;refine WP.fact (fun⟨hdn,hacc,hlen⟩=>?_);refine gg ?_;refine WP.condP rfl (fun h10=>?_) (fun h10=>?_)
  ·obtain⟨hh,hn64,hx1⟩:hasF (FoR es) x=true∧64≤n+d x∧0≤x:=hdn.elim (fun h=>absurd h (by omega)) id;obtain⟨bq,hbq⟩:=some_has hh;have hdp:=hF.deep x bq hbq;obtain⟨m,rfl⟩:∃m,n=m+1:=⟨n - 1,by omega⟩;refine gg ?_;refine eF (xC (style_ct tp mb es hk x)) fun _ _=>?_;refine vl (v_partA (us:=#[.int .i64 (val (stF (FoR es) (x)) 15),.int .i64 (val (stF (FoR es) (x)) 16),.int .i64 (val (stF (FoR es) (x)) 17),.int .i64 (val (stF (FoR es) (x)) 18),.int .i64 (val (stF (FoR es) (x)) 19),.int .i64 (val (stF (FoR es) (x)) 20),.int .i64 (val (stF (FoR es) (x)) 21),.int .i64 (val (stF (FoR es) (x)) 22)]) Tryz.underlying36 rfl Tryz.isAgg28 Tryz.sizeOf28 rfl (extArr (by have h:=SOk.seg (hk.styOk (x)) 8 15 (by decide) rfl;exact h))) ?_;refine av ?_;refine vl (v_idxA (j:=2) (us:=#[.int .i64 _,.int .i64 _]) Tryz.underlying28 Tryz.isAgg27 Tryz.sizeOf27 rfl rfl rfl (by decide) rfl) ?_;refine eF (xC (lenof_ct _ _ (-1) 0)) fun _ _=>?_;refine WPL.ef (xN (L1 rfl)) fun g22=>?_;refine WPL.ef (xP 1 3) fun⟨A23,c23⟩=>?_;refine gg ?_;refine eF (xC (fflows_ct tp mb es hk hF x)) fun⟨kA,kc⟩ _=>?_;refine gg ?_;refine eF (xC (fopen2_ct fb lb ww wh tp mb es hk hF hg x)) fun _ _=>?_
   iterate 2 refine av ?_
   refine WPL.splitB 42 rfl (fun h42=>?_) (fun h42=>?_)
   ·refine gg ?_;have hnx:nextP (FoR es) x true=none:=nextP_no (by simpa using h42);have hrest:restP (FoR es) (m+1) x true=[mS (stF (FoR es) x) 0 2]:=by unfold restP;rw[if_neg (by omega)];exact ends_stop hnx
    refine WP.condT rfl ?_;refine WP.region ?_;refine av ?_;exact nl fun w hw=>⟨rfl,(m,-1,acc++[mS (stF (FoR es) x) 0 2],A23,c23),(by simp only;omega),⟨rfl,(via (.slice A23 (acc.length+1) c23) rfl (by simp only;rw[List.length_append];rfl)),jP,jI,trivial⟩,⟨⟨.inl rfl,by simp only;rw[hacc,hrest];simp[restP],by simp only[List.length_append,List.length_singleton];omega⟩,by simp only;rw[List.length_append,List.length_singleton,kidsI_snoc];exact(hw.sel [3,4,0] (by decide))⟩⟩
   ·refine gg ?_;refine WP.condP rfl (fun h36=>?_) (fun h36=>?_)
    ·have hnx:nextP (FoR es) x true=none:=nextP_nil (List.eq_nil_of_length_eq_zero (by omega));have hrest:restP (FoR es) (m+1) x true=[mS (stF (FoR es) x) 0 2]:=by unfold restP;rw[if_neg (by omega)];exact ends_stop hnx
     refine WP.region ?_;refine av ?_;exact nl fun w hw=>⟨rfl,(m,-1,acc++[mS (stF (FoR es) x) 0 2],A23,c23),(by simp only;omega),⟨rfl,(via (.slice A23 (acc.length+1) c23) rfl (by simp only;rw[List.length_append];rfl)),jP,jI,trivial⟩,⟨⟨.inl rfl,by simp only;rw[hacc,hrest];simp[restP],by simp only[List.length_append,List.length_singleton];omega⟩,by simp only;rw[List.length_append,List.length_singleton,kidsI_snoc];exact(hw.sel [3,4,0] (by decide))⟩⟩
    ·have hkl:=Nat.le_trans (kidsP_le (FoR es) x false) (hF.kidsL x);have hln:(kidsP (FoR es) x false).length≠0:=by omega
     obtain⟨kid,hkid⟩:∃k,(kidsP (FoR es) x false)[(kidsP (FoR es) x false).length - 1]?=some k:=⟨_,List.getElem?_eq_getElem (by omega)⟩;refine WP.holds (fun w hw=>hw.row_pos (i:=2) rfl (by omega)) (fun⟨kb,hA⟩=>?_);subst hA;have hnx:nextP (FoR es) x true=some kid:=nextP_bot (by simpa using h42) hkid;have hrest:restP (FoR es) (m+1) x true=mS (stF (FoR es) x) 0 2::endsP (FoR es) m kid true:=by unfold restP;rw[if_neg (by omega)];exact ends_go hnx
     obtain⟨hk1,hk2,hk3,_⟩:=kid_rank' hF (kidsP_sub (next_has hF hnx));refine gg ?_;refine WP.condF rfl ?_;refine WP.region ?_
     iterate 4 refine av ?_
     refine vl (vX (((kidsP (FoR es) x false).length - 1))) ?_;refine vl (vR 2 (by rw[List.getElem?_map,hkid];rfl)) ?_;refine av ?_;exact nl fun w hw=>⟨rfl,(m,kid,acc++[mS (stF (FoR es) x) 0 2],A23,c23),(by simp only;omega),⟨rfl,(via (.slice A23 (acc.length+1) c23) rfl (by simp only;rw[List.length_append];rfl)),jP,jI,trivial⟩,⟨⟨.inr ⟨hk1,by simp only;omega,hk3⟩,by simp only;rw[hacc,hrest];simp only[restP];rw[if_neg (by omega)];simp,by simp only[List.length_append,List.length_singleton];omega⟩,by simp only;rw[List.length_append,List.length_singleton,kidsI_snoc];exact(hw.sel [3,4,0] (by decide))⟩⟩
  ·have hfin:endsP (FoR es) 64 x0 true=acc:=hdn.elim (fun h=>by rw[hacc,h];simp[restP]) (fun h=>by omega);refine WP.exit (onto_of ?_);refine gg ?_;refine eF (xC (collapse_ct oA oc acc (by omega)) (hF:=fun w hw=>hw.rd_row1 (i:=2) (f:=Value.int .i64) rfl)) fun _ _=>?_;refine gg ?_;exact rt1 fun w hw=>⟨(),congrArg (Value.int .i64) (by unfold endP;rw[hfin]),trivial,hw.pk⟩
end
end Go.Proofs.YtpgjbbaplpdaiaaGreat
