/- Breaks FlowBase FlowPlain FlowFact FlowBd FlowA -/
import Derived.Test.YtbedndijejpcaaaGreatS14
set_option linter.unusedVariables false
set_option linter.unusedSimpArgs false
set_option linter.unusedSectionVars false
set_option maxRecDepth 100000
set_option maxHeartbeats 8000000
namespace Go.Proofs.YtbedndijejpcaaaGreat
open Go.RowKit
theorem isLeft1 {Z Y:Type} {o:Z ⊕ Y} (h:(!o.isLeft)=false):∃z,o=.inl z:=by cases o with | inl z=>exact⟨z,rfl⟩ | inr y=>cases h
theorem isRight1 {Z Y:Type} {o:Z ⊕ Y} (h:(!o.isLeft)=true):∃y,o=.inr y:=by cases o with | inr y=>exact⟨y,rfl⟩ | inl z=>cases h
theorem encP2_flat {o:List (Nat×Nat)} {k:Nat} {x:Nat×Nat} (h:o[k]?=some x):(o.take (k+1)).flatMap encP2=(o.take k).flatMap encP2++encP2 x:=by rw[takeS h];simp
theorem info40:(Tryz.prog.info? 40).map (fun i=>(i.zero,i.size,i.bytes))=some (some (.agg #[.int .i64 0,.int .i64 0]),2,16):=by kernel_rfl
abbrev pairsI (A:Option Addr) (n c:Nat) (l:List (Nat×Nat)):HI:=.row 40 2 A n c (l.flatMap encP2)
section
variable (A:Option Addr) (c:Nat) (l:List Int) (room gap:Int) (wrap:Bool)
abbrev eachRO (n1 n2 n3 n4:Nat):List HI:=[.row 3 1 A l.length c (l.map (Value.int .i64)),.cl n1 49 [.slice A l.length c],.cl n2 3 [.int .i64 gap],.cl n3 4 [.bool wrap],.cl n4 3 [.int .i64 room]]
def eachC (n1 n2 n3 n4:Nat):List Value:=[.pointer (some ⟨n1,0,none⟩),.pointer (some ⟨n2,0,none⟩),.pointer (some ⟨n3,0,none⟩),.pointer (some ⟨n4,0,none⟩)]
theorem each_ct:Ct Tryz.prog 232 #[.slice A l.length c,.int .i64 room,.int .i64 gap,.bool wrap] [] (fun _=>True) (X:=Nat×Nat×Nat×Nat) (fun p=>.func (.func 240) #[] #[.pointer (some ⟨p.1,0,none⟩),.pointer (some ⟨p.2.1,0,none⟩),.pointer (some ⟨p.2.2.1,0,none⟩),.pointer (some ⟨p.2.2.2,0,none⟩)]) (fun _=>True)
    (fun p=>[.cl p.1 49 [.slice A l.length c],.cl p.2.1 3 [.int .i64 gap],.cl p.2.2.1 4 [.bool wrap],.cl p.2.2.2 3 [.int .i64 room]]):=by
  refine Ci fun w0 _=>?_;refine gg ?_;refine WPL.ef (x_box1 (u:=.slice _ _ _) (σ':=fun _=>[_]) rfl (fun _=>rfl)) (fun b4=>?_);refine WPL.ef (x_box1 (u:=.int .i64 _) (σ':=fun _=>[_,_]) rfl (fun _=>rfl)) (fun b5=>?_);refine WPL.ef (x_box1 (u:=.int .i64 _) (σ':=fun _=>[_,_,_]) rfl (fun _=>rfl)) (fun b6=>?_);refine WPL.ef (x_box1 (u:=.bool _) (σ':=fun _=>[_,_,_,_]) rfl (fun _=>rfl)) (fun b7=>?_);refine sg rfl ?_;refine nl (oo ?_);refine sqR ?_;refine vl (v_func) ?_;refine sg rfl ?_;refine gg ?_;exact rt1 fun w hw=>⟨(b4,b6,b7,b5),rfl,trivial,hw.pk⟩
theorem each_iter (hl:l.length≤10000) (n1 n2 n3 n4:Nat):IterOK Tryz.prog 240 [] (eachC n1 n2 n3 n4) (eachRO A c l room gap wrap n1 n2 n3 n4) encP2 (breaksP l room gap wrap):=by
  intro lb Z Y H J Inv hy z0 hz0;refine Ct.intro Tryz.func240 rfl Tryz.ntmps240 (by simp[eachC]) (fun w0 _=>?_);refine gg ?_;refine WP.loopK (X:=Nat×(List (Nat×Nat)×Nat×Int)×Z) [0,1,2,3,4,11,12] (fun p=>[(13,.int .i64 (p.1:Int)),(6,.int .i64 (p.2.1.2.1:Int)),(7,.int .i64 p.2.1.2.2)]) (fun p w=>(p.1≤l.length∧brkS l room gap wrap p.1=p.2.1∧Inv p.2.1.1.length p.2.2)∧St w0 (foots (eachRO A c l room gap wrap n1 n2 n3 n4++[H 0 z0])) (eachRO A c l room gap wrap n1 n2 n3 n4++[H p.2.1.1.length p.2.2]) w) (fun p=>l.length - p.1) (0,([],0,0),z0) ⟨rfl,rfl,rfl,trivial⟩ (fun w hw=>⟨⟨Nat.zero_le _,rfl,hz0⟩,hw⟩) (fun p ρ0=>?_);obtain⟨i,⟨o,f,n⟩,z⟩:=p;dsimp only;refine WP.fact (fun⟨hil,hbs,hinv⟩=>?_);refine gg ?_;refine WP.condP rfl (fun h14=>?_) (fun h14=>?_)
  ·have hil2:i<l.length:=by omega
   obtain⟨x,hx⟩:∃x,l[i]?=some x:=⟨_,List.getElem?_eq_getElem hil2⟩;refine WP.holds (fun w hw=>hw.row_pos (i:=0) rfl (by omega)) (fun⟨lb2,hA⟩=>?_);subst hA;have hfi:=brk_le (l:=l) (room:=room) (gap:=gap) (wrap:=wrap) i;rw[hbs] at hfi;dsimp only at hfi;refine WP.skip (onto_of ?_);refine sq ?_;refine WP.block ?_;refine sqR ?_
   iterate 2 refine av ?_
   refine vl (v_load1 (u:=.int .i64 _) Tryz.isAgg3 rfl (fun w hw=>hw.row_at1 (i:=0) rfl (by rw[List.getElem?_map,hx];rfl) (by omega))) ?_;refine gg ?_;refine vl (vC (add_any _ _ _)) ?_;refine gg ?_;refine vl (vC (add_any _ _ _)) ?_;refine gg ?_;refine WP.condP rfl (fun h26=>?_) (fun h26=>?_)
   ·have hb2:=brk_same hbs hx (by omega);refine gg ?_;refine vl (vC (cut_any _ _)) ?_;refine av ?_;refine nl (oo ?_);refine WP.region ?_
    iterate 2 refine av ?_
    exact nl fun w hw=>⟨rfl,(i+1,(o,f,cut x),z),(by simp only;omega),⟨rfl,rfl,rfl,rfl,rfl,rfl,rfl,rfl,jS,jI,trivial⟩,⟨⟨by simp only;omega,hb2,hinv⟩,(hw.sel [0,1,2,3,4,5] (by decide))⟩⟩
   ·refine sqR ?_
    iterate 5 refine av ?_
    refine WPL.split 37 rfl (fun h37=>?_) (fun h37=>?_)
    ·iterate 3 refine ag ?_
     refine WPL.splitB 40 rfl (fun h40=>?_) (fun h40=>?_)
     ·refine gg ?_;have hb2:=brk_more hbs hx (by omega) (by omega) (.inl (by simpa using h40));refine WP.condT rfl ?_;refine WP.region ?_
      iterate 2 refine av ?_
      refine nl (oo ?_);refine WP.region ?_
      iterate 2 refine av ?_
      exact nl fun w hw=>⟨rfl,(i+1,(o,f,addI (addI n gap) x),z),(by simp only;omega),⟨rfl,rfl,rfl,rfl,rfl,rfl,rfl,rfl,jS,jI,trivial⟩,⟨⟨by simp only;omega,hb2,hinv⟩,(hw.sel [0,1,2,3,4,5] (by decide))⟩⟩
     ·refine gg ?_;refine WP.condP rfl (fun h32=>?_) (fun h32=>?_)
      ·have hb2:=brk_more hbs hx (by omega) (by omega) (.inr h32);refine WP.region ?_
       iterate 2 refine av ?_
       refine nl (oo ?_);refine WP.region ?_
       iterate 2 refine av ?_
       exact nl fun w hw=>⟨rfl,(i+1,(o,f,addI (addI n gap) x),z),(by simp only;omega),⟨rfl,rfl,rfl,rfl,rfl,rfl,rfl,rfl,jS,jI,trivial⟩,⟨⟨by simp only;omega,hb2,hinv⟩,(hw.sel [0,1,2,3,4,5] (by decide))⟩⟩
      ·have hb2:=brk_next hbs hx (by omega) (fun h=>h.2.elim (fun h9=>by rw[h9] at h40;cases h40) (fun h9=>h32 h9));have hyi:=breaks_get hb2 hil2;refine sqR ?_;refine mv rfl ?_;refine gg ?_;refine WPL.ef (x_yieldC (hy o.length (f,i) z hyi hinv) [0,1,2,3,4,5] [] rfl (τ:=fun _=>[_,_,_,_,_,_]) (fun _=>rfl)) (fun o2=>?_);refine WPL.fact (fun hf=>?_);refine gg ?_;refine WP.cond rfl (fun h47=>?_) (fun h47=>?_)
       ·obtain⟨y,rfl⟩:=isRight1 h47;exact WP.ret0 Tryz.results240 (fun _ h=>h) (fun w hw=>⟨.inr (o.length,y),rfl,⟨fun z e=>(by cases e),fun p e=>(by cases e;exact(List.getElem?_eq_some_iff.1 hyi).1)⟩,(hw.sel [0,1,2,3,4,5] (by decide))⟩)
       ·obtain⟨z2,rfl⟩:=isLeft1 h47;refine gg ?_;refine vl (vC (cut_any _ _)) ?_
        iterate 2 refine av ?_
        refine nl (oo ?_);refine WP.region ?_
        iterate 2 refine av ?_
        exact nl fun w hw=>⟨rfl,(i+1,(o++[(f,i)],i,cut x),z2),(by simp only;omega),⟨rfl,rfl,rfl,rfl,rfl,rfl,rfl,rfl,jS,jI,trivial⟩,⟨⟨by simp only;omega,hb2,by simp only;rw[List.length_append];exact hf z2 rfl⟩,by simp only;rw[List.length_append];exact(hw.sel [0,1,2,3,4,5] (by decide))⟩⟩
    ·refine gg ?_;have hb2:=brk_next hbs hx (by omega) (fun h=>by omega);have hyi:=breaks_get hb2 hil2;refine WP.condF rfl ?_;refine sqR ?_;refine mv rfl ?_;refine gg ?_;refine WPL.ef (x_yieldC (hy o.length (f,i) z hyi hinv) [0,1,2,3,4,5] [] rfl (τ:=fun _=>[_,_,_,_,_,_]) (fun _=>rfl)) (fun o2=>?_);refine WPL.fact (fun hf=>?_);refine gg ?_;refine WP.cond rfl (fun h47=>?_) (fun h47=>?_)
     ·obtain⟨y,rfl⟩:=isRight1 h47;exact WP.ret0 Tryz.results240 (fun _ h=>h) (fun w hw=>⟨.inr (o.length,y),rfl,⟨fun z e=>(by cases e),fun p e=>(by cases e;exact(List.getElem?_eq_some_iff.1 hyi).1)⟩,(hw.sel [0,1,2,3,4,5] (by decide))⟩)
     ·obtain⟨z2,rfl⟩:=isLeft1 h47;refine gg ?_;refine vl (vC (cut_any _ _)) ?_
      iterate 2 refine av ?_
      refine nl (oo ?_);refine WP.region ?_
      iterate 2 refine av ?_
      exact nl fun w hw=>⟨rfl,(i+1,(o++[(f,i)],i,cut x),z2),(by simp only;omega),⟨rfl,rfl,rfl,rfl,rfl,rfl,rfl,rfl,jS,jI,trivial⟩,⟨⟨by simp only;omega,hb2,by simp only;rw[List.length_append];exact hf z2 rfl⟩,by simp only;rw[List.length_append];exact(hw.sel [0,1,2,3,4,5] (by decide))⟩⟩
  ·obtain rfl:i=l.length:=by omega
   have hfi:=brk_le (l:=l) (room:=room) (gap:=gap) (wrap:=wrap) l.length;rw[hbs] at hfi;dsimp only at hfi;refine WP.exit (onto_of ?_);refine gg ?_;refine WP.condP rfl (fun h57=>?_) (fun h57=>?_)
   ·have hyl:=breaks_last hbs (by omega);refine WP.region ?_;refine mv rfl ?_;refine gg ?_;refine WPL.ef (x_yieldC (hy o.length (f,l.length) z hyl.1 hinv) [0,1,2,3,4,5] [] rfl (τ:=fun _=>[_,_,_,_,_,_]) (fun _=>rfl)) (fun o1=>?_);refine WPL.fact (fun hf=>?_)
    rcases o1 with z2 | y
    ·exact nl (fun w hw=>RetQ.of0 Tryz.results240 (.inr rfl) ⟨.inl z2,rfl,⟨fun z9 e9=>(by cases e9;rw[hyl.2];exact hf z2 rfl),fun p e=>(by cases e)⟩,by rw[hyl.2];exact(hw.sel [0,1,2,3,4,5] (by decide))⟩)
    ·exact nl (fun w hw=>RetQ.of0 Tryz.results240 (.inr rfl) ⟨.inr (o.length,y),rfl,⟨fun z9 e9=>(by cases e9),fun p e=>(by cases e;rw[hyl.2];exact Nat.lt_succ_self _)⟩,(hw.sel [0,1,2,3,4,5] (by decide))⟩)
   ·have hnil:breaksP l room gap wrap=o:=by unfold breaksP;rw[hbs];simp only;rw[if_neg (by omega)]
    exact WP.skip (fun w hw=>RetQ.of0 Tryz.results240 (.inr rfl) ⟨.inl z,rfl,⟨fun z9 e9=>(by cases e9;rw[hnil];exact hinv),fun p e=>(by cases e)⟩,by rw[hnil];exact(hw.sel [0,1,2,3,4,5] (by decide))⟩)
theorem break_ct (hl:l.length≤10000):Ct Tryz.prog 209 #[.slice A l.length c,.int .i64 room,.int .i64 gap,.bool wrap] [.row 3 1 A l.length c (l.map (Value.int .i64))] (fun _=>True) (X:=Option Addr×Nat) (fun p=>.slice p.1 (breaksP l room gap wrap).length p.2) (fun _=>True)
    (fun p=>[.row 3 1 A l.length c (l.map (Value.int .i64)),pairsI p.1 (breaksP l room gap wrap).length p.2 (breaksP l room gap wrap)]):=by
  have hbc:=breaks_count (l:=l) (room:=room) (gap:=gap) (wrap:=wrap);refine Ci fun w0 _=>?_;refine gg ?_;refine WPL.ef xAl fun b9=>?_;refine nl (oo ?_)
  iterate 2 refine sq ?_
  refine WP.pre ?_ (fun w hw=>hw.nilRow 40 2);refine gg ?_;refine eF (xC (each_ct A c l room gap wrap)) fun⟨m1,m2,m3,m4⟩ _=>?_;refine nl (oo ?_);refine WP.block ?_;refine sl [0,3,4,5,6,1,2] ?_;refine WP.rangeIter (gf:=240) (first:=[]) (cap:=[.pointer (some ⟨m1,0,none⟩),.pointer (some ⟨m2,0,none⟩),.pointer (some ⟨m3,0,none⟩),.pointer (some ⟨m4,0,none⟩)]) rfl Tryz.call240 (each_iter A c l room gap wrap hl m1 m2 m3 m4) (Z:=Option Addr×Nat) (own:=fun k z=>[.cl b9 268 [.slice z.1 k z.2],pairsI z.1 k z.2 ((breaksP l room gap wrap).take k)]) (Inv:=fun _ _=>True) (none,0) trivial (List.Perm.refl _) (fun _=>rfl) (by decide) (Y:=Unit) (fun _ _ _=>False) (fun _=>[]) ?_ ?_ ?_
  ·intro lk l2 D2 k x z hx hz w1 M1;have hkl:=(List.getElem?_eq_some_iff.1 hx).1;obtain⟨zA,zc⟩:=z;dsimp only;refine sqR ?_;refine av ?_;refine nl (oo ?_);refine WP.region ?_;refine av ?_;refine WPL.nil (begun_of (i:=0) rfl ?_);refine WP.block ?_;refine WP.region ?_
   iterate 3 refine av ?_
   refine vl (v_array (us:=[.int .i64 _,.int .i64 _]) Tryz.underlying40 Tryz.zeroValue40 Tryz.sizeOf3 rfl rfl rfl) ?_;refine WPL.ef (x_buildSlice (us:=[.int .i64 _,.int .i64 _]) (σ':=fun _=>[_,_,_,_,_,_,_,_,_,_,_]) Tryz.underlying268 Tryz.sizeOf40 Tryz.zeroValue40 rfl rfl rfl (by decide) (by decide) (fun _=>rfl)) (fun g23=>?_);refine WPL.ef (xP 9 10) fun⟨A24,c24⟩=>?_;refine WPL.ef0 (xS rfl (isS rfl)) fun _=>?_;exact nl (fun w hw=>RoundQ.normal (i:=0) rfl hw (fun w2 hw2=>.inl ⟨(A24,c24),rfl,trivial,by dsimp only;rw[show pairsI A24 (k+1) c24 ((breaksP l room gap wrap).take (k+1))=.row 40 2 A24 (k+1) c24 (((breaksP l room gap wrap).take k).flatMap encP2++encP2 x) by rw[pairsI,encP2_flat hx]];exact(hw2.sel [0,1,2,3,4,5,6,7,8,9] (by decide))⟩))
  ·intro D z hz;obtain⟨zA,zc⟩:=z;rw[List.take_of_length_le (Nat.le_refl (breaksP l room gap wrap).length)];refine fin_id (onto_of ?_);refine gg ?_;exact WP.retM [D] (τ:=[.row 3 1 A l.length c (l.map (Value.int .i64)),pairsI zA (breaksP l room gap wrap).length zc (breaksP l room gap wrap)]) (fun w hw=>(hw.sel [0,6,7] (by decide))) (fun _ h=>h) (fun w hw=>RetQ.of1 Tryz.results209 (.inl rfl) ⟨(zA,zc),rfl,trivial,hw⟩)
  ·intro D c k y hf;exact hf.elim
end
structure Frm where
  id:Int
  x:Int
  y:Int
  w:Int
  h:Int
  kids:List Frm
def tab {α:Type} (n:Nat) (f:Nat→α):List α:=(List.range n).map f
section
variable {α β:Type} {f:Nat→α} {n k:Nat}
theorem tab_succ:tab (n+1) f=tab n f++[f n]:=by simp[tab,List.range_succ]
theorem tab_len:(tab n f).length=n:=by simp[tab]
theorem tab_get (h:k<n):(tab n f)[k]?=some (f k):=by simp[tab,h]
theorem tab_none (h:n≤k):(tab n f)[k]?=none:=by simp[tab,h]
theorem tab_map (g:α→β):(tab n f).map g=tab n (fun i=>g (f i)):=by simp[tab]
theorem tab_mem {x:α}:x∈tab n f↔∃i,i<n∧f i=x:=by simp[tab]
theorem tab_congr {g:Nat→α} (h:∀i,i<n→f i=g i):tab n f=tab n g:=by
  unfold tab;exact List.map_congr_left fun i hi=>h i (List.mem_range.1 hi)
theorem tab_self (l:List α) (d:α):tab l.length (fun i=>l.getD i d)=l:=by
  apply List.ext_getElem?;intro i
  by_cases h:i<l.length
  · rw[tab_get h,List.getD_eq_getElem?_getD,List.getElem?_eq_getElem h];rfl
  · rw[tab_none (by omega),List.getElem?_eq_none (by omega)]
theorem tab_gI (l:List Int):tab l.length (gI l)=l:=tab_self l 0
theorem gI_tab {f:Nat→Int} (h:k<n):gI (tab n f) k=f k:=gI_at (tab_get h)
end
def sumN (f:Nat→Int):Nat→Int
  | 0=>0
  | k+1=>sumN f k+f k
def maxN (f:Nat→Int):Nat→Int
  | 0=>0
  | k+1=>max (maxN f k) (f k)
section
variable (s:List Value)
def eS (i:Nat):Int:=val s (31+i)+val s (35+i)
def eA:Int:=eS s 3+eS s 1
def eD:Int:=eS s 0+eS s 2
def mS (base:Int) (i:Nat):Int:=ofL (val s (15+2*i)) (val s (16+2*i)) (if i=1∨i=3 then base else -1) 0
def mA (base:Int):Int:=mS s base 3+mS s base 1
def mD:Int:=mS s 0 0+mS s 0 2
def inF (i:Nat) (base:Int):Bool:=fixedL (val s (23+2*i)) base
def inO (i:Nat) (base:Int):Int:=ofL (val s (23+2*i)) (val s (24+2*i)) base 0
def limW (n room:Int):Int:=limitL n (val s 7) (val s 8) (val s 11) (val s 12) room
def limH (n room:Int):Int:=limitL n (val s 9) (val s 10) (val s 13) (val s 14) room
def iwP (rw sw:Int):Int:=if sw= -1 then limW s (ofL (val s 3) (val s 4) rw (max (rw - mA s rw - eA s) 0)) rw else max (sw - eA s) 0
def ihP (rh sh:Int):Int:=if sh= -1 then (if fixedL (val s 5) rh then limH s (ofL (val s 5) (val s 6) rh 0) rh else -1) else max (sh - eD s) 0
def movX (iw:Int):Int:=if val s 1=1 then ofL (val s 29) (val s 30) iw (-(inO s 1 iw)) else 0
def movY (ih:Int):Int:=if val s 1=1 then ofL (val s 23) (val s 24) ih (-(inO s 2 ih)) else 0
def outB:Bool:=decide (val s 1=2)||decide (val s 1=3)
def itA (iw:Int):FItem:=⟨ofL (val s 41) (val s 42) iw (ofL (val s 3) (val s 4) iw (val s 53)),max (ofL (val s 7) (val s 8) iw 0) 0,max (ofL (val s 11) (val s 12) iw 1048576) 0,val s 39,val s 40⟩
def itD (ih own:Int):FItem:=⟨ofL (val s 41) (val s 42) ih own,max (ofL (val s 9) (val s 10) ih 0) 0,max (ofL (val s 13) (val s 14) ih 1048576) 0,val s 39,val s 40⟩
end
def baseI (x:FItem):Int:=x.fit (min (max x.base 0) 1048576)
section
variable (F:Forest (List Value))
abbrev stF (x:Int):List Value:=styF zeroS F x
def shownN:Nat→Int→Bool
  | 0,_=>true
  | n+1,x=>if hasF F x then decide (val (stF F x) 0≠3)&&shownN n (upF F x) else true
def shownF (x:Int):Bool:=hasF F x&&shownN F 64 x
def kidsP (x:Int) (a:Bool):List Int:=(kidsF F x).filter fun k=>shownF F k&&(outB (stF F k)==a)
def openP (x:Int) (b:Bool):Bool:=
  decide (0≤upF F x)&&decide (val (stF F (upF F x)) 0=0)&& !outB (stF F x)&&(!b||(decide (val (stF F x) 5=0)&&decide (val (stF F x) 9=0)))&&decide (val (stF F x) 0=0)&&decide (val (stF F x) 2=0)&&decide (eS (stF F x) (if b then 2 else 0)=0)
def nextP (x:Int) (b:Bool):Option Int:=if openP F x b then (if b then (kidsP F x false).getLast? else (kidsP F x false).head?) else none
def endsP:Nat→Int→Bool→List Int
  | 0,_,_=>[]
  | n+1,x,b=>mS (stF F x) 0 (if b then 2 else 0)::(match nextP F x b with | some k=>endsP n k b | none=>[])
def endP (x:Int) (b:Bool):Int:=collP (endsP F 64 x b)
abbrev LayF:=Int→Int→Int→Int→Int→Frm
section
variable (L:LayF) (ks:List Int) (iw ih:Int)
abbrev kS (i:Nat):List Value:=stF F (gI ks i)
def bF (i:Nat):Frm:=L (gI ks i) iw ih (-1) (-1)
def bX (i:Nat):Int:=(autoP iw (bF L ks iw ih i).w (val (kS F ks i) 21) (val (kS F ks i) 22) (val (kS F ks i) 17) (val (kS F ks i) 18) iw).1
def bSizes:List Int:=tab ks.length fun i=>(bF L ks iw ih i).h
def bTops (b:Bool):List Int:=tab ks.length fun i=>endP F (gI ks i) b
def bFrom (id:Int):Int:=if openP F id false then 0 else gI (bTops F ks false) 0
def blockP (id:Int):List Frm×Int:=
  (tab ks.length fun i => { bF L ks iw ih i with x := bX F L ks iw ih i, y := bFrom F ks id + stkStart (bSizes L ks iw ih) (bTops F ks false) (bTops F ks true) i },
   bFrom F ks id + (stkAt (bSizes L ks iw ih) (bTops F ks false) (bTops F ks true) ks.length + (if openP F id true then 0 else gI (bTops F ks true) (ks.length - 1))))
def rExt (i:Nat):Int:=eA (kS F ks i)+mA (kS F ks i) iw
def rLong:List Int:=tab ks.length fun i=>baseI (itA (kS F ks i) iw)+rExt F ks iw i
section
variable (c:List Value) (a b:Nat)
def lSizes:List Int:=sizes (tab (b - a) fun i=>itA (kS F ks (a+i)) iw) (iw - val c 46*((b - a:Nat) - 1) - sumN (fun i=>rExt F ks iw (a+i)) (b - a))
def lF1 (i:Nat):Frm:=L (gI ks (a+i)) iw ih (gI (lSizes F ks iw c a b) i+eA (kS F ks (a+i))) (-1)
def lAlong:List Int:=tab (b - a) fun i=>(lF1 F L ks iw ih c a b i).w+mA (kS F ks (a+i)) iw
def lMost:Int:=maxN (fun i=>(lF1 F L ks iw ih c a b i).h+mD (kS F ks (a+i))) (b - a)
def lH (one:Bool):Int:=if one=true∧ih≠-1 then ih else lMost F L ks iw ih c a b
def lF2 (hh:Int) (i:Nat):Frm:=
  if val c 44=0∧fixedL (val (kS F ks (a+i)) 5) ih=false then L (gI ks (a+i)) iw ih (lF1 F L ks iw ih c a b i).w (limH (kS F ks (a+i)) (max (hh - (eD (kS F ks (a+i))+mD (kS F ks (a+i)))) 0) ih+eD (kS F ks (a+i)))
  else lF1 F L ks iw ih c a b i
def lStart (i:Nat):Int:=jStart (val c 43) (subI iw (longP (lAlong F L ks iw ih c a b) (val c 46))) (val c 46) (lAlong F L ks iw ih c a b) i
def lOut (hh:Int) (i:Nat):Frm:=
  {lF2 F L ks iw ih c a b hh i with x:=lStart F L ks iw ih c a b i+mS (kS F ks (a+i)) iw 3,y:=acrossP (val c 44) ((lF2 F L ks iw ih c a b hh i).h+mD (kS F ks (a+i))) hh+mS (kS F ks (a+i)) iw 0}
def lineP (one:Bool):List Frm:=tab (b - a) (lOut F L ks iw ih c a b (lH F L ks iw ih c a b one))
end
def shiftY (n:Int) (f:Frm):Frm:={f with y:=f.y+n}
def rowN (c:List Value) (ls:List (Nat×Nat)):Nat→List Frm×Int
  | 0=>([],0)
  | m + 1 =>
    ((rowN c ls m).1 ++ (lineP F L ks iw ih c (ls.getD m (0, 0)).1 (ls.getD m (0, 0)).2 (decide (ls.length = 1))).map (shiftY (if m = 0 then (rowN c ls m).2 else (rowN c ls m).2 + val c 46)),
     (if m = 0 then (rowN c ls m).2 else (rowN c ls m).2 + val c 46) + lH F L ks iw ih c (ls.getD m (0, 0)).1 (ls.getD m (0, 0)).2 (decide (ls.length = 1)))
def rLines (c:List Value):List (Nat×Nat):=breaksP (rLong F ks iw) iw (val c 46) (bval c 45)
def rowP (id:Int):List Frm×Int:=rowN F L ks iw ih (stF F id) (rLines F ks iw (stF F id)) (rLines F ks iw (stF F id)).length
section
variable (c:List Value)
def cSet (i:Nat):Int:=if val c 44=0∨fixedL (val (kS F ks i) 3) iw=true then -1 else limW (kS F ks i) (val (kS F ks i) 53) iw+eA (kS F ks i)
def cF1 (i:Nat):Frm:=L (gI ks i) iw ih (cSet F ks iw c i) (-1)
def cItem (i:Nat):FItem:=itD (kS F ks i) ih ((cF1 F L ks iw ih c i).h - eD (kS F ks i))
def cExt (i:Nat):Int:=eD (kS F ks i)+mD (kS F ks i)
def cSizes:List Int:=if ih= -1 then tab ks.length fun i=>baseI (cItem F L ks iw ih c i) else sizes (tab ks.length (cItem F L ks iw ih c)) (ih - val c 46*((ks.length:Nat) - 1) - sumN (cExt F ks) ks.length)
def cF2 (i:Nat):Frm:=L (gI ks i) iw ih (cSet F ks iw c i) (gI (cSizes F L ks iw ih c) i+eD (kS F ks i))
def cAlong:List Int:=tab ks.length fun i=>(cF2 F L ks iw ih c i).h+mD (kS F ks i)
def cRoom:Int:=if ih= -1 then longP (cAlong F L ks iw ih c) (val c 46) else ih
def cStart (i:Nat):Int:=jStart (val c 43) (subI (cRoom F L ks iw ih c) (longP (cAlong F L ks iw ih c) (val c 46))) (val c 46) (cAlong F L ks iw ih c) i
def cOut (i:Nat):Frm:={cF2 F L ks iw ih c i with x:=acrossP (val c 44) ((cF2 F L ks iw ih c i).w+mA (kS F ks i) iw) iw+mS (kS F ks i) iw 3,y:=cStart F L ks iw ih c i+mS (kS F ks i) iw 0}
end
def columnP (id:Int):List Frm×Int:=(tab ks.length (cOut F L ks iw ih (stF F id)),longP (cAlong F L ks iw ih (stF F id)) (val (stF F id) 46))
end
section
variable (L:LayF) (k:Int) (rw rh px py:Int)
def wSetW:Int:=if fixedL (val (stF F k) 3) rw then -1 else if inF (stF F k) 3 rw=true∧inF (stF F k) 1 rw=true then max (rw - inO (stF F k) 3 rw - inO (stF F k) 1 rw - mA (stF F k) rw) 0 else limW (stF F k) (val (stF F k) 53) rw+eA (stF F k)
def wSetH:Int:=if fixedL (val (stF F k) 5) rh=false∧inF (stF F k) 0 rh=true∧inF (stF F k) 2 rh=true then max (rh - inO (stF F k) 0 rh - inO (stF F k) 2 rh - mD (stF F k)) 0 else -1
def wF:Frm:=L k rw rh (wSetW F k rw) (wSetH F k rh)
def withinP:Frm:=
  { wF F L k rw rh with
    x := (if inF (stF F k) 3 rw then inO (stF F k) 3 rw else if inF (stF F k) 1 rw then rw - inO (stF F k) 1 rw - mA (stF F k) rw - (wF F L k rw rh).w else px) + mS (stF F k) rw 3
    y := (if inF (stF F k) 0 rh then inO (stF F k) 0 rh else if inF (stF F k) 2 rh then rh - inO (stF F k) 2 rh - mD (stF F k) - (wF F L k rw rh).h else py) + mS (stF F k) rw 0 }
end
def shiftXY (dx dy:Int) (f:Frm):Frm:={f with x:=f.x+dx,y:=f.y+dy}
def apartP (ww wh:Int) (L:LayF) (s:List Value) (iw ih:Int) (k:Int):Frm:=
  if val (stF F k) 1=3 then withinP F L k ww wh 0 0
  else shiftXY (val s 38) (val s 35) (withinP F L k (iw+(val s 34+val s 32)) (ih+(val s 31+val s 33)) (val s 34) (val s 31))
def inP (L:LayF) (id iw ih:Int):List Frm×Int:=
  if kidsP F id false=[] then ([],val (stF F id) 54)
  else if val (stF F id) 0=1 then rowP F L (kidsP F id false) iw ih id
  else if val (stF F id) 0=2 then columnP F L (kidsP F id false) iw ih id
  else blockP F L (kidsP F id false) iw ih id
def ihEnd (s:List Value) (rh ih n:Int):Int:=if ih= -1 then limH s (max n 0) rh else ih
def moveF (s:List Value) (iw ih:Int) (f:Frm):Frm:={f with x:=f.x+eS s 3+movX (stF F f.id) iw,y:=f.y+eS s 0+movY (stF F f.id) ih}
def layStep (ww wh:Int) (L:LayF):LayF:=fun id rw rh sw sh=>
  { id := id, x := 0, y := 0
    w := iwP (stF F id) rw sw + eA (stF F id)
    h := ihEnd (stF F id) rh (ihP (stF F id) rh sh) (inP F L id (iwP (stF F id) rw sw) (ihP (stF F id) rh sh)).2 + eD (stF F id)
    kids := (inP F L id (iwP (stF F id) rw sw) (ihP (stF F id) rh sh)).1.map (moveF F (stF F id) (iwP (stF F id) rw sw) (ihP (stF F id) rh sh))
      ++ (kidsP F id true).map (apartP F ww wh L (stF F id) (iwP (stF F id) rw sw) (ihEnd (stF F id) rh (ihP (stF F id) rh sh) (inP F L id (iwP (stF F id) rw sw) (ihP (stF F id) rh sh)).2)) }
def layN (ww wh:Int):Nat→LayF
  | 0=>fun id _ _ _ _=>⟨id,0,0,0,0,[]⟩
  | n+1=>layStep F ww wh (layN ww wh n)
def LAY (ww wh:Int):LayF:=layN F ww wh 64
end
section
variable {F:Forest (List Value)} {L L':LayF}
theorem gI_mem {l:List Int} {i:Nat} (h:i<l.length):gI l i∈l:=by
  unfold gI;rw[List.getD_eq_getElem?_getD,List.getElem?_eq_getElem h];exact List.getElem_mem h
theorem kidsP_sub {x:Int} {a:Bool} {k:Int} (h:k∈kidsP F x a):k∈kidsF F x:=(List.mem_filter.1 h).1
theorem kidsP_le (F:Forest (List Value)) (x:Int) (a:Bool):(kidsP F x a).length≤(kidsF F x).length:=List.length_filter_le _ _
end
structure GS (s:List Value):Prop where
  ok:SOk s
  lens:∀j∈lenPos,lenOk (val s j) (val s (j+1))=true
  siz:∀j∈sizPos,0≤val s j∧val s j≤1048576
  disp:0≤val s 0∧val s 0≤3
theorem GS.of {s:List Value} (hs:SOk s) (h:validB s=true):GS s:=by
  unfold validB kindsB waysB at h;simp only[Bool.and_eq_true] at h;obtain⟨⟨⟨⟨⟨⟨⟨⟨k0,k1⟩,k2⟩,⟨⟨w43,w44⟩,w49⟩,w50⟩,hlen⟩,hsiz⟩,h39⟩,h40⟩,h48⟩:=h;refine⟨hs,?_,?_,of_decide_eq_true k0⟩
  · intro j hj
    unfold lensB lensOf at hlen;rw[←all_any (fun p:Int×Int=>lenOk p.1 p.2),List.all_eq_true] at hlen;exact hlen _ (List.mem_map.2 ⟨j,hj,rfl⟩)
  · intro j hj
    unfold sizesB sizesOf at hsiz;rw[←all_any (fun n:Int=>within n 0 1048576),List.all_eq_true] at hsiz;exact of_decide_eq_true (hsiz _ (List.mem_map.2 ⟨j,hj,rfl⟩))
theorem GS.zero:GS zeroS:=GS.of zeroS_ok (by kernel_rfl)
section
variable {s:List Value}
theorem toArr {o:Nat} {u:Value} (h:s[o]?=some u):s.toArray[o]?=some u:=by rw[List.getElem?_toArray];exact h
theorem extArr {o k:Nat} {us:List Value} (h:(s.drop o).take k=us):s.toArray.extract o (o+k)=us.toArray:=by
  apply Array.ext';simp[h]
theorem GS.eS_bd (h:GS s) (i:Nat) (hi:i<4):0≤eS s i∧eS s i≤2097152:=by
  have h1:=h.siz (31+i) (by match i,hi with | 0,_=>decide | 1,_=>decide | 2,_=>decide | 3,_=>decide);have h2:=h.siz (35+i) (by match i,hi with | 0,_=>decide | 1,_=>decide | 2,_=>decide | 3,_=>decide);unfold eS;omega
theorem GS.eA_bd (h:GS s):0≤eA s∧eA s≤4194304:=by
  have h1:=h.eS_bd 3 (by decide);have h2:=h.eS_bd 1 (by decide);unfold eA;omega
theorem GS.eD_bd (h:GS s):0≤eD s∧eD s≤4194304:=by
  have h1:=h.eS_bd 0 (by decide);have h2:=h.eS_bd 2 (by decide);unfold eD;omega
theorem mS_bd (s:List Value) (b:Int) (i:Nat):-1099511627776≤mS s b i∧mS s b i≤1099511627776:=ofL_bd _ _ _ _
theorem mA_bd (s:List Value) (b:Int):-2199023255552≤mA s b∧mA s b≤2199023255552:=by
  have h1:=mS_bd s b 3;have h2:=mS_bd s b 1;unfold mA;omega
theorem mD_bd (s:List Value):-2199023255552≤mD s∧mD s≤2199023255552:=by
  have h1:=mS_bd s 0 0;have h2:=mS_bd s 0 2;unfold mD;omega
theorem inO_bd (s:List Value) (i:Nat) (b:Int):-1099511627776≤inO s i b∧inO s i b≤1099511627776:=ofL_bd _ _ _ _
theorem limW_bd (s:List Value) (n r:Int):0≤limW s n r∧limW s n r≤1099511627776:=limitL_bd _ _ _ _ _ _
theorem limH_bd (s:List Value) (n r:Int):0≤limH s n r∧limH s n r≤1099511627776:=limitL_bd _ _ _ _ _ _
theorem GS.iwP_bd (h:GS s) (rw sw:Int):0≤iwP s rw sw∧iwP s rw sw≤max 1099511627776 sw:=by
  have h1:=h.eA_bd;have h2:=limW_bd s (ofL (val s 3) (val s 4) rw (max (rw - mA s rw - eA s) 0)) rw;unfold iwP
  split<;>omega
theorem GS.ihP_bd (h:GS s) (rh sh:Int):-1≤ihP s rh sh∧ihP s rh sh≤max 1099511627776 sh:=by
  have h1:=h.eD_bd;have h2:=limH_bd s (ofL (val s 5) (val s 6) rh 0) rh;unfold ihP
  split
  · split<;>omega
  · omega
theorem ihEnd_bd (s:List Value) (rh ih n:Int) (h:-1≤ih):0≤ihEnd s rh ih n∧ihEnd s rh ih n≤max 1099511627776 ih:=by
  have h2:=limH_bd s (max n 0) rh;unfold ihEnd
  split<;>omega
theorem movX_bd (s:List Value) (iw:Int):-1099511627776≤movX s iw∧movX s iw≤1099511627776:=by
  unfold movX;split
  · exact ofL_bd _ _ _ _
  · omega
theorem movY_bd (s:List Value) (iw:Int):-1099511627776≤movY s iw∧movY s iw≤1099511627776:=by
  unfold movY;split
  · exact ofL_bd _ _ _ _
  · omega
end
def LB (L:LayF) (k:Int):Prop:=∀rw rh sw sh,(L k rw rh sw sh).id=k∧(L k rw rh sw sh).x=0∧(L k rw rh sw sh).y=0∧(0≤(L k rw rh sw sh).w∧(L k rw rh sw sh).w≤max 1099511627776 sw+4194304)∧0≤(L k rw rh sw sh).h∧(L k rw rh sw sh).h≤max 1099511627776 sh+4194304
theorem layN_LB {F:Forest (List Value)} (ww wh:Int) {k:Int} (hs:GS (stF F k)):∀n,LB (layN F ww wh n) k
  | 0=>fun rw rh sw sh=>⟨rfl,rfl,rfl,by simp only[layN];omega,by simp only[layN];omega,by simp only[layN];omega⟩
  | n + 1 => fun rw rh sw sh => by
    have h1:=hs.iwP_bd rw sw;have h2:=hs.ihP_bd rh sh;have h3:=hs.eA_bd;have h4:=hs.eD_bd;have h5:=ihEnd_bd (stF F k) rh (ihP (stF F k) rh sh) (inP F (layN F ww wh n) k (iwP (stF F k) rw sw) (ihP (stF F k) rh sh)).2 h2.1;refine⟨rfl,rfl,rfl,?_,?_⟩
    · simp only[layN,layStep];omega
    · simp only[layN,layStep];omega
theorem baseI_bd (x:FItem):0≤baseI x∧baseI x≤1048576:=by
  have h1:=cl20_bd x.low;have h2:=cl20_bd x.high;unfold baseI FItem.fit;omega
section
variable {l:List Int} {room gap:Int} {wrap:Bool}
theorem brk_in:∀i,i≤l.length→(∀p∈(brkS l room gap wrap i).1,p.1<p.2∧p.2≤i∧p.2≤p.1+64)∧(brkS l room gap wrap i).2.1≤i∧(i≤(brkS l room gap wrap i).2.1+64)
  | 0,_=>⟨fun p hp=>by simp[brkS] at hp,Nat.le_refl _,Nat.zero_le _⟩
  | i + 1, hi => by
    obtain⟨h1,h2,h3⟩:=brk_in i (by omega);have h4:=brk_lt (l:=l) (room:=room) (gap:=gap) (wrap:=wrap) i;rw[brkS] at h4 ⊢
    split
    · exact⟨fun p hp=>by have:=h1 p hp;omega,by simp only;omega,by simp only;omega⟩
    · split
      · exact⟨fun p hp=>by have:=h1 p hp;omega,by simp only;omega,by simp only;omega⟩
      · refine ⟨fun p hp => ?_, by simp only; omega, by simp only; omega⟩
        simp only[List.mem_append,List.mem_singleton] at hp
        rcases hp with hp | rfl
        · have:=h1 p hp;omega
        · exact⟨by simp only;omega,by simp only;omega,by simp only;omega⟩
theorem breaks_in {p:Nat×Nat} (h:p∈breaksP l room gap wrap):p.1<p.2∧p.2≤l.length∧p.2≤p.1+64:=by
  obtain⟨h1,h2,h3⟩:=brk_in (l:=l) (room:=room) (gap:=gap) (wrap:=wrap) l.length (Nat.le_refl _);unfold breaksP at h
  split at h
  · rcases List.mem_append.1 h with h | h
    · exact h1 p h
    · simp only [List.mem_singleton] at h
      subst h;exact⟨by assumption,Nat.le_refl _,h3⟩
  · exact h1 p h
end
theorem maxN_bd {f:Nat→Int} {B:Int} (hB:0≤B):∀(n:Nat),(∀i,i<n→f i≤B)→0≤maxN f n∧maxN f n≤B
  | 0,_=>by simp only[maxN];omega
  | n + 1, h => by
    have h1:=maxN_bd hB n fun i hi=>h i (by omega);have h2:=h n (by omega);simp only[maxN];omega
theorem size_bd {l:List FItem} {room:Int} {i:Nat} {s:Int} (hs:(sizes l room)[i]?=some s):0≤s∧s≤1048576:=by
  unfold sizes at hs;rw[List.getElem?_map] at hs;cases he:(final (grows l room) (lot room) (l.map (start (grows l room))))[i]? with
  | none=>rw[he] at hs;cases hs
  | some e =>
    rw[he] at hs;obtain rfl:e.size=s:=by simpa using hs
    have h:=rounds_oks (g:=grows l room) (room:=lot room) (kth (l.map (start (grows l room))) (l.map (start (grows l room))).length) (start_oks _ l) i e he;unfold FE.ok at h;omega
theorem gI_bd {l:List FItem} {room:Int} (i:Nat):0≤gI (sizes l room) i∧gI (sizes l room) i≤1048576:=by
  unfold gI;rw[List.getD_eq_getElem?_getD];cases h:(sizes l room)[i]? with
  | none=>simp
  | some s=>exact size_bd h
theorem acrossP_bd (kind size room:Int):-1099511627776≤acrossP kind size room∧acrossP kind size room≤1099511627776:=by
  unfold acrossP
  split
  · exact divI_bd _ _
  · split
    · exact subI_bd _ _
    · omega
theorem sumN_bd {f:Nat→Int} {B:Int}:∀(n:Nat),(∀i,i<n→-B≤f i∧f i≤B)→-(n*B)≤sumN f n∧sumN f n≤n*B
  | 0,_=>by simp[sumN]
  | n + 1, h => by
    have h1:=sumN_bd n fun i hi=>h i (by omega);have h2:=h n (by omega);rw[sumN,show ((n+1:Nat):Int)*B=n*B+B by rw[Int.natCast_add,Int.add_mul];simp];omega
section
variable {l:List Int} {room gap:Int} {wrap:Bool}
theorem brk_len:∀i,(brkS l room gap wrap i).1.length≤(brkS l room gap wrap i).2.1∧(brkS l room gap wrap i).2.1≤i
  | 0=>by simp[brkS]
  | i + 1 => by
    have h:=brk_len i;rw[brkS]
    split
    · simp only;omega
    · split
      · simp only;omega
      · simp only[List.length_append,List.length_singleton];omega
theorem breaks_len:(breaksP l room gap wrap).length≤l.length:=by
  have h:=brk_len (l:=l) (room:=room) (gap:=gap) (wrap:=wrap) l.length;unfold breaksP
  split
  · rw[List.length_append,List.length_singleton];omega
  · omega
end
def FB (X:Int) (f:Frm):Prop:=(-X≤f.x∧f.x≤X)∧-X≤f.y∧f.y≤X
section
variable {F:Forest (List Value)} (hg:∀x,GS (stF F x)) {L:LayF} {ks:List Int} (hL:∀k∈ks,LB L k) {iw ih:Int} {c:List Value}
include hg hL
section
variable {a b:Nat} (hb:b≤ks.length)
include hb
theorem lF1_bd {i:Nat} (hi:i<b - a):(0≤(lF1 F L ks iw ih c a b i).w∧(lF1 F L ks iw ih c a b i).w≤1099515822080)∧0≤(lF1 F L ks iw ih c a b i).h∧(lF1 F L ks iw ih c a b i).h≤1099515822080:=by
  have h1:=hL (gI ks (a+i)) (gI_mem (by omega)) iw ih (gI (lSizes F ks iw c a b) i+eA (kS F ks (a+i))) (-1);have h2:0≤eA (kS F ks (a+i))∧eA (kS F ks (a+i))≤4194304:=(hg (gI ks (a+i))).eA_bd;have h3:0≤gI (lSizes F ks iw c a b) i∧gI (lSizes F ks iw c a b) i≤1048576:=gI_bd i;unfold lF1;omega
theorem lH_bd (one:Bool) {B:Int} (hih:ih≤B) (hB:B≤2251799813685248) (hi:-1≤ih):0≤lH F L ks iw ih c a b one∧lH F L ks iw ih c a b one≤2251799813685248:=by
  have h1:=maxN_bd (f:=fun i=>(lF1 F L ks iw ih c a b i).h+mD (kS F ks (a+i))) (B:=4398046511104) (by decide) (b - a) fun i hi=>by
    have h2:=lF1_bd hg hL (iw:=iw) (ih:=ih) (c:=c) hb hi;have h3:=mD_bd (kS F ks (a+i));omega
  unfold lH lMost
  split
  · omega
  · omega
theorem lF2_bd {hh:Int} (hh1:0≤hh∧hh≤2251799813685248) {j:Nat} (hj:j<b - a):((lF2 F L ks iw ih c a b hh j).x=0∧(lF2 F L ks iw ih c a b hh j).y=0)∧0≤(lF2 F L ks iw ih c a b hh j).h∧(lF2 F L ks iw ih c a b hh j).h≤2251799813685248:=by
  unfold lF2
  split
  · have h1 := hL (gI ks (a + j)) (gI_mem (by omega)) iw ih (lF1 F L ks iw ih c a b j).w (limH (kS F ks (a + j)) (max (hh - (eD (kS F ks (a + j)) + mD (kS F ks (a + j)))) 0) ih + eD (kS F ks (a + j)))
    have h2:0≤eD (kS F ks (a+j))∧eD (kS F ks (a+j))≤4194304:=(hg (gI ks (a+j))).eD_bd;have h3:=limH_bd (kS F ks (a+j)) (max (hh - (eD (kS F ks (a+j))+mD (kS F ks (a+j)))) 0) ih;exact⟨⟨h1.2.1,h1.2.2.1⟩,h1.2.2.2.2.1,by omega⟩
  · have h1 := hL (gI ks (a + j)) (gI_mem (by omega)) iw ih (gI (lSizes F ks iw c a b) j + eA (kS F ks (a + j))) (-1)
    have h2:=lF1_bd hg hL (iw:=iw) (ih:=ih) (c:=c) hb hj;exact⟨⟨h1.2.1,h1.2.2.1⟩,h2.2.1,by omega⟩
omit hg hL hb in
theorem lOut_bd (hh:Int) (j:Nat):FB 2199023255552 (lOut F L ks iw ih c a b hh j):=by
  have h0:=mS_bd (kS F ks (a+j)) iw 0;have h3:=mS_bd (kS F ks (a+j)) iw 3;have hx:-1099511627776≤lStart F L ks iw ih c a b j∧lStart F L ks iw ih c a b j≤1099511627776:=addI_bd _ _;have hy:=acrossP_bd (val c 44) ((lF2 F L ks iw ih c a b hh j).h+mD (kS F ks (a+j))) hh;unfold FB lOut;simp only;omega
omit hg hL hb in
theorem lineP_bd (one:Bool):∀f∈lineP F L ks iw ih c a b one,FB 2199023255552 f:=fun f hf=>by
  obtain⟨i,_,rfl⟩:=tab_mem.1 hf;exact lOut_bd _ _
end
theorem rowN_bd {ls:List (Nat×Nat)} (hls:∀p∈ls,p.2≤ks.length) {B:Int} (hih:ih≤B) (hB:B≤2251799813685248) (hi:-1≤ih) (hc:0≤val c 46∧val c 46≤1048576):∀n,n≤ls.length→(0≤(rowN F L ks iw ih c ls n).2∧(rowN F L ks iw ih c ls n).2≤n*2251799814733824)∧∀f∈(rowN F L ks iw ih c ls n).1,FB (2199023255552+n*2251799814733824) f
  | 0,_=>⟨by simp[rowN],fun f hf=>by simp[rowN] at hf⟩
  | n + 1, hn => by
    obtain⟨h1,h2⟩:=rowN_bd hls hih hB hi hc n (by omega);have hp:(ls.getD n (0,0)).2≤ks.length:=by
      rw[List.getD_eq_getElem?_getD,List.getElem?_eq_getElem (by omega)];exact hls _ (List.getElem_mem _)
    have h3:=lH_bd hg hL (iw:=iw) (c:=c) (a:=(ls.getD n (0,0)).1) hp (decide (ls.length=1)) hih hB hi;have e:((n+1:Nat):Int)*2251799814733824=n*2251799814733824+2251799814733824:=by omega
    rw[e];refine⟨?_,fun f hf=>?_⟩
    · simp only [rowN]
      split<;>omega
    · simp only [rowN] at hf
      rcases List.mem_append.1 hf with hf | hf
      · have := h2 f hf
        unfold FB at this ⊢;omega
      · obtain ⟨f0, hf0, rfl⟩ := List.mem_map.1 hf
        have:=lineP_bd _ f0 hf0;unfold FB at this ⊢;simp only[shiftY]
        split<;>omega
omit hg hL in
theorem rowN_len {ls:List (Nat×Nat)} (hls:∀p∈ls,p.2≤p.1+64):∀n,n≤ls.length→(rowN F L ks iw ih c ls n).1.length≤64*n
  | 0,_=>by simp[rowN]
  | n + 1, hn => by
    have h1:=rowN_len hls n (by omega);have hp:(ls.getD n (0,0)).2≤(ls.getD n (0,0)).1+64:=by
      rw[List.getD_eq_getElem?_getD,List.getElem?_eq_getElem (by omega)];exact hls _ (List.getElem_mem _)
    simp only[rowN,List.length_append,List.length_map,lineP,tab_len];omega
end
abbrev q4 (a b c d:Int):Value:=.agg #[.int .i64 a,.int .i64 b,.int .i64 c,.int .i64 d]
abbrev q2 (a b:Int):Value:=.agg #[.int .i64 a,.int .i64 b]
abbrev e4 (s:List Value):Value:=q4 (eS s 0) (eS s 1) (eS s 2) (eS s 3)
abbrev m4 (s:List Value) (b:Int):Value:=q4 (mS s b 0) (mS s b 1) (mS s b 2) (mS s b 3)
theorem fends0_ct:Ct Tryz.prog 179 #[.int .i64 0] [] (fun _=>True) (X:=Unit) (fun _=>.tuple #[.int .i64 3,.int .i64 1]) (fun _=>True) (fun _=>[]):=by
  refine Ci fun w0 _=>?_;refine gg ?_;refine WP.condT rfl ?_;refine gg ?_;exact rt2 fun w hw=>⟨(),rfl,trivial,hw.pk⟩
theorem fsum0_ct (a b c d:Int) (h:-4611686018427387904≤d+b∧d+b≤4611686018427387904):Ct Tryz.prog 171 #[q4 (a) (b) (c) (d),.int .i64 0] [] (fun _=>True) (X:=Unit) (fun _=>.int .i64 (d+b)) (fun _=>True) (fun _=>[]):=by
  refine Ci fun w0 _=>?_;refine gg ?_;refine WPL.ef xB fun b2=>?_;refine gg ?_;refine eF (xC fends0_ct) fun _ _=>?_;refine mv rfl ?_;refine gg ?_;refine WP.drawS none [(0,true),(1,true),(2,true),(3,true),(4,true),(5,true),(6,true),(7,true)] mixed (by kernel_rfl) (by decide) (fun _ h=>h.drawn) ?_;refine gg ?_;exact rt1 fun w hw=>⟨(),rfl,trivial,hw.pk⟩
theorem fends1_ct:Ct Tryz.prog 179 #[.int .i64 1] [] (fun _=>True) (X:=Unit) (fun _=>.tuple #[.int .i64 0,.int .i64 2]) (fun _=>True) (fun _=>[]):=by
  refine Ci fun w0 _=>?_;refine gg ?_;refine WP.condF rfl ?_;refine gg ?_;exact rt2 fun w hw=>⟨(),rfl,trivial,hw.pk⟩
theorem fsum1_ct (a b c d:Int) (h:-4611686018427387904≤a+c∧a+c≤4611686018427387904):Ct Tryz.prog 171 #[q4 (a) (b) (c) (d),.int .i64 1] [] (fun _=>True) (X:=Unit) (fun _=>.int .i64 (a+c)) (fun _=>True) (fun _=>[]):=by
  refine Ci fun w0 _=>?_;refine gg ?_;refine WPL.ef xB fun b2=>?_;refine gg ?_;refine eF (xC fends1_ct) fun _ _=>?_;refine mv rfl ?_;refine gg ?_;refine WP.drawS none [(0,true),(1,true),(2,true),(3,true),(4,true),(5,true),(6,true),(7,true)] mixed (by kernel_rfl) (by decide) (fun _ h=>h.drawn) ?_;refine gg ?_;exact rt1 fun w hw=>⟨(),rfl,trivial,hw.pk⟩
theorem fsums_ct (a b c d:Int) (h1:-4611686018427387904≤d+b∧d+b≤4611686018427387904) (h2:-4611686018427387904≤a+c∧a+c≤4611686018427387904):Ct Tryz.prog 152 #[q4 (a) (b) (c) (d)] [] (fun _=>True) (X:=Unit) (fun _=>q2 (d+b) (a+c)) (fun _=>True) (fun _=>[]):=by
  refine Ci fun w0 _=>?_;refine gg ?_;refine WPL.ef xB fun b1=>?_;refine WPL.ef xAl fun b2=>?_;refine gg ?_;refine wP (some 5) [0,1] [pT 0,pT 2,pF 1,pF 3,pT 4,pF 5] ?_;refine gg ?_;refine dG (xC (fsum0_ct a b c d h1)) fun _ _=>?_;refine dG (xC (fsum1_ct a b c d h2)) fun _ _=>?_;refine tE rfl (v_array (us:=[.int .i64 _,.int .i64 _]) Tryz.underlying109 Tryz.zeroValue109 Tryz.sizeOf3 rfl rfl rfl) ?_;refine dE0 (xW rfl) fun _=>?_;refine gg ?_;exact rtC rfl fun w hw=>⟨(),rfl,trivial,hw.pk⟩
theorem fbegins_ct (a b c d:Int):Ct Tryz.prog 149 #[q4 (a) (b) (c) (d)] [] (fun _=>True) (X:=Unit) (fun _=>q2 d a) (fun _=>True) (fun _=>[]):=by
  refine Ci fun w0 _=>?_;refine gg ?_;refine WPL.ef xB fun b1=>?_;refine WPL.ef xAl fun b2=>?_;refine nl (oo ?_);refine sqR ?_
  iterate 4 refine av ?_
  refine vl (v_array (us:=[.int .i64 _,.int .i64 _]) Tryz.underlying109 Tryz.zeroValue109 Tryz.sizeOf3 rfl rfl rfl) ?_;refine WPL.ef0 (xW rfl) fun _=>?_;refine gg ?_;exact rtC rfl fun w hw=>⟨(),rfl,trivial,hw.pk⟩
theorem fplus_ct (a b c d:Int) (h1:-4611686018427387904≤a+c∧a+c≤4611686018427387904) (h2:-4611686018427387904≤b+d∧b+d≤4611686018427387904):Ct Tryz.prog 148 #[q2 a b,q2 c d] [] (fun _=>True) (X:=Unit) (fun _=>q2 (a+c) (b+d)) (fun _=>True) (fun _=>[]):=by
  refine Ci fun w0 _=>?_;refine gg ?_;refine WPL.ef xB fun b2=>?_;refine WPL.ef xB fun b3=>?_;refine WPL.ef xAl fun b4=>?_;refine nl (oo ?_);refine sqR ?_
  iterate 10 refine av ?_
  refine vl (v_array (us:=[.int .i64 _,.int .i64 _]) Tryz.underlying109 Tryz.zeroValue109 Tryz.sizeOf3 rfl rfl rfl) ?_;refine WPL.ef0 (xW rfl) fun _=>?_;refine gg ?_;exact rtC rfl fun w hw=>⟨(),rfl,trivial,hw.pk⟩
theorem fout_ct (s:List Value) (hs:SOk s):Ct Tryz.prog 133 #[.agg s.toArray] [] (fun _=>True) (X:=Unit) (fun _=>.bool (outB s)) (fun _=>True) (fun _=>[]):=by
  refine Ci fun w0 _=>?_;refine gg ?_;refine WPL.ef (xB (us:=s)) fun b1=>?_;refine gg ?_;refine vl (vS hs 1) ?_
  iterate 2 refine av ?_
  refine WPL.split 6 rfl (fun h6=>?_) (fun h6=>?_)
  ·refine gg ?_;exact rt1 fun w hw=>⟨(),congrArg Value.bool (by unfold outB;simp_all),trivial,hw.pk⟩
  ·refine ag ?_;refine vg (vS hs 1) ?_;refine gg ?_;exact rt1 fun w hw=>⟨(),congrArg Value.bool (by unfold outB;simp_all),trivial,hw.pk⟩
theorem fedges_ct (s:List Value) (hs:SOk s) (hb:∀i,i<4→-4611686018427387904≤val s (31+i)+val s (35+i)∧val s (31+i)+val s (35+i)≤4611686018427387904):Ct Tryz.prog 40 #[.agg s.toArray] [] (fun _=>True) (X:=Unit) (fun _=>e4 s) (fun _=>True) (fun _=>[]):=by
  refine Ci fun w0 _=>?_;have e0:=hb 0 (by decide);have e1:=hb 1 (by decide);have e2:=hb 2 (by decide);have e3:=hb 3 (by decide);dsimp only[Nat.reduceAdd] at e0 e1 e2 e3;refine gg ?_;refine WPL.ef (xB (us:=s)) fun b1=>?_;refine WPL.ef xAl fun b2=>?_;refine gg ?_;refine vl (vS4 hs 31 32 33 34) ?_;refine WPL.ef xAl fun b3=>?_;refine WPL.ef0 (xW rfl) fun _=>?_;refine gg ?_;refine vl (vS4 hs 35 36 37 38) ?_;refine gg ?_;refine WP.loopN 5 ?_;refine WPR.succ ?_;refine gg ?_;refine WP.condT rfl ?_;refine WP.skip (onto_of ?_);refine sq ?_;refine WP.block ?_;refine sqR ?_;refine av ?_;refine vl (v_idx1 (j:=0) (u:=.int .i64 _) Tryz.underlying35 Tryz.isAgg3 Tryz.sizeOf3 rfl rfl rfl (by decide) rfl) ?_;refine gg ?_;refine WPL.ef0 (xS rfl (isI rfl)) fun _=>?_;refine nl (oo ?_);refine WP.region ?_
  iterate 2 refine av ?_
  refine WPL.nil (rounds_of ?_);refine WPR.succ ?_;refine gg ?_;refine WP.condT rfl ?_;refine WP.skip (onto_of ?_);refine sq ?_;refine WP.block ?_;refine sqR ?_;refine av ?_;refine vl (v_idx1 (j:=1) (u:=.int .i64 _) Tryz.underlying35 Tryz.isAgg3 Tryz.sizeOf3 rfl rfl rfl (by decide) rfl) ?_;refine gg ?_;refine WPL.ef0 (xS rfl (isI rfl)) fun _=>?_;refine nl (oo ?_);refine WP.region ?_
  iterate 2 refine av ?_
  refine WPL.nil (rounds_of ?_);refine WPR.succ ?_;refine gg ?_;refine WP.condT rfl ?_;refine WP.skip (onto_of ?_);refine sq ?_;refine WP.block ?_;refine sqR ?_;refine av ?_;refine vl (v_idx1 (j:=2) (u:=.int .i64 _) Tryz.underlying35 Tryz.isAgg3 Tryz.sizeOf3 rfl rfl rfl (by decide) rfl) ?_;refine gg ?_;refine WPL.ef0 (xS rfl (isI rfl)) fun _=>?_;refine nl (oo ?_);refine WP.region ?_
  iterate 2 refine av ?_
  refine WPL.nil (rounds_of ?_);refine WPR.succ ?_;refine gg ?_;refine WP.condT rfl ?_;refine WP.skip (onto_of ?_);refine sq ?_;refine WP.block ?_;refine sqR ?_;refine av ?_;refine vl (v_idx1 (j:=3) (u:=.int .i64 _) Tryz.underlying35 Tryz.isAgg3 Tryz.sizeOf3 rfl rfl rfl (by decide) rfl) ?_;refine gg ?_;refine WPL.ef0 (xS rfl (isI rfl)) fun _=>?_;refine nl (oo ?_);refine WP.region ?_
  iterate 2 refine av ?_
  refine WPL.nil (rounds_of ?_);refine WPR.succ ?_;refine gg ?_;refine WP.condF rfl ?_;refine WP.exit (onto_of ?_);refine gg ?_;refine WPL.ef0 (xW rfl) fun _=>?_;refine gg ?_;exact rtC rfl fun w hw=>⟨(),rfl,trivial,hw.pk⟩
theorem fmargins_ct (s:List Value) (hs:SOk s) (base:Int):Ct Tryz.prog 172 #[.agg s.toArray,.int .i64 base] [] (fun _=>True) (X:=Unit) (fun _=>m4 s base) (fun _=>True) (fun _=>[]):=by
  refine Ci fun w0 _=>?_;refine gg ?_;refine WPL.ef (xB (us:=s)) fun b2=>?_;refine WPL.ef xAl fun b4=>?_;refine nl (oo ?_);refine sqR ?_;refine av ?_;refine vl (v_loadA (cs:=[.int .i64 (val s 15),.int .i64 (val s 16),.int .i64 (val s 17),.int .i64 (val s 18),.int .i64 (val s 19),.int .i64 (val s 20),.int .i64 (val s 21),.int .i64 (val s 22)]) Tryz.isAgg34 Tryz.sizeOf34 rfl (fun w hw=>hw.cl_at (i:=0) rfl 15 (SOk.segE hs 8 15 (by decide) rfl rfl rfl))) ?_;refine gg ?_;refine eF (xC (sides_ct (val s 15) (val s 16) (val s 17) (val s 18) (val s 19) (val s 20) (val s 21) (val s 22) base)) fun _ _=>?_;refine WPL.ef xAl fun b5=>?_;refine WPL.ef0 (xW rfl) fun _=>?_;refine nl (oo ?_);refine sq ?_;refine sqR ?_;refine vl (v_array (us:=[.int .i64 _,.int .i64 _]) Tryz.underlying40 Tryz.zeroValue40 Tryz.sizeOf3 rfl rfl rfl) ?_;refine gg ?_;refine WP.loopN 3 ?_;refine WPR.succ ?_;refine gg ?_;refine WP.condT rfl ?_;refine WP.skip (onto_of ?_);refine sq ?_;refine WP.block ?_;refine sqR ?_;refine vl (v_idx1 (j:=0) (u:=.int .i64 _) Tryz.underlying40 Tryz.isAgg3 Tryz.sizeOf3 rfl rfl rfl (by decide) rfl) ?_;refine gg ?_;refine vl (vS2 hs 15 16) ?_;refine eF (xC (lenof_ct _ _ (-1) 0)) fun _ _=>?_;refine gg ?_;refine WPL.ef0 (xS rfl (isI rfl)) fun _=>?_;refine nl (oo ?_);refine WP.region ?_
  iterate 2 refine av ?_
  refine WPL.nil (rounds_of ?_);refine WPR.succ ?_;refine gg ?_;refine WP.condT rfl ?_;refine WP.skip (onto_of ?_);refine sq ?_;refine WP.block ?_;refine sqR ?_;refine vl (v_idx1 (j:=1) (u:=.int .i64 _) Tryz.underlying40 Tryz.isAgg3 Tryz.sizeOf3 rfl rfl rfl (by decide) rfl) ?_;refine gg ?_;refine vl (vS2 hs 19 20) ?_;refine eF (xC (lenof_ct _ _ (-1) 0)) fun _ _=>?_;refine gg ?_;refine WPL.ef0 (xS rfl (isI rfl)) fun _=>?_;refine nl (oo ?_);refine WP.region ?_
  iterate 2 refine av ?_
  refine WPL.nil (rounds_of ?_);refine WPR.succ ?_;refine gg ?_;refine WP.condF rfl ?_;refine WP.exit (onto_of ?_);refine gg ?_;refine WPL.ef0 (xW rfl) fun _=>?_;refine gg ?_;exact rtC rfl fun w hw=>⟨(),rfl,trivial,hw.pk⟩
theorem fwide_ct (s:List Value) (hs:SOk s) (rw sw:Int) (he:∀i,i<4→0≤val s (31+i)+val s (35+i)∧val s (31+i)+val s (35+i)≤2097152) (hr:-1≤rw∧rw≤2305843009213693952) (hw1:-1≤sw∧sw≤2305843009213693952):Ct Tryz.prog 145 #[.agg s.toArray,.int .i64 rw,.int .i64 sw] [] (fun _=>True) (X:=Unit) (fun _=>.int .i64 (iwP s rw sw)) (fun _=>True) (fun _=>[]):=by
  refine Ci fun w0 _=>?_;have e0:=he 0 (by decide);have e1:=he 1 (by decide);have e2:=he 2 (by decide);have e3:=he 3 (by decide);dsimp only[Nat.reduceAdd] at e0 e1 e2 e3;have ea:0≤eA s∧eA s≤4194304:=by unfold eA eS;dsimp only[Nat.reduceAdd];omega
  have ed:0≤eD s∧eD s≤4194304:=by unfold eD eS;dsimp only[Nat.reduceAdd];omega
  refine gg ?_;refine WPL.ef (xB (us:=s)) fun b3=>?_;refine gg ?_;refine vl (vW (SOk.len hs)) ?_;refine eF (xC (fedges_ct s hs (fun i hi=>by have:=he i hi;omega))) fun _ _=>?_;refine eF (xC (fsum0_ct _ _ _ _ (by show _≤eA s∧eA s≤_;omega))) fun _ _=>?_;refine av ?_;refine nl (oo ?_)
  iterate 2 refine sq ?_
  have hea:eA s=eS s 3+eS s 1:=rfl;refine gg ?_;refine WP.condP rfl (fun h13=>?_) (fun h13=>?_)
  ·have hr:iwP s rw sw=max (sw - eA s) 0:=by unfold iwP;rw[if_neg h13]
   refine gg ?_;exact rt1 fun w hw=>⟨(),congrArg (Value.int .i64) (by rw[hr];try rfl),trivial,hw.pk⟩
  ·have hr:iwP s rw sw=limW s (ofL (val s 3) (val s 4) rw (max (rw - mA s rw - eA s) 0)) rw:=by unfold iwP;rw[if_pos (by omega)]
   have hm:=mA_bd s rw;have hma:mA s rw=mS s rw 3+mS s rw 1:=rfl;have hea:eA s=eS s 3+eS s 1:=rfl;refine gg ?_;refine vl (vW (SOk.len hs)) ?_;refine gg ?_;refine eF (xC (fmargins_ct s hs rw)) fun _ _=>?_;refine eF (xC (fsum0_ct _ _ _ _ (by have:=mA_bd s rw;show _≤mA s rw∧mA s rw≤_;omega))) fun _ _=>?_;refine gg ?_;refine wP none [0] [pT 0,pT 1,pT 2,pT 3,pT 5,pT 6,pT 7,pT 8,pT 9,pF 4,pF 10,pT 11] ?_;refine gg ?_;refine tD (vS2 hs 3 4) ?_;refine gg ?_;refine tD (vS2 hs 7 8) ?_;refine gg ?_;refine tD (vS2 hs 11 12) ?_;refine gg ?_;refine dG (xC (lenof_ct (val s 3) (val s 4) rw _)) fun _ _=>?_;refine dG (xC (limit_ct _ (val s 7) (val s 8) (val s 11) (val s 12) rw)) fun _ _=>?_;refine gg ?_;exact rt1 fun w hw=>⟨(),congrArg (Value.int .i64) (by rw[hr];try rfl),trivial,hw.pk⟩
theorem flimit_ct (s:List Value) (hs:SOk s) (n r:Int):Ct Tryz.prog 151 #[.agg s.toArray,.int .i64 n,.int .i64 r] [] (fun _=>True) (X:=Unit) (fun _=>.int .i64 (limH s n r)) (fun _=>True) (fun _=>[]):=by
  refine Ci fun w0 _=>?_;refine gg ?_;refine WPL.ef (xB (us:=s)) fun b3=>?_;refine gg ?_;refine vl (vS2 hs 9 10) ?_;refine gg ?_;refine vl (vS2 hs 13 14) ?_;refine gg ?_;refine eF (xC (limit_ct n (val s 9) (val s 10) (val s 13) (val s 14) r)) fun _ _=>?_;refine gg ?_;exact rt1 fun w hw=>⟨(),rfl,trivial,hw.pk⟩
theorem fhigh_ct (s:List Value) (hs:SOk s) (rh sh:Int) (he:∀i,i<4→0≤val s (31+i)+val s (35+i)∧val s (31+i)+val s (35+i)≤2097152) (hr:-1≤rh∧rh≤2305843009213693952) (hw1:-1≤sh∧sh≤2305843009213693952):Ct Tryz.prog 146 #[.agg s.toArray,.int .i64 rh,.int .i64 sh] [] (fun _=>True) (X:=Unit) (fun _=>.int .i64 (ihP s rh sh)) (fun _=>True) (fun _=>[]):=by
  refine Ci fun w0 _=>?_;have e0:=he 0 (by decide);have e1:=he 1 (by decide);have e2:=he 2 (by decide);have e3:=he 3 (by decide);dsimp only[Nat.reduceAdd] at e0 e1 e2 e3;have ea:0≤eA s∧eA s≤4194304:=by unfold eA eS;dsimp only[Nat.reduceAdd];omega
  have ed:0≤eD s∧eD s≤4194304:=by unfold eD eS;dsimp only[Nat.reduceAdd];omega
  refine gg ?_;refine WPL.ef (xB (us:=s)) fun b3=>?_;refine gg ?_;refine WP.condP rfl (fun h7=>?_) (fun h7=>?_)
  ·have hr:ihP s rh sh=max (sh - eD s) 0:=by unfold ihP;rw[if_neg h7]
   have hed:eD s=eS s 0+eS s 2:=rfl;refine gg ?_;refine vl (vW (SOk.len hs)) ?_;refine eF (xC (fedges_ct s hs (fun i hi=>by have:=he i hi;omega))) fun _ _=>?_;refine eF (xC (fsum1_ct _ _ _ _ (by show _≤eD s∧eD s≤_;omega))) fun _ _=>?_;refine gg ?_;exact rt1 fun w hw=>⟨(),congrArg (Value.int .i64) (by rw[hr];try rfl),trivial,hw.pk⟩
  ·refine gg ?_;refine vl (vS2 hs 5 6) ?_;refine gg ?_;refine eF (xC (fixed_ct (val s 5) (val s 6) rh)) fun _ _=>?_;refine gg ?_;refine WP.cond rfl (fun h16=>?_) (fun h16=>?_)
   ·have hr:ihP s rh sh=limH s (ofL (val s 5) (val s 6) rh 0) rh:=by unfold ihP;rw[if_pos (by omega),if_pos h16]
    refine gg ?_;refine wP none [0] [pT 0,pT 1,pT 2,pT 3,pT 5,pF 4,pF 6,pT 7] ?_;refine tD (vW (SOk.len hs)) ?_;refine gg ?_;refine tD (vS2 hs 5 6) ?_;refine gg ?_;refine dG (xC (lenof_ct (val s 5) (val s 6) rh 0)) fun _ _=>?_;refine dG (xC (flimit_ct s hs _ rh)) fun _ _=>?_;refine gg ?_;exact rt1 fun w hw=>⟨(),congrArg (Value.int .i64) (by rw[hr];try rfl),trivial,hw.pk⟩
   ·have hr:ihP s rh sh= -1:=by unfold ihP;rw[if_pos (by omega),if_neg (by simp[h16])]
    refine gg ?_;exact rt1 fun w hw=>⟨(),congrArg (Value.int .i64) (by rw[hr];try rfl),trivial,hw.pk⟩
theorem fmoved_ct (s:List Value) (hs:SOk s) (iw ih:Int):Ct Tryz.prog 150 #[.agg s.toArray,q2 iw ih] [] (fun _=>True) (X:=Unit) (fun _=>q2 (movX s iw) (movY s ih)) (fun _=>True) (fun _=>[]):=by
  refine Ci fun w0 _=>?_;refine gg ?_;refine WPL.ef (xB (us:=s)) fun b2=>?_;refine WPL.ef xB fun b3=>?_;refine WPL.ef xAl fun b4=>?_;refine gg ?_;refine WPL.ef xAl fun b5=>?_;refine gg ?_;refine vl (vS hs 1) ?_;refine gg ?_;refine WP.condP rfl (fun h11=>?_) (fun h11=>?_)
  ·have hr1:movX s iw=0:=by unfold movX;rw[if_neg h11]
   have hr2:movY s ih=0:=by unfold movY;rw[if_neg h11]
   refine gg ?_;refine WPL.ef0 (xW rfl) fun _=>?_;refine gg ?_;exact rtC rfl fun w hw=>⟨(),by rw[hr1,hr2];try rfl,trivial,hw.pk⟩
  ·have hr1:movX s iw=ofL (val s 29) (val s 30) iw (-(inO s 1 iw)):=by unfold movX;rw[if_pos (by omega)]
   have hr2:movY s ih=ofL (val s 23) (val s 24) ih (-(inO s 2 ih)):=by unfold movY;rw[if_pos (by omega)]
   refine gg ?_;refine WP.loopN 3 ?_;refine WPR.succ ?_;refine gg ?_;refine WP.condT rfl ?_;refine gg ?_;refine eF (xC fends0_ct) fun _ _=>?_;refine mv rfl ?_;refine av ?_
   skip
   refine av ?_
   skip
   refine gg ?_;refine wP (some 19) [0,1,2] [pT 0,pT 1,pT 2,pT 3,pT 4,pT 5,pT 6,pT 7,pT 8,pT 9,pT 10,pT 11,pT 12,pT 13,pT 14,pF 15,pT 16,pF 17,pT 18,pF 19] ?_;refine gg ?_;refine tD (vS2 hs 29 30) ?_;refine gg ?_;refine tD (vS2 hs 25 26) ?_;refine gg ?_;refine dG (xC (lenof_ct (val s 25) (val s 26) iw 0)) fun _ _=>?_;refine tE rfl (v_neg rfl (by have h1:=ofL_bd (val s 25) (val s 26) iw 0;have h2:=ofL_bd (val s 27) (val s 28) ih 0;omega)) ?_;refine dG (xC (lenof_ct (val s 29) (val s 30) iw _)) fun _ _=>?_;refine gg ?_;refine dE0 (xS rfl (isI rfl)) fun _=>?_;refine WPD.nil (onto_of ?_);refine WP.region ?_
   iterate 2 refine av ?_
   refine WPL.nil (rounds_of ?_);refine WPR.succ ?_;refine gg ?_;refine WP.condT rfl ?_;refine gg ?_;refine eF (xC fends1_ct) fun _ _=>?_;refine mv rfl ?_;refine av ?_
   skip
   refine av ?_
   skip
   refine gg ?_;refine wP (some 19) [0,1,2] [pT 0,pT 1,pT 2,pT 3,pT 4,pT 5,pT 6,pT 7,pT 8,pT 9,pT 10,pT 11,pT 12,pT 13,pT 14,pF 15,pT 16,pF 17,pT 18,pF 19] ?_;refine gg ?_;refine tD (vS2 hs 23 24) ?_;refine gg ?_;refine tD (vS2 hs 27 28) ?_;refine gg ?_;refine dG (xC (lenof_ct (val s 27) (val s 28) ih 0)) fun _ _=>?_;refine tE rfl (v_neg rfl (by have h1:=ofL_bd (val s 25) (val s 26) iw 0;have h2:=ofL_bd (val s 27) (val s 28) ih 0;omega)) ?_;refine dG (xC (lenof_ct (val s 23) (val s 24) ih _)) fun _ _=>?_;refine gg ?_;refine dE0 (xS rfl (isI rfl)) fun _=>?_;refine WPD.nil (onto_of ?_);refine WP.region ?_
   iterate 2 refine av ?_
   refine WPL.nil (rounds_of ?_);refine WPR.succ ?_;refine gg ?_;refine WP.condF rfl ?_;refine WP.exit (onto_of ?_);refine gg ?_;refine WPL.ef0 (xW rfl) fun _=>?_;refine gg ?_;exact rtC rfl fun w hw=>⟨(),by rw[hr1,hr2];try rfl,trivial,hw.pk⟩
end Go.Proofs.YtbedndijejpcaaaGreat
