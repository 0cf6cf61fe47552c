/- The statement FlowHigh is true of every input: the Go function valancelaw15.FlowHigh answers true, and each argument reads behind the call as it did. No condition. -/
import Derived.Test.YtpgjbbaplpdaiaaGreatS23
set_option linter.unusedVariables false
set_option linter.unusedSimpArgs false
set_option linter.unusedSectionVars false
set_option maxRecDepth 100000
set_option maxHeartbeats 8000000
namespace Go.Proofs.YtpgjbbaplpdaiaaGreat
open Go.RowKit
section
variable {F:Forest (List Value)} {d:Int→Nat}
theorem flat_good (hF:WF F d) (hg:∀x,GS (stF F x)) {ww wh:Int}:∀(n:Nat) (f:Frm),Good F ww wh f→∀g∈flatN n f,Good F ww wh g
  | 0,f,_,g,hm=>by simp[flatN] at hm
  | n + 1, f, h, g, hm => by
    rw[flatN] at hm
    rcases List.mem_cons.1 hm with rfl | hm
    · exact h
    · obtain ⟨k, hk, hm⟩ := List.mem_flatMap.1 hm
      exact flat_good hF hg n k (h.kids hF hg k hk).1 g hm
theorem all_good (hF:WF F d) (hg:∀x,GS (stF F x)) (w h:Int):∀f∈allP F w h,Good F (max w 0) (max h 0) f:=fun f hf=>by
  unfold allP at hf
  split at hf
  · exact flat_good hF hg 64 _ (good_root hF hg _ _ _ _) f hf
  · simp at hf
theorem good_size (hF:WF F d) (hg:∀x,GS (stF F x)) {ww wh:Int} {f:Frm} (h:Good F ww wh f):eA (stF F f.id)≤f.w∧eD (stF F f.id)≤f.h:=by
  obtain⟨hx,rw',rh,sw,sh,hw,hh,_⟩:=h;have h1:=(hg f.id).iwP_bd rw' sw;have h2:=(hg f.id).ihP_bd rh sh;have h3:=ihEnd_bd (stF F f.id) rh (ihP (stF F f.id) rh sh) (inP F (LAY F ww wh) f.id (iwP (stF F f.id) rw' sw) (ihP (stF F f.id) rh sh)).2 h2.1;rw[LAY_eq hF hx] at hw hh;rw[hw,hh];unfold layStep;dsimp only;omega
theorem look_all (hF:WF F d) (hg:∀x,GS (stF F x)) {m:List (Int×Value)} {w h:Int} (hm:MapOf m (allP F w h)) {y:Int} (hy:y∈order F):
    ∃a b c e:Int,(lookM m y).isSome=shownF F y∧(lookM m y).getD (.agg #[.int .i64 0,.int .i64 0,.int .i64 0,.int .i64 0])=.agg #[.int .i64 a,.int .i64 b,.int .i64 c,.int .i64 e]∧(shownF F y=true→eS (stF F y) 1+eS (stF F y) 3≤c∧eS (stF F y) 0+eS (stF F y) 2≤e):=by
  obtain⟨_,h2,h3⟩:=hm;have hp:=all_ids hF hg w h;cases hs:shownF F y with
  | true =>
    have hi:=hp.mem_iff.2 (List.mem_filter.2 ⟨hy,hs⟩);obtain⟨f,hf,rfl⟩:=List.mem_map.1 hi;have hq:=good_size hF hg (all_good hF hg w h f hf);have b1:=(hg f.id).eA_bd;have b2:=(hg f.id).eD_bd;have e1:eA (stF F f.id)=eS (stF F f.id) 3+eS (stF F f.id) 1:=rfl;have e2:eD (stF F f.id)=eS (stF F f.id) 0+eS (stF F f.id) 2:=rfl;rw[h2 f hf];refine⟨_,_,_,_,rfl,rfl,fun _=>?_⟩;unfold cut;omega
  | false =>
    have hn:lookM m y=none:=h3 y fun f hf e=>by
      have hi:=hp.mem_iff.1 (List.mem_map.2 ⟨f,hf,e⟩);rw[(List.mem_filter.1 hi).2] at hs;cases hs
    rw[hn];exact⟨_,_,_,_,rfl,rfl,fun h=>by cases h⟩
theorem look_len (hF:WF F d) (hg:∀x,GS (stF F x)) {m:List (Int×Value)} {w h:Int} (hm:MapOf m (allP F w h)):m.length=((order F).filter (shownF F)).length:=by
  rw[hm.1,←(all_ids hF hg w h).length_eq,List.length_map]
end
theorem W1_0:W1 0=some ⟨-1,[1],zeroS⟩:=by kernel_rfl
theorem W1_1:W1 1=some ⟨0,[],zeroS⟩:=by kernel_rfl
def F1 (s:List Value):Forest (List Value):=setG W1 1 s
theorem set_F1 {s:List Value} (h:(setR validB W1 1 s).2=0):(setR validB W1 1 s).1=F1 s∧validB s=true:=by
  unfold setR at*;have hh:hasF W1 1=true:=has_some W1_1;rw[hh] at h ⊢;simp only[Bool.true_eq_false,if_false] at h ⊢
  split at h
  · simp at h
  · rename_i hv
    rw[if_neg hv];exact⟨rfl,by simpa using hv⟩
section
variable {s:List Value}
theorem F1_0:F1 s 0=some ⟨-1,[1],zeroS⟩:=by unfold F1 setG;rw[if_neg (by decide),W1_0]
theorem F1_1:F1 s 1=some ⟨0,[],s⟩:=by unfold F1 setG;rw[if_pos rfl,W1_1];rfl
theorem F1_st0:stF (F1 s) 0=zeroS:=by simp[styF,F1_0]
theorem F1_st1:stF (F1 s) 1=s:=by simp[styF,F1_1]
theorem F1_k0:kidsF (F1 s) 0=[1]:=by simp[kidsF,F1_0]
theorem F1_k1:kidsF (F1 s) 1=[]:=by simp[kidsF,F1_1]
variable {d:Int→Nat} (hF:WF (F1 s) d) (hg:∀x,GS (stF (F1 s) x)) (hs3:val s 0≠3) (hout:outB s=false)
include hF in
theorem F1_sh0:shownF (F1 s) 0=true:=by rw[shown_root hF,F1_st0];rfl
include hF hs3 in
theorem F1_sh1:shownF (F1 s) 1=true:=by rw[shown_kid hF (x:=0) (by rw[F1_k0];simp),F1_sh0 hF,F1_st1];simp[hs3]
include hF hs3 hout in
theorem F1_kp:kidsP (F1 s) 0 false=[1]:=by unfold kidsP;rw[F1_k0];simp[F1_sh1 hF hs3,F1_st1,hout]
theorem zero_iw {w:Int} (h0:0≤w) (h1:w≤1048576):iwP zeroS w (-1)=w:=by
  have e3:val zeroS 3=0:=rfl;have e4:val zeroS 4=0:=rfl;have e7:val zeroS 7=0:=rfl;have e8:val zeroS 8=0:=rfl;have e11:val zeroS 11=0:=rfl;have e12:val zeroS 12=0:=rfl;have e:eA zeroS=0:=rfl;have m:mA zeroS w=0:=by
    have a:mS zeroS w 3=0:=by unfold mS;show ofL 0 0 _ 0=0;unfold ofL fixedL;rw[if_pos (by simp)];rfl
    have b:mS zeroS w 1=0:=by unfold mS;show ofL 0 0 _ 0=0;unfold ofL fixedL;rw[if_pos (by simp)];rfl
    unfold mA;omega
  unfold iwP;rw[if_pos rfl,m,e];unfold limW;rw[e3,e4,e7,e8,e11,e12];unfold limitL clamp ofL fixedL;simp;unfold cut;omega
include hF hg hs3 hout in
theorem F1_wide {w h:Int} (h0:0≤w) (h1:w≤1048576):∃f∈allP (F1 s) w h,f.id=1∧f.w=iwP s w (-1)+eA s:=by
  have hh0:hasF (F1 s) 0=true:=has_some F1_0;have hh1:hasF (F1 s) 1=true:=has_some F1_1;unfold allP;rw[if_pos (F1_sh0 hF),flatN,LAY_eq hF hh0];have ew:max w 0=w:=by omega
  rw[ew]
  generalize max h 0=h'
  have hk:∃f∈(layStep (F1 s) w h' (LAY (F1 s) w h') 0 w h' (-1) (-1)).kids,f.id=1∧f.w=iwP s w (-1)+eA s:=by
    unfold layStep inP;rw[F1_kp hF hs3 hout,if_neg (by simp),F1_st0,if_neg (by decide),if_neg (by decide),zero_iw h0 h1];refine⟨_,List.mem_append_left _ (List.mem_map.2 ⟨_,(by unfold blockP;exact List.mem_singleton.2 rfl),rfl⟩),?_,?_⟩
    · exact(layN_LB w h' (hg 1) 64 w (ihP zeroS h' (-1)) (-1) (-1)).1
    · show (LAY (F1 s) w h' 1 w (ihP zeroS h' (-1)) (-1) (-1)).w = _
      rw[LAY_eq hF hh1];unfold layStep;dsimp only;rw[F1_st1]
  obtain⟨f,hf,e1,e2⟩:=hk;exact⟨f,List.mem_cons_of_mem _ (List.mem_flatMap.2 ⟨f,hf,List.mem_cons_self⟩),e1,e2⟩
end
theorem ofL_tame {k n base z B:Int} (ht:lenTame (k,n)) (hb:base≤1048576) (hz:-B≤z∧z≤B) (hB:1048576≤B):-B≤ofL k n base z∧ofL k n base z≤B:=by
  obtain⟨t1,t2⟩:=ht;dsimp only at t1 t2;unfold ofL
  split
  · unfold cut;omega
  · rename_i hf
    split
    · rename_i hk
      have:=t1 hk;unfold cut;omega
    · rename_i hk
      have h2:k=2∧0≤base:=by
        unfold fixedL at hf;simp only[decide_eq_false_iff_not,Classical.not_not] at hf
        rcases hf with h | h
        · exact absurd h hk
        · exact h
      have hn:=t2 h2.1;unfold partI;have hc:cut base=base:=cut_id (by omega) (by omega);rw[hc];have hm:base*min (max n 0) 1000000≤base*10000:=Int.mul_le_mul_of_nonneg_left (by omega) h2.2;have hp:0≤base*min (max n 0) 1000000:=Int.mul_nonneg h2.2 (by omega)
      generalize base*min (max n 0) 1000000=p at hm hp
      unfold cut;omega
theorem lim_tame {n lk ln hk hn r B:Int} (ht:lenTame (lk,ln)) (hr:r≤1048576) (h:n≤B) (hB:1048576≤B):limitL n lk ln hk hn r≤B:=by
  have h1:ofL lk ln r (-1099511627776)≤1048576:=by
    cases hf:fixedL lk r with
    | true=>rw[ofL_none hf ln (-1099511627776) 0];exact(ofL_tame (B:=1048576) ht hr (by omega) (by omega)).2
    | false=>rw[ofL_free hf];unfold cut;omega
  have h2:=ofL_bd lk ln r (-1099511627776);have h3:=ofL_bd hk hn r 1099511627776;unfold limitL clamp;rw[cut_id h2.1 h2.2,cut_id h3.1 h3.2];unfold cut;omega
theorem TameS.wid {s:List Value} (h:TameS s):lenTame (val s 3,val s 4):=h _ (by unfold tameL;simp)
theorem TameS.lo {s:List Value} (h:TameS s):lenTame (val s 7,val s 8):=h _ (by unfold tameL;simp)
theorem TameS.m1 {s:List Value} (h:TameS s):lenTame (val s 17,val s 18):=h _ (by unfold tameL;simp)
theorem TameS.m3 {s:List Value} (h:TameS s):lenTame (val s 21,val s 22):=h _ (by unfold tameL;simp)
def inW (s:List Value) (w:Int):Int:=if fixedL (val s 3) w then ofL (val s 3) (val s 4) w 0 else max (w - mS s w 1 - mS s w 3 - eS s 1 - eS s 3) 0
theorem wide_bd {s:List Value} (ht:TameS s) (hs:GS s) {w:Int} (h0:0≤w) (h1:w≤1048576):(-1048576≤mS s w 1∧mS s w 1≤1048576)∧(-1048576≤mS s w 3∧mS s w 3≤1048576)∧iwP s w (-1)=limW s (inW s w) w∧0≤limW s (inW s w) w∧limW s (inW s w) w≤3145728:=by
  have a1:-1048576≤mS s w 1∧mS s w 1≤1048576:=ofL_tame (B:=1048576) ht.m1 h1 (by omega) (by omega);have a3:-1048576≤mS s w 3∧mS s w 3≤1048576:=ofL_tame (B:=1048576) ht.m3 h1 (by omega) (by omega);have he:=hs.eA_bd;have ee:eA s=eS s 3+eS s 1:=rfl;have em:mA s w=mS s w 3+mS s w 1:=rfl;have e1:=hs.eS_bd 1 (by decide);have e3:=hs.eS_bd 3 (by decide);have hi:inW s w≤3145728:=by
    unfold inW
    split
    · exact Int.le_trans (ofL_tame (B:=1048576) ht.wid h1 (by omega) (by omega)).2 (by decide)
    · omega
  refine⟨a1,a3,?_,(limW_bd s _ w).1,lim_tame ht.lo h1 hi (by decide)⟩;unfold iwP;rw[if_pos rfl]
  congr 1
  unfold inW;cases hf:fixedL (val s 3) w with
  | true=>rw[if_pos rfl];exact ofL_none hf _ _ _
  | false =>
    rw[if_neg (by simp),ofL_free hf,show w - mS s w 1 - mS s w 3 - eS s 1 - eS s 3=w - mA s w - eA s by omega];unfold cut;omega
theorem F1_look {s:List Value} {d:Int→Nat} (hF:WF (F1 s) d) (hg:∀x,GS (stF (F1 s) x)) (hs3:val s 0≠3) (hout:outB s=false) (ht:TameS s) {m:List (Int×Value)} {w h:Int} (hm:MapOf m (allP (F1 s) w h)) (h0:0≤w) (h1:w≤1048576):
    ∃a b e:Int,lookM m 1=some (.agg #[.int .i64 a,.int .i64 b,.int .i64 (limW s (inW s w) w+eS s 1+eS s 3),.int .i64 e]):=by
  obtain⟨f,hf,hi,hw⟩:=F1_wide hF hg hs3 hout (h:=h) h0 h1;have hgs:GS s:=by have:=hg 1;rwa [F1_st1] at this
  obtain⟨_,_,h3,h4,h5⟩:=wide_bd ht hgs h0 h1;have he:=hgs.eA_bd;have ee:eA s=eS s 3+eS s 1:=rfl;have hl:=hm.2.1 f hf;rw[hi] at hl;unfold rectV at hl;rw[hw,h3,show cut (limW s (inW s w) w+eA s)=limW s (inW s w) w+eS s 1+eS s 3 by rw[cut_id (by omega) (by omega)];omega] at hl;exact⟨_,_,_,hl⟩
abbrev V2:Forest (List Value):=(addR zeroS W1 1 0).1
theorem V2_e:(addR zeroS W1 1 0).2=(2,0):=by kernel_rfl
theorem V2_0:V2 0=some ⟨-1,[1],zeroS⟩:=by kernel_rfl
theorem V2_1:V2 1=some ⟨0,[2],zeroS⟩:=by kernel_rfl
theorem V2_2:V2 2=some ⟨1,[],zeroS⟩:=by kernel_rfl
def F2 (s k:List Value):Forest (List Value):=setG (setG V2 1 s) 2 k
theorem set_F2 {s:List Value} (h:(setR validB V2 1 s).2=0):(setR validB V2 1 s).1=setG V2 1 s:=by
  unfold setR at*;rw[has_some V2_1] at h ⊢;simp only[Bool.true_eq_false,if_false] at h ⊢
  split at h
  · simp at h
  · rename_i hv
    rw[if_neg hv]
theorem set_F2' {s k:List Value} (h:(setR validB (setG V2 1 s) 2 k).2=0):(setR validB (setG V2 1 s) 2 k).1=F2 s k:=by
  have hh:hasF (setG V2 1 s) 2=true:=has_some (b:=⟨1,[],zeroS⟩) (by unfold setG;rw[if_neg (by decide),V2_2]);unfold setR at*;rw[hh] at h ⊢;simp only[Bool.true_eq_false,if_false] at h ⊢
  split at h
  · simp at h
  · rename_i hv
    rw[if_neg hv];rfl
section
variable {s k:List Value}
theorem F2_0:F2 s k 0=some ⟨-1,[1],zeroS⟩:=by unfold F2 setG;rw[if_neg (by decide),if_neg (by decide),V2_0]
theorem F2_1:F2 s k 1=some ⟨0,[2],s⟩:=by unfold F2 setG;rw[if_neg (by decide),if_pos rfl,V2_1];rfl
theorem F2_st0:stF (F2 s k) 0=zeroS:=by simp[styF,F2_0]
theorem F2_st1:stF (F2 s k) 1=s:=by simp[styF,F2_1]
theorem F2_k0:kidsF (F2 s k) 0=[1]:=by simp[kidsF,F2_0]
variable {d:Int→Nat} (hF:WF (F2 s k) d) (hg:∀x,GS (stF (F2 s k) x)) (hs3:val s 0≠3) (hout:outB s=false)
include hF in
theorem F2_sh0:shownF (F2 s k) 0=true:=by rw[shown_root hF,F2_st0];rfl
include hF hs3 in
theorem F2_sh1:shownF (F2 s k) 1=true:=by rw[shown_kid hF (x:=0) (by rw[F2_k0];simp),F2_sh0 hF,F2_st1];simp[hs3]
include hF hs3 hout in
theorem F2_kp:kidsP (F2 s k) 0 false=[1]:=by unfold kidsP;rw[F2_k0];simp[F2_sh1 hF hs3,F2_st1,hout]
theorem zero_ih (h:Int):ihP zeroS h (-1)= -1:=by
  have e5:val zeroS 5=0:=rfl;unfold ihP fixedL;rw[if_pos rfl,e5,if_neg (by simp)]
def hiN (s k:List Value) (w h:Int):Int:=(inP (F2 s k) (LAY (F2 s k) w h) 1 (iwP s w (-1)) (-1)).2
def hiH (s k:List Value) (w h:Int):Int:=if fixedL (val s 5) (-1) then limH s (ofL (val s 5) (val s 6) (-1) 0) (-1) else limH s (max (hiN s k w h) 0) (-1)
theorem hiN_leaf (w h:Int) (he:kidsP (F2 s k) 1 false=[]):hiN s k w h=val s 54:=by
  unfold hiN inP;rw[if_pos he,F2_st1]
include hF hg hs3 hout in
theorem F2_high {w h:Int} (h0:0≤w) (h1:w≤1048576) (hh:0≤h):∃f∈allP (F2 s k) w h,f.id=1∧f.h=hiH s k w h+eD s:=by
  have hh0:hasF (F2 s k) 0=true:=has_some F2_0;have hh1:hasF (F2 s k) 1=true:=has_some F2_1;unfold allP;rw[if_pos (F2_sh0 hF),flatN,LAY_eq hF hh0];have ew:max w 0=w:=by omega
  have eh:max h 0=h:=by omega
  rw[ew,eh];have hk:∃f∈(layStep (F2 s k) w h (LAY (F2 s k) w h) 0 w h (-1) (-1)).kids,f.id=1∧f.h=hiH s k w h+eD s:=by
    unfold layStep inP;rw[F2_kp hF hs3 hout,if_neg (by simp),F2_st0,if_neg (by decide),if_neg (by decide),zero_iw h0 h1,zero_ih];refine⟨_,List.mem_append_left _ (List.mem_map.2 ⟨_,(by unfold blockP;exact List.mem_singleton.2 rfl),rfl⟩),?_,?_⟩
    · exact(layN_LB w h (hg 1) 64 w (-1) (-1) (-1)).1
    · show (LAY (F2 s k) w h 1 w (-1) (-1) (-1)).h = _
      rw[LAY_eq hF hh1];unfold layStep;dsimp only;rw[F2_st1]
      congr 1
      unfold hiH;cases hf:fixedL (val s 5) (-1) with
      | true =>
        have e:ihP s (-1) (-1)=limH s (ofL (val s 5) (val s 6) (-1) 0) (-1):=by unfold ihP;rw[if_pos rfl,if_pos hf]
        have hb:=limH_bd s (ofL (val s 5) (val s 6) (-1) 0) (-1);rw[e,if_pos rfl];unfold ihEnd;rw[if_neg (by omega)]
      | false =>
        have e:ihP s (-1) (-1)= -1:=by unfold ihP;rw[if_pos rfl,hf];rfl
        rw[e,if_neg (by simp)];unfold ihEnd;rw[if_pos rfl];rfl
  obtain⟨f,hf,e1,e2⟩:=hk;exact⟨f,List.mem_cons_of_mem _ (List.mem_flatMap.2 ⟨f,hf,List.mem_cons_self⟩),e1,e2⟩
theorem lim_mono {n m lk ln hk hn r:Int} (h:n≤m):limitL n lk ln hk hn r≤limitL m lk ln hk hn r:=by
  have h2:=ofL_bd lk ln r (-1099511627776);have h3:=ofL_bd hk hn r 1099511627776;unfold limitL clamp;rw[cut_id h2.1 h2.2,cut_id h3.1 h3.2];unfold cut;omega
theorem TameS.hei {s:List Value} (h:TameS s):lenTame (val s 5,val s 6):=h _ (by unfold tameL;simp)
theorem TameS.loh {s:List Value} (h:TameS s):lenTame (val s 9,val s 10):=h _ (by unfold tameL;simp)
include hF hg hs3 hout in
theorem F2_look (ht:TameS s) {m:List (Int×Value)} (hm:MapOf m (allP (F2 s k) 300 100)):
    ∃ a b c x : Int, lookM m 1 = some (.agg #[.int .i64 a, .int .i64 b, .int .i64 c, .int .i64 (x + eS s 0 + eS s 2)]) ∧ (0 ≤ x ∧ x ≤ 1099511627776) ∧ (fixedL (val s 5) (-1) = true → x = limitL (ofL (val s 5) (val s 6) (-1) 0) (val s 9) (val s 10) (val s 13) (val s 14) (-1)) ∧
      (fixedL (val s 5) (-1)=false→kidsP (F2 s k) 1 false=[]→x=limitL (val s 54) (val s 9) (val s 10) (val s 13) (val s 14) (-1))∧(fixedL (val s 5) (-1)=false→limitL 0 (val s 9) (val s 10) (val s 13) (val s 14) (-1)≤x):=by
  obtain⟨f,hf,hi,hh⟩:=F2_high hF hg hs3 hout (w:=300) (h:=100) (by decide) (by decide) (by decide);have hgs:GS s:=by have:=hg 1;rwa [F2_st1] at this
  have he:=hgs.eD_bd;have ee:eD s=eS s 0+eS s 2:=rfl;have e0:=hgs.eS_bd 0 (by decide);have e2:=hgs.eS_bd 2 (by decide);have hl:=hm.2.1 f hf;have h54:=hgs.siz 54 (by decide);rw[hi] at hl;unfold rectV at hl;have hb:0≤hiH s k 300 100∧hiH s k 300 100≤1099511627776:=by unfold hiH;split<;>exact limH_bd _ _ _
  have hx:cut f.h=(cut f.h - eS s 0 - eS s 2)+eS s 0+eS s 2:=by omega
  rw[hx] at hl;rw[hh] at hl;have hc:∀z,z≤2097152→0≤z→cut (z+eD s) - eS s 0 - eS s 2=z:=fun z h1 h2=>by rw[cut_id (by omega) (by omega)];omega
  refine⟨_,_,_,_,hl,by unfold cut;omega,fun h=>?_,fun h h'=>?_,fun h=>?_⟩
  · have e : hiH s k 300 100 = limH s (ofL (val s 5) (val s 6) (-1) 0) (-1) := by unfold hiH; rw [if_pos h]
    rw[e];exact hc _ (Int.le_trans (lim_tame (B:=1048576) ht.loh (by decide) (ofL_tame (B:=1048576) ht.hei (by decide) (by decide) (by decide)).2 (by decide)) (by decide)) (limH_bd _ _ _).1
  · have e : hiH s k 300 100 = limH s (val s 54) (-1) := by unfold hiH; rw [if_neg (by simp [h]), hiN_leaf _ _ h', show max (val s 54) 0 = val s 54 by omega]
    rw[e];exact hc _ (Int.le_trans (lim_tame (B:=1048576) ht.loh (by decide) h54.2 (by decide)) (by decide)) (limH_bd _ _ _).1
  · have e : hiH s k 300 100 = limH s (max (hiN s k 300 100) 0) (-1) := by unfold hiH; rw [if_neg (by simp [h])]
    have hm:limitL 0 (val s 9) (val s 10) (val s 13) (val s 14) (-1)≤limH s (max (hiN s k 300 100) 0) (-1):=lim_mono (by omega);have h0:limitL 0 (val s 9) (val s 10) (val s 13) (val s 14) (-1)≤1048576:=lim_tame ht.loh (by decide) (by decide) (by decide);rw[←e] at hm;unfold cut;omega
end
theorem wv1:∃d,WF V2 d:=by obtain⟨d,h⟩:=ww1;exact h.addR zeroS 1 0
section
variable (tp mb:Nat) (es:List PE) (hk:LOk es)
include hk
theorem wkA2 (h:FoR es=W1):Ct Tryz.prog 13 #[.pointer (some ⟨tp,0,none⟩),.int .i64 1,.int .i64 0] [treeI tp mb es] (fun _=>True) (X:=List PE) (fun _=>.tuple #[.int .i64 2,.int .i64 0]) (fun es'=>FoR es'=V2∧LOk es') (fun es'=>[treeI tp mb es']):=by
  obtain⟨d,hd⟩:=ww1;have h1:=add_ct tp mb es hk (h▸hd) 1 0;rw[h,V2_e] at h1;exact h1
theorem wkS1 (h:FoR es=V2) (cs:List Value) (hs:SOk cs):Ct Tryz.prog 14 #[.pointer (some ⟨tp,0,none⟩),.int .i64 1,.agg cs.toArray] [treeI tp mb es] (fun _=>True) (X:=List PE) (fun _=>.int .i64 (setR validB V2 1 cs).2) (fun es'=>FoR es'=(setR validB V2 1 cs).1∧LOk es') (fun es'=>[treeI tp mb es']):=by
  have h1:=set_ct tp mb es hk 1 cs hs;rw[h] at h1;exact h1
theorem wkS2 {G:Forest (List Value)} (h:FoR es=G) (cs:List Value) (hs:SOk cs):Ct Tryz.prog 14 #[.pointer (some ⟨tp,0,none⟩),.int .i64 2,.agg cs.toArray] [treeI tp mb es] (fun _=>True) (X:=List PE) (fun _=>.int .i64 (setR validB G 2 cs).2) (fun es'=>FoR es'=(setR validB G 2 cs).1∧LOk es') (fun es'=>[treeI tp mb es']):=by
  have h1:=set_ct tp mb es hk 2 cs hs;rw[h] at h1;exact h1
end
theorem F2_good {cs ks:List Value} (hs:SOk cs) (hs2:SOk ks) (h:(setR validB V2 1 cs).2=0) (h2:(setR validB (setG V2 1 cs) 2 ks).2=0):(∃d,WF (F2 cs ks) d)∧(∀x,GS (stF (F2 cs ks) x))∧∀x,(kidsF (F2 cs ks) x).length≤64:=by
  have h1:(∃d,WF (setR validB V2 1 cs).1 d):=by obtain⟨d,h⟩:=wv1;exact h.setR validB 1 cs
  have g1:AllGS (setR validB V2 1 cs).1:=((AllGS.new.addR 0 0).addR 1 0).setR 1 hs;rw[set_F2 h] at h1 g1;have h3:(∃d,WF (setR validB (setG V2 1 cs) 2 ks).1 d):=by obtain⟨d,h⟩:=h1;exact h.setR validB 2 ks
  have g3:=g1.setR 2 hs2;rw[set_F2' h2] at h3 g3;refine⟨h3,g3.st,fun x=>?_⟩;have hk:kidsF (F2 cs ks) x=kidsF V2 x:=by
    unfold kidsF F2 setG
    by_cases e2:x=2
    · rw[e2,if_pos rfl,if_neg (by decide),V2_2];rfl
    · rw [if_neg e2]
      by_cases e1:x=1
      · rw[e1,if_pos rfl,V2_1];rfl
      · rw[if_neg e1]
  rw[hk];obtain⟨d,hd⟩:=wv1;exact Nat.le_trans (kids_few (n:=3) hd (by decide+kernel) x) (by decide)
theorem lawHigh_ct (cs ks:List Value) (hs:SOk cs) (hks:SOk ks):Ct Tryz.prog 4 #[.agg cs.toArray,.agg ks.toArray] [] (fun _=>True) (X:=Unit) (fun _=>.bool true) (fun _=>True) (fun _=>[]):=by
  refine Ct.intro Tryz.func4 rfl Tryz.ntmps4 (by simp) (fun w0 _=>?_);refine sqR ?_;refine WPL.ef (x_boxA (us:=cs) (σ':=fun _=>[_]) rfl (fun _=>rfl)) (fun b2=>?_);refine WPL.ef (x_boxA (us:=ks) (σ':=fun _=>[_,_]) rfl (fun _=>rfl)) (fun b3=>?_);refine sg (v:=.bool false) rfl ?_;refine nl (oo ?_);refine sqR ?_;refine WPL.ef (x_call Tryz.call10 fworks_ct [] [0,1] rfl (fun w hw=>trivial) (τ:=fun _=>[_,_]) (fun _=>rfl)) (fun _=>?_);refine WPL.fact (fun _=>?_);refine sgB rfl ?_;refine nl (oo ?_);refine sq ?_;refine sqR ?_;refine mvB rfl ?_;refine vl (v_not rfl) ?_;refine nl (oo ?_);refine WP.condF rfl ?_;refine WP.skip (onto_of ?_);refine sq ?_;refine sqR ?_;refine vl (v_loadA (cs:=cs) Tryz.isAgg36 Tryz.sizeOf36 rfl (fun w hw=>hw.cl_at (i:=0) rfl 0 (whole _)) (SOk.len hs)) ?_;refine WPL.ef (x_call Tryz.call11 (tame_ct cs hs) [] [0,1] rfl (fun w hw=>trivial) (τ:=fun _=>[_,_]) (fun _=>rfl)) (fun tb=>?_);refine WPL.fact (fun htb=>?_);refine vl (v_not rfl) ?_;refine mvB rfl ?_;refine WPL.splitB 16 rfl (fun h16=>?_) (fun h16=>?_)
  ·refine sk ?_;refine sk ?_;refine sk ?_;refine vl (v_pickT (u:=.bool _) rfl rfl) ?_;refine mvB rfl ?_;refine sk ?_;refine sk ?_;refine sk ?_;refine vl (v_pickT (u:=.bool _) rfl rfl) ?_;refine mvB rfl ?_;refine sk ?_;refine sk ?_;refine sk ?_;refine vl (v_pickT (u:=.bool _) rfl rfl) ?_;refine nl (oo ?_);refine WP.condT rfl ?_;refine sqR ?_;refine mvB rfl ?_;refine sgB rfl ?_;refine nl (oo ?_);exact WP.ret1 Tryz.results4 (fun _ h=>h) (fun w hw=>⟨(),rfl,trivial,hw.sel [] (by decide)⟩)
  ·refine vg (v_loadA (cs:=ks) Tryz.isAgg36 Tryz.sizeOf36 rfl (fun w hw=>hw.cl_at (i:=1) rfl 0 (whole _)) (SOk.len hks)) ?_;refine WPL.efG (x_call Tryz.call11 (tame_ct ks hks) [] [0,1] rfl (fun w hw=>trivial) (τ:=fun _=>[_,_]) (fun _=>rfl)) (fun tb2=>?_);refine WPL.fact (fun _=>?_);refine vg (v_not rfl) ?_;refine vl (v_pickF (v:=.bool _) rfl rfl) ?_;refine mvB rfl ?_;refine WPL.splitB 21 rfl (fun h21=>?_) (fun h21=>?_)
   ·refine sk ?_;refine sk ?_;refine sk ?_;refine vl (v_pickT (u:=.bool _) rfl rfl) ?_;refine mvB rfl ?_;refine sk ?_;refine sk ?_;refine sk ?_;refine vl (v_pickT (u:=.bool _) rfl rfl) ?_;refine nl (oo ?_);refine WP.condT rfl ?_;refine sqR ?_;refine mvB rfl ?_;refine sgB rfl ?_;refine nl (oo ?_);exact WP.ret1 Tryz.results4 (fun _ h=>h) (fun w hw=>⟨(),rfl,trivial,hw.sel [] (by decide)⟩)
   ·refine vg (v_fieldL (o':=1) Tryz.underlying36 rfl Tryz.sizeOf23 rfl rfl) ?_;refine vg (v_load1 (u:=.int .i64 (val cs 1)) Tryz.isAgg23 rfl (fun w hw=>hw.cl_at (i:=0) rfl 1 (cell_of (SOk.int hs 1 (by decide) rfl)))) ?_;refine vg (v_eql rfl rfl) ?_;refine vl (v_pickF (v:=.bool _) rfl rfl) ?_;refine mvB rfl ?_;refine WPL.split 26 rfl (fun h26=>?_) (fun h26=>?_)
    ·refine sk ?_;refine sk ?_;refine sk ?_;refine vl (v_pickT (u:=.bool _) rfl rfl) ?_;refine nl (oo ?_);refine WP.condT rfl ?_;refine sqR ?_;refine mvB rfl ?_;refine sgB rfl ?_;refine nl (oo ?_);exact WP.ret1 Tryz.results4 (fun _ h=>h) (fun w hw=>⟨(),rfl,trivial,hw.sel [] (by decide)⟩)
    ·refine vg (v_fieldL (o':=1) Tryz.underlying36 rfl Tryz.sizeOf23 rfl rfl) ?_;refine vg (v_load1 (u:=.int .i64 (val cs 1)) Tryz.isAgg23 rfl (fun w hw=>hw.cl_at (i:=0) rfl 1 (cell_of (SOk.int hs 1 (by decide) rfl)))) ?_;refine vg (v_eql rfl rfl) ?_;refine vl (v_pickF (v:=.bool _) rfl rfl) ?_;refine nl (oo ?_);refine WP.condP rfl (fun h30=>?_) (fun h30=>?_)
     ·refine sqR ?_;refine mvB rfl ?_;refine sgB rfl ?_;refine nl (oo ?_);exact WP.ret1 Tryz.results4 (fun _ h=>h) (fun w hw=>⟨(),rfl,trivial,hw.sel [] (by decide)⟩)
     ·have hp1:¬val cs 1=2:=h26;have hp2:¬val cs 1=3:=h30;have hout:outB cs=false:=by unfold outB;simp[hp1,hp2]
      refine WP.skip (onto_of ?_);refine sqR ?_;refine WPL.ef (x_call Tryz.call12 new_ct [] [0,1] rfl (fun w hw=>trivial) (τ:=fun _=>[_,_,_]) (fun _=>rfl)) (fun⟨tp,mb,nb⟩=>?_);refine WPL.fact (fun _=>?_);refine sgP rfl ?_;refine nl (oo ?_);refine sqR ?_;refine mvP rfl ?_;refine WPL.ef (x_call Tryz.call13 (wkA tp mb _ (newE_ok nb).2 (newE_ok nb).1) [2] [0,1] rfl (fun w hw=>trivial) (τ:=fun _=>[_,_,_]) (fun _=>rfl)) (fun es1=>?_);refine WPL.fact (fun hf1=>?_);refine nl (oo ?_);refine sqR ?_;refine mvP rfl ?_;refine WPL.ef (x_call Tryz.call13 (wkA2 tp mb es1 hf1.2 hf1.1) [2] [0,1] rfl (fun w hw=>trivial) (τ:=fun _=>[_,_,_]) (fun _=>rfl)) (fun es2=>?_);refine WPL.fact (fun hf2=>?_);refine nl (oo ?_);refine sq ?_;refine sqR ?_;refine mvP rfl ?_;refine vl (v_loadA (cs:=cs) Tryz.isAgg36 Tryz.sizeOf36 rfl (fun w hw=>hw.cl_at (i:=0) rfl 0 (whole _)) (SOk.len hs)) ?_;refine WPL.ef (x_call Tryz.call14 (wkS1 tp mb es2 hf2.2 hf2.1 cs hs) [2] [0,1] rfl (fun w hw=>trivial) (τ:=fun _=>[_,_,_]) (fun _=>rfl)) (fun es3=>?_);refine WPL.fact (fun hf3=>?_);refine vl (v_neq rfl rfl) ?_;refine mvB rfl ?_;refine WPL.split 41 rfl (fun h41=>?_) (fun h41=>?_)
      ·refine sk ?_;refine sk ?_;refine sk ?_;refine vl (v_pickT (u:=.bool _) rfl rfl) ?_;refine mvB rfl ?_;refine sk ?_;refine sk ?_;refine sk ?_;refine sk ?_;refine vl (v_pickT (u:=.bool _) rfl rfl) ?_;refine nl (oo ?_);refine WP.condT rfl ?_;refine sqR ?_;refine mvB rfl ?_;refine sgB rfl ?_;refine nl (oo ?_);exact WP.ret1 Tryz.results4 (fun _ h=>h) (fun w hw=>⟨(),rfl,trivial,hw.sel [] (by decide)⟩)
      ·refine vg (v_fieldL (o':=0) Tryz.underlying36 rfl Tryz.sizeOf22 rfl rfl) ?_;refine vg (v_load1 (u:=.int .i64 (val cs 0)) Tryz.isAgg22 rfl (fun w hw=>hw.cl_at (i:=0) rfl 0 (cell_of (SOk.int hs 0 (by decide) rfl)))) ?_;refine vg (v_eql rfl rfl) ?_;refine vl (v_pickF (v:=.bool _) rfl rfl) ?_;refine mvB rfl ?_;refine WPL.split 46 rfl (fun h46=>?_) (fun h46=>?_)
       ·refine sk ?_;refine sk ?_;refine sk ?_;refine sk ?_;refine vl (v_pickT (u:=.bool _) rfl rfl) ?_;refine nl (oo ?_);refine WP.condT rfl ?_;refine sqR ?_;refine mvB rfl ?_;refine sgB rfl ?_;refine nl (oo ?_);exact WP.ret1 Tryz.results4 (fun _ h=>h) (fun w hw=>⟨(),rfl,trivial,hw.sel [] (by decide)⟩)
       ·refine vg (v_move (v:=.pointer _) rfl) ?_;refine vg (v_loadA (cs:=ks) Tryz.isAgg36 Tryz.sizeOf36 rfl (fun w hw=>hw.cl_at (i:=1) rfl 0 (whole _)) (SOk.len hks)) ?_;refine WPL.efG (x_call Tryz.call14 (wkS2 tp mb es3 hf3.2 hf3.1 ks hks) [2] [0,1] rfl (fun w hw=>trivial) (τ:=fun _=>[_,_,_]) (fun _=>rfl)) (fun es4=>?_);refine WPL.fact (fun hf4=>?_);refine vg (v_neq rfl rfl) ?_;refine vl (v_pickF (v:=.bool _) rfl rfl) ?_;refine nl (oo ?_);refine WP.condP rfl (fun h51=>?_) (fun h51=>?_)
        ·refine sqR ?_;refine mvB rfl ?_;refine sgB rfl ?_;refine nl (oo ?_);exact WP.ret1 Tryz.results4 (fun _ h=>h) (fun w hw=>⟨(),rfl,trivial,hw.sel [] (by decide)⟩)
        ·have hset:(setR validB V2 1 cs).2=0:=by omega
         have hset2:(setR validB (setG V2 1 cs) 2 ks).2=0:=by have h51':=h51;rw[set_F2 hset] at h51';omega
         obtain⟨⟨d,hF1⟩,hg1,hK1⟩:=F2_good hs hks hset hset2;have hfo:FoR es4=F2 cs ks:=hf4.1.trans (by rw[set_F2 hset];exact set_F2' hset2);have hF:WF (FoR es4) d:=by rw[hfo];exact hF1
         have hgs:∀x,GS (stF (FoR es4) x):=by rw[hfo];exact hg1
         have hK:∀x,(kidsF (FoR es4) x).length≤64:=by rw[hfo];exact hK1
         have hgc:GS cs:=by have:=hg1 1;rwa [F2_st1] at this
         have hta:=htb (by simpa using h16);have he0:=hgc.eS_bd 0 (by decide);have he2:=hgc.eS_bd 2 (by decide);refine WP.skip (onto_of ?_);refine sqR ?_;refine mvP rfl ?_;refine WPL.ef (x_call Tryz.call15 (flowLay_ct tp mb es4 hf4.2 hF hgs hK 300 100 (by decide) (by decide)) [2] [0,1] rfl (fun w hw=>trivial) (τ:=fun _=>[_,_,_,_]) (fun _=>rfl)) (fun⟨mp,ps⟩=>?_);refine WPL.fact (fun hps=>?_);have hmo:=mapOf hps (all_nodup hF hgs 300 100);rw[hfo] at hmo;obtain⟨ra,rb_,rc,rx,hlk,hx0,hx1,hx2,hx3⟩:=F2_look hF1 hg1 h46 hout hta hmo;dsimp only at hlk;refine vl (v_of (v_lookup (m:=putAll ps) (k:=1) (z:=.agg #[.int .i64 0,.int .i64 0,.int .i64 0,.int .i64 0]) Tryz.underlying47 Tryz.underlying3 Tryz.zeroValue46 rfl rfl (fun w hw=>hw.mapAt (i:=3) rfl)) (v':=.agg #[.int .i64 ra,.int .i64 rb_,.int .i64 rc,.int .i64 (rx+eS cs 0+eS cs 2)]) (by rw[hlk];rfl)) ?_;refine WPL.ef (x_alloc (us:=[_,_,_,_]) (σ':=fun _=>[_,_,_,_,_]) Tryz.zeroValue46 rfl (fun _=>rfl)) (fun b7=>?_);refine WPL.ef0 (x_storeW (us:=[.int .i64 _,.int .i64 _,.int .i64 _,.int .i64 _]) (σ':=[_,_,_,_,.cl _ _ [_,_,_,_]]) Tryz.sizeOf46 rfl rfl (i:=4) rfl rfl rfl (by simp[Value.oneCell'])) (fun _=>?_);refine nl (oo ?_);refine sqR ?_;refine vl (v_loadA (cs:=cs) Tryz.isAgg36 Tryz.sizeOf36 rfl (fun w hw=>hw.cl_at (i:=0) rfl 0 (whole _)) (SOk.len hs)) ?_;refine WPL.ef (x_call Tryz.call16 (fedges_ct cs hs hgc.eS_far) [] [0,1,2,3,4] rfl (fun w hw=>trivial) (τ:=fun _=>[_,_,_,_,_]) (fun _=>rfl)) (fun _=>?_);refine WPL.fact (fun _=>?_);refine WPL.ef (x_alloc (us:=[_,_,_,_]) (σ':=fun _=>[_,_,_,_,_,_]) Tryz.zeroValue29 rfl (fun _=>rfl)) (fun b8=>?_);refine WPL.ef0 (x_storeW (us:=[.int .i64 _,.int .i64 _,.int .i64 _,.int .i64 _]) (σ':=[_,_,_,_,_,.cl _ _ [_,_,_,_]]) Tryz.sizeOf29 rfl rfl (i:=5) rfl rfl rfl (by simp[Value.oneCell'])) (fun _=>?_);refine nl (oo ?_);refine sqR ?_;refine vl (v_fieldL (o':=3) Tryz.underlying46 rfl Tryz.sizeOf3 rfl rfl) ?_;refine vl (v_load1 (u:=.int .i64 _) Tryz.isAgg3 rfl (fun w hw=>hw.cl_at (i:=4) rfl _ rfl)) ?_;refine vl (v_indexA (j:=0) Tryz.underlying29 Tryz.sizeOf3 rfl rfl rfl (by decide)) ?_;refine vl (v_load1 (u:=.int .i64 _) Tryz.isAgg3 rfl (fun w hw=>hw.cl_at (i:=5) rfl _ rfl)) ?_;refine vl (v_sub rfl rfl (by omega)) ?_;refine vl (v_indexA (j:=2) Tryz.underlying29 Tryz.sizeOf3 rfl rfl rfl (by decide)) ?_;refine vl (v_load1 (u:=.int .i64 _) Tryz.isAgg3 rfl (fun w hw=>hw.cl_at (i:=5) rfl _ rfl)) ?_;refine vl (v_sub rfl rfl (by omega)) ?_;refine sgI rfl ?_;refine nl (oo ?_);refine sq ?_;refine sqR ?_;refine vl (v_fieldL (o':=5) Tryz.underlying36 rfl Tryz.sizeOf27 rfl rfl) ?_;refine vl (v_loadA (cs:=[.int .i64 (val cs 5),.int .i64 (val cs 6)]) Tryz.isAgg27 Tryz.sizeOf27 rfl (fun w hw=>hw.cl_at (i:=0) rfl 5 (SOk.segE hs 2 5 (by decide) rfl rfl rfl))) ?_;refine WPL.ef (x_call Tryz.call18 (fixed_ct (val cs 5) (val cs 6) (-1)) [] [0,1,2,3,4,5] rfl (fun w hw=>trivial) (τ:=fun _=>[_,_,_,_,_,_]) (fun _=>rfl)) (fun _=>?_);refine WPL.fact (fun _=>?_);refine nl (oo ?_);refine WP.cond rfl (fun h68=>?_) (fun h68=>?_)
         ·refine sq ?_;refine WP.drawSel none [0,1,2,3,4,5] [(0,true),(1,true),(2,true),(3,true),(4,true),(6,true),(7,true),(8,true),(9,true),(5,false),(10,false),(11,true),(12,true),(13,true)] mixed (by kernel_rfl) (by decide) ?_;refine WPD.take rfl (v_move (v:=.bool _) rfl) ?_ (fun _ h=>h.sel [0,1,2,3,4,5] (by decide));refine WPD.take rfl (v_move (v:=.bool _) rfl) ?_ (fun _ h=>h.sel [0,1,2,3,4,5] (by decide));refine WPD.take rfl (v_move (v:=.int .i64 _) rfl) ?_ (fun _ h=>h.sel [0,1,2,3,4,5] (by decide));refine WPD.take rfl (v_fieldL (o':=5) Tryz.underlying36 rfl Tryz.sizeOf27 rfl rfl) ?_ (fun _ h=>h.sel [0,1,2,3,4,5] (by decide));refine WPD.take rfl (v_loadA (cs:=[.int .i64 (val cs 5),.int .i64 (val cs 6)]) Tryz.isAgg27 Tryz.sizeOf27 rfl (fun w hw=>hw.cl_at (i:=0) rfl 5 (SOk.segE hs 2 5 (by decide) rfl rfl rfl))) ?_ (fun _ h=>h.sel [0,1,2,3,4,5] (by decide));refine WPD.take rfl (v_fieldL (o':=9) Tryz.underlying36 rfl Tryz.sizeOf27 rfl rfl) ?_ (fun _ h=>h.sel [0,1,2,3,4,5] (by decide));refine WPD.take rfl (v_loadA (cs:=[.int .i64 (val cs 9),.int .i64 (val cs 10)]) Tryz.isAgg27 Tryz.sizeOf27 rfl (fun w hw=>hw.cl_at (i:=0) rfl 9 (SOk.segE hs 2 9 (by decide) rfl rfl rfl))) ?_ (fun _ h=>h.sel [0,1,2,3,4,5] (by decide));refine WPD.take rfl (v_fieldL (o':=13) Tryz.underlying36 rfl Tryz.sizeOf27 rfl rfl) ?_ (fun _ h=>h.sel [0,1,2,3,4,5] (by decide));refine WPD.take rfl (v_loadA (cs:=[.int .i64 (val cs 13),.int .i64 (val cs 14)]) Tryz.isAgg27 Tryz.sizeOf27 rfl (fun w hw=>hw.cl_at (i:=0) rfl 13 (SOk.segE hs 2 13 (by decide) rfl rfl rfl))) ?_ (fun _ h=>h.sel [0,1,2,3,4,5] (by decide));refine WPD.ef rfl (x_call Tryz.call19 (lenof_ct (val cs 5) (val cs 6) (-1) 0) [] [0,1,2,3,4,5] rfl (fun w hw=>trivial) (τ:=fun _=>[_,_,_,_,_,_]) (fun _=>rfl)) (fun _ _ _ h=>h.2.sel [0,1,2,3,4,5] (by decide)) (fun _=>?_);refine WPD.fact (fun _=>?_);refine WPD.ef rfl (x_call Tryz.call20 (limit_ct (ofL (val cs 5) (val cs 6) (-1) 0) (val cs 9) (val cs 10) (val cs 13) (val cs 14) (-1)) [] [0,1,2,3,4,5] rfl (fun w hw=>trivial) (τ:=fun _=>[_,_,_,_,_,_]) (fun _=>rfl)) (fun _ _ _ h=>h.2.sel [0,1,2,3,4,5] (by decide)) (fun _=>?_);refine WPD.fact (fun _=>?_);refine WPD.take rfl (v_is (b:=true) (v_eql rfl rfl) (decide_eq_true (by rw[hx1 h68];omega))) ?_ (fun _ h=>h.sel [0,1,2,3,4,5] (by decide));refine WPD.take rfl (v_pickT (u:=.bool _) rfl rfl) ?_ (fun _ h=>h.sel [0,1,2,3,4,5] (by decide));refine WPD.take rfl (v_assign (v:=.bool _) rfl) ?_ (fun _ h=>h.sel [0,1,2,3,4,5] (by decide));refine WPD.nil (onto_of ?_);exact WP.ret1 Tryz.results4 (fun _ h=>h) (fun w hw=>⟨(),rfl,trivial,hw.sel [] (by decide)⟩)
         ·refine WP.skip (onto_of ?_);refine sq ?_;refine sqR ?_;refine mvP rfl ?_;refine WPL.ef (x_call Tryz.call21 (fflows_ct tp mb es4 hf4.2 hF 1) [2] [0,1,3,4,5] rfl (fun w hw=>trivial) (τ:=fun _=>[_,_,_,_,_,_,_]) (fun _=>rfl)) (fun⟨kA,kc⟩=>?_);refine WPL.fact (fun _=>?_);refine vl (v_len Tryz.underlying55 rfl) ?_;refine vl (v_eql rfl rfl) ?_;refine nl (oo ?_);refine WP.condP rfl (fun h85=>?_) (fun h85=>?_)
          ·refine sqR ?_;refine mvB rfl ?_;refine mvB rfl ?_;refine vg (v_move (v:=.int .i64 _) rfl) ?_;refine vg (v_fieldL (o':=53) Tryz.underlying36 rfl Tryz.sizeOf34 rfl rfl) ?_;refine vg (v_indexA (j:=1) Tryz.underlying34 Tryz.sizeOf3 rfl rfl rfl (by decide)) ?_;refine vg (v_load1 (u:=.int .i64 (val cs 54)) Tryz.isAgg3 rfl (fun w hw=>hw.cl_at (i:=0) rfl 54 (cell_of (SOk.int hs 54 (by decide) rfl)))) ?_;refine vg (v_fieldL (o':=9) Tryz.underlying36 rfl Tryz.sizeOf27 rfl rfl) ?_;refine vg (v_loadA (cs:=[.int .i64 (val cs 9),.int .i64 (val cs 10)]) Tryz.isAgg27 Tryz.sizeOf27 rfl (fun w hw=>hw.cl_at (i:=0) rfl 9 (SOk.segE hs 2 9 (by decide) rfl rfl rfl))) ?_;refine vg (v_fieldL (o':=13) Tryz.underlying36 rfl Tryz.sizeOf27 rfl rfl) ?_;refine vg (v_loadA (cs:=[.int .i64 (val cs 13),.int .i64 (val cs 14)]) Tryz.isAgg27 Tryz.sizeOf27 rfl (fun w hw=>hw.cl_at (i:=0) rfl 13 (SOk.segE hs 2 13 (by decide) rfl rfl rfl))) ?_;refine WPL.efG (x_call Tryz.call20 (limit_ct (val cs 54) (val cs 9) (val cs 10) (val cs 13) (val cs 14) (-1)) [] [0,1,2,3,4,5,6] rfl (fun w hw=>trivial) (τ:=fun _=>[_,_,_,_,_,_,_]) (fun _=>rfl)) (fun _=>?_);refine WPL.fact (fun _=>?_);refine vg (v_is (b:=true) (v_eql rfl rfl) (decide_eq_true (by rw[hx2 h68 (List.eq_nil_of_length_eq_zero (by rw[←hfo];omega))];omega))) ?_;refine vl (v_pickT (u:=.bool _) rfl rfl) ?_;refine sgB rfl ?_;refine nl (oo ?_);exact WP.ret1 Tryz.results4 (fun _ h=>h) (fun w hw=>⟨(),rfl,trivial,hw.sel [] (by decide)⟩)
          ·refine WP.skip (onto_of ?_);refine sqR ?_;refine mvB rfl ?_;refine mvB rfl ?_;refine vg (v_move (v:=.int .i64 _) rfl) ?_;refine vg (v_fieldL (o':=9) Tryz.underlying36 rfl Tryz.sizeOf27 rfl rfl) ?_;refine vg (v_loadA (cs:=[.int .i64 (val cs 9),.int .i64 (val cs 10)]) Tryz.isAgg27 Tryz.sizeOf27 rfl (fun w hw=>hw.cl_at (i:=0) rfl 9 (SOk.segE hs 2 9 (by decide) rfl rfl rfl))) ?_;refine vg (v_fieldL (o':=13) Tryz.underlying36 rfl Tryz.sizeOf27 rfl rfl) ?_;refine vg (v_loadA (cs:=[.int .i64 (val cs 13),.int .i64 (val cs 14)]) Tryz.isAgg27 Tryz.sizeOf27 rfl (fun w hw=>hw.cl_at (i:=0) rfl 13 (SOk.segE hs 2 13 (by decide) rfl rfl rfl))) ?_;refine WPL.efG (x_call Tryz.call20 (limit_ct 0 (val cs 9) (val cs 10) (val cs 13) (val cs 14) (-1)) [] [0,1,2,3,4,5,6] rfl (fun w hw=>trivial) (τ:=fun _=>[_,_,_,_,_,_,_]) (fun _=>rfl)) (fun _=>?_);refine WPL.fact (fun _=>?_);refine vg (v_is (b:=true) (v_geq rfl rfl) (decide_eq_true (by have:=hx3 h68;omega))) ?_;refine vl (v_pickT (u:=.bool _) rfl rfl) ?_;refine sgB rfl ?_;refine nl (oo ?_);exact WP.ret1 Tryz.results4 (fun _ h=>h) (fun w hw=>⟨(),rfl,trivial,hw.sel [] (by decide)⟩)
end Go.Proofs.YtpgjbbaplpdaiaaGreat
namespace Go.Proofs.YtpgjbbaplpdaiaaGreat
open Go.ChangeShapes Go.WideShapes Go.ChangeAt Go.RowKit Go.Deep
theorem flowHigh_lifted (os:Os) (started:os.Started) (H:Type) (enc:TypeId×Value→H):
    ReturnsInHanded {} Tryz.checked os 4 .any (Rows.flowHighSpec.pre6 enc Tryz.prog Tryz.f4 Rows.flowHighRow.domain false) (Rows.flowHighSpec.post enc Tryz.prog Tryz.f4 false true false false):=by
  refine returnsInHanded_of_change (C:=Tryz.checked) own started (by kernel_rfl) Tryz.func4
    (ChangeSpec.witness6 (enc:=enc) (C:=Tryz.checked) false ⟨#[],#[.agg ([.int .i64 0,.int .i64 0,.int .i64 0,.int .i64 0,.int .i64 0,.int .i64 0,.int .i64 0,.int .i64 0,.int .i64 0,.int .i64 0,.int .i64 0,.int .i64 0,.int .i64 0,.int .i64 0,.int .i64 0,.int .i64 0,.int .i64 0,.int .i64 0,.int .i64 0,.int .i64 0,.int .i64 0,.int .i64 0,.int .i64 0,.int .i64 0,.int .i64 0,.int .i64 0,.int .i64 0,.int .i64 0,.int .i64 0,.int .i64 0,.int .i64 0,.int .i64 0,.int .i64 0,.int .i64 0,.int .i64 0,.int .i64 0,.int .i64 0,.int .i64 0,.int .i64 0,.int .i64 0,.int .i64 0,.int .i64 0,.int .i64 0,.int .i64 0,.int .i64 0,.bool false,.int .i64 0,.bool false,.int .i64 0,.int .i64 0,.int .i64 0,.bool false,.bool false,.int .i64 0,.int .i64 0]).toArray,.agg ([.int .i64 0,.int .i64 0,.int .i64 0,.int .i64 0,.int .i64 0,.int .i64 0,.int .i64 0,.int .i64 0,.int .i64 0,.int .i64 0,.int .i64 0,.int .i64 0,.int .i64 0,.int .i64 0,.int .i64 0,.int .i64 0,.int .i64 0,.int .i64 0,.int .i64 0,.int .i64 0,.int .i64 0,.int .i64 0,.int .i64 0,.int .i64 0,.int .i64 0,.int .i64 0,.int .i64 0,.int .i64 0,.int .i64 0,.int .i64 0,.int .i64 0,.int .i64 0,.int .i64 0,.int .i64 0,.int .i64 0,.int .i64 0,.int .i64 0,.int .i64 0,.int .i64 0,.int .i64 0,.int .i64 0,.int .i64 0,.int .i64 0,.int .i64 0,.int .i64 0,.bool false,.int .i64 0,.bool false,.int .i64 0,.int .i64 0,.int .i64 0,.bool false,.bool false,.int .i64 0,.int .i64 0]).toArray],[]⟩ 8 (by kernel_rfl) (by kernel_rfl) (by kernel_rfl) (by kernel_rfl)) ?_
  intro W base args ds gs before hval0 hW _ _;have hval:∀(j:Nat) t v,Tryz.f4.params[j]?=some t→args[j]?=some v→Value.okWide Tryz.prog W .any base t v:=hval0;have hW':=hW;obtain⟨p,q,hA0,hV,rfl,hfz,hnd⟩:=hW;have hA:DataW.TrodAll enc Tryz.prog W 0 (fun _=>true) true Tryz.f4.params.toList args.toList ds p:=hA0;rw[Tryz.params4] at hA hval;obtain⟨v0,v1,d0,d1,p0,p1,rfl,rfl,rfl,h0,h1⟩:=trodAll_two hA;obtain⟨cs,rfl,hl_cs,-⟩:=open_flat leaf36 (by kernel_rfl) Tryz.isAgg36 (hval 0 36 v0 rfl rfl) h0;have hs:=SOk.of_leaves hl_cs;obtain⟨ks,rfl,hl_ks,-⟩:=open_flat leaf36 (by kernel_rfl) Tryz.isAgg36 (hval 1 36 v1 rfl rfl) h1;have hks:=SOk.of_leaves hl_ks;refine(Ct.lawF (lawHigh_ct cs ks hs hks) trivial).mono fun e W' ⟨he,hb⟩=>?_;subst he;exact⟨_,rfl,law_post laidOut hW' rfl (by kernel_rfl) rfl Tryz.underlying4 (fun _=>rfl) hb⟩
theorem flowHigh_said:Rows.FlowHighSaid:=
  OpenClaim.holds_of_wide 4 Tryz.f4 rfl rfl rfl rfl rfl rfl rfl ⟨rfl,rfl,rfl,rfl,rfl⟩ rfl rfl rfl rfl rfl (by kernel_rfl) Tryz.func4 (by kernel_rfl)
    (of_decide_eq_true (by kernel_rfl)) (by unfold Func.isWrapper;rw[if_neg (by decide+kernel)];exact⟨rfl,rfl⟩)
    (fun os started H enc _=>flowHigh_lifted os started H enc)
end Go.Proofs.YtpgjbbaplpdaiaaGreat
