/- The statement PlaceScrolls is true of every input: the Go function valancelaw17.PlaceScrolls answers true, and each argument reads behind the call as it did. No condition. -/
import Derived.Test.YtbedndijejpcaaaGreatS26
set_option linter.unusedVariables false
set_option linter.unusedSimpArgs false
set_option linter.unusedSectionVars false
set_option maxRecDepth 100000
set_option maxHeartbeats 8000000
namespace Go.Proofs.YtbedndijejpcaaaGreat
open Go.RowKit
section
variable {F : Forest (List Value)} {d : Int → Nat}
theorem gm_len (hF : WF F d) (hg : ∀ x, GS (stF F x)) (w h : Int) : ((order F).filter fun y => ((gm F w h) y).isSome).length = (allP F w h).length := by
  have e : (order F).filter (fun y => ((gm F w h) y).isSome) = (order F).filter (shownF F) := List.filter_congr fun y hy => gm_is hF hg w h hy
  rw [e, ← (all_ids hF hg w h).length_eq, List.length_map]
theorem gm_up (hF : WF F d) (hg : ∀ x, GS (stF F x)) {w h : Int} {y : Int} (hy : (gm F w h y).isSome = true) (h0 : y ≠ 0) : (gm F w h (upF F y)).isSome = true := by
  have hhas : hasF F y = true := by
    unfold gm gOf at hy
    rw [Option.isSome_map] at hy
    obtain ⟨f, hf⟩ := Option.isSome_iff_exists.1 hy
    have h5 := List.find?_some hf
    have h6 : f.id = y := by simpa using h5
    rw [← h6]
    exact (all_good hF hg w h f (List.mem_of_find?_eq_some hf)).1
  obtain ⟨h1, h2, _, _⟩ := hF.up_has hhas h0
  rw [gm_is hF hg w h (hF.mem_order.2 hhas), shown_kid hF h2] at hy
  rw [gm_is hF hg w h (hF.mem_order.2 h1)]
  simp only [Bool.and_eq_true] at hy
  exact hy.2
end
theorem inR_iff (a b:Rc):inR a b=true↔min a.w a.h≤0∨(((acrossR a).hi≤(acrossR a).lo∨((acrossR b).lo≤(acrossR a).lo∧(acrossR a).hi≤(acrossR b).hi))∧((downR a).hi≤(downR a).lo∨((downR b).lo≤(downR a).lo∧(downR a).hi≤(downR b).hi))):=by
  simp only[inR,inS,emptyR,Bool.or_eq_true,Bool.and_eq_true,decide_eq_true_eq]
theorem inR_refl (a:Rc):inR a a=true:=(inR_iff a a).2 (.inr ⟨.inr ⟨by omega,by omega⟩,.inr ⟨by omega,by omega⟩⟩)
theorem rin_true {a b:Rc} (h:inR a b=true):Ct Tryz.prog 41 #[a.v,b.v] [] (fun _=>True) (X:=Unit) (fun _=>.bool true) (fun _=>True) (fun _=>[]):=by
  have h1:=rin_ct a b;rw[h] at h1;exact h1
def N1 (x w:Int):Prop:=-1099511627776≤x∧0<w∧x+w≤1099511627776∧w≤1099511627776
def NR (r:Rc):Prop:=min r.w r.h≤0∨(N1 r.x r.w∧N1 r.y r.h)
theorem N1.span {x w:Int} (h:N1 x w):(spanP x w).lo=x∧(spanP x w).hi=x+w:=by
  unfold N1 at h;unfold spanP addI cut;dsimp only;omega
theorem span_le (x w:Int) (h:w≤0):(spanP x w).hi=(spanP x w).lo:=by
  unfold spanP addI cut;dsimp only;omega
theorem span_Bn (x w:Int):Bn (spanP x w).lo∧Bn (spanP x w).hi:=⟨cut_Bn _,cut_Bn _⟩
theorem inR_trans {a b c:Rc} (ha:NR a) (h1:inR a b=true) (h2:inR b c=true):inR a c=true:=by
  rw[inR_iff] at h1 h2 ⊢
  rcases ha with ha | ⟨hx,hy⟩
  · exact .inl ha
  · have e1 := hx.span
    have e2:=hy.span;have f1:(acrossR a).lo=a.x∧(acrossR a).hi=a.x+a.w:=e1;have f2:(downR a).lo=a.y∧(downR a).hi=a.y+a.h:=e2;unfold N1 at hx hy;have k1:b.w≤0→(acrossR b).hi=(acrossR b).lo:=span_le _ _;have k2:b.h≤0→(downR b).hi=(downR b).lo:=span_le _ _
    generalize acrossR a=A at*
    generalize acrossR b=B at*
    generalize acrossR c=C at*
    generalize downR a=A' at*
    generalize downR b=B' at*
    generalize downR c=C' at*
    omega
theorem meetS_pos {p q:Sp} (h:0<sizeS (meetS p q)):(meetS p q).lo=max p.lo q.lo∧(meetS p q).hi=min p.hi q.hi∧max p.lo q.lo<min p.hi q.hi:=by
  by_cases hn:min p.hi q.hi≤max p.lo q.lo
  · have e : meetS p q = ⟨0, 0⟩ := if_pos hn
    rw[e] at h;exact absurd h (by decide)
  · have e : meetS p q = ⟨max p.lo q.lo, min p.hi q.hi⟩ := if_neg hn
    rw[e];exact⟨rfl,rfl,by omega⟩
theorem size_bd' {s:Sp} (h1:Bn s.lo) (h2:Bn s.hi) (h:s.lo<s.hi):N1 s.lo (sizeS s)∧s.lo+sizeS s≤s.hi:=by
  unfold Bn at h1 h2;unfold N1 sizeS subI cut;omega
theorem meet_ok (a b : Rc) : min (meetR a b).w (meetR a b).h ≤ 0 ∨ ((N1 (meetR a b).x (meetR a b).w ∧ N1 (meetR a b).y (meetR a b).h) ∧
    ((acrossR a).lo ≤ (meetR a b).x ∧ (meetR a b).x + (meetR a b).w ≤ (acrossR a).hi ∧ (acrossR b).lo ≤ (meetR a b).x ∧ (meetR a b).x + (meetR a b).w ≤ (acrossR b).hi) ∧
    ((downR a).lo ≤ (meetR a b).y ∧ (meetR a b).y + (meetR a b).h ≤ (downR a).hi ∧ (downR b).lo ≤ (meetR a b).y ∧ (meetR a b).y + (meetR a b).h ≤ (downR b).hi)) := by
  by_cases he:min (meetR a b).w (meetR a b).h≤0
  · exact .inl he
  · right
    have e:meetR a b=byR (meetS (acrossR a) (acrossR b)) (meetS (downR a) (downR b)):=by
      unfold meetR soundR at he ⊢
      split
      · rename_i h;rw[if_pos h] at he;exact absurd (by decide) he
      · rfl
    rw[e] at he ⊢;unfold byR at he ⊢;dsimp only at he ⊢;obtain⟨a1,a2,a3⟩:=meetS_pos (p:=acrossR a) (q:=acrossR b) (by omega);obtain⟨b1,b2,b3⟩:=meetS_pos (p:=downR a) (q:=downR b) (by omega);have w1:Bn (acrossR a).lo∧Bn (acrossR a).hi:=span_Bn _ _;have w2:Bn (acrossR b).lo∧Bn (acrossR b).hi:=span_Bn _ _;have w3:Bn (downR a).lo∧Bn (downR a).hi:=span_Bn _ _;have w4:Bn (downR b).lo∧Bn (downR b).hi:=span_Bn _ _;unfold Bn at w1 w2 w3 w4;have s1:=size_bd' (s:=meetS (acrossR a) (acrossR b)) (by unfold Bn;omega) (by unfold Bn;omega) (by omega);have s2:=size_bd' (s:=meetS (downR a) (downR b)) (by unfold Bn;omega) (by unfold Bn;omega) (by omega);exact⟨⟨s1.1,s2.1⟩,by omega,by omega⟩
theorem meet_NR (a b:Rc):NR (meetR a b):=by
  rcases meet_ok a b with h | ⟨h,_⟩
  · exact .inl h
  · exact .inr h
theorem meet_in (a b:Rc):inR (meetR a b) a=true∧inR (meetR a b) b=true:=by
  rw[inR_iff,inR_iff]
  rcases meet_ok a b with h | ⟨⟨hx,hy⟩,h1,h2⟩
  · exact⟨.inl h,.inl h⟩
  · have f1 : (acrossR (meetR a b)).lo = (meetR a b).x ∧ (acrossR (meetR a b)).hi = (meetR a b).x + (meetR a b).w := hx.span
    have f2:(downR (meetR a b)).lo=(meetR a b).y∧(downR (meetR a b)).hi=(meetR a b).y+(meetR a b).h:=hy.span;rw[f1.1,f1.2,f2.1,f2.2];exact⟨.inr ⟨.inr ⟨by omega,by omega⟩,.inr ⟨by omega,by omega⟩⟩,.inr ⟨.inr ⟨by omega,by omega⟩,.inr ⟨by omega,by omega⟩⟩⟩
theorem inset_span {x w l r:Int} (hl:0≤l∧l≤1048576) (hr:0≤r∧r≤1048576):(spanP (addI x l) (max (subI (subI w l) r) 0)).hi≤(spanP (addI x l) (max (subI (subI w l) r) 0)).lo∨((spanP x w).lo≤(spanP (addI x l) (max (subI (subI w l) r) 0)).lo∧(spanP (addI x l) (max (subI (subI w l) r) 0)).hi≤(spanP x w).hi):=by
  unfold spanP addI subI cut;dsimp only;omega
theorem clip_in (c u:Rc) (s:List Value) (h:∀i,i<4→0≤val s (35+i)∧val s (35+i)≤1048576):inR (meetR c (portR u s)) u=true:=by
  rw[inR_iff]
  rcases meet_ok c (portR u s) with h0 | ⟨⟨hx,hy⟩,h1,h2⟩
  · exact .inl h0
  · have f1 : (acrossR (meetR c (portR u s))).lo = (meetR c (portR u s)).x ∧ (acrossR (meetR c (portR u s))).hi = (meetR c (portR u s)).x + (meetR c (portR u s)).w := hx.span
    have f2:(downR (meetR c (portR u s))).lo=(meetR c (portR u s)).y∧(downR (meetR c (portR u s))).hi=(meetR c (portR u s)).y+(meetR c (portR u s)).h:=hy.span;rw[f1.1,f1.2,f2.1,f2.2];have i1:=inset_span (x:=u.x) (w:=u.w) (h 3 (by omega)) (h 1 (by omega));have i2:=inset_span (x:=u.y) (w:=u.h) (h 0 (by omega)) (h 2 (by omega));have j1:(acrossR (portR u s)).hi≤(acrossR (portR u s)).lo∨((acrossR u).lo≤(acrossR (portR u s)).lo∧(acrossR (portR u s)).hi≤(acrossR u).hi):=i1;have j2:(downR (portR u s)).hi≤(downR (portR u s)).lo∨((downR u).lo≤(downR (portR u s)).lo∧(downR (portR u s)).hi≤(downR u).hi):=i2;unfold N1 at hx hy;exact .inr ⟨.inr ⟨by omega,by omega⟩,.inr ⟨by omega,by omega⟩⟩
theorem zero_NR:NR zR:=.inl (by decide)
theorem zero_in (a:Rc):inR zR a=true:=(inR_iff _ _).2 (.inl (by decide))
theorem of_NR (w h:Int):NR (ofR 0 0 w h):=by
  unfold NR ofR N1 cut;dsimp only;omega
section
variable {F:Forest (List Value)} {d:Int→Nat} {g:Int→Option Rc} {o:Int→Pt} {win:Rc}
theorem clip_ok (hF:WF F d) (hw:NR win):∀(n:Nat) (y:Int),hasF F y=true→d y<n→NR (spotP F g o win y).c∧inR (spotP F g o win y).c win=true
  | 0,_,_,h=>by omega
  | n + 1, y, hh, hd => by
    cases hs:(g y).isSome with
    | false=>rw[spot_none (none_of hs)];exact⟨zero_NR,zero_in _⟩
    | true =>
      by_cases h:y=0∨val (stF F y) 1=3
      · rw[spot_fix hF hs hh h];exact⟨hw,inR_refl _⟩
      · have h0 : y ≠ 0 := fun e => h (.inl e)
        obtain⟨h3,_,_,h4⟩:=hF.up_has hh h0;obtain⟨i1,i2⟩:=clip_ok hF hw n (upF F y) h3 (by omega);rw[spot_in hF hs hh h0 (fun e=>h (.inr e))];dsimp only;unfold clipP
        split
        · exact⟨i1,i2⟩
        · exact⟨meet_NR _ _,inR_trans (meet_NR _ _) (meet_in _ _).1 i2⟩
theorem clip_win (hF:WF F d) (hw:NR win) {y:Int} (hh:hasF F y=true):inR (spotP F g o win y).c win=true:=(clip_ok hF hw (d y+1) y hh (by omega)).2
theorem clip_up (hF:WF F d) {y:Int} (hs:(g y).isSome=true) (hh:hasF F y=true) (h0:y≠0) (h3:val (stF F y) 1≠3):inR (spotP F g o win y).c (spotP F g o win (upF F y)).c=true:=by
  rw[spot_in hF hs hh h0 h3];dsimp only;unfold clipP
  split
  · exact inR_refl _
  · exact(meet_in _ _).1
theorem clip_box (hF:WF F d) (hg:∀x,GS (stF F x)) {y:Int} (hs:(g y).isSome=true) (hh:hasF F y=true) (h0:y≠0) (h3:val (stF F y) 1≠3) (h2:val (stF F (upF F y)) 2≠0):inR (spotP F g o win y).c (spotP F g o win (upF F y)).r=true:=by
  rw[spot_in hF hs hh h0 h3];dsimp only;unfold clipP;rw[if_neg h2];exact clip_in _ _ _ fun i hi=>(hg _).siz (35+i) (by match i,hi with | 0,_=>decide | 1,_=>decide | 2,_=>decide | 3,_=>decide)
theorem spot_size (hF:WF F d) {y:Int} (hs:(g y).isSome=true) (hh:hasF F y=true):(spotP F g o win y).r.w=((g y).getD zR).w∧(spotP F g o win y).r.h=((g y).getD zR).h:=by
  by_cases h:y=0∨val (stF F y) 1=3
  · rw[spot_fix hF hs hh h];exact⟨rfl,rfl⟩
  · rw [spot_in hF hs hh (fun e => h (.inl e)) (fun e => h (.inr e))]
    dsimp only
    split<;>exact⟨rfl,rfl⟩
theorem spL_any (hF:WF F d) (hh:∀k r,g k=some r→hasF F k=true) (y:Int):(lookM (spL F g o win (order F)) y).getD spotZ.v=(spotP F g o win y).v:=by
  by_cases hy:y∈order F
  · exact spL_get hy
  · rw [look_spL, if_neg hy, spot_none]
    · rfl
    · cases e : g y with
      | none=>rfl
      | some r=>exact absurd (hF.mem_order.2 (hh y r e)) hy
end
theorem cut_le {a A:Int} (h:a≤A) (hA:0≤A):cut a≤A:=by unfold cut;omega
theorem le_cut {a A:Int} (h:-A≤a) (hA:0≤A):-A≤cut a:=by unfold cut;omega
theorem addI_le {a b A B:Int} (ha:a≤A) (hb:b≤B) (hA:0≤A) (hB:0≤B):addI a b≤A+B:=cut_le (by have:=cut_le ha hA;have:=cut_le hb hB;omega) (by omega)
theorem le_addI {a b A B:Int} (ha:-A≤a) (hb:-B≤b) (hA:0≤A) (hB:0≤B):-(A+B)≤addI a b:=le_cut (by have:=le_cut ha hA;have:=le_cut hb hB;omega) (by omega)
theorem part_tame {b n:Int} (hb:0≤b) (hn:n≤10000):0≤partI b n∧partI b n≤b:=by
  unfold partI;have h0:0≤cut b:=by unfold cut;omega
  have h1:=cut_le (Int.le_refl b) hb
  generalize cut b=c at*
  have hm:0≤min (max n 0) 1000000∧min (max n 0) 1000000≤10000:=by omega
  generalize min (max n 0) 1000000=m at*
  have h2:0≤c*m:=Int.mul_nonneg h0 hm.1;have h3:c*m≤c*10000:=Int.mul_le_mul_of_nonneg_left hm.2 h0;unfold cut;omega
theorem ofL_hi {k n b d0 B:Int} (ht:lenTame (k,n)) (h1:1048576≤B) (hb:b≤B) (hd:d0≤B):ofL k n b d0≤B:=by
  obtain⟨t1,t2⟩:=ht;unfold ofL
  split
  · exact cut_le hd (by omega)
  · rename_i hf
    have hf':fixedL k b=true:=by simpa using hf
    unfold fixedL at hf';have hf2:=of_decide_eq_true hf'
    split
    · rename_i hk;exact cut_le (by have:=t1 hk;dsimp only at this;omega) (by omega)
    · have hk : k = 2 := by omega
      have:=(part_tame (b:=b) (n:=n) (by omega) (t2 hk)).2;omega
theorem ofL_lo {k n b d0 B:Int} (ht:lenTame (k,n)) (h1:1048576≤B) (hd:-B≤d0):-B≤ofL k n b d0:=by
  obtain⟨t1,t2⟩:=ht;unfold ofL
  split
  · exact le_cut hd (by omega)
  · rename_i hf
    have hf':fixedL k b=true:=by simpa using hf
    unfold fixedL at hf';have hf2:=of_decide_eq_true hf'
    split
    · rename_i hk;exact le_cut (by have:=t1 hk;dsimp only at this;omega) (by omega)
    · have hk : k = 2 := by omega
      have:=(part_tame (b:=b) (n:=n) (by omega) (t2 hk)).1;omega
theorem lim_hi {n lk ln hk hn b B:Int} (ht:lenTame (lk,ln)) (h1:1048576≤B) (hb:b≤B) (h:n≤B):limitL n lk ln hk hn b≤B:=by
  have h2:=ofL_hi (d0:=-1099511627776) ht h1 hb (by omega);have h3:=cut_le h2 (by omega);have h4:=cut_le h (by omega);unfold limitL clamp;omega
section
variable {s:List Value} (ht:TameS s) {B b:Int} (h1:1048576≤B)
include ht
theorem TameS.l {j:Nat} (hj:j=3∨j=5∨j=7∨j=9∨j=11∨j=13∨j=41∨j=15∨j=23∨j=17∨j=25∨j=19∨j=27∨j=21∨j=29):lenTame (val s j,val s (j+1)):=by
  apply ht;unfold tameL
  rcases hj with rfl | rfl | rfl | rfl | rfl | rfl | rfl | rfl | rfl | rfl | rfl | rfl | rfl | rfl | rfl<;>simp
theorem TameS.m {i:Nat} (hi:i<4):lenTame (val s (15+2*i),val s (16+2*i)):=by
  obtain rfl | rfl | rfl | rfl:i=0∨i=1∨i=2∨i=3:=by omega
  · exact ht.l (j:=15) (by decide)
  · exact ht.l (j:=17) (by decide)
  · exact ht.l (j:=19) (by decide)
  · exact ht.l (j:=21) (by decide)
theorem TameS.i {i:Nat} (hi:i<4):lenTame (val s (23+2*i),val s (24+2*i)):=by
  obtain rfl | rfl | rfl | rfl:i=0∨i=1∨i=2∨i=3:=by omega
  · exact ht.l (j:=23) (by decide)
  · exact ht.l (j:=25) (by decide)
  · exact ht.l (j:=27) (by decide)
  · exact ht.l (j:=29) (by decide)
theorem mS_lo (i:Nat) (hi:i<4):-1048576≤mS s b i:=ofL_lo (B:=1048576) (ht.m hi) (by omega) (by omega)
theorem mS_top (i:Nat) (hi:i=0∨i=2):mS s b i≤1048576:=by
  unfold mS;rw[if_neg (by omega)];exact ofL_hi (ht.m (by omega)) (by omega) (by omega) (by omega)
theorem mD_tame:-2097152≤mD s∧mD s≤2097152:=by
  have a:=mS_lo ht (b:=0) 0 (by omega);have c:=mS_lo ht (b:=0) 2 (by omega);have e:=mS_top ht (b:=0) 0 (by omega);have f:=mS_top ht (b:=0) 2 (by omega);unfold mD;omega
include h1
theorem mS_hi (hb:b≤B) (i:Nat) (hi:i<4):mS s b i≤B:=ofL_hi (ht.m hi) h1 (by split<;>omega) (by omega)
theorem mA_tame (hb:b≤B):-2097152≤mA s b∧mA s b≤2*B:=by
  have a:=mS_lo ht (b:=b) 3 (by omega);have c:=mS_lo ht (b:=b) 1 (by omega);have e:=mS_hi ht h1 hb 3 (by omega);have f:=mS_hi ht h1 hb 1 (by omega);unfold mA;omega
theorem inO_tame (hb:b≤B) (i:Nat) (hi:i<4):-1048576≤inO s i b∧inO s i b≤B:=⟨ofL_lo (B:=1048576) (ht.i hi) (by omega) (by omega),ofL_hi (ht.i hi) h1 hb (by omega)⟩
theorem limW_hi {n:Int} (hb:b≤B) (hn:n≤B):limW s n b≤B:=lim_hi (ht.l (j:=7) (by decide)) h1 hb hn
theorem limH_hi {n:Int} (hb:b≤B) (hn:n≤B):limH s n b≤B:=lim_hi (ht.l (j:=9) (by decide)) h1 hb hn
theorem iwP_hi (hg:GS s) {rw sw:Int} (hr:rw≤B) (hs:sw≤B):iwP s rw sw≤B+2097152:=by
  have he:=hg.eA_bd;have hm:=mA_tame ht h1 hr;unfold iwP
  split
  · exact limW_hi ht (by omega) (by omega) (ofL_hi (ht.l (j:=3) (by decide)) (by omega) (by omega) (by omega))
  · omega
theorem ihP_hi (hg:GS s) {rh sh:Int} (hr:rh≤B) (hs:sh≤B):ihP s rh sh≤B:=by
  have he:=hg.eD_bd;unfold ihP
  split
  · split
    · exact limH_hi ht h1 hr (ofL_hi (ht.l (j:=5) (by decide)) h1 hr (by omega))
    · omega
  · omega
end
def numF (F:Forest (List Value)) (x:Int):Int:=((sub F x).length:Int)
section
variable {F:Forest (List Value)} {d:Int→Nat}
theorem num_pos (hF:WF F d) {x:Int} (hx:hasF F x=true):1≤numF F x:=by
  obtain⟨b,hb⟩:=some_has hx;unfold numF;rw[hF.sub_eq hb,List.length_cons];omega
theorem sum_gI (f:Int→Int):∀(l:List Int),sumN (fun i=>f (gI l i)) l.length=(l.map f).sum
  | []=>rfl
  | x :: l => by
    have h:∀n,sumN (fun i=>f (gI (x::l) i)) (n+1)=f x+sumN (fun i=>f (gI l i)) n:=by
      intro n;induction n with
      | zero=>simp[sumN,gI]
      | succ n ih =>
        rw[sumN,ih,sumN];have:gI (x::l) (n+1)=gI l n:=by simp[gI]
        rw[this];omega
    rw[List.length_cons,h,sum_gI f l];simp
theorem sum_filter (f:Int→Int) (p:Int→Bool):∀(l:List Int),(∀x∈l,0≤f x)→((l.filter p).map f).sum≤(l.map f).sum
  | [],_=>by simp
  | x :: l, h => by
    have ih:=sum_filter f p l fun y hy=>h y (by simp[hy]);have hx:=h x (by simp);rw[List.filter_cons]
    split
    · simp only[List.map_cons,List.sum_cons];omega
    · simp only[List.map_cons,List.sum_cons];omega
theorem num_kids (hF:WF F d) {x:Int} (hx:hasF F x=true) (a:Bool):sumN (fun i=>numF F (gI (kidsP F x a) i)) (kidsP F x a).length≤numF F x - 1:=by
  obtain⟨b,hb⟩:=some_has hx;rw[sum_gI];have h1:=sum_filter (numF F) (fun k=>shownF F k&&(outB (stF F k)==a)) (kidsF F x) fun k hk=>by have:=num_pos hF (kid_rank' hF hk).1;omega
  have h2:((kidsF F x).map (numF F)).sum=numF F x - 1:=by
    unfold numF;rw[hF.sub_eq hb,kids_some hb,List.length_cons,List.length_flatMap];have:∀l:List Int,(l.map fun k=>((sub F k).length:Int)).sum=(((l.map fun k=>(sub F k).length).sum:Nat):Int):=by
      intro l;induction l with
      | nil=>rfl
      | cons y l ih=>simp only[List.map_cons,List.sum_cons,ih];omega
    rw[this];omega
  unfold kidsP;omega
end
def HH (F:Forest (List Value)) (L:LayF) (k:Int):Prop:=1≤numF F k∧∀rw rh sw sh,(L k rw rh sw sh).h≤max (16777216*numF F k - 8388608) (max (rh+4194304) sh)
theorem fold_hi (l:List Int) (B:Int) (h:∀x∈l,-B≤x∧x≤B) (hB:0≤B):(hiP l≤B∧0≤hiP l)∧-B≤loP l∧loP l≤0:=by
  have h1:∀(l:List Int) (m:Int),(∀x∈l,-B≤x∧x≤B)→m≤B→l.foldl (fun m x=>max m (cut x)) m≤B:=by
    intro l;induction l with
    | nil=>intro m _ hm;exact hm
    | cons x l ih=>intro m hl hm;exact ih _ (fun y hy=>hl y (by simp[hy])) (by dsimp only;have:=cut_le (hl x (by simp)).2 hB;omega)
  have h2:∀(l:List Int) (m:Int),(∀x∈l,-B≤x∧x≤B)→-B≤m→-B≤l.foldl (fun m x=>min m (cut x)) m:=by
    intro l;induction l with
    | nil=>intro m _ hm;exact hm
    | cons x l ih=>intro m hl hm;exact ih _ (fun y hy=>hl y (by simp[hy])) (by dsimp only;have:=le_cut (hl x (by simp)).1 hB;omega)
  exact⟨⟨h1 l 0 h hB,(hiP_bd l).1⟩,h2 l 0 h (by omega),(loP_bd l).1⟩
theorem coll_tame (l:List Int) (B:Int) (h:∀x∈l,-B≤x∧x≤B) (hB:0≤B):-B≤collP l∧collP l≤B:=by
  have:=fold_hi l B h hB;unfold collP;omega
section
variable {F:Forest (List Value)} (ht:∀x,TameS (stF F x))
include ht
theorem ends_tame:∀(n:Nat) (x:Int) (b:Bool),∀m∈endsP F n x b,-1048576≤m∧m≤1048576
  | 0,_,_,_,h=>by simp[endsP] at h
  | n + 1, x, b, m, h => by
    rw[endsP] at h
    rcases List.mem_cons.1 h with rfl | h
    · cases b
      · exact⟨mS_lo (ht x) 0 (by omega),mS_top (ht x) 0 (by omega)⟩
      · exact⟨mS_lo (ht x) 2 (by omega),mS_top (ht x) 2 (by omega)⟩
    · split at h
      · exact ends_tame n _ b m h
      · simp at h
theorem end_tame (x:Int) (b:Bool):-1048576≤endP F x b∧endP F x b≤1048576:=coll_tame _ _ (ends_tame ht 64 x b) (by omega)
theorem gaps_tame (ks:List Int) (b:Bool) (i:Nat):-1048576≤gI (bTops F ks b) i∧gI (bTops F ks b) i≤1048576:=by
  unfold bTops
  by_cases h:i<ks.length
  · rw[gI_tab h];exact end_tame ht _ _
  · unfold gI;rw[List.getD_eq_getElem?_getD,tab_none (by omega)];simp
end
section
variable {F:Forest (List Value)} (hg:∀x,GS (stF F x)) (ht:∀x,TameS (stF F x)) {L:LayF} {ks:List Int} {A:Int→Int}
theorem sum_nn {a:Nat→Int} (ha:∀i,0≤a i):∀k,0≤sumN a k
  | 0=>by simp[sumN]
  | k+1=>by rw[sumN];have:=sum_nn ha k;have:=ha k;omega
theorem stk_hi {sizes tops bots:List Int} {a:Nat→Int} {G:Int} (hG:0≤G) (ha:∀i,0≤a i) (hs:∀i,i<sizes.length→gI sizes i≤a i) (hc:∀i,collP [gI bots i,gI tops (i+1)]≤G):
    ∀k,k≤sizes.length→stkStart sizes tops bots k≤sumN a k+G*k∧stkAt sizes tops bots k≤sumN a k+G*k
  | 0,_=>by simp[stkStart,stkAt,sumN]
  | k + 1, hk => by
    obtain⟨h1,_⟩:=stk_hi hG ha hs hc k (by omega);have h0:=sum_nn ha k;have hk1:0≤G*(k:Int):=Int.mul_nonneg hG (by omega);have h2:=hs k (by omega);have h3:=ha k;have e:G*((k+1:Nat):Int)=G*(k:Int)+G:=by rw[Int.natCast_add,Int.mul_add];simp
    have h4:=addI_le h1 h2 (by omega) h3;rw[stkStart,stkAt,sumN,e];refine⟨?_,by omega⟩;have:=addI_le h4 (hc k) (by omega) hG;omega
theorem sum_le {f g:Nat→Int}:∀n,(∀i,i<n→f i≤g i)→sumN f n≤sumN g n
  | 0,_=>Int.le_refl _
  | n+1,h=>by rw[sumN,sumN];have:=sum_le n fun i hi=>h i (by omega);have:=h n (by omega);omega
theorem sum_lin (f:Nat→Int) (p q:Int):∀n,sumN (fun i=>p*f i+q) n=p*sumN f n+q*n
  | 0=>by simp[sumN]
  | n+1=>by rw[sumN,sumN,sum_lin f p q n,Int.mul_add,Int.natCast_add,Int.mul_add];simp;omega
theorem sum_split (f:Nat→Int) (a:Nat):∀n,sumN f (a+n)=sumN f a+sumN (fun i=>f (a+i)) n
  | 0=>by simp[sumN]
  | n+1=>by rw[←Nat.add_assoc,sumN,sum_split f a n,sumN];omega
theorem max_le_sum {f g:Nat→Int}:∀n,(∀i,i<n→f i≤g i∧0≤g i)→maxN f n≤sumN g n∧0≤sumN g n
  | 0,_=>by simp[maxN,sumN]
  | n+1,h=>by rw[maxN,sumN];have:=max_le_sum n fun i hi=>h i (by omega);have:=h n (by omega);omega
theorem long_hi {l:List Int} {gap:Int} {a:Nat→Int} (hgp:0≤gap) (ha:∀i,0≤a i) (hs:∀i,i<l.length→gI l i≤a i):∀k,k≤l.length→longK l gap k≤sumN a k+gap*k∧0≤sumN a k
  | 0,_=>by simp[longK,sumN]
  | k + 1, hk => by
    obtain⟨h1,h0⟩:=long_hi hgp ha hs k (by omega);have h2:=hs k (by omega);have h3:=ha k;have hk1:0≤gap*(k:Int):=Int.mul_nonneg hgp (by omega);have e:gap*((k+1:Nat):Int)=gap*(k:Int)+gap:=by rw[Int.natCast_add,Int.mul_add];simp
    rw[longK,sumN,e];refine⟨?_,by omega⟩
    split
    · have:=addI_le h1 h2 (by omega) h3;omega
    · have:=addI_le (addI_le h1 (Int.le_refl gap) (by omega) hgp) h2 (by omega) h3;omega
include hg ht
theorem block_hi (hL:∀k∈ks,HH F L k) (iw id:Int) (hn:ks≠[]):(blockP F L ks iw (-1) id).2≤16777216*sumN (fun i=>numF F (gI ks i)) ks.length:=by
  have hp:1≤ks.length:=List.length_pos_iff.2 hn;have hlen:(bSizes L ks iw (-1)).length=ks.length:=tab_len;have hnum:∀i,i<ks.length→1≤numF F (gI ks i):=fun i hi=>(hL _ (gI_mem hi)).1;have h1:=stk_hi (sizes:=bSizes L ks iw (-1)) (tops:=bTops F ks false) (bots:=bTops F ks true) (a:=fun i=>if i<ks.length then 16777216*numF F (gI ks i)+-8388608 else 0) (G:=1048576) (by omega)
    (fun i => by try dsimp only
                 split; have := hnum i (by omega); omega; omega)
    (fun i hi => by
      rw [hlen] at hi
      try dsimp only
      rw [if_pos hi]
      unfold bSizes
      rw [gI_tab hi]
      have := (hL _ (gI_mem hi)).2 iw (-1) (-1) (-1)
      have := hnum i hi
      unfold bF
      omega)
    (fun i => (coll_tame _ 1048576 (fun x hx => by
      simp only [List.mem_cons, List.not_mem_nil, or_false] at hx
      rcases hx with rfl | rfl
      · exact gaps_tame ht _ _ _
      · exact gaps_tame ht _ _ _) (by omega)).2) ks.length (by omega)
  have h2:sumN (fun i=>if i<ks.length then 16777216*numF F (gI ks i)+-8388608 else 0) ks.length=16777216*sumN (fun i=>numF F (gI ks i)) ks.length+-8388608*ks.length:=by
    rw[←sum_lin];have:∀n,n≤ks.length→sumN (fun i=>if i<ks.length then 16777216*numF F (gI ks i)+-8388608 else 0) n=sumN (fun i=>16777216*numF F (gI ks i)+-8388608) n:=by
      intro n;induction n with
      | zero=>intro _;rfl
      | succ n ih=>intro hn2;rw[sumN,sumN,ih (by omega),if_pos (by omega)]
    exact this _ (Nat.le_refl _)
  have h3:=gaps_tame ht ks false 0;have h4:=gaps_tame ht ks true (ks.length - 1);unfold blockP bFrom;dsimp only;have h5:=h1.2;rw[h2] at h5
  split<;>split<;>omega
theorem kid_h (hL:∀k∈ks,HH F L k) {j:Nat} (hj:j<ks.length) (iw sw:Int) {sh:Int} (hsh:sh≤8388608):(L (gI ks j) iw (-1) sw sh).h≤16777216*numF F (gI ks j) - 8388608∧1≤numF F (gI ks j):=by
  obtain⟨h1,h2⟩:=hL _ (gI_mem hj);have:=h2 iw (-1) sw sh;omega
theorem line_hi (hL:∀k∈ks,HH F L k) (iw:Int) (c:List Value) {a b:Nat} (hab:a≤b) (hb:b≤ks.length) (one:Bool):
    lH F L ks iw (-1) c a b one≤16777216*(sumN (fun i=>numF F (gI ks i)) b - sumN (fun i=>numF F (gI ks i)) a)+-6291456*((b - a:Nat):Int):=by
  have h1 := (max_le_sum (f := fun i => (lF1 F L ks iw (-1) c a b i).h + mD (kS F ks (a + i))) (g := fun i => 16777216 * numF F (gI ks (a + i)) + -6291456) (b - a) fun i hi => by
    have h3 := kid_h hg ht hL (j := a + i) (by omega) iw (gI (lSizes F ks iw c a b) i + eA (kS F ks (a + i))) (sh := -1) (by omega)
    have h4 : -2097152 ≤ mD (kS F ks (a + i)) ∧ mD (kS F ks (a + i)) ≤ 2097152 := mD_tame (ht (gI ks (a + i)))
    have h5 : (lF1 F L ks iw (-1) c a b i).h = (L (gI ks (a + i)) iw (-1) (gI (lSizes F ks iw c a b) i + eA (kS F ks (a + i))) (-1)).h := rfl
    try dsimp only
    rw [h5]
    omega).1
  rw[sum_lin (fun i=>numF F (gI ks (a+i)))] at h1;have h2:=sum_split (fun i=>numF F (gI ks i)) a (b - a);rw[show a+(b - a)=b by omega] at h2;unfold lH;rw[if_neg (by simp)];unfold lMost;omega
theorem rowN_hi (hL:∀k∈ks,HH F L k) (iw:Int) {c:List Value} (hc46:0≤val c 46∧val c 46≤1048576) {ls:List (Nat×Nat)} (hls:∀p∈ls,p.1<p.2∧p.2≤ks.length) (hc:contig ls 0 ks.length):
    ∀n,n≤ls.length→(rowN F L ks iw (-1) c ls n).2≤16777216*sumN (fun i=>numF F (gI ks i)) (ptr ls n)+-5242880*(ptr ls n:Int)
  | 0,_=>by simp[rowN,ptr,sumN]
  | n + 1, hn => by
    have h1:=rowN_hi hL iw hc46 hls hc n (by omega);have hp:(ls.getD n (0,0)).1<(ls.getD n (0,0)).2∧(ls.getD n (0,0)).2≤ks.length:=by
      rw[List.getD_eq_getElem?_getD,List.getElem?_eq_getElem (by omega)];exact hls _ (List.getElem_mem _)
    have hs:(ls.getD n (0,0)).1=ptr ls n:=by
      have h:=contig_get hc n (by omega);cases n with
      | zero=>exact h
      | succ n=>rwa [if_neg (by omega)] at h
    have h2:=line_hi hg ht hL iw c (a:=(ls.getD n (0,0)).1) (b:=(ls.getD n (0,0)).2) (by omega) hp.2 (decide (ls.length=1));have e:ptr ls (n+1)=(ls.getD n (0,0)).2:=rfl;rw[e];rw[hs] at hp h2;simp only[rowN];rw[hs]
    split<;>omega
theorem row_hi (hL:∀k∈ks,HH F L k) (iw id:Int):(rowP F L ks iw (-1) id).2≤16777216*sumN (fun i=>numF F (gI ks i)) ks.length:=by
  have hll:(rLong F ks iw).length=ks.length:=tab_len;have hc:contig (rLines F ks iw (stF F id)) 0 ks.length:=by rw[←hll];exact breaks_contig
  have h:=rowN_hi hg ht hL iw ((hg id).siz 46 (by decide)) (ls:=rLines F ks iw (stF F id)) (fun p hp=>by have h:=breaks_in hp;rw[hll] at h;exact⟨h.1,h.2.1⟩) hc _ (Nat.le_refl _);have he:=contig_end hc;unfold rowP
  split at he
  · rename_i e
    rw[e] at h ⊢;rw[←he];simp only[ptr,sumN] at h ⊢;omega
  · rw [he] at h
    omega
theorem column_hi (hL:∀k∈ks,HH F L k) (iw id:Int):(columnP F L ks iw (-1) id).2≤16777216*sumN (fun i=>numF F (gI ks i)) ks.length:=by
  have hlen:(cAlong F L ks iw (-1) (stF F id)).length=ks.length:=tab_len;have h46:=(hg id).siz 46 (by decide)
  have h1 := (long_hi (l := cAlong F L ks iw (-1) (stF F id)) (gap := val (stF F id) 46) (a := fun i => if i < ks.length then 16777216 * numF F (gI ks i) + -6291456 else 0) h46.1
    (fun i => by
      try dsimp only
      split
      · have := (hL _ (gI_mem (by assumption))).1; omega
      · omega)
    (fun i hi => by
      rw [hlen] at hi
      try dsimp only
      rw [if_pos hi]
      unfold cAlong
      rw [gI_tab hi]
      have h3 : 0 ≤ gI (cSizes F L ks iw (-1) (stF F id)) i ∧ gI (cSizes F L ks iw (-1) (stF F id)) i ≤ 1048576 := by
        unfold cSizes
        rw [if_pos rfl, gI_tab hi]
        exact baseI_bd _
      have h4 : 0 ≤ eD (kS F ks i) ∧ eD (kS F ks i) ≤ 4194304 := (hg (gI ks i)).eD_bd
      have h5 := kid_h hg ht hL hi iw (cSet F ks iw (stF F id) i) (sh := gI (cSizes F L ks iw (-1) (stF F id)) i + eD (kS F ks i)) (by omega)
      have h6 : -2097152 ≤ mD (kS F ks i) ∧ mD (kS F ks i) ≤ 2097152 := mD_tame (ht (gI ks i))
      have h7 : (cF2 F L ks iw (-1) (stF F id) i).h = (L (gI ks i) iw (-1) (cSet F ks iw (stF F id) i) (gI (cSizes F L ks iw (-1) (stF F id)) i + eD (kS F ks i))).h := rfl
      rw [h7]
      omega) ks.length (by omega)).1
  have h2:sumN (fun i=>if i<ks.length then 16777216*numF F (gI ks i)+-6291456 else 0) ks.length=16777216*sumN (fun i=>numF F (gI ks i)) ks.length+-6291456*ks.length:=by
    rw[←sum_lin];have:∀n,n≤ks.length→sumN (fun i=>if i<ks.length then 16777216*numF F (gI ks i)+-6291456 else 0) n=sumN (fun i=>16777216*numF F (gI ks i)+-6291456) n:=by
      intro n;induction n with
      | zero=>intro _;rfl
      | succ n ih=>intro hn2;rw[sumN,sumN,ih (by omega),if_pos (by omega)]
    exact this _ (Nat.le_refl _)
  have h8:val (stF F id) 46*(ks.length:Int)≤1048576*(ks.length:Int):=Int.mul_le_mul_of_nonneg_right h46.2 (by omega);unfold columnP longP;dsimp only;rw[hlen];rw[h2] at h1;omega
theorem in_hi {x:Int} (hL:∀k∈kidsP F x false,HH F L k) (iw:Int):(inP F L x iw (-1)).2≤max 1048576 (16777216*sumN (fun i=>numF F (gI (kidsP F x false) i)) (kidsP F x false).length):=by
  unfold inP
  split
  · have:=(hg x).siz 54 (by decide);dsimp only;omega
  · split
    · have:=row_hi hg ht hL iw x;omega
    · split
      · have:=column_hi hg ht hL iw x;omega
      · have:=block_hi hg ht hL iw x (by assumption);omega
end
section
variable {F:Forest (List Value)} {d:Int→Nat} (hF:WF F d) (hg:∀x,GS (stF F x)) (ht:∀x,TameS (stF F x))
include hF hg ht
theorem hh_all (ww wh:Int):∀(n:Nat) (x:Int),hasF F x=true→63<n+d x→HH F (LAY F ww wh) x
  | 0,x,hx,h=>by obtain⟨b,hb⟩:=some_has hx;have:=hF.deep x b hb;omega
  | n + 1, x, hx, h => by
    have hnum:=num_pos hF hx;have hL:∀k∈kidsP F x false,HH F (LAY F ww wh) k:=fun k hk=>by
      obtain⟨h3,h4,_,_⟩:=kid_rank' hF (kidsP_sub hk);exact hh_all ww wh n k h3 (by omega)
    have hsum:=num_kids hF hx false;refine⟨hnum,fun rw' rh sw sh=>?_⟩;rw[LAY_eq hF hx];have he:=(hg x).eD_bd;have hin:=in_hi hg ht hL (iwP (stF F x) rw' sw);have key:∀ih n:Int,ih=ihP (stF F x) rh sh→(ih= -1→n≤max 1048576 (16777216*(numF F x - 1)))→ihEnd (stF F x) rh ih n+eD (stF F x)≤max (16777216*numF F x - 8388608) (max (rh+4194304) sh):=by
      intro ih n hih hn;unfold ihEnd
      by_cases h0:ih= -1
      · rw [if_pos h0]
        have h1:=limH_hi (ht x) (B:=max (max 1048576 rh) (max n 0)) (b:=rh) (n:=max n 0) (by omega) (by omega) (by omega);have h2:=hn h0;omega
      · rw [if_neg h0, hih]
        rw[hih] at h0;unfold ihP at h0 ⊢
        by_cases h1:sh= -1
        · rw [if_pos h1] at h0 ⊢
          by_cases h2:fixedL (val (stF F x) 5) rh=true
          · rw [if_pos h2]
            have h3:=ofL_hi (d0:=0) (b:=rh) (B:=max 1048576 rh) ((ht x).l (j:=5) (by decide)) (by omega) (by omega) (by omega);have h4:=limH_hi (ht x) (B:=max 1048576 rh) (b:=rh) (by omega) (by omega) h3;dsimp only[Nat.reduceAdd] at h4;omega
          · rw[if_neg h2] at h0;exact absurd rfl h0
        · rw[if_neg h1];omega
    have h5:=key (ihP (stF F x) rh sh) (inP F (LAY F ww wh) x (iwP (stF F x) rw' sw) (ihP (stF F x) rh sh)).2 rfl (fun e=>by rw[e];omega);unfold layStep;dsimp only;exact h5
end
def SZ (L:LayF) (k:Int):Prop:=∀B rw rh sw sh:Int,536870912≤B→0≤rw→rw≤B→-1≤rh→rh≤B→-1≤sw→sw≤B→-1≤sh→sh≤B→(L k rw rh sw sh).id=k∧(0≤(L k rw rh sw sh).w∧(L k rw rh sw sh).w≤B+6291456)∧0≤(L k rw rh sw sh).h∧(L k rw rh sw sh).h≤B+4194304
def RoomL (L:LayF) (B:Int) (f:Frm):Prop:=∃rw rh sw sh:Int,(0≤rw∧rw≤B)∧(-1≤rh∧rh≤B)∧(-1≤sw∧sw≤B)∧(-1≤sh∧sh≤B)∧f.w=(L f.id rw rh sw sh).w∧f.h=(L f.id rw rh sw sh).h∧f.kids=(L f.id rw rh sw sh).kids
def At (X:Int) (f:Frm):Prop:=(-X≤f.x∧f.x≤X)∧-X≤f.y∧f.y≤X
theorem room_of {L:LayF} {B:Int} {k:Int} {f:Frm} {rw rh sw sh:Int} (hid:(L k rw rh sw sh).id=k) (h1:0≤rw∧rw≤B) (h2:-1≤rh∧rh≤B) (h3:-1≤sw∧sw≤B) (h4:-1≤sh∧sh≤B) (e1:f.id=(L k rw rh sw sh).id) (e2:f.w=(L k rw rh sw sh).w) (e3:f.h=(L k rw rh sw sh).h) (e4:f.kids=(L k rw rh sw sh).kids):RoomL L B f:=by
  have e:f.id=k:=e1.trans hid;exact⟨rw,rh,sw,sh,h1,h2,h3,h4,by rw[e];exact e2,by rw[e];exact e3,by rw[e];exact e4⟩
theorem sum_const {S:Int} (h:0≤S):∀k:Nat,k≤31→sumN (fun _=>S) k≤31*S∧0≤sumN (fun _=>S) k:=by
  intro k hk;have e:∀n:Nat,sumN (fun _=>S) n=S*n:=by
    intro n;induction n with
    | zero=>simp[sumN]
    | succ n ih=>rw[sumN,ih,Int.natCast_add,Int.mul_add];simp
  rw[e];have h1:S*(k:Int)≤S*31:=Int.mul_le_mul_of_nonneg_left (by omega) h;have h2:0≤S*(k:Int):=Int.mul_nonneg h (by omega);omega
theorem mul31 {G:Int} (h:0≤G) {k:Nat} (hk:k≤31):G*(k:Int)≤31*G∧0≤G*(k:Int):=by
  have h1:G*(k:Int)≤G*31:=Int.mul_le_mul_of_nonneg_left (by omega) h;have h2:0≤G*(k:Int):=Int.mul_nonneg h (by omega);omega
theorem stk_lo {sizes tops bots:List Int} {G:Int} (hG:0≤G) (hs:∀i,i<sizes.length→0≤gI sizes i) (hc:∀i,-G≤collP [gI bots i,gI tops (i+1)]):∀k,k≤sizes.length→-(G*k)≤stkStart sizes tops bots k
  | 0,_=>by simp[stkStart]
  | k + 1, hk => by
    have h1:=stk_lo hG hs hc k (by omega);have hk1:0≤G*(k:Int):=Int.mul_nonneg hG (by omega);have e:G*((k+1:Nat):Int)=G*(k:Int)+G:=by rw[Int.natCast_add,Int.mul_add];simp
    have h2:=hs k (by omega);have h4:=le_addI (B:=0) h1 (by omega:-0≤gI sizes k) hk1 (by omega);rw[stkStart,e];have:=le_addI h4 (hc k) (by omega) hG;omega
theorem long_lo {l:List Int} {gap A:Int} (hgp:0≤gap) (hA:0≤A) (hs:∀i,i<l.length→-A≤gI l i):∀k,k≤l.length→-(A*k)≤longK l gap k
  | 0,_=>by simp[longK]
  | k + 1, hk => by
    have h1:=long_lo hgp hA hs k (by omega);have h2:=hs k (by omega);have hk1:0≤A*(k:Int):=Int.mul_nonneg hA (by omega);have e:A*((k+1:Nat):Int)=A*(k:Int)+A:=by rw[Int.natCast_add,Int.mul_add];simp
    rw[longK,e]
    split
    · have:=le_addI h1 h2 hk1 hA;omega
    · have:=le_addI (le_addI (B:=0) h1 (by omega:-0≤gap) hk1 (by omega)) h2 (by omega) hA;omega
theorem part_bd {left k n:Int} (hl:0≤left∧left≤137438953472) (hk:0≤k∧k≤n) (hn:0<n∧n≤64):0≤partJ left k n∧partJ left k n≤left:=by
  unfold partJ divI mulI;rw[if_neg (by omega)];have e1:cut left=left:=cut_id (by omega) (by omega);have e2:cut k=k:=cut_id (by omega) (by omega);have e3:cut n=n:=cut_id (by omega) (by omega);rw[e1,e2,e3];have h1:0≤left*k:=Int.mul_nonneg hl.1 hk.1;have h2:left*k≤left*n:=Int.mul_le_mul_of_nonneg_left hk.2 hl.1;have hc:0≤cut (cut (left*k))∧cut (cut (left*k))≤left*k:=by unfold cut;omega
  generalize cut (cut (left*k))=q at*
  refine⟨Int.ediv_nonneg hc.1 (by omega),?_⟩;have h3:q / n≤(left*n) / n:=Int.ediv_le_ediv (by omega) (by omega);rw[Int.mul_ediv_cancel _ (by omega)] at h3;exact h3
theorem before_bd {kind left:Int} {n k:Nat} (hl:-137438953472≤left∧left≤137438953472) (hk:k<n) (hn:n≤31):min left 0≤beforeP kind left n k∧beforeP kind left n k≤max left 0:=by
  unfold beforeP
  have hk1 : kindJ kind left n = 3 → 0 < left ∧ 2 ≤ n := by unfold kindJ; intro h; repeat' split at h
                                                            all_goals first | omega | (subst h;omega)
  have hk2 : kindJ kind left n = 4 ∨ kindJ kind left n = 5 → 0 < left := by unfold kindJ; intro h; repeat' split at h
                                                                            all_goals omega
  split
  · omega
  · split
    · unfold divI;rw[if_neg (by omega),cut_id (by omega) (by omega),show cut 2=2 from rfl];omega
    · split
      · rename_i h3
        obtain⟨q1,q2⟩:=hk1 h3;have:=part_bd (left:=left) (k:=k) (n:=n - 1) (by omega) (by omega) (by omega);omega
      · split
        · rename_i h4
          have:=hk2 (.inl h4);have:=part_bd (left:=left) (k:=2*k+1) (n:=2*n) (by omega) (by omega) (by omega);omega
        · split
          · rename_i h5
            have:=hk2 (.inr h5);have:=part_bd (left:=left) (k:=k+1) (n:=n+1) (by omega) (by omega) (by omega);omega
          · omega
theorem addI_id {a b:Int} (ha:-1099511627776≤a∧a≤1099511627776) (hb:-1099511627776≤b∧b≤1099511627776) (h:-1099511627776≤a+b∧a+b≤1099511627776):addI a b=a+b:=by
  unfold addI;rw[cut_id (n:=a) ha.1 ha.2,cut_id (n:=b) hb.1 hb.2,cut_id h.1 h.2]
theorem subI_id {a b:Int} (ha:-1099511627776≤a∧a≤1099511627776) (hb:-1099511627776≤b∧b≤1099511627776) (h:-1099511627776≤a - b∧a - b≤1099511627776):subI a b=a - b:=by
  unfold subI;rw[cut_id (n:=a) ha.1 ha.2,cut_id (n:=b) hb.1 hb.2,cut_id h.1 h.2]
theorem j_arith {sm b0 b1 x gap:Int} (h1:-137438953472≤sm∧sm≤137438953472) (h2:-137438953472≤b0∧b0≤137438953472) (h3:-137438953472≤b1∧b1≤137438953472) (h4:-4294967296≤x∧x≤4294967296) (h5:0≤gap∧gap≤1048576):addI (addI (addI (sm+b0) x) gap) (b1 - b0)=sm+(x+gap)+b1:=by
  have i1:addI (sm+b0) x=sm+b0+x:=addI_id (by omega) (by omega) (by omega);have i2:addI (sm+b0+x) gap=sm+b0+x+gap:=addI_id (by omega) (by omega) (by omega);rw[i1,i2];have i3:addI (sm+b0+x+gap) (b1 - b0)=sm+b0+x+gap+(b1 - b0):=addI_id (by omega) (by omega) (by omega);rw[i3];omega
theorem j_sum {kind left gap A C:Int} {l:List Int} (hgp:0≤gap∧gap≤1048576) (hA:0≤A∧A≤4294967296) (hC:0≤C∧C≤4294967296) (hn:l.length≤31) (hs:∀i,i<l.length→-A≤gI l i∧gI l i≤C) (hl:-137438953472≤left∧left≤137438953472):
    ∀k:Nat,k<l.length→jStart kind left gap l k=sumN (fun i=>gI l i+gap) k+beforeP kind left l.length k∧-(A*k)≤sumN (fun i=>gI l i+gap) k∧sumN (fun i=>gI l i+gap) k≤(C+1048576)*k
  | 0, hk => by
    have hb:=before_bd (kind:=kind) hl hk hn;refine⟨?_,by simp[sumN],by simp[sumN]⟩;simp only[jStart,jAt,sumN,if_true,Int.sub_zero,Int.zero_add];unfold addI;rw[show ((0:Nat):Int)=0 from rfl] at hb ⊢;unfold cut;omega
  | k + 1, hk => by
    obtain⟨h1,h2,h3⟩:=j_sum hgp hA hC hn hs hl k (by omega);have hb:=before_bd (kind:=kind) (k:=k) hl (by omega) hn;have hb2:=before_bd (kind:=kind) (k:=k+1) hl hk hn;have hx:=hs k (by omega);have e:A*((k+1:Nat):Int)=A*(k:Int)+A:=by rw[Int.natCast_add,Int.mul_add];simp
    have e2:(C+1048576)*((k+1:Nat):Int)=(C+1048576)*(k:Int)+(C+1048576):=by rw[Int.natCast_add,Int.mul_add];simp
    have m1:=mul31 hA.1 (k:=k) (by omega);have m2:=mul31 (G:=C+1048576) (by omega) (k:=k) (by omega);rw[sumN,e,e2];refine⟨?_,by omega,by omega⟩;have hj:jAt kind left gap l (k+1)=addI (jStart kind left gap l k) (gI l k):=by rw[jAt];rfl
    have e3:(((k+1:Nat):Int) - 1)=(k:Int):=by omega
    have hst:jStart kind left gap l (k+1)=addI (addI (jAt kind left gap l (k+1)) gap) (beforeP kind left l.length ((k+1:Nat):Int) - beforeP kind left l.length (k:Int)):=by
      unfold jStart;rw[if_neg (by omega),if_neg (by omega),e3]
    rw[hst,hj,h1];exact j_arith (by omega) (by omega) (by omega) (by omega) (by omega)
theorem j_bd {kind room gap A C R:Int} {l:List Int} (hgp:0≤gap∧gap≤1048576) (hA:0≤A∧A≤4194304) (hC:0≤C∧C≤3221225472) (hR:0≤R∧R≤34359738368) (hr:-R≤room∧room≤R) (hn:l.length≤31) (hs:∀i,i<l.length→-A≤gI l i∧gI l i≤C) {k:Nat} (hk:k<l.length):
    -(62*A+31*C+R+67108864)≤jStart kind (subI room (longP l gap)) gap l k∧jStart kind (subI room (longP l gap)) gap l k≤62*A+31*C+R+67108864:=by
  have h1:=(long_hi (l:=l) (gap:=gap) (a:=fun _=>C) hgp.1 (fun _=>hC.1) (fun i hi=>(hs i hi).2) l.length (Nat.le_refl _)).1;have h2:=long_lo (l:=l) (gap:=gap) hgp.1 hA.1 (fun i hi=>(hs i hi).1) l.length (Nat.le_refl _);have c1:=(sum_const hC.1 l.length hn).1;have m1:=mul31 hgp.1 hn;have m2:=mul31 hA.1 hn;unfold longP
  generalize longK l gap l.length=lg at*
  have hsub:subI room lg=room - lg:=subI_id (by omega) (by omega) (by omega);rw[hsub];obtain⟨s1,s2,s3⟩:=j_sum (kind:=kind) (left:=room - lg) hgp (by omega) (by omega) hn hs (by omega) k hk;have hb:=before_bd (kind:=kind) (left:=room - lg) (k:=k) (by omega) hk hn;have m3:=mul31 hA.1 (k:=k) (by omega);have m4:=mul31 (G:=C+1048576) (by omega) (k:=k) (by omega);omega
theorem across_bd {kind size room P Q:Int} (hs:-P≤size∧size≤P) (hr:-Q≤room∧room≤Q) (hP:0≤P) (hQ:0≤Q):-(P+Q)≤acrossP kind size room∧acrossP kind size room≤P+Q:=by
  have h1:-(P+Q)≤subI room size∧subI room size≤P+Q:=by
    unfold subI;have a1:=cut_le hr.2 hQ;have a2:=le_cut hr.1 hQ;have a3:=cut_le hs.2 hP;have a4:=le_cut hs.1 hP;exact⟨le_cut (by omega) (by omega),cut_le (by omega) (by omega)⟩
  unfold acrossP
  split
  · unfold divI
    rw[if_neg (by omega),show cut 2=2 from rfl];have b1:=cut_le h1.2 (by omega);have b2:=le_cut h1.1 (by omega);omega
  · split<;>omega
theorem auto_bd {room size bk bn ek en base P Q:Int} (hb:lenTame (bk,bn)) (he:lenTame (ek,en)) (h1:1048576≤P) (hbase:base≤P) (hQ:0≤Q) (hr:room≤Q) (hs:0≤size):-1048576≤(autoP room size bk bn ek en base).1∧(autoP room size bk bn ek en base).1≤max P (Q+2097152):=by
  have a1:=ofL_hi (d0:=0) hb h1 hbase (by omega);have a2:=ofL_lo (b:=base) (d0:=0) (B:=1048576) hb (by omega) (by omega);have b2:=ofL_lo (b:=base) (d0:=0) (B:=1048576) he (by omega) (by omega);have hl:autoLeft room size (ofL bk bn base 0) (ofL ek en base 0)≤Q+2097152:=by
    unfold autoLeft subI;have c1:=cut_le hr hQ;have c2:0≤cut size:=by unfold cut;omega
    have c3:=cut_le (a:=cut room - cut size) (A:=Q) (by omega) hQ;have c4:=cut_le c3 hQ;have c5:=le_cut (a:=ofL bk bn base 0) (A:=1048576) (by omega) (by omega);have c6:=le_cut (a:=ofL ek en base 0) (A:=1048576) (by omega) (by omega);have c7:=cut_le (a:=cut (cut (cut room - cut size)) - cut (ofL bk bn base 0)) (A:=Q+1048576) (by omega) (by omega);have c8:=cut_le c7 (by omega);exact cut_le (by omega) (by omega)
  unfold autoP;dsimp only
  split
  · dsimp only;omega
  · split
    · dsimp only;omega
    · split
      · dsimp only;omega
      · split<;>(dsimp only;omega)
section
variable {F:Forest (List Value)} (hg:∀x,GS (stF F x)) (ht:∀x,TameS (stF F x)) {L:LayF} {ks:List Int} (hL:∀k∈ks,SZ L k) {iw ih B:Int} (hB:536870912≤B∧B≤671088640) (hiw:0≤iw∧iw≤B+2097152) (hih:-1≤ih∧ih≤B) (hn:ks.length≤31)
include hg ht hL hB hiw hih hn
omit hg in
theorem block_pos (id:Int):∀f∈(blockP F L ks iw ih id).1,RoomL L (B+16777216) f∧At (110*(B+33554432)) f:=fun f hf=>by
  obtain⟨i,hi,rfl⟩:=tab_mem.1 hf;have hk:∀j,j<ks.length→(bF L ks iw ih j).id=gI ks j∧(0≤(bF L ks iw ih j).w∧(bF L ks iw ih j).w≤B+23068672)∧0≤(bF L ks iw ih j).h∧(bF L ks iw ih j).h≤B+20971520:=fun j hj=>by
    have h:=hL (gI ks j) (gI_mem hj) (B+16777216) iw ih (-1) (-1) (by omega) (by omega) (by omega) (by omega) (by omega) (by omega) (by omega) (by omega) (by omega);unfold bF;exact⟨h.1,by omega,by omega⟩
  have h:=hk i hi;refine⟨room_of (k:=gI ks i) (rw:=iw) (rh:=ih) (sw:=-1) (sh:=-1) h.1 (by omega) (by omega) (by omega) (by omega) rfl rfl rfl rfl,?_⟩;have hlen:(bSizes L ks iw ih).length=ks.length:=tab_len;have hsz:∀j,j<(bSizes L ks iw ih).length→0≤gI (bSizes L ks iw ih) j∧gI (bSizes L ks iw ih) j≤B+20971520:=fun j hj=>by
    rw[hlen] at hj;unfold bSizes;rw[gI_tab hj];exact(hk j hj).2.2
  have hcc : ∀ j, -1048576 ≤ collP [gI (bTops F ks true) j, gI (bTops F ks false) (j + 1)] ∧ collP [gI (bTops F ks true) j, gI (bTops F ks false) (j + 1)] ≤ 1048576 := fun j => coll_tame _ 1048576 (fun x hx => by
      simp only [List.mem_cons, List.not_mem_nil, or_false] at hx
      rcases hx with rfl | rfl
      · exact gaps_tame ht _ _ _
      · exact gaps_tame ht _ _ _) (by omega)
  have s1:=(stk_hi (sizes:=bSizes L ks iw ih) (tops:=bTops F ks false) (bots:=bTops F ks true) (a:=fun _=>B+20971520) (G:=1048576) (by omega) (fun _=>by omega) (fun j hj=>(hsz j hj).2) (fun j=>(hcc j).2) i (by omega)).1;have s2:=stk_lo (sizes:=bSizes L ks iw ih) (tops:=bTops F ks false) (bots:=bTops F ks true) (G:=1048576) (by omega) (fun j hj=>(hsz j hj).1) (fun j=>(hcc j).1) i (by omega);have m1:=(sum_const (S:=B+20971520) (by omega) i (by omega)).1;have m2:=mul31 (G:=1048576) (by omega) (k:=i) (by omega);have g1:=gaps_tame ht ks false 0;have x1:-1048576≤bX F L ks iw ih i∧bX F L ks iw ih i≤max (B+2097152) (B+2097152+2097152):=auto_bd ((ht (gI ks i)).l (j:=21) (by decide)) ((ht (gI ks i)).l (j:=17) (by decide)) (by omega) hiw.2 (by omega) hiw.2 h.2.1.1;unfold At bFrom;dsimp only
  generalize stkStart (bSizes L ks iw ih) (bTops F ks false) (bTops F ks true) i=st at*
  refine⟨by omega,?_⟩
  split<;>omega
section
variable {c:List Value} (h46:0≤val c 46∧val c 46≤1048576) {a b:Nat} (hab:a≤b) (hb:b≤ks.length)
include hab hb
theorem lF1_sz {i:Nat} (hi:i<b - a):(lF1 F L ks iw ih c a b i).id=gI ks (a+i)∧(0≤(lF1 F L ks iw ih c a b i).w∧(lF1 F L ks iw ih c a b i).w≤B+8388608)∧0≤(lF1 F L ks iw ih c a b i).h∧(lF1 F L ks iw ih c a b i).h≤B+6291456:=by
  have h2:0≤eA (kS F ks (a+i))∧eA (kS F ks (a+i))≤4194304:=(hg (gI ks (a+i))).eA_bd;have h3:0≤gI (lSizes F ks iw c a b) i∧gI (lSizes F ks iw c a b) i≤1048576:=gI_bd i;have h:=hL (gI ks (a+i)) (gI_mem (by omega)) (B+2097152) iw ih (gI (lSizes F ks iw c a b) i+eA (kS F ks (a+i))) (-1) (by omega) (by omega) (by omega) (by omega) (by omega) (by omega) (by omega) (by omega) (by omega);unfold lF1;exact⟨h.1,by omega,by omega⟩
theorem lH_sz (one:Bool):0≤lH F L ks iw ih c a b one∧lH F L ks iw ih c a b one≤B+8388608:=by
  have h1:=maxN_bd (f:=fun i=>(lF1 F L ks iw ih c a b i).h+mD (kS F ks (a+i))) (B:=B+8388608) (by omega) (b - a) fun i hi=>by
    have h2:=lF1_sz hg ht hL hB hiw hih hn (c:=c) hab hb hi;have h3:-2097152≤mD (kS F ks (a+i))∧mD (kS F ks (a+i))≤2097152:=mD_tame (ht (gI ks (a+i)));omega
  unfold lH lMost
  split
  · omega
  · omega
include h46 in
theorem line_pos (one:Bool):∀f∈lineP F L ks iw ih c a b one,RoomL L (B+16777216) f∧((-(96*(B+33554432))≤f.x∧f.x≤96*(B+33554432))∧-(3*(B+33554432))≤f.y∧f.y≤3*(B+33554432)):=fun f hf=>by
  obtain⟨i,hi,rfl⟩:=tab_mem.1 hf;have hh:=lH_sz hg ht hL hB hiw hih hn (c:=c) hab hb one;have h1:=lF1_sz hg ht hL hB hiw hih hn (c:=c) hab hb hi
  generalize hhe:lH F L ks iw ih c a b one=H at*
  have h2:0≤eA (kS F ks (a+i))∧eA (kS F ks (a+i))≤4194304:=(hg (gI ks (a+i))).eA_bd;have h2d:0≤eD (kS F ks (a+i))∧eD (kS F ks (a+i))≤4194304:=(hg (gI ks (a+i))).eD_bd;have h3:0≤gI (lSizes F ks iw c a b) i∧gI (lSizes F ks iw c a b) i≤1048576:=gI_bd i;have h4:-2097152≤mD (kS F ks (a+i))∧mD (kS F ks (a+i))≤2097152:=mD_tame (ht (gI ks (a+i)));have hl:limH (kS F ks (a+i)) (max (H - (eD (kS F ks (a+i))+mD (kS F ks (a+i)))) 0) ih≤B+10485760:=limH_hi (ht (gI ks (a+i))) (by omega) (by omega) (by omega);have hl0:=(limH_bd (kS F ks (a+i)) (max (H - (eD (kS F ks (a+i))+mD (kS F ks (a+i)))) 0) ih).1;have key:RoomL L (B+16777216) (lF2 F L ks iw ih c a b H i)∧(0≤(lF2 F L ks iw ih c a b H i).h∧(lF2 F L ks iw ih c a b H i).h≤B+20971520):=by
    unfold lF2
    split
    · have h5 := hL (gI ks (a + i)) (gI_mem (by omega)) (B + 16777216) iw ih (lF1 F L ks iw ih c a b i).w (limH (kS F ks (a + i)) (max (H - (eD (kS F ks (a + i)) + mD (kS F ks (a + i)))) 0) ih + eD (kS F ks (a + i))) (by omega) (by omega) (by omega) (by omega) (by omega) (by omega) (by omega) (by omega) (by omega)
      exact⟨room_of h5.1 (by omega) (by omega) (by omega) (by omega) rfl rfl rfl rfl,by omega⟩
    · refine⟨room_of (k:=gI ks (a+i)) (rw:=iw) (rh:=ih) (sw:=gI (lSizes F ks iw c a b) i+eA (kS F ks (a+i))) (sh:=-1) h1.1 (by omega) (by omega) (by omega) (by omega) rfl rfl rfl rfl,by omega⟩
  have hal:(lAlong F L ks iw ih c a b).length=b - a:=tab_len
  have hx := j_bd (kind := val c 43) (room := iw) (gap := val c 46) (A := 2097152) (C := 3 * B + 12582912) (R := B + 2097152) (l := lAlong F L ks iw ih c a b) h46 (by omega) (by omega) (by omega) (by omega) (by omega) (fun j hj => by
    rw [hal] at hj
    unfold lAlong
    rw [gI_tab hj]
    have q1 := lF1_sz hg ht hL hB hiw hih hn (c := c) hab hb hj
    have q2 : -2097152 ≤ mA (kS F ks (a + j)) iw ∧ mA (kS F ks (a + j)) iw ≤ 2 * (B + 2097152) := mA_tame (ht (gI ks (a + j))) (by omega) hiw.2
    omega) (k := i) (by omega)
  have hy:=across_bd (kind:=val c 44) (size:=(lF2 F L ks iw ih c a b H i).h+mD (kS F ks (a+i))) (room:=H) (P:=B+23068672) (Q:=B+8388608) (by omega) (by omega) (by omega) (by omega);have m3:-1048576≤mS (kS F ks (a+i)) iw 3∧mS (kS F ks (a+i)) iw 3≤B+2097152:=⟨mS_lo (ht (gI ks (a+i))) 3 (by omega),mS_hi (ht (gI ks (a+i))) (by omega) hiw.2 3 (by omega)⟩;have m0:-1048576≤mS (kS F ks (a+i)) iw 0∧mS (kS F ks (a+i)) iw 0≤1048576:=⟨mS_lo (ht (gI ks (a+i))) 0 (by omega),mS_top (ht (gI ks (a+i))) 0 (by omega)⟩;refine⟨key.1,?_⟩;have e:(lStart F L ks iw ih c a b i)=jStart (val c 43) (subI iw (longP (lAlong F L ks iw ih c a b) (val c 46))) (val c 46) (lAlong F L ks iw ih c a b) i:=rfl;unfold lOut;dsimp only;rw[e];omega
end
theorem rowN_pos {c:List Value} (h46:0≤val c 46∧val c 46≤1048576) {ls:List (Nat×Nat)} (hls:∀p∈ls,p.1<p.2∧p.2≤ks.length) (hll:ls.length≤31):
    ∀n,n≤ls.length→(0≤(rowN F L ks iw ih c ls n).2∧(rowN F L ks iw ih c ls n).2≤sumN (fun _=>B+9437184) n)∧∀f∈(rowN F L ks iw ih c ls n).1,RoomL L (B+16777216) f∧At (110*(B+33554432)) f
  | 0,_=>⟨by simp[rowN,sumN],fun f hf=>by simp[rowN] at hf⟩
  | n + 1, hn1 => by
    obtain⟨h1,h2⟩:=rowN_pos h46 hls hll n (by omega);have hp:(ls.getD n (0,0)).1<(ls.getD n (0,0)).2∧(ls.getD n (0,0)).2≤ks.length:=by
      rw[List.getD_eq_getElem?_getD,List.getElem?_eq_getElem (by omega)];exact hls _ (List.getElem_mem _)
    have h3:=lH_sz hg ht hL hB hiw hih hn (c:=c) (a:=(ls.getD n (0,0)).1) (b:=(ls.getD n (0,0)).2) (by omega) hp.2 (decide (ls.length=1));have h4:=line_pos hg ht hL hB hiw hih hn h46 (a:=(ls.getD n (0,0)).1) (b:=(ls.getD n (0,0)).2) (by omega) hp.2 (decide (ls.length=1));have m1:=(sum_const (S:=B+9437184) (by omega) n (by omega)).1;refine⟨?_,fun f hf=>?_⟩
    · simp only [rowN, sumN]
      split<;>omega
    · simp only [rowN] at hf
      rcases List.mem_append.1 hf with hf | hf
      · exact h2 f hf
      · obtain ⟨f0, hf0, rfl⟩ := List.mem_map.1 hf
        obtain⟨q1,q2⟩:=h4 f0 hf0;refine⟨q1,?_⟩;unfold At;simp only[shiftY]
        split<;>omega
theorem row_pos (id:Int):∀f∈(rowP F L ks iw ih id).1,RoomL L (B+16777216) f∧At (110*(B+33554432)) f:=by
  have hll:(rLong F ks iw).length=ks.length:=tab_len;have hbl:(rLines F ks iw (stF F id)).length≤31:=Nat.le_trans breaks_len (by omega);exact(rowN_pos hg ht hL hB hiw hih hn ((hg id).siz 46 (by decide)) (ls:=rLines F ks iw (stF F id)) (fun p hp=>by have h:=breaks_in hp;rw[hll] at h;exact⟨h.1,h.2.1⟩) hbl _ (Nat.le_refl _)).2
theorem column_pos (id:Int):∀f∈(columnP F L ks iw ih id).1,RoomL L (B+16777216) f∧At (110*(B+33554432)) f:=fun f hf=>by
  obtain⟨i,hi,rfl⟩:=tab_mem.1 hf;have h46:=(hg id).siz 46 (by decide);have hset:∀j,j<ks.length→-1≤cSet F ks iw (stF F id) j∧cSet F ks iw (stF F id) j≤B+6291456:=fun j hj=>by
    have h2:0≤eA (kS F ks j)∧eA (kS F ks j)≤4194304:=(hg (gI ks j)).eA_bd;have h3:0≤val (kS F ks j) 53∧val (kS F ks j) 53≤1048576:=(hg (gI ks j)).siz 53 (by decide);have h4:limW (kS F ks j) (val (kS F ks j) 53) iw≤B+2097152:=limW_hi (ht (gI ks j)) (by omega) hiw.2 (by omega);have h5:=(limW_bd (kS F ks j) (val (kS F ks j) 53) iw).1;unfold cSet
    split<;>omega
  have hsz:∀j,j<ks.length→0≤gI (cSizes F L ks iw ih (stF F id)) j∧gI (cSizes F L ks iw ih (stF F id)) j≤1048576:=fun j hj=>by
    unfold cSizes
    split
    · rw[gI_tab hj];exact baseI_bd _
    · exact gI_bd j
  have hF2:∀j,j<ks.length→(cF2 F L ks iw ih (stF F id) j).id=gI ks j∧(0≤(cF2 F L ks iw ih (stF F id) j).w∧(cF2 F L ks iw ih (stF F id) j).w≤B+14680064)∧0≤(cF2 F L ks iw ih (stF F id) j).h∧(cF2 F L ks iw ih (stF F id) j).h≤B+12582912:=fun j hj=>by
    have h2:0≤eD (kS F ks j)∧eD (kS F ks j)≤4194304:=(hg (gI ks j)).eD_bd;have h3:=hset j hj;have h4:=hsz j hj;have h:=hL (gI ks j) (gI_mem hj) (B+8388608) iw ih (cSet F ks iw (stF F id) j) (gI (cSizes F L ks iw ih (stF F id)) j+eD (kS F ks j)) (by omega) (by omega) (by omega) (by omega) (by omega) (by omega) (by omega) (by omega) (by omega);unfold cF2;exact⟨h.1,by omega,by omega⟩
  have h1:=hF2 i hi;have h2d:0≤eD (kS F ks i)∧eD (kS F ks i)≤4194304:=(hg (gI ks i)).eD_bd;have h3:=hset i hi;have h4:=hsz i hi;refine⟨room_of (k:=gI ks i) (rw:=iw) (rh:=ih) (sw:=cSet F ks iw (stF F id) i) (sh:=gI (cSizes F L ks iw ih (stF F id)) i+eD (kS F ks i)) h1.1 (by omega) (by omega) (by omega) (by omega) rfl rfl rfl rfl,?_⟩;have hal:(cAlong F L ks iw ih (stF F id)).length=ks.length:=tab_len;have hel:∀j,j<(cAlong F L ks iw ih (stF F id)).length→-2097152≤gI (cAlong F L ks iw ih (stF F id)) j∧gI (cAlong F L ks iw ih (stF F id)) j≤B+14680064:=fun j hj=>by
    rw[hal] at hj;unfold cAlong;rw[gI_tab hj];have q1:=hF2 j hj;have q2:-2097152≤mD (kS F ks j)∧mD (kS F ks j)≤2097152:=mD_tame (ht (gI ks j));omega
  have hroom:-(32*(B+33554432))≤cRoom F L ks iw ih (stF F id)∧cRoom F L ks iw ih (stF F id)≤32*(B+33554432):=by
    have l1:=(long_hi (l:=cAlong F L ks iw ih (stF F id)) (gap:=val (stF F id) 46) (a:=fun _=>B+14680064) h46.1 (fun _=>by omega) (fun j hj=>(hel j hj).2) ks.length (by omega)).1;have l2:=long_lo (l:=cAlong F L ks iw ih (stF F id)) (gap:=val (stF F id) 46) (A:=2097152) h46.1 (by omega) (fun j hj=>(hel j hj).1) ks.length (by omega);have c1:=(sum_const (S:=B+14680064) (by omega) ks.length hn).1;have m1:=mul31 h46.1 hn;have m2:=mul31 (G:=2097152) (by omega) hn;unfold cRoom longP;rw[hal]
    split<;>omega
  have hy:=j_bd (kind:=val (stF F id) 43) (room:=cRoom F L ks iw ih (stF F id)) (gap:=val (stF F id) 46) (A:=2097152) (C:=B+14680064) (R:=32*(B+33554432)) (l:=cAlong F L ks iw ih (stF F id)) h46 (by omega) (by omega) (by omega) hroom (by omega) hel (k:=i) (by omega);have q2:-2097152≤mA (kS F ks i) iw∧mA (kS F ks i) iw≤2*(B+2097152):=mA_tame (ht (gI ks i)) (by omega) hiw.2;have hx:=across_bd (kind:=val (stF F id) 44) (size:=(cF2 F L ks iw ih (stF F id) i).w+mA (kS F ks i) iw) (room:=iw) (P:=3*B+18874368) (Q:=B+2097152) (by omega) (by omega) (by omega) (by omega);have m3:-1048576≤mS (kS F ks i) iw 3∧mS (kS F ks i) iw 3≤B+2097152:=⟨mS_lo (ht (gI ks i)) 3 (by omega),mS_hi (ht (gI ks i)) (by omega) hiw.2 3 (by omega)⟩;have m0:-1048576≤mS (kS F ks i) iw 0∧mS (kS F ks i) iw 0≤1048576:=⟨mS_lo (ht (gI ks i)) 0 (by omega),mS_top (ht (gI ks i)) 0 (by omega)⟩;have e:cStart F L ks iw ih (stF F id) i=jStart (val (stF F id) 43) (subI (cRoom F L ks iw ih (stF F id)) (longP (cAlong F L ks iw ih (stF F id)) (val (stF F id) 46))) (val (stF F id) 46) (cAlong F L ks iw ih (stF F id)) i:=rfl;unfold At cOut;dsimp only;rw[e];omega
end
section
variable {F:Forest (List Value)} (hg:∀x,GS (stF F x)) (ht:∀x,TameS (stF F x)) {L:LayF} {B:Int} (hB:536870912≤B∧B≤671088640)
include hg ht hB
theorem within_pos {k:Int} (hL:SZ L k) {rw rh px py:Int} (hrw:0≤rw∧rw≤B+6291456) (hrh:-1≤rh∧rh≤B+6291456) (hpx:0≤px∧px≤1048576) (hpy:0≤py∧py≤1048576):
    RoomL L (B+16777216) (withinP F L k rw rh px py)∧At (110*(B+33554432)) (withinP F L k rw rh px py):=by
  have h2:0≤eA (stF F k)∧eA (stF F k)≤4194304:=(hg k).eA_bd;have h3:=(hg k).siz 53 (by decide);have h4:limW (stF F k) (val (stF F k) 53) rw≤B+6291456:=limW_hi (ht k) (by omega) hrw.2 (by omega);have h5:=(limW_bd (stF F k) (val (stF F k) 53) rw).1;have i0:=inO_tame (ht k) (b:=rh) (B:=B+6291456) (by omega) hrh.2 0 (by omega);have i1:=inO_tame (ht k) (b:=rw) (B:=B+6291456) (by omega) hrw.2 1 (by omega);have i2:=inO_tame (ht k) (b:=rh) (B:=B+6291456) (by omega) hrh.2 2 (by omega);have i3:=inO_tame (ht k) (b:=rw) (B:=B+6291456) (by omega) hrw.2 3 (by omega);have ma:=mA_tame (ht k) (b:=rw) (B:=B+6291456) (by omega) hrw.2;have md:=mD_tame (ht k);have sw:-1≤wSetW F k rw∧wSetW F k rw≤B+10485760:=by unfold wSetW;split<;>(try split)<;>omega
  have sh:-1≤wSetH F k rh∧wSetH F k rh≤B+10485760:=by unfold wSetH;split<;>omega
  have h:=hL (B+16777216) rw rh (wSetW F k rw) (wSetH F k rh) (by omega) (by omega) (by omega) (by omega) (by omega) (by omega) (by omega) (by omega) (by omega);have hid:(wF F L k rw rh).id=k:=h.1;have hw:0≤(wF F L k rw rh).w∧(wF F L k rw rh).w≤B+16777216+6291456:=h.2.1;have hh:0≤(wF F L k rw rh).h∧(wF F L k rw rh).h≤B+16777216+4194304:=h.2.2;refine⟨room_of (k:=k) (rw:=rw) (rh:=rh) (sw:=wSetW F k rw) (sh:=wSetH F k rh) hid (by omega) (by omega) (by omega) (by omega) rfl rfl rfl rfl,?_⟩;have m3:-1048576≤mS (stF F k) rw 3∧mS (stF F k) rw 3≤B+6291456:=⟨mS_lo (ht k) 3 (by omega),mS_hi (ht k) (by omega) hrw.2 3 (by omega)⟩;have m0:-1048576≤mS (stF F k) rw 0∧mS (stF F k) rw 0≤1048576:=⟨mS_lo (ht k) 0 (by omega),mS_top (ht k) 0 (by omega)⟩;have hx:-(8*(B+33554432))≤(withinP F L k rw rh px py).x∧(withinP F L k rw rh px py).x≤8*(B+33554432):=by
    unfold withinP;dsimp only
    split
    · omega
    · split<;>omega
  have hy:-(8*(B+33554432))≤(withinP F L k rw rh px py).y∧(withinP F L k rw rh px py).y≤8*(B+33554432):=by
    unfold withinP;dsimp only
    split
    · omega
    · split<;>omega
  unfold At;omega
theorem apart_pos {ww wh k iw ih:Int} {s:List Value} (hs:GS s) (hL:SZ L k) (hww:0≤ww∧ww≤1048576) (hwh:0≤wh∧wh≤1048576) (hiw:0≤iw∧iw≤B+2097152) (hih:0≤ih∧ih≤B+4194304):
    RoomL L (B+16777216) (apartP F ww wh L s iw ih k)∧At (128*(B+33554432)) (apartP F ww wh L s iw ih k):=by
  have b1:=hs.siz 31 (by decide);have b3:=hs.siz 33 (by decide);have b4:=hs.siz 34 (by decide);have b2:=hs.siz 32 (by decide);have b5:=hs.siz 38 (by decide);have b6:=hs.siz 35 (by decide);unfold apartP
  split
  · obtain ⟨h1, h2⟩ := within_pos hg ht hB hL (rw := ww) (rh := wh) (px := 0) (py := 0) (by omega) (by omega) (by omega) (by omega)
    refine⟨h1,?_⟩;unfold At at h2 ⊢;omega
  · obtain ⟨⟨a, b, c, d, h1⟩, h2⟩ := within_pos hg ht hB hL (rw := iw + (val s 34 + val s 32)) (rh := ih + (val s 31 + val s 33)) (px := val s 34) (py := val s 31) (by omega) (by omega) (by omega) (by omega)
    refine⟨⟨a,b,c,d,h1⟩,?_⟩;unfold At at h2 ⊢;unfold shiftXY;dsimp only;omega
theorem in_pos {x iw ih:Int} (hL:∀k∈kidsP F x false,SZ L k) (hiw:0≤iw∧iw≤B+2097152) (hih:-1≤ih∧ih≤B) (hn:(kidsP F x false).length≤31):∀f∈(inP F L x iw ih).1,RoomL L (B+16777216) f∧At (110*(B+33554432)) f:=by
  unfold inP
  split
  · intro f hf;simp at hf
  · split
    · exact row_pos hg ht hL hB hiw hih hn x
    · split
      · exact column_pos hg ht hL hB hiw hih hn x
      · exact block_pos ht hL hB hiw hih hn x
theorem step_pos {ww wh x rw rh sw sh:Int} (hww:0≤ww∧ww≤1048576) (hwh:0≤wh∧wh≤1048576) (hL:∀k∈kidsF F x,SZ L k) (hn:(kidsF F x).length≤31) (hrw:0≤rw∧rw≤B) (hrh:-1≤rh∧rh≤B) (hsw:-1≤sw∧sw≤B) (hsh:-1≤sh∧sh≤B)
    (hend:ihEnd (stF F x) rh (ihP (stF F x) rh sh) (inP F L x (iwP (stF F x) rw sw) (ihP (stF F x) rh sh)).2≤B+4194304):
    ∀f∈(layStep F ww wh L x rw rh sw sh).kids,RoomL L (B+16777216) f∧At (128*(B+33554432)) f:=fun f hf=>by
  have w1:=iwP_hi (ht x) (B:=B) (by omega) (hg x) hrw.2 hsw.2;have w2:=((hg x).iwP_bd rw sw).1;have v1:=ihP_hi (ht x) (B:=B) (by omega) (hg x) hrh.2 hsh.2;have v2:=((hg x).ihP_bd rh sh).1;have e0:=(ihEnd_bd (stF F x) rh (ihP (stF F x) rh sh) (inP F L x (iwP (stF F x) rw sw) (ihP (stF F x) rh sh)).2 v2).1;unfold layStep at hf
  rcases List.mem_append.1 hf with hf | hf
  · obtain ⟨f0, hf0, rfl⟩ := List.mem_map.1 hf
    obtain⟨⟨a,b,c,d,h1⟩,h2⟩:=in_pos hg ht hB (fun k hk=>hL k (kidsP_sub hk)) ⟨w2,w1⟩ ⟨v2,v1⟩ (Nat.le_trans (kidsP_le F x false) hn) f0 hf0;refine⟨⟨a,b,c,d,h1⟩,?_⟩;have q3:=(hg x).eS_bd 3 (by decide);have q0:=(hg x).eS_bd 0 (by decide);have i1:=inO_tame (ht f0.id) (b:=iwP (stF F x) rw sw) (B:=B+2097152) (by omega) w1 1 (by omega);have i2:=inO_tame (ht f0.id) (b:=ihP (stF F x) rh sh) (B:=B) (by omega) v1 2 (by omega);have mx:-(B+2097152)≤movX (stF F f0.id) (iwP (stF F x) rw sw)∧movX (stF F f0.id) (iwP (stF F x) rw sw)≤B+2097152:=by
      unfold movX
      split
      · exact⟨ofL_lo ((ht f0.id).l (j:=29) (by decide)) (by omega) (by omega),ofL_hi ((ht f0.id).l (j:=29) (by decide)) (by omega) w1 (by omega)⟩
      · omega
    have my:-(B+2097152)≤movY (stF F f0.id) (ihP (stF F x) rh sh)∧movY (stF F f0.id) (ihP (stF F x) rh sh)≤B+2097152:=by
      unfold movY
      split
      · exact⟨ofL_lo ((ht f0.id).l (j:=23) (by decide)) (by omega) (by omega),ofL_hi ((ht f0.id).l (j:=23) (by decide)) (by omega) (by omega) (by omega)⟩
      · omega
    unfold At at h2 ⊢;unfold moveF;dsimp only;omega
  · obtain ⟨k, hk, rfl⟩ := List.mem_map.1 hf
    exact apart_pos hg ht hB (hg x) (hL k (kidsP_sub hk)) hww hwh ⟨w2,w1⟩ ⟨e0,hend⟩
end
section
variable {F:Forest (List Value)} {d:Int→Nat} (hF:WF F d) (hg:∀x,GS (stF F x)) (ht:∀x,TameS (stF F x)) (hlen:lenF F≤31)
include hF hg ht hlen
omit hg ht in
theorem num_few (x:Int):numF F x≤31:=by
  have h1:=nodup_len (l:=sub F x) (m:=order F) (hF.sub_nodup x) fun y hy=>hF.mem_order.2 (sub_has hy);unfold lenF at hlen;unfold numF;omega
theorem sz_all (ww wh:Int) {x:Int} (hx:hasF F x=true):SZ (LAY F ww wh) x:=by
  intro B rw rh sw sh hB h1 h2 h3 h4 h5 h6 h7 h8;have hb:=layN_LB ww wh (hg x) 64 rw rh sw sh;have hh:=(hh_all hF hg ht ww wh 64 x hx (by omega)).2 rw rh sw sh;have hnum:=num_few hF hlen x;have w1:=iwP_hi (ht x) (B:=B) (by omega) (hg x) h2 h6;have e1:=(hg x).eA_bd;have hw:(LAY F ww wh x rw rh sw sh).w=iwP (stF F x) rw sw+eA (stF F x):=by rw[LAY_eq hF hx];rfl
  refine⟨hb.1,⟨hb.2.2.2.1.1,by omega⟩,hb.2.2.2.2.1,by omega⟩
def SmF (F:Forest (List Value)) (d:Int→Nat) (ww wh:Int) (f:Frm):Prop:=hasF F f.id=true∧RoomL (LAY F ww wh) (536870912+16777216*(d f.id:Int)) f∧At 90194313216 f
theorem SmF.size {ww wh:Int} {f:Frm} (h:SmF F d ww wh f) (hd:d f.id≤6):(0≤f.w∧f.w≤671088640)∧0≤f.h∧f.h≤671088640:=by
  obtain⟨hx,⟨rw,rh,sw,sh,h1,h2,h3,h4,e1,e2,_⟩,_⟩:=h;have hs:=sz_all hF hg ht hlen ww wh hx (536870912+16777216*(d f.id:Int)) rw rh sw sh (by omega) (by omega) (by omega) (by omega) (by omega) (by omega) (by omega) (by omega) (by omega);rw[e1,e2];omega
theorem SmF.kids (hdep:∀x,hasF F x=true→d x≤6) {ww wh:Int} (hww:0≤ww∧ww≤1048576) (hwh:0≤wh∧wh≤1048576) {f:Frm} (h:SmF F d ww wh f):∀g∈f.kids,SmF F d ww wh g:=fun g hgk=>by
  obtain⟨hx,⟨rw,rh,sw,sh,h1,h2,h3,h4,e1,e2,e3⟩,h6⟩:=h;have hgood:Good F ww wh f:=⟨hx,rw,rh,sw,sh,e1,e2,e3⟩;obtain⟨⟨k1,_⟩,k2⟩:=hgood.kids hF hg g hgk;have hd:=hdep f.id hx;have hL:∀k∈kidsF F f.id,SZ (LAY F ww wh) k:=fun k hk=>sz_all hF hg ht hlen ww wh (kid_rank' hF hk).1;have hs:=sz_all hF hg ht hlen ww wh hx (536870912+16777216*(d f.id:Int)) rw rh sw sh (by omega) (by omega) (by omega) (by omega) (by omega) (by omega) (by omega) (by omega) (by omega);have hh:(LAY F ww wh f.id rw rh sw sh).h=ihEnd (stF F f.id) rh (ihP (stF F f.id) rh sh) (inP F (LAY F ww wh) f.id (iwP (stF F f.id) rw sw) (ihP (stF F f.id) rh sh)).2+eD (stF F f.id):=by rw[LAY_eq hF hx];rfl
  have hed:=(hg f.id).eD_bd;rw[e3,LAY_eq hF hx] at hgk;have hst:=step_pos hg ht (B:=536870912+16777216*(d f.id:Int)) (by omega) hww hwh hL (kids_few hF hlen f.id) h1 h2 h3 h4 (by omega) g hgk;refine⟨k1,?_,?_⟩
  · have e : (536870912 + 16777216 * (d f.id : Int) + 16777216 : Int) = 536870912 + 16777216 * (d g.id : Int) := by rw [k2]; omega
    rw[←e];exact hst.1
  · have h7 := hst.2
    unfold At at h7 ⊢;omega
theorem flat_small (hdep:∀x,hasF F x=true→d x≤6) {ww wh:Int} (hww:0≤ww∧ww≤1048576) (hwh:0≤wh∧wh≤1048576):∀(n:Nat) (f:Frm),SmF F d ww wh f→∀g∈flatN n f,SmF F d ww wh g
  | 0,f,_,g,hm=>by simp[flatN] at hm
  | n + 1, f, h, g, hm => by
    rw[flatN] at hm
    rcases List.mem_cons.1 hm with rfl | hm
    · exact h
    · obtain ⟨k, hk, hm⟩ := List.mem_flatMap.1 hm
      exact flat_small hdep hww hwh n k (h.kids hF hg ht hlen hdep hww hwh k hk) g hm
theorem all_small (hdep:∀x,hasF F x=true→d x≤6) {w h:Int} (hw:w≤1048576) (hh:h≤1048576):∀f∈allP F w h,At 90194313216 f∧(0≤f.w∧f.w≤671088640)∧0≤f.h∧f.h≤671088640:=fun f hf=>by
  unfold allP at hf
  split at hf
  · obtain ⟨b, hb, _⟩ := hF.root
    have h0:=has_some hb;have hr:=layN_LB (max w 0) (max h 0) (hg 0) 64 (max w 0) (max h 0) (-1) (-1);have hid:(LAY F (max w 0) (max h 0) 0 (max w 0) (max h 0) (-1) (-1)).id=0:=hr.1;have hx0:(LAY F (max w 0) (max h 0) 0 (max w 0) (max h 0) (-1) (-1)).x=0:=hr.2.1;have hy0:(LAY F (max w 0) (max h 0) 0 (max w 0) (max h 0) (-1) (-1)).y=0:=hr.2.2.1;have hs:SmF F d (max w 0) (max h 0) (LAY F (max w 0) (max h 0) 0 (max w 0) (max h 0) (-1) (-1)):=by
      refine⟨by rw[hid];exact h0,?_,?_⟩
      · refine room_of (k:=0) hid ?_ ?_ ?_ ?_ rfl rfl rfl rfl<;>(rw[hid,hF.rank0];omega)
      · unfold At;rw[hx0,hy0];omega
    have hq:=flat_small hF hg ht hlen hdep (by omega) (by omega) 64 _ hs f hf;exact⟨hq.2.2,hq.size hF hg ht hlen (hdep f.id hq.1)⟩
  · simp at hf
end
def TameL (l:List AC) (k:Nat):Prop:=∀i x,i<k→l[i]?=some x→TameS x.1.sty
def DeepL (F:Forest (List Value)) (j:Nat):Prop:=∀i y,i<j→(sub F 0)[i]?=some y→depthF F y≤6
def GrT (l:List AC) (es:List PE) (bs:List RB):Prop:=GrOK l es bs∧TameL l l.length∧DeepL (absR bs) (sub (absR bs) 0).length
theorem TameL.step {l:List AC} {k:Nat} {x:AC} (h:TameL l k) (hx:l[k]?=some x) (ht:TameS x.1.sty):TameL l (k+1):=fun i y hi hy=>by
  rcases Nat.lt_succ_iff_lt_or_eq.1 hi with hi | rfl
  · exact h i y hi hy
  · rw[hx] at hy;cases hy;exact ht
theorem DeepL.step {F:Forest (List Value)} {j:Nat} {y:Int} (h:DeepL F j) (hy:(sub F 0)[j]?=some y) (hd:depthF F y≤6):DeepL F (j+1):=fun i z hi hz=>by
  rcases Nat.lt_succ_iff_lt_or_eq.1 hi with hi | rfl
  · exact h i z hi hz
  · rw[hy] at hz;cases hz;exact hd
def AllTS (F:Forest (List Value)):Prop:=∀x b,F x=some b→TameS b.sty
theorem zero_tame:TameS zeroS:=fun p hp=>by
  have h:∀q∈tameL zeroS,q=(0,0):=by decide+kernel
  rw[h p hp];exact⟨fun h=>by simp at h,fun h=>by simp at h⟩
theorem AllTS.st {F:Forest (List Value)} (h:AllTS F) (x:Int):TameS (stF F x):=by
  unfold stF styF
  split
  · rename_i b hb;exact h x b hb
  · exact zero_tame
theorem AllTS.act {F:Forest (List Value)} (h:AllTS F) (a:Act (List Value)) (ha:TameS a.sty):AllTS (actR zeroS validB F a):=by
  have hadd:∀up k id,AllTS (addG F up k id zeroS):=fun up k id x b hb=>by
    unfold addG at hb
    split at hb
    · obtain ⟨c, hc, rfl⟩ := Option.map_eq_some_iff.1 hb
      exact h _ c hc
    · split at hb
      · cases hb;exact zero_tame
      · exact h x b hb
  have hrem:∀id,AllTS (remG F id):=fun id x b hb=>by
    unfold remG at hb
    split at hb
    · cases hb
    · obtain ⟨c, hc, rfl⟩ := Option.map_eq_some_iff.1 hb
      split<;>exact h x c hc
  have hmov:∀id up k,AllTS (movG F id up k):=fun id up k x b hb=>by
    unfold movG at hb;obtain⟨c,hc,rfl⟩:=Option.map_eq_some_iff.1 hb;exact h x c hc
  have hset:∀id,AllTS (setG F id a.sty):=fun id x b hb=>by
    unfold setG at hb
    split at hb
    · obtain ⟨c, hc, rfl⟩ := Option.map_eq_some_iff.1 hb
      exact ha
    · exact h x b hb
  unfold actR
  split
  · unfold remR
    repeat' split
    all_goals first | exact h | exact hrem _
  · split
    · unfold movR
      repeat' split
      all_goals first | exact h | exact hmov _ _ _
    · split
      · unfold setR
        repeat' split
        all_goals first | exact h | exact hset _
      · unfold addR
        repeat' split
        all_goals first | exact h | exact hadd _ _ _
theorem AF_ts (l:List AC) (ht:TameL l l.length):∀k≤l.length,AllTS (AF (l.take k))
  | 0, _ => fun x b h => by
    have h':newF zeroS x=some b:=h;unfold newF at h'
    split at h'
    · cases h';exact zero_tame
    · cases h'
  | k + 1, hk => by
    obtain⟨x,hx⟩:∃x,l[k]?=some x:=⟨_,List.getElem?_eq_getElem (by omega)⟩;rw[AF_snoc hx];exact(AF_ts l ht k (by omega)).act x.1 (ht k x (by omega) hx)
theorem AF_tame {l:List AC} (ht:TameL l l.length):AllTS (AF l):=by
  have h:=AF_ts l ht l.length (Nat.le_refl _)
  rwa [List.take_of_length_le (Nat.le_refl _)] at h
theorem deep_d {F:Forest (List Value)} {d:Int→Nat} (hF:WF F d) (h:DeepL F (sub F 0).length):∀x,hasF F x=true→d x≤6:=fun x hx=>by
  obtain⟨i,hi,e⟩:=List.getElem_of_mem (hF.mem_order.2 hx);have h0:(order F)[i]?=some x:=by rw[List.getElem?_eq_getElem hi];exact congrArg some e
  have h1:=h i x hi h0;rw[hF.depth hx] at h1;omega
theorem grow3_ct (A:Option Addr) (c:Nat) (l:List AC):Ct Tryz.prog 17 #[.slice A l.length c] [] (fun w=>RdE w A 59 encA l) (X:=Bool×Nat×Nat×List PE×Nat×Nat×Nat×List RB) (fun p=>.tuple #[.pointer (some ⟨p.2.1,0,none⟩),.pointer (some ⟨p.2.2.2.2.1,0,none⟩),.bool p.1])
    (fun p=>p.1=true→GrT l p.2.2.2.1 p.2.2.2.2.2.2.2) (fun p=>[treeI p.2.1 p.2.2.1 p.2.2.2.1,refI p.2.2.2.2.1 p.2.2.2.2.2.1 p.2.2.2.2.2.2.1 p.2.2.2.2.2.2.2]):=by
  refine Ct.intro Tryz.func17 rfl Tryz.ntmps17 (by simp) (fun w0 hz=>?_);refine sqR ?_;refine sg (v:=.pointer none) rfl ?_;refine sg (v:=.pointer none) rfl ?_;refine sg (v:=.bool false) rfl ?_;refine nl (oo ?_);refine sqR ?_;refine WPL.ef (x_call Tryz.call49 new_ct [] [] rfl (fun w hw=>trivial) (τ:=fun _=>[_]) (fun _=>rfl)) (fun⟨tp,mb,nb⟩=>?_);refine WPL.fact (fun _=>?_);refine sgP rfl ?_;refine nl (oo ?_);refine sqR ?_;refine WPL.ef (x_call Tryz.call52 rnew_ct [] [0] rfl (fun w hw=>trivial) (τ:=fun _=>[_,_]) (fun _=>rfl)) (fun⟨rp,g0⟩=>?_);refine WPL.fact (fun _=>?_);refine sgP rfl ?_;refine nl (oo ?_);refine sq ?_;refine sqR ?_;refine mvS rfl ?_;refine vl (v_len Tryz.underlying22 rfl) ?_;refine vl (v_gtr rfl rfl) ?_;refine mvB rfl ?_;refine WPL.split 15 rfl (fun h15=>?_) (fun h15=>?_)
  ·refine sk ?_;refine sk ?_;refine vl (v_pickT (u:=.bool _) rfl rfl) ?_;refine nl (oo ?_);refine WP.condT rfl ?_;refine sqR ?_;refine mvP rfl ?_;refine mvP rfl ?_;refine sgP rfl ?_;refine sgP rfl ?_;refine sg (v:=.bool false) rfl ?_;refine nl (oo ?_);exact WP.ret3 Tryz.results17 (fun _ h=>h) (fun w hw=>by first | exact⟨(false,tp,mb,[newE 0 nb (-1)],rp,g0,1,[liveRB (-1)]),rfl,(fun h=>by cases h),(hw.sel [0,1] (by decide))⟩ | exact⟨(true,tp,mb,[newE 0 nb (-1)],rp,g0,1,[liveRB (-1)]),rfl,(fun _=>⟨⟨hl30,hFo,hk,hab,hkr⟩,htl,hdl⟩),(hw.sel [0,1] (by decide))⟩)
  ·refine vg (v_move (v:=.pointer _) rfl) ?_;refine vg (v_eqNil Tryz.underlying24 rfl rfl) ?_;refine vl (v_pickF (v:=.bool _) rfl rfl) ?_;refine nl (oo ?_);refine WP.condF rfl ?_;refine WP.skip (onto_of ?_);refine sq ?_;refine sqR ?_;refine sg (v:=.int .i64 (0)) rfl ?_;refine nl (oo ?_);refine WP.block ?_;refine WP.loopK (X:=Nat×List PE×Nat×Nat×List RB) [0,5,6] (fun p=>[(7,.int .i64 (p.1:Int))]) (fun p w=>(p.1≤l.length∧FoR p.2.1=AF (l.take p.1)∧LOk p.2.1∧absR p.2.2.2.2=FoR p.2.1∧ROk p.2.2.2.2∧TameL l p.1)∧St w0 (foots []) [treeI tp mb p.2.1,refI rp p.2.2.1 p.2.2.2.1 p.2.2.2.2] w) (fun p=>l.length - p.1) (0,[newE 0 nb (-1)],g0,1,[liveRB (-1)]) ⟨rfl,trivial⟩ (fun w hw=>⟨⟨Nat.zero_le _,(newE_ok nb).1,(newE_ok nb).2,rnew_ok.1.trans (newE_ok nb).1.symm,rnew_ok.2,fun i x hi=>by omega⟩,(hw.sel [0,1] (by decide))⟩) (fun p ρ0=>?_);obtain⟨k,es,g,bc,bs⟩:=p;dsimp only;refine WP.fact (fun⟨hkl,hFo,hk,hab,hkr,htl⟩=>?_);refine sq ?_;refine sqR ?_;refine mvI rfl ?_;refine mvS rfl ?_;refine vl (v_len Tryz.underlying22 rfl) ?_;refine vl (v_lss rfl rfl) ?_;refine nl (oo ?_);refine WP.condP rfl (fun h24=>?_) (fun h24=>?_)
   ·obtain⟨x,hx⟩:∃x,l[k]?=some x:=⟨_,List.getElem?_eq_getElem (by omega)⟩;obtain⟨ab,ao,rfl,hc⟩:=hz k x hx;obtain⟨d,hF⟩:=AF_wf (l.take k);rw[←hFo] at hF;refine WP.skip (onto_of ?_);refine sq ?_;refine WP.block ?_;refine sq ?_;refine sqR ?_;refine mvS rfl ?_;refine mvI rfl ?_;refine vl (v_index (j:=k) Tryz.underlying22 Tryz.sizeOf99 rfl rfl rfl (by omega)) ?_;refine vl (v_field (off:=4) Tryz.underlying99 rfl Tryz.sizeOf42 rfl) ?_;refine vl (v_loadA (cs:=x.1.sty) Tryz.isAgg42 Tryz.sizeOf42 rfl (fun w hw=>(hw.old_at hc (noNil _)).part 4 (by show List.take _ x.1.sty=_;exact List.take_of_length_le (Nat.le_refl _))) x.2.len) ?_;refine WPL.ef (x_call Tryz.call53 (tame_ct x.1.sty x.2) [] [0,1] rfl (fun w hw=>trivial) (τ:=fun _=>[_,_]) (fun _=>rfl)) (fun tb=>?_);refine WPL.fact (fun htm=>?_);refine vl (v_not rfl) ?_;refine nl (oo ?_);refine WP.cond rfl (fun h33=>?_) (fun h33=>?_)
    ·refine sqR ?_;refine mvP rfl ?_;refine mvP rfl ?_;refine sgP rfl ?_;refine sgP rfl ?_;refine sg (v:=.bool false) rfl ?_;refine nl (oo ?_);exact WP.ret3 Tryz.results17 (fun _ h=>h) (fun w hw=>by first | exact⟨(false,tp,mb,es,rp,g,bc,bs),rfl,(fun h=>by cases h),(hw.sel [0,1] (by decide))⟩ | exact⟨(true,tp,mb,es,rp,g,bc,bs),rfl,(fun _=>⟨⟨hl30,hFo,hk,hab,hkr⟩,htl,hdl⟩),(hw.sel [0,1] (by decide))⟩)
    ·refine WP.skip (onto_of ?_);refine sqR ?_;refine mvP rfl ?_;refine mvP rfl ?_;refine mvS rfl ?_;refine mvI rfl ?_;refine vl (v_index (j:=k) Tryz.underlying22 Tryz.sizeOf99 rfl rfl rfl (by omega)) ?_;refine vl (v_loadA (cs:=encA x) Tryz.isAgg99 Tryz.sizeOf99 rfl (fun w hw=>hw.old_at hc (noNil _)) (encA_len x)) ?_;refine WPL.ef (x_call Tryz.call54 (both_ct tp mb es hk hF rp g bc bs hkr hab x.1 x.2) [0,1] [] rfl (fun w hw=>trivial) (τ:=fun _=>[_,_]) (fun _=>rfl)) (fun⟨es1,g1,bc1,bs1⟩=>?_);refine WPL.fact (fun hf=>?_);obtain⟨f1,hk1,hab1,hkr1⟩:=hf;dsimp only at f1 hk1 hab1 hkr1;have hAF:FoR es1=AF (l.take (k+1)):=by rw[AF_snoc hx,←hFo];exact f1
     refine vl (v_not rfl) ?_;refine nl (oo ?_);refine WP.condF rfl ?_;refine WP.skip (onto_of ?_);refine WP.region ?_;refine mvI rfl ?_;refine vl (v_add rfl rfl (by omega)) ?_;refine sgI rfl ?_;exact nl fun w hw=>⟨rfl,(k+1,es1,g1,bc1,bs1),(by simp only;omega),⟨rfl,(via (.slice _ _ _) rfl rfl),(via (.pointer _) rfl rfl),(via (.pointer _) rfl rfl),trivial⟩,⟨⟨by simp only;omega,hAF,hk1,hab1,hkr1,htl.step hx (htm (by simpa using h33))⟩,(hw.sel [0,1] (by decide))⟩⟩
   ·obtain rfl:k=l.length:=by omega
    rw[List.take_of_length_le (Nat.le_refl _)] at hFo;obtain⟨d,hF⟩:=AF_wf l;rw[←hFo] at hF;have hFr:WF (absR bs) d:=by rw[hab];exact hF
    have hl30:l.length≤30:=by omega
    refine WP.exit (onto_of ?_);refine sqR ?_;refine mvP rfl ?_;refine WPL.ef (x_call Tryz.call55 (rinside_ct rp g bc bs hkr hFr 0) [1] [0] rfl (fun w hw=>trivial) (τ:=fun _=>[_,_,_]) (fun _=>rfl)) (fun⟨rA,rc⟩=>?_);refine WPL.fact (fun _=>?_);refine sgS rfl ?_;refine nl (oo ?_);refine sq ?_;refine sqR ?_;refine sg (v:=.int .i64 (0)) rfl ?_;refine nl (oo ?_);refine WP.block ?_;refine WP.loopK (X:=Nat) [5,6,8] (fun j=>[(9,.int .i64 (j:Int))]) (fun j w=>(j≤(sub (absR bs) 0).length∧DeepL (absR bs) j)∧St w0 (foots []) [treeI tp mb es,refI rp g bc bs,kidsI rA (sub (absR bs) 0).length rc (sub (absR bs) 0)] w) (fun j=>(sub (absR bs) 0).length - j) 0 ⟨rfl,trivial⟩ (fun w hw=>⟨⟨Nat.zero_le _,fun i x hi=>by omega⟩,(hw.sel [0,1,2] (by decide))⟩) (fun j ρ0=>?_);refine WP.fact (fun⟨hjn,hdl⟩=>?_);refine sq ?_;refine sqR ?_;refine mvI rfl ?_;refine mvS rfl ?_;refine vl (v_len Tryz.underlying49 rfl) ?_;refine vl (v_lss rfl rfl) ?_;refine nl (oo ?_);refine WP.condP rfl (fun h51=>?_) (fun h51=>?_)
    ·obtain⟨y,hy⟩:∃y,(sub (absR bs) 0)[j]?=some y:=⟨_,List.getElem?_eq_getElem (by omega)⟩;refine WP.holds (fun w hw=>hw.row_pos (i:=2) rfl (by omega)) (fun⟨ib,hA⟩=>?_);subst hA;have hll:=hFr.len_le 0;refine WP.skip (onto_of ?_);refine sq ?_;refine WP.block ?_;refine sqR ?_;refine mvP rfl ?_;refine mvS rfl ?_;refine mvI rfl ?_;refine vl (v_index (j:=j) Tryz.underlying49 Tryz.sizeOf3 rfl rfl rfl (by omega)) ?_;refine vl (v_load1 (u:=.int .i64 _) Tryz.isAgg3 rfl (fun w hw=>hw.row_at1 (i:=2) rfl (by rw[List.getElem?_map,hy];rfl) (by omega))) ?_;refine WPL.ef (x_call Tryz.call56 (rdepth_ct rp g bc bs hkr hFr y) [1] [0,2] rfl (fun w hw=>trivial) (τ:=fun _=>[_,_,_]) (fun _=>rfl)) (fun _=>?_);refine WPL.fact (fun _=>?_);refine vl (v_gtr rfl rfl) ?_;refine nl (oo ?_);refine WP.condP rfl (fun h60=>?_) (fun h60=>?_)
     ·refine sqR ?_;refine mvP rfl ?_;refine mvP rfl ?_;refine sgP rfl ?_;refine sgP rfl ?_;refine sg (v:=.bool false) rfl ?_;refine nl (oo ?_);exact WP.ret3 Tryz.results17 (fun _ h=>h) (fun w hw=>by first | exact⟨(false,tp,mb,es,rp,g,bc,bs),rfl,(fun h=>by cases h),(hw.sel [0,2] (by decide))⟩ | exact⟨(true,tp,mb,es,rp,g,bc,bs),rfl,(fun _=>⟨⟨hl30,hFo,hk,hab,hkr⟩,htl,hdl⟩),(hw.sel [0,2] (by decide))⟩)
     ·refine WP.skip (onto_of ?_);refine WP.region ?_;refine mvI rfl ?_;refine vl (v_add rfl rfl (by omega)) ?_;refine sgI rfl ?_;exact nl fun w hw=>⟨rfl,j+1,(by omega),⟨rfl,(via (.pointer _) rfl rfl),(via (.pointer _) rfl rfl),(via (.slice _ _ _) rfl rfl),trivial⟩,⟨⟨by omega,hdl.step hy (by omega)⟩,(hw.sel [0,2,1] (by decide))⟩⟩
    ·obtain rfl:j=(sub (absR bs) 0).length:=by omega
     refine WP.exit (onto_of ?_);refine sqR ?_;refine mvP rfl ?_;refine mvP rfl ?_;refine sgP rfl ?_;refine sgP rfl ?_;refine sg (v:=.bool true) rfl ?_;refine nl (oo ?_);exact WP.ret3 Tryz.results17 (fun _ h=>h) (fun w hw=>by first | exact⟨(false,tp,mb,es,rp,g,bc,bs),rfl,(fun h=>by cases h),(hw.sel [0,1] (by decide))⟩ | exact⟨(true,tp,mb,es,rp,g,bc,bs),rfl,(fun _=>⟨⟨hl30,hFo,hk,hab,hkr⟩,htl,hdl⟩),(hw.sel [0,1] (by decide))⟩)
def NB (C:Int) (r:Rc):Prop:=min r.w r.h≤0∨((-C≤r.x∧0<r.w∧r.x+r.w≤C)∧-C≤r.y∧0<r.h∧r.y+r.h≤C)
def Sub (a b:Rc):Prop:=min a.w a.h≤0∨((b.x≤a.x∧a.x+a.w≤b.x+b.w)∧b.y≤a.y∧a.y+a.h≤b.y+b.h)
theorem NB.mono {C C':Int} {r:Rc} (h:NB C r) (hC:C≤C'):NB C' r:=by unfold NB at*;omega
theorem Sub.refl (a:Rc):Sub a a:=by unfold Sub;omega
theorem Sub.trans {a b c:Rc} (ha:0<a.w→0<a.h→Sub a b) (h2:Sub b c):Sub a c:=by unfold Sub at*;omega
theorem nb_n1 {C:Int} {r:Rc} (h:NB C r) (hC:C≤549755813888):min r.w r.h≤0∨(N1 r.x r.w∧N1 r.y r.h):=by unfold NB at h;unfold N1;omega
theorem emptyR_iff (r:Rc):emptyR r=true↔min r.w r.h≤0:=decide_eq_true_iff
theorem join_sub {C:Int} {a b:Rc} (hC:C≤549755813888) (ha:NB C a) (hb:NB C b):NB C (joinR a b)∧Sub a (joinR a b)∧Sub b (joinR a b):=by
  unfold joinR
  by_cases h1:min a.w a.h≤0
  · rw [if_pos ((emptyR_iff a).2 h1)]
    unfold soundR
    by_cases h2:min b.w b.h≤0
    · rw[if_pos ((emptyR_iff b).2 h2)];exact⟨.inl (by decide),.inl h1,.inl h2⟩
    · rw[if_neg (fun h=>h2 ((emptyR_iff b).1 h))];exact⟨hb,.inl h1,Sub.refl b⟩
  · rw [if_neg (fun h => h1 ((emptyR_iff a).1 h))]
    by_cases h2:min b.w b.h≤0
    · rw[if_pos ((emptyR_iff b).2 h2)];exact⟨ha,Sub.refl a,.inl h2⟩
    · rw [if_neg (fun h => h2 ((emptyR_iff b).1 h))]
      have na:=(nb_n1 ha hC).resolve_left h1;have nb:=(nb_n1 hb hC).resolve_left h2;have f1:(acrossR a).lo=a.x∧(acrossR a).hi=a.x+a.w:=na.1.span;have f2:(downR a).lo=a.y∧(downR a).hi=a.y+a.h:=na.2.span;have g1:(acrossR b).lo=b.x∧(acrossR b).hi=b.x+b.w:=nb.1.span;have g2:(downR b).lo=b.y∧(downR b).hi=b.y+b.h:=nb.2.span;have j1:joinS (acrossR a) (acrossR b)=⟨min a.x b.x,max (a.x+a.w) (b.x+b.w)⟩:=by
        unfold joinS;rw[if_neg (by omega),if_neg (by omega),f1.1,f1.2,g1.1,g1.2]
      have j2:joinS (downR a) (downR b)=⟨min a.y b.y,max (a.y+a.h) (b.y+b.h)⟩:=by
        unfold joinS;rw[if_neg (by omega),if_neg (by omega),f2.1,f2.2,g2.1,g2.2]
      rw[j1,j2];have a1:=ha.resolve_left h1;have b1:=hb.resolve_left h2;have s1:sizeS ⟨min a.x b.x,max (a.x+a.w) (b.x+b.w)⟩=max (a.x+a.w) (b.x+b.w) - min a.x b.x:=by
        unfold sizeS;dsimp only;rw[subI_id (by omega) (by omega) (by omega)];omega
      have s2:sizeS ⟨min a.y b.y,max (a.y+a.h) (b.y+b.h)⟩=max (a.y+a.h) (b.y+b.h) - min a.y b.y:=by
        unfold sizeS;dsimp only;rw[subI_id (by omega) (by omega) (by omega)];omega
      unfold byR NB Sub;dsimp only;rw[s1,s2];refine⟨.inr ⟨?_,?_⟩,.inr ⟨?_,?_⟩,.inr ⟨?_,?_⟩⟩<;>omega
theorem move_nb {C X:Int} {r:Rc} {p:Pt} (hr:NB C r) (hX:0≤X) (hC:0≤C∧C+X≤549755813888) (hp:(-X≤p.1∧p.1≤X)∧-X≤p.2∧p.2≤X):NB (C+X) (moveR r p)∧(0<r.w→0<r.h→(moveR r p).x=r.x+p.1∧(moveR r p).y=r.y+p.2):=by
  unfold NB at hr ⊢
  by_cases h:min r.w r.h≤0
  · exact⟨.inl h,fun h1 h2=>by omega⟩
  · have h1 := hr.resolve_left h
    have e1:(moveR r p).x=r.x+p.1:=by
      unfold moveR;dsimp only;rw[cut_id (n:=r.x) (by omega) (by omega)];exact cut_id (by omega) (by omega)
    have e2:(moveR r p).y=r.y+p.2:=by
      unfold moveR;dsimp only;rw[cut_id (n:=r.y) (by omega) (by omega)];exact cut_id (by omega) (by omega)
    have e3:(moveR r p).w=r.w:=rfl;have e4:(moveR r p).h=r.h:=rfl;rw[e1,e2,e3,e4];exact⟨by omega,fun _ _=>⟨rfl,rfl⟩⟩
section
variable {F:Forest (List Value)} {d:Int→Nat} {g:Int→Option Rc}
theorem join_fold {R:Int→Rc} {C:Int} (hC:C≤549755813888):∀(ks:List Int) (r:Rc),NB C r→(∀k∈ks,(g k).isSome=true→val (stF F k) 1≠3→NB C (moveR (R k) (beginR ((g k).getD zR))))→
    NB C (joinOf F g R ks r)∧(0<r.w→0<r.h→Sub r (joinOf F g R ks r))∧∀k∈ks,(g k).isSome=true→val (stF F k) 1≠3→0<(R k).w→0<(R k).h→Sub (moveR (R k) (beginR ((g k).getD zR))) (joinOf F g R ks r)
  | [],r,hr,_=>⟨hr,fun _ _=>Sub.refl r,fun k hk=>by simp at hk⟩
  | k :: ks, r, hr, hk => by
    have e:joinOf F g R (k::ks) r=joinOf F g R ks (joinK F g R r k):=rfl;rw[e]
    by_cases hc:(g k).isSome=true∧val (stF F k) 1≠3
    · have e2 := joinK_yes (R := R) (r := r) hc.1 hc.2
      rw[e2];obtain⟨j1,j2,j3⟩:=join_sub hC hr (hk k (by simp) hc.1 hc.2);obtain⟨i1,i2,i3⟩:=join_fold hC ks _ j1 fun q hq=>hk q (by simp[hq]);refine⟨i1,fun h1 h2=>?_,fun q hq q1 q2 q3 q4=>?_⟩
      · have : 0 < (joinR r (moveR (R k) (beginR ((g k).getD zR)))).w ∧ 0 < (joinR r (moveR (R k) (beginR ((g k).getD zR)))).h := by unfold Sub at j2; omega
        exact Sub.trans (fun _ _=>j2) (i2 this.1 this.2)
      · rcases List.mem_cons.1 hq with rfl | hq
        · have w3 : (moveR (R q) (beginR ((g q).getD zR))).w = (R q).w := rfl
          have w4:(moveR (R q) (beginR ((g q).getD zR))).h=(R q).h:=rfl;have:0<(joinR r (moveR (R q) (beginR ((g q).getD zR)))).w∧0<(joinR r (moveR (R q) (beginR ((g q).getD zR)))).h:=by unfold Sub at j3;omega
          exact Sub.trans (fun _ _=>j3) (i2 this.1 this.2)
        · exact i3 q hq q1 q2 q3 q4
    · have e2 : joinK F g R r k = r := joinK_no (by
        cases h : (g k).isSome with
        | false => exact .inl rfl
        | true => exact .inr (by have : ¬ val (stF F k) 1 ≠ 3 := fun h2 => hc ⟨h, h2⟩
                                 omega))
      rw[e2];obtain⟨i1,i2,i3⟩:=join_fold hC ks r hr fun q hq=>hk q (by simp[hq]);refine⟨i1,i2,fun q hq q1 q2 q3 q4=>?_⟩
      rcases List.mem_cons.1 hq with rfl | hq
      · exact absurd ⟨q1,q2⟩ hc
      · exact i3 q hq q1 q2 q3 q4
def GB (g:Int→Option Rc):Prop:=∀k r,g k=some r→((-90194313216≤r.x∧r.x≤90194313216)∧-90194313216≤r.y∧r.y≤90194313216)∧(0≤r.w∧r.w≤671088640)∧0≤r.h∧r.h≤671088640
theorem GB.at (h:GB g) {k:Int} (hk:(g k).isSome=true):((-90194313216≤((g k).getD zR).x∧((g k).getD zR).x≤90194313216)∧-90194313216≤((g k).getD zR).y∧((g k).getD zR).y≤90194313216)∧(0≤((g k).getD zR).w∧((g k).getD zR).w≤671088640)∧0≤((g k).getD zR).h∧((g k).getD zR).h≤671088640:=h k _ (getD_of hk)
theorem begin_at (h:GB g) {k:Int} (hk:(g k).isSome=true):beginR ((g k).getD zR)=(((g k).getD zR).x,((g k).getD zR).y):=by
  have h1:=h.at hk;unfold beginR;rw[cut_id (by omega) (by omega),cut_id (by omega) (by omega)]
theorem gm_GB (hF:WF F d) (hg:∀x,GS (stF F x)) (ht:∀x,TameS (stF F x)) (hlen:lenF F≤31) (hdep:∀x,hasF F x=true→d x≤6) {w h:Int} (hw:w≤1048576) (hh:h≤1048576):GB (gm F w h):=fun k r hr=>by
  unfold gm gOf at hr;obtain⟨f,hf,rfl⟩:=Option.map_eq_some_iff.1 hr;have h1:=all_small hF hg ht hlen hdep hw hh f (List.mem_of_find?_eq_some hf);unfold At at h1;unfold frR cut;dsimp only;omega
variable (hF:WF F d) (hdep:∀x,hasF F x=true→d x≤6) (hgb:GB g)
include hF hdep hgb
theorem kid_nb {x k:Int} (hk:k∈kidsF F x) (hs:(g k).isSome=true) (h:NB (671088640+90194313216*(6 - (d k:Int))) (reachP F g k)):NB (671088640+90194313216*(6 - (d x:Int))) (moveR (reachP F g k) (beginR ((g k).getD zR))):=by
  obtain⟨h3,h4,_,_⟩:=kid_rank' hF hk;have h5:=hdep k h3;have h6:=hgb.at hs;rw[begin_at hgb hs];have h7:=(move_nb (X:=90194313216) (p:=(((g k).getD zR).x,((g k).getD zR).y)) h (by omega) ⟨by omega,by omega⟩ h6.1).1;exact h7.mono (by rw[h4];omega)
theorem reach_nb:∀(n:Nat) (x:Int),hasF F x=true→63<n+d x→NB (671088640+90194313216*(6 - (d x:Int))) (reachP F g x)
  | 0,x,hx,h=>by obtain⟨b,hb⟩:=some_has hx;have:=hF.deep x b hb;omega
  | n + 1, x, hx, h => by
    have hd:=hdep x hx;cases hs:(g x).isSome with
    | false=>rw[reach_none (none_of hs)];exact .inl (by decide)
    | true =>
      have h6:=hgb.at hs;have h0:NB (671088640+90194313216*(6 - (d x:Int))) ⟨0,0,((g x).getD zR).w,((g x).getD zR).h⟩:=by unfold NB;dsimp only;omega
      rw[reach_eq hF hx (getD_of hs)]
      split
      · refine (join_fold (by omega) _ _ h0 fun k hk h1 _ => ?_).1
        obtain⟨h3,h4,_,_⟩:=kid_rank' hF hk;exact kid_nb hF hdep hgb hk h1 (reach_nb n k h3 (by omega))
      · exact h0
theorem reach_nb' {x:Int} (hx:hasF F x=true):NB (671088640+90194313216*(6 - (d x:Int))) (reachP F g x):=reach_nb hF hdep hgb 64 x hx (by omega)
theorem joinP_nb {x:Int} (hx:hasF F x=true) {r:Rc} (hr:NB (671088640+90194313216*(6 - (d x:Int))) r):
    NB (671088640+90194313216*(6 - (d x:Int))) (joinP F g x r)∧(0<r.w→0<r.h→Sub r (joinP F g x r))∧∀k∈kidsF F x,(g k).isSome=true→val (stF F k) 1≠3→0<(reachP F g k).w→0<(reachP F g k).h→Sub (moveR (reachP F g k) (beginR ((g k).getD zR))) (joinP F g x r):=by
  have hd:=hdep x hx;exact join_fold (by omega) _ _ hr fun k hk h1 _=>kid_nb hF hdep hgb hk h1 (reach_nb' hF hdep hgb (kid_rank' hF hk).1)
end
section
variable (F:Forest (List Value))
def looseN:Nat→Int→Bool
  | 0,_=>false
  | n+1,x=>if hasF F x=true then (decide (val (stF F x) 1=4∨val (stF F x) 1=3)||looseN n (upF F x)) else false
def looseP (x:Int):Bool:=looseN F 65 x
def underN (u:Int):Nat→Int→Bool
  | 0,_=>false
  | n+1,x=>if hasF F x=true then (decide (upF F x=u)||underN u n (upF F x)) else false
def underP (x u:Int):Bool:=underN F u 65 x
end
section
variable {F:Forest (List Value)} {d:Int→Nat} {g:Int→Option Rc}
theorem rc_zero {r:Rc} (h1:r.x=0) (h2:r.y=0):r=⟨0,0,r.w,r.h⟩:=by
  cases r;dsimp only at h1 h2;rw[h1,h2]
theorem up_rank (hF:WF F d) {x:Int} (hx:hasF F x=true) (hu:hasF F (upF F x)=true):d (upF F x)+1=d x∧x≠0:=by
  have h0:x≠0:=fun e=>by
    obtain⟨b,hb,hu2⟩:=hF.root;rw[e,up_some hb,hu2,has_none (hF.neg (by omega))] at hu;cases hu
  obtain⟨_,_,_,h4⟩:=hF.up_has hx h0;exact⟨h4.symm,h0⟩
theorem loose_fuel (hF:WF F d):∀(n m:Nat) (x:Int),(hasF F x=true→d x<n∧d x<m)→looseN F n x=looseN F m x
  | 0,0,_,_=>rfl
  | 0, m + 1, x, h => by
    unfold looseN;cases hx:hasF F x with
    | false=>rfl
    | true=>have:=(h hx).1;omega
  | n + 1, 0, x, h => by
    unfold looseN;cases hx:hasF F x with
    | false=>rfl
    | true=>have:=(h hx).2;omega
  | n + 1, m + 1, x, h => by
    unfold looseN;cases hx:hasF F x with
    | false=>rfl
    | true=>rw[loose_fuel hF n m (upF F x) fun hu=>by have:=up_rank hF hx hu;have:=h hx;omega]
theorem under_fuel (hF:WF F d) (u:Int):∀(n m:Nat) (x:Int),(hasF F x=true→d x<n∧d x<m)→underN F u n x=underN F u m x
  | 0,0,_,_=>rfl
  | 0, m + 1, x, h => by
    unfold underN;cases hx:hasF F x with
    | false=>rfl
    | true=>have:=(h hx).1;omega
  | n + 1, 0, x, h => by
    unfold underN;cases hx:hasF F x with
    | false=>rfl
    | true=>have:=(h hx).2;omega
  | n + 1, m + 1, x, h => by
    unfold underN;cases hx:hasF F x with
    | false=>rfl
    | true=>rw[under_fuel hF u n m (upF F x) fun hu=>by have:=up_rank hF hx hu;have:=h hx;omega]
theorem d_64 (hF:WF F d) {x:Int} (hx:hasF F x=true):d x≤63:=by obtain⟨b,hb⟩:=some_has hx;exact hF.deep x b hb
theorem loose_eq (hF:WF F d) {x:Int} (hx:hasF F x=true):looseP F x=(decide (val (stF F x) 1=4∨val (stF F x) 1=3)||looseP F (upF F x)):=by
  have h0:looseP F x=looseN F 66 x:=loose_fuel hF 65 66 x fun h=>by have:=d_64 hF h;omega
  rw[h0,looseN,if_pos hx];rfl
theorem under_eq (hF:WF F d) {x u:Int} (hx:hasF F x=true):underP F x u=(decide (upF F x=u)||underP F (upF F x) u):=by
  have h0:underP F x u=underN F u 66 x:=under_fuel hF u 65 66 x fun h=>by have:=d_64 hF h;omega
  rw[h0,underN,if_pos hx];rfl
theorem under_no {x u:Int} (hx:hasF F x=false):underP F x u=false:=by unfold underP underN;rw[if_neg (by simp[hx])]
theorem under_rank (hF:WF F d) {u:Int} (hu:hasF F u=true):∀(n:Nat) (x:Int),d x<n→hasF F x=true→underP F x u=true→d u<d x
  | 0,_,h,_,_=>by omega
  | n + 1, x, h, hx, hh => by
    rw[under_eq hF hx] at hh
    by_cases e:upF F x=u
    · have := up_rank hF hx (by rw [e]; exact hu)
      rw[e] at this;omega
    · rw [decide_eq_false e, Bool.false_or] at hh
      cases hx2:hasF F (upF F x) with
      | false=>rw[under_no hx2] at hh;cases hh
      | true =>
        have h1:=up_rank hF hx hx2;have:=under_rank hF hu n (upF F x) (by omega) hx2 hh;omega
theorem under_self (hF:WF F d) {u:Int} (hu:hasF F u=true):underP F u u=false:=by
  cases h:underP F u u with
  | false=>rfl
  | true=>have:=under_rank hF hu (d u+1) u (by omega) hu h;omega
theorem joinR_form {C:Int} {a b:Rc} (hC:C≤549755813888) (ha:NB C a) (hb:NB C b) (h:a=zR∨0<min a.w a.h):joinR a b=zR∨0<min (joinR a b).w (joinR a b).h:=by
  obtain⟨_,h2,h3⟩:=join_sub hC ha hb
  by_cases h1:min a.w a.h≤0
  · unfold joinR
    rw[if_pos ((emptyR_iff a).2 h1)];unfold soundR
    split
    · exact .inl rfl
    · rename_i hn
      exact .inr (by have : ¬ min b.w b.h ≤ 0 := fun hq => hn ((emptyR_iff b).2 hq)
                     omega)
  · right;unfold Sub at h2;omega
theorem fold_form {R:Int→Rc} {C:Int} (hC:C≤549755813888):∀(ks:List Int) (r:Rc),NB C r→(r=zR∨0<min r.w r.h)→(∀k∈ks,(g k).isSome=true→val (stF F k) 1≠3→NB C (moveR (R k) (beginR ((g k).getD zR))))→
    joinOf F g R ks r=zR∨0<min (joinOf F g R ks r).w (joinOf F g R ks r).h
  | [],r,_,h,_=>h
  | k :: ks, r, hr, h, hk => by
    have e:joinOf F g R (k::ks) r=joinOf F g R ks (joinK F g R r k):=rfl;rw[e]
    by_cases hc:(g k).isSome=true∧val (stF F k) 1≠3
    · rw [joinK_yes (R := R) (r := r) hc.1 hc.2]
      have hq:=hk k (by simp) hc.1 hc.2;exact fold_form hC ks _ (join_sub hC hr hq).1 (joinR_form hC hr hq h) fun q hq2=>hk q (by simp[hq2])
    · have e2 : joinK F g R r k = r := joinK_no (by
        cases h : (g k).isSome with
        | false => exact .inl rfl
        | true => exact .inr (by have : ¬ val (stF F k) 1 ≠ 3 := fun h2 => hc ⟨h, h2⟩
                                 omega))
      rw[e2];exact fold_form hC ks r hr h fun q hq2=>hk q (by simp[hq2])
theorem far_le {a n b r C:Int} (hb:0≤b∧b≤1048576) (hr:0≤r∧r≤1099511627776) (ha:-549755813888≤a∧a+n≤C) (hn:0≤n) (hC:0≤C∧C≤549755813888):0≤farP a n b r∧farP a n b r≤C:=by
  unfold farP subI addI cut;omega
variable (hF:WF F d) (hg:∀x,GS (stF F x)) (hdep:∀x,hasF F x=true→d x≤6) (hgb:GB g) (hh:∀k r,g k=some r→hasF F k=true)
include hF hg hdep hgb hh
theorem most_le (x:Int):(0≤(mostP F g x).1∧(mostP F g x).1≤541836967936)∧0≤(mostP F g x).2∧(mostP F g x).2≤541836967936:=by
  cases hs:(g x).isSome with
  | false=>rw[most_no (.inl hs)];dsimp only;omega
  | true =>
    have hx:=hh x _ (getD_of hs);have hd:=hdep x hx
    by_cases h2:val (stF F x) 2=2
    · have hz : NB (671088640 + 90194313216 * (6 - (d x : Int))) zR := .inl (by decide)
      obtain⟨i1,_,_⟩:=joinP_nb hF hdep hgb hx hz;have hform:joinP F g x zR=zR∨0<min (joinP F g x zR).w (joinP F g x zR).h:=fold_form (C:=671088640+90194313216*(6 - (d x:Int))) (by omega) _ _ hz (.inl rfl) fun k hk h1 _=>kid_nb hF hdep hgb hk h1 (reach_nb' hF hdep hgb (kid_rank' hF hk).1);rw[most_yes hs h2];have b3:=(hg x).siz 38 (by decide);have b0:=(hg x).siz 35 (by decide);have r1:0≤(portR ((g x).getD zR) (stF F x)).w∧(portR ((g x).getD zR) (stF F x)).w≤1099511627776:=⟨Int.le_max_right _ _,Int.max_le.2 ⟨(subI_bd _ _).2,by decide⟩⟩;have r2:0≤(portR ((g x).getD zR) (stF F x)).h∧(portR ((g x).getD zR) (stF F x)).h≤1099511627776:=⟨Int.le_max_right _ _,Int.max_le.2 ⟨(subI_bd _ _).2,by decide⟩⟩;dsimp only
      generalize joinP F g x zR=J at*
      unfold NB at i1
      rcases hform with rfl | hf
      · have z1 : zR.x = 0 := rfl
        have z2:zR.y=0:=rfl;have z3:zR.w=0:=rfl;have z4:zR.h=0:=rfl;exact⟨far_le b3 r1 (by omega) (by omega) (by omega),far_le b0 r2 (by omega) (by omega) (by omega)⟩
      · exact⟨far_le b3 r1 (by omega) (by omega) (by omega),far_le b0 r2 (by omega) (by omega) (by omega)⟩
    · rw[most_no (.inr h2)];dsimp only;omega
theorem by_le (p:Pt) (x:Int):(0≤(withinP2 p (0,0) (mostP F g x)).1∧(withinP2 p (0,0) (mostP F g x)).1≤541836967936)∧0≤(withinP2 p (0,0) (mostP F g x)).2∧(withinP2 p (0,0) (mostP F g x)).2≤541836967936:=by
  have h:=most_le hF hg hdep hgb hh x;unfold withinP2 clamp cut;dsimp only;omega
omit hg hdep hgb hh in
theorem back_one (id:Int) (p:Pt) (x:Int) (hb:(0≤(withinP2 p (0,0) (mostP F g id)).1∧(withinP2 p (0,0) (mostP F g id)).1≤541836967936)∧0≤(withinP2 p (0,0) (mostP F g id)).2∧(withinP2 p (0,0) (mostP F g id)).2≤541836967936):
    backP F g (oneP id p) x=if x=id then (-(withinP2 p (0,0) (mostP F g id)).1,-(withinP2 p (0,0) (mostP F g id)).2) else (0,0):=by
  by_cases h:x=id
  · rw [if_pos h, h]
    unfold backP oneP;rw[if_pos rfl]
    generalize withinP2 p (0,0) (mostP F g id)=q at*
    unfold cut;exact Prod.ext (by dsimp only;omega) (by dsimp only;omega)
  · rw [if_neg h]
    have e:backP F g (oneP id p) x=backP F g (fun _=>(0,0)) x:=by unfold backP oneP;rw[if_neg h]
    rw[e,back_zero]
theorem scrolls {w h:Int} (hgm:g=gm F w h) (h00:((g 0).getD zR).x=0∧((g 0).getD zR).y=0) {win:Rc} (id:Int) (p:Pt):∀(n:Nat) (y:Int),d y<n→hasF F y=true→(g y).isSome=true→looseP F y=false→
    ((-(90194313216*(d y:Int))≤(spotP F g (fun _=>(0,0)) win y).r.x∧(spotP F g (fun _=>(0,0)) win y).r.x≤90194313216*(d y:Int))∧-(90194313216*(d y:Int))≤(spotP F g (fun _=>(0,0)) win y).r.y∧(spotP F g (fun _=>(0,0)) win y).r.y≤90194313216*(d y:Int))∧
    spotP F g (oneP id p) win y=⟨⟨(spotP F g (fun _=>(0,0)) win y).r.x - (if underP F y id=true then (withinP2 p (0,0) (mostP F g id)).1 else 0),(spotP F g (fun _=>(0,0)) win y).r.y - (if underP F y id=true then (withinP2 p (0,0) (mostP F g id)).2 else 0),(spotP F g (fun _=>(0,0)) win y).r.w,(spotP F g (fun _=>(0,0)) win y).r.h⟩,(spotP F g (oneP id p) win y).c⟩
  | 0,_,hd,_,_,_=>by omega
  | n + 1, y, hd, hy, hs, hl => by
    have hby:=by_le hF hg hdep hgb hh p id;rw[loose_eq hF hy] at hl;simp only[Bool.or_eq_false_iff,decide_eq_false_iff_not] at hl;obtain⟨hl1,hl2⟩:=hl
    by_cases h0:y=0
    · subst h0
      have e1:=spot_fix (o:=fun _=>(0,0)) (win:=win) hF hs hy (.inl rfl);have e2:=spot_fix (o:=oneP id p) (win:=win) hF hs hy (.inl rfl);have hu:underP F 0 id=true→(withinP2 p (0,0) (mostP F g id))=(0,0):=fun hu=>by
        rw[under_eq hF hy] at hu;obtain⟨b,hb,hu2⟩:=hF.root;have hn1:hasF F (-1)=false:=has_none (hF.neg (by omega));rw[up_some hb,hu2,under_no hn1,Bool.or_false] at hu;have hid:(-1:Int)=id:=of_decide_eq_true hu;have hg1:(g id).isSome=false:=by
          cases hq:(g id).isSome with
          | false=>rfl
          | true=>have:=hh id _ (getD_of hq);rw[←hid,hn1] at this;cases this
        rw[most_no (.inl hg1)];unfold withinP2 clamp cut;exact Prod.ext (by dsimp only;omega) (by dsimp only;omega)
      rw[e1,e2];dsimp only;rw[h00.1,h00.2,hF.rank0];refine⟨by omega,?_⟩;have hy2:((g 0).getD zR)=⟨0,0,((g 0).getD zR).w,((g 0).getD zR).h⟩:=rc_zero h00.1 h00.2
      split
      · rename_i hq
        rw[hu hq];exact congrArg (fun r=>(⟨r,win⟩:Spt)) hy2
      · exact congrArg (fun r=>(⟨r,win⟩:Spt)) hy2
    · have h3 : val (stF F y) 1 ≠ 3 := fun e => hl1 (.inr e)
      have h4:val (stF F y) 1≠4:=fun e=>hl1 (.inl e);obtain⟨hu1,_,_,hu2⟩:=hF.up_has hy h0;have hsu:(g (upF F y)).isSome=true:=by rw[hgm] at hs ⊢;exact gm_up hF hg hs h0
      obtain⟨ib,ie⟩:=scrolls hgm h00 id p n (upF F y) (by omega) hu1 hsu hl2;have hdy:=hdep y hy;have hm:=hgb.at hs;have e1:=spot_still (win:=win) hF hs hy h0 h3 h4;have e2:=spot_in (o:=oneP id p) (win:=win) hF hs hy h0 h3;rw[if_neg h4] at e2;have e2r:(spotP F g (oneP id p) win y).r=wasP ((g y).getD zR) (spotP F g (oneP id p) win (upF F y)).r (backP F g (oneP id p) (upF F y)):=congrArg Spt.r e2;have hun:underP F y id=(decide (upF F y=id)||underP F (upF F y) id):=under_eq hF hy;have hself:upF F y=id→underP F (upF F y) id=false:=fun e=>by rw[e];exact under_self hF (by rw[←e];exact hu1)
      rw[back_one hF id p (upF F y) hby] at e2r;have ie':(spotP F g (oneP id p) win (upF F y)).r=_:=congrArg Spt.r ie;dsimp only at ie';rw[ie'] at e2r
      generalize spotP F g (fun _=>(0,0)) win (upF F y)=PU at*
      generalize withinP2 p (0,0) (mostP F g id)=q at*
      generalize ((g y).getD zR)=m at*
      have a1:(spotP F g (fun _=>(0,0)) win y).r=⟨m.x+PU.r.x,m.y+PU.r.y,m.w,m.h⟩:=by
        rw[e1];unfold moveR beginR;dsimp only;rw[cut_id (n:=PU.r.x) (by omega) (by omega),cut_id (n:=PU.r.y) (by omega) (by omega),cut_id (n:=m.x) (by omega) (by omega),cut_id (n:=m.y) (by omega) (by omega),cut_id (n:=m.x+PU.r.x) (by omega) (by omega),cut_id (n:=m.y+PU.r.y) (by omega) (by omega)]
      rw[a1];dsimp only;refine⟨by omega,?_⟩;have fin:∀s1 s2:Int,(0≤s1∧s1≤541836967936)→(0≤s2∧s2≤541836967936)→∀t1 t2:Int,(t1=0∨(s1=0∧0≤t1∧t1≤541836967936))→(t2=0∨(s2=0∧0≤t2∧t2≤541836967936))→wasP m ⟨PU.r.x - s1,PU.r.y - s2,PU.r.w,PU.r.h⟩ (-t1,-t2)=⟨m.x+PU.r.x - (s1+t1),m.y+PU.r.y - (s2+t2),m.w,m.h⟩:=by
        intro s1 s2 hs1 hs2 t1 t2 ht1 ht2;unfold wasP moveR beginR;dsimp only;rw[cut_id (n:=PU.r.x - s1) (by omega) (by omega),cut_id (n:=PU.r.y - s2) (by omega) (by omega),cut_id (n:=m.x) (by omega) (by omega),cut_id (n:=m.y) (by omega) (by omega),cut_id (n:=m.x+(PU.r.x - s1)) (by omega) (by omega),cut_id (n:=m.y+(PU.r.y - s2)) (by omega) (by omega)];rw[cut_id (n:=m.x+(PU.r.x - s1)) (by omega) (by omega),cut_id (n:=m.y+(PU.r.y - s2)) (by omega) (by omega),cut_id (n:=m.x+(PU.r.x - s1)+-t1) (by omega) (by omega),cut_id (n:=m.y+(PU.r.y - s2)+-t2) (by omega) (by omega)];have q1:m.x+(PU.r.x - s1)+-t1=m.x+PU.r.x - (s1+t1):=by omega
        have q2:m.y+(PU.r.y - s2)+-t2=m.y+PU.r.y - (s2+t2):=by omega
        rw[q1,q2]
      have done_:(spotP F g (oneP id p) win y).r=⟨m.x+PU.r.x - (if underP F y id=true then q.1 else 0),m.y+PU.r.y - (if underP F y id=true then q.2 else 0),m.w,m.h⟩:=by
        rw[e2r,hun]
        by_cases hid:upF F y=id
        · rw [if_pos hid, hself hid, decide_eq_true hid]
          have:=fin 0 0 (by omega) (by omega) q.1 q.2 (.inr ⟨rfl,hby.1⟩) (.inr ⟨rfl,hby.2⟩);simp only[Int.zero_add,Bool.or_false,Bool.false_eq_true,if_false,if_true,Int.sub_zero] at this ⊢;exact this
        · rw [if_neg hid, decide_eq_false hid, Bool.false_or]
          split
          · have := fin q.1 q.2 hby.1 hby.2 0 0 (.inl rfl) (.inl rfl)
            simp only[Int.neg_zero,Int.add_zero] at this;exact this
          · have := fin 0 0 (by omega) (by omega) 0 0 (.inl rfl) (.inl rfl)
            simp only[Int.neg_zero,Int.add_zero] at this;exact this
      rw[←done_]
end
theorem loose_step {F:Forest (List Value)} {d:Int→Nat} (hF:WF F d) {n:Nat} {x:Int} (hx:hasF F x=true) (h:hasF F x=true→d x+1≤n):∃m,n=m+1∧(hasF F (upF F x)=true→d (upF F x)+1≤m):=by
  have:=h hx;refine⟨n - 1,by omega,fun hu=>?_⟩;have:=up_rank hF hx hu;omega
theorem gm_root {F:Forest (List Value)} {d:Int→Nat} (hF:WF F d) (hg:∀x,GS (stF F x)) {w h:Int}:((gm F w h 0).getD zR).x=0∧((gm F w h 0).getD zR).y=0:=by
  unfold gm gOf allP
  split
  · have hr := layN_LB (max w 0) (max h 0) (hg 0) 64 (max w 0) (max h 0) (-1) (-1)
    have hid:(LAY F (max w 0) (max h 0) 0 (max w 0) (max h 0) (-1) (-1)).id=0:=hr.1;have hx0:(LAY F (max w 0) (max h 0) 0 (max w 0) (max h 0) (-1) (-1)).x=0:=hr.2.1;have hy0:(LAY F (max w 0) (max h 0) 0 (max w 0) (max h 0) (-1) (-1)).y=0:=hr.2.2.1;rw[flatN,List.find?_cons];simp only[hid,beq_self_eq_true];show cut _=0∧cut _=0;rw[hx0,hy0];exact⟨rfl,rfl⟩
  · exact⟨rfl,rfl⟩
theorem loose_ct (tp mb:Nat) (es:List PE) (hk:LOk es) {d:Int→Nat} (hF:WF (FoR es) d) (x:Int):
    Ct Tryz.prog 28 #[.pointer (some ⟨tp,0,none⟩),.int .i64 x] [treeI tp mb es] (fun _=>True) (X:=Unit) (fun _=>.bool (looseP (FoR es) x)) (fun _=>True) (fun _=>[treeI tp mb es]):=by
  refine Ct.intro Tryz.func28 rfl Tryz.ntmps28 (by simp) (fun w0 _=>?_);refine sqR ?_;refine sg (v:=.bool false) rfl ?_;refine nl (oo ?_);refine sq ?_;refine WP.block ?_;refine WP.loopK (X:=Nat×Int) [0] (fun p=>[(1,.int .i64 p.2)]) (fun p w=>(looseP (FoR es) x=looseP (FoR es) p.2∧(hasF (FoR es) p.2=true→d p.2+1≤p.1))∧St w0 (foots [treeI tp mb es]) [treeI tp mb es] w) (fun p=>p.1) (64,x) ⟨rfl,trivial⟩ (fun w hw=>⟨⟨rfl,fun h=>by have:=d_64 hF h;omega⟩,hw⟩) (fun p ρ0=>?_);refine WP.fact (fun⟨hs,hu⟩=>?_);refine sq ?_;refine sqR ?_;refine mvP rfl ?_;refine mvI rfl ?_;refine WPL.ef (x_call Tryz.call19 (has_ct tp mb es p.2) [0] [] rfl (fun w hw=>trivial) (τ:=fun _=>[_]) (fun _=>rfl)) (fun _=>?_);refine WPL.fact (fun _=>?_);refine nl (oo ?_);refine WP.cond rfl (fun h8=>?_) (fun h8=>?_)
  ·have hhas:hasF (FoR es) p.2=true:=by simpa using h8
   obtain⟨m1,hm1,hu2⟩:=loose_step hF hhas hu;refine WP.skip (onto_of ?_);refine WP.block ?_;refine sqR ?_;refine mvP rfl ?_;refine mvI rfl ?_;refine WPL.ef (x_call Tryz.call18 (style_ct tp mb es hk p.2) [0] [] rfl (fun w hw=>trivial) (τ:=fun _=>[_]) (fun _=>rfl)) (fun _=>?_);refine WPL.fact (fun _=>?_);refine vl (v_part (u:=.int .i64 (val (stF (FoR es) (p.2)) 1)) Tryz.underlying42 rfl Tryz.isAgg29 rfl (toArr (SOk.int (hk.styOk (p.2)) 1 (by decide) rfl))) ?_;refine sgI rfl ?_;refine nl (oo ?_);refine sq ?_;refine sqR ?_;refine mvI rfl ?_;refine vl (v_eql rfl rfl) ?_;refine mvB rfl ?_;refine WPL.split 15 rfl (fun h15=>?_) (fun h15=>?_)
   ·refine sk ?_;refine sk ?_;refine vl (v_pickT (u:=.bool _) rfl rfl) ?_;refine nl (oo ?_);have hr:looseP (FoR es) x=true:=by rw[hs,loose_eq hF hhas,decide_eq_true (.inl h15),Bool.true_or]
    refine WP.condT rfl ?_;refine sqR ?_;refine sg (v:=.bool true) rfl ?_;refine nl (oo ?_);exact WP.ret1 Tryz.results28 (fun _ h=>h) (fun w hw=>⟨(),congrArg Value.bool hr.symm,trivial,(hw.sel [0] (by decide))⟩)
   ·refine vg (v_move (v:=.int .i64 _) rfl) ?_;refine vg (v_eql rfl rfl) ?_;refine vl (v_pickF (v:=.bool _) rfl rfl) ?_;refine nl (oo ?_);refine WP.condP rfl (fun h18=>?_) (fun h18=>?_)
    ·have hr:looseP (FoR es) x=true:=by rw[hs,loose_eq hF hhas,decide_eq_true (.inr h18),Bool.true_or]
     refine sqR ?_;refine sg (v:=.bool true) rfl ?_;refine nl (oo ?_);exact WP.ret1 Tryz.results28 (fun _ h=>h) (fun w hw=>⟨(),congrArg Value.bool hr.symm,trivial,(hw.sel [0] (by decide))⟩)
    ·refine WP.skip (onto_of ?_);refine WP.region ?_;refine mvP rfl ?_;refine mvI rfl ?_;refine WPL.ef (x_call Tryz.call37 (up_ct tp mb es hk p.2) [0] [] rfl (fun w hw=>trivial) (τ:=fun _=>[_]) (fun _=>rfl)) (fun _=>?_);refine WPL.fact (fun _=>?_);refine sgI rfl ?_;exact nl fun w hw=>⟨rfl,(m1,upF (FoR es) p.2),(by simp only;omega),⟨rfl,(via (.pointer _) rfl rfl),trivial⟩,⟨⟨by rw[hs,loose_eq hF hhas,decide_eq_false (by omega),Bool.false_or],hu2⟩,hw⟩⟩
  ·have hr:looseP (FoR es) x=false:=by rw[hs];unfold looseP looseN;rw[if_neg (by simp[h8])]
   refine WP.exit (onto_of ?_);refine sqR ?_;refine sg (v:=.bool false) rfl ?_;refine nl (oo ?_);exact WP.ret1 Tryz.results28 (fun _ h=>h) (fun w hw=>⟨(),congrArg Value.bool hr.symm,trivial,(hw.sel [0] (by decide))⟩)
theorem under_ct (tp mb:Nat) (es:List PE) (hk:LOk es) {d:Int→Nat} (hF:WF (FoR es) d) (x u:Int):
    Ct Tryz.prog 29 #[.pointer (some ⟨tp,0,none⟩),.int .i64 x,.int .i64 u] [treeI tp mb es] (fun _=>True) (X:=Unit) (fun _=>.bool (underP (FoR es) x u)) (fun _=>True) (fun _=>[treeI tp mb es]):=by
  refine Ct.intro Tryz.func29 rfl Tryz.ntmps29 (by simp) (fun w0 _=>?_);refine sqR ?_;refine sg (v:=.bool false) rfl ?_;refine nl (oo ?_);refine sq ?_;refine WP.block ?_;refine WP.loopK (X:=Nat×Int) [0,2] (fun p=>[(1,.int .i64 p.2)]) (fun p w=>(underP (FoR es) x u=underP (FoR es) p.2 u∧(hasF (FoR es) p.2=true→d p.2+1≤p.1))∧St w0 (foots [treeI tp mb es]) [treeI tp mb es] w) (fun p=>p.1) (64,x) ⟨rfl,trivial⟩ (fun w hw=>⟨⟨rfl,fun h=>by have:=d_64 hF h;omega⟩,hw⟩) (fun p ρ0=>?_);refine WP.fact (fun⟨hs,hu⟩=>?_);refine sq ?_;refine sqR ?_;refine mvP rfl ?_;refine mvI rfl ?_;refine WPL.ef (x_call Tryz.call19 (has_ct tp mb es p.2) [0] [] rfl (fun w hw=>trivial) (τ:=fun _=>[_]) (fun _=>rfl)) (fun _=>?_);refine WPL.fact (fun _=>?_);refine nl (oo ?_);refine WP.cond rfl (fun h9=>?_) (fun h9=>?_)
  ·have hhas:hasF (FoR es) p.2=true:=by simpa using h9
   obtain⟨m1,hm1,hu2⟩:=loose_step hF hhas hu;refine WP.skip (onto_of ?_);refine WP.block ?_;refine sqR ?_;refine mvP rfl ?_;refine mvI rfl ?_;refine WPL.ef (x_call Tryz.call37 (up_ct tp mb es hk p.2) [0] [] rfl (fun w hw=>trivial) (τ:=fun _=>[_]) (fun _=>rfl)) (fun _=>?_);refine WPL.fact (fun _=>?_);refine sgI rfl ?_;refine nl (oo ?_);refine sqR ?_;refine mvI rfl ?_;refine mvI rfl ?_;refine vl (v_eql rfl rfl) ?_;refine nl (oo ?_);refine WP.condP rfl (fun h15=>?_) (fun h15=>?_)
   ·have hr:underP (FoR es) x u=true:=by rw[hs,under_eq hF hhas,decide_eq_true h15,Bool.true_or]
    refine sqR ?_;refine sg (v:=.bool true) rfl ?_;refine nl (oo ?_);exact WP.ret1 Tryz.results29 (fun _ h=>h) (fun w hw=>⟨(),congrArg Value.bool hr.symm,trivial,(hw.sel [0] (by decide))⟩)
   ·exact WP.skip fun w hw=>⟨rfl,(m1,upF (FoR es) p.2),(by simp only;omega),⟨rfl,(via (.pointer _) rfl rfl),(via (.int .i64 _) rfl rfl),trivial⟩,⟨⟨by rw[hs,under_eq hF hhas,decide_eq_false h15,Bool.false_or],hu2⟩,hw⟩⟩
  ·have hr:underP (FoR es) x u=false:=by rw[hs];exact under_no (by simpa using h9)
   refine WP.exit (onto_of ?_);refine sqR ?_;refine sg (v:=.bool false) rfl ?_;refine nl (oo ?_);exact WP.ret1 Tryz.results29 (fun _ h=>h) (fun w hw=>⟨(),congrArg Value.bool hr.symm,trivial,(hw.sel [0] (by decide))⟩)
theorem lawScrolls_ct (A:Option Addr) (c:Nat) (l:List AC) (id px py wd ht:Int):Ct Tryz.prog 4 #[.slice A l.length c,.int .i64 id,.int .i64 px,.int .i64 py,.int .i64 wd,.int .i64 ht] [] (fun w=>RdE w A 59 encA l) (X:=Unit) (fun _=>.bool true) (fun _=>True) (fun _=>[]):=by
  refine Ct.intro Tryz.func4 rfl Tryz.ntmps4 (by simp) (fun w0 hz=>?_);refine sqR ?_;refine sg (v:=.bool false) rfl ?_;refine nl (oo ?_);refine sqR ?_;refine WPL.ef (x_call Tryz.call23 pworks_ct [] [] rfl (fun w hw=>trivial) (τ:=fun _=>[]) (fun _=>rfl)) (fun _=>?_);refine WPL.fact (fun _=>?_);refine sgB rfl ?_;refine nl (oo ?_);refine sq ?_;refine sqR ?_;refine mvB rfl ?_;refine vl (v_not rfl) ?_;refine nl (oo ?_);refine WP.condF rfl ?_;refine WP.skip (onto_of ?_);refine sqR ?_;refine mvS rfl ?_;refine WPL.ef (x_call Tryz.call17 (grow3_ct A c l) [] [] rfl (fun w hw=>hw.rd hz noNil) (τ:=fun _=>[_,_]) (fun _=>rfl)) (fun⟨gb,tp,mb,es,rp,g,bc,bs⟩=>?_);refine WPL.fact (fun hgr3=>?_);dsimp only at hgr3;refine mv rfl ?_;refine vl (v_extract (v:=.pointer _) rfl rfl) ?_;refine vl (v_extract (v:=.pointer _) rfl rfl) ?_;refine vl (v_extract (v:=.bool _) rfl rfl) ?_;refine sgP rfl ?_;refine sgP rfl ?_;refine sgB rfl ?_;refine nl (oo ?_);refine sq ?_;refine sqR ?_;refine mvB rfl ?_;refine vl (v_not rfl) ?_;refine mvB rfl ?_;refine WPL.splitB 38 rfl (fun h38=>?_) (fun h38=>?_)
  ·refine sk ?_;refine sk ?_;refine vl (v_pickT (u:=.bool _) rfl rfl) ?_;refine mvB rfl ?_;refine sk ?_;refine sk ?_;refine vl (v_pickT (u:=.bool _) rfl rfl) ?_;refine nl (oo ?_);refine WP.condT rfl ?_;refine sqR ?_;refine mvB rfl ?_;refine sgB rfl ?_;refine nl (oo ?_);exact WP.ret1 Tryz.results4 (fun _ h=>h) (fun w hw=>⟨(),rfl,trivial,hw.sel [] (by decide)⟩)
  ·refine vg (v_move (v:=.int .i64 _) rfl) ?_;refine vg (v_gtr rfl rfl) ?_;refine vl (v_pickF (v:=.bool _) rfl rfl) ?_;refine mvB rfl ?_;refine WPL.split 42 rfl (fun h42=>?_) (fun h42=>?_)
   ·refine sk ?_;refine sk ?_;refine vl (v_pickT (u:=.bool _) rfl rfl) ?_;refine nl (oo ?_);refine WP.condT rfl ?_;refine sqR ?_;refine mvB rfl ?_;refine sgB rfl ?_;refine nl (oo ?_);exact WP.ret1 Tryz.results4 (fun _ h=>h) (fun w hw=>⟨(),rfl,trivial,hw.sel [] (by decide)⟩)
   ·refine vg (v_move (v:=.int .i64 _) rfl) ?_;refine vg (v_gtr rfl rfl) ?_;refine vl (v_pickF (v:=.bool _) rfl rfl) ?_;refine nl (oo ?_);refine WP.condP rfl (fun h45=>?_) (fun h45=>?_)
    ·refine sqR ?_;refine mvB rfl ?_;refine sgB rfl ?_;refine nl (oo ?_);exact WP.ret1 Tryz.results4 (fun _ h=>h) (fun w hw=>⟨(),rfl,trivial,hw.sel [] (by decide)⟩)
    ·obtain⟨hgr0,htl,hdl⟩:=hgr3 (by simpa using h38);have hgr:gb=true→GrOK l es bs:=fun _=>hgr0;obtain⟨hl30,hFo,hk,hab,hkr⟩:=hgr0;obtain⟨d,hF0⟩:=AF_wf l;have hF:WF (FoR es) d:=by rw[hFo];exact hF0
     have hFr:WF (absR bs) d:=by rw[hab];exact hF
     have hgs:∀x,GS (stF (FoR es) x):=by rw[hFo];exact(AF_all l).st
     have hgr2:∀x,GS (stF (absR bs) x):=by rw[hab];exact hgs
     have hlf:=AF_few l;have hK:∀x,(kidsF (FoR es) x).length≤64:=fun x=>Nat.le_trans (kids_few (n:=31) hF (by rw[hFo];omega) x) (by decide);have hKr:∀x,(kidsF (absR bs) x).length≤64:=by rw[hab];exact hK
     have hgt:∀x,TameS (stF (FoR es) x):=by rw[hFo];exact(AF_tame htl).st
     have hdep:∀x,hasF (FoR es) x=true→d x≤6:=deep_d hF (by rw[←hab];exact hdl);have hlen31:lenF (FoR es)≤31:=by rw[hFo];omega
     refine WP.skip (onto_of ?_);refine sqR ?_;refine mvP rfl ?_;refine mvI rfl ?_;refine mvI rfl ?_;refine WPL.ef (x_call Tryz.call21 (flowLay_ct tp mb es hk hF hgs hK wd ht (by omega) (by omega)) [0] [1] rfl (fun w hw=>trivial) (τ:=fun _=>[_,_,_]) (fun _=>rfl)) (fun⟨mp,ps⟩=>?_);refine WPL.fact (fun hps=>?_);have hmo:=mapOf hps (all_nodup hF hgs wd ht);have hrm:=gm_RM hF hgs hmo;have hol:(order (FoR es)).length≤4096:=hF.len_le 0;have hgb:=gm_GB hF hgs hgt hlen31 hdep (w:=wd) (h:=ht) (by omega) (by omega);refine sg (v:=.map _) rfl ?_;refine nl (oo ?_);refine sqR ?_;refine mvI rfl ?_;refine mvI rfl ?_;refine WPL.ef (x_call Tryz.call25 (ptof_ct px py) [] [0,1,2] rfl (fun w hw=>trivial) (τ:=fun _=>[_,_,_]) (fun _=>rfl)) (fun _=>?_);refine WPL.fact (fun _=>?_);refine mvP rfl ?_;refine mv (v:=.map _) rfl ?_;refine mvI rfl ?_;refine WPL.ef (x_call Tryz.call26 (most_ct tp mb mp es (putAll ps) (gm (FoR es) wd ht) hk hF hrm id) [1,2] [0] rfl (fun w hw=>trivial) (τ:=fun _=>[_,_,_]) (fun _=>rfl)) (fun _=>?_);refine WPL.fact (fun _=>?_);refine WPL.ef (x_call Tryz.call24 (within_ct (cut px,cut py) (0,0) (mostP (FoR es) (gm (FoR es) wd ht) id) (begin_PB ⟨px,py,0,0⟩) zero_PB (most_PB id)) [] [0,1,2] rfl (fun w hw=>trivial) (τ:=fun _=>[_,_,_]) (fun _=>rfl)) (fun _=>?_);refine WPL.fact (fun _=>?_);refine sg (v:=ptV _ _) rfl ?_;refine nl (oo ?_);refine sqR ?_;refine mvP rfl ?_;refine mv (v:=.map _) rfl ?_;refine WPL.ef (x_makeMap (σ':=fun _=>[_,_,_,_]) (fun _=>rfl)) (fun mp61=>?_);refine mvI rfl ?_;refine mvI rfl ?_;refine WPL.ef (x_call Tryz.call27 (spots_ct tp mb mp mp61 es (putAll ps) [] (gm (FoR es) wd ht) (fun _=>(0,0)) hk hF hgs hrm OM_nil wd ht) [1,2,3] [0] rfl (fun w hw=>trivial) (τ:=fun _=>[_,_,_,_,_]) (fun _=>rfl)) (fun sb1=>?_);refine WPL.fact (fun _=>?_);refine sg (v:=.map _) rfl ?_;refine nl (oo ?_);refine sqR ?_;refine mvP rfl ?_;refine mv (v:=.map _) rfl ?_;refine WPL.ef (x_makeMap (σ':=fun _=>[_,_,_,_,_,_]) (fun _=>rfl)) (fun mp67=>?_);refine mvI rfl ?_;refine mvI rfl ?_;refine mvI rfl ?_;refine WPL.ef (x_call Tryz.call25 (ptof_ct px py) [] [0,1,2,3,4,5] rfl (fun w hw=>trivial) (τ:=fun _=>[_,_,_,_,_,_]) (fun _=>rfl)) (fun _=>?_);refine WPL.fact (fun _=>?_);refine WPL.ef0 (x_mapIns (m:=[]) (k:=id) (u:=ptV (cut px) (cut py)) (σ':=[_,_,_,_,_,_]) Tryz.underlying61 Tryz.underlying3 rfl rfl rfl (i:=5) rfl rfl) (fun _=>?_);refine mv (v:=.map _) rfl ?_;refine mvI rfl ?_;refine mvI rfl ?_;refine WPL.ef (x_call Tryz.call27 (spots_ct tp mb mp mp67 es (putAll ps) [(id,ptV (cut px) (cut py))] (gm (FoR es) wd ht) (oneP id (cut px,cut py)) hk hF hgs hrm (OM_one id (cut px,cut py) (begin_PB ⟨px,py,0,0⟩)) wd ht) [1,2,5] [0,3,4] rfl (fun w hw=>trivial) (τ:=fun _=>[_,_,_,_,_,_,_]) (fun _=>rfl)) (fun sb2=>?_);refine WPL.fact (fun _=>?_);refine sg (v:=.map _) rfl ?_;refine nl (oo ?_);refine sqR ?_;refine mvP rfl ?_;refine WPL.ef (x_call Tryz.call22 (order_ct tp mb es hk hF) [3] [0,1,2,4,5,6] rfl (fun w hw=>trivial) (τ:=fun _=>[_,_,_,_,_,_,_,_]) (fun _=>rfl)) (fun⟨A6,c6⟩=>?_)
     refine WPL.fact (fun _=>?_);refine sgS rfl ?_;refine nl (oo ?_);refine sq ?_;refine sqR ?_;refine sg (v:=.int .i64 (0)) rfl ?_;refine nl (oo ?_);refine WP.block ?_;refine WP.loopK (X:=Nat) [1,13,14,17,18,19,20,21] (fun k=>[(22,.int .i64 (k:Int))]) (fun k w=>k≤(order (FoR es)).length∧St w0 (foots []) [treeI tp mb es,mapI mp (putAll ps),mapI sb1 (spL (FoR es) (gm (FoR es) wd ht) (fun _=>(0,0)) (ofR 0 0 wd ht) (order (FoR es))),mapI sb2 (spL (FoR es) (gm (FoR es) wd ht) (oneP id (cut px,cut py)) (ofR 0 0 wd ht) (order (FoR es))),kidsI A6 (order (FoR es)).length c6 (order (FoR es))] w) (fun k=>(order (FoR es)).length - k) 0 ⟨rfl,trivial⟩ (fun w hw=>⟨Nat.zero_le _,(hw.sel [6,3,2,5,7] (by decide))⟩) (fun k ρ0=>?_);refine WP.fact (fun hkn=>?_);refine sq ?_;refine sqR ?_;refine mvI rfl ?_;refine mvS rfl ?_;refine vl (v_len Tryz.underlying49 rfl) ?_;refine vl (v_lss rfl rfl) ?_;refine nl (oo ?_);refine WP.condP rfl (fun h81=>?_) (fun h81=>?_)
     ·obtain⟨y,hy⟩:∃y,(order (FoR es))[k]?=some y:=⟨_,List.getElem?_eq_getElem (by omega)⟩;have hhas:=hF.mem_order.1 (List.mem_of_getElem? hy);refine WP.holds (fun w hw=>hw.row_pos (i:=4) rfl (by omega)) (fun⟨kb,hA⟩=>?_);subst hA;refine WP.skip (onto_of ?_);refine sq ?_;refine WP.block ?_;refine sqR ?_;refine mv (v:=.map _) rfl ?_;refine mvS rfl ?_;refine mvI rfl ?_;refine vl (v_index (j:=k) Tryz.underlying49 Tryz.sizeOf3 rfl rfl rfl (by omega)) ?_;refine vl (v_load1 (u:=.int .i64 _) Tryz.isAgg3 rfl (fun w hw=>hw.row_at1 (i:=4) rfl (by rw[List.getElem?_map,hy];rfl) (by omega))) ?_;refine vl (v_of (v_lookupOk (m:=spL (FoR es) (gm (FoR es) wd ht) (fun _=>(0,0)) (ofR 0 0 wd ht) (order (FoR es))) (k:=y) (z:=spotZ.v) Tryz.underlying59 Tryz.underlying3 Tryz.zeroValue63 rfl rfl (fun w hw=>hw.mapAt (i:=2) rfl)) (v':=.tuple #[(spotP (FoR es) (gm (FoR es) wd ht) (fun _=>(0,0)) (ofR 0 0 wd ht) y).v,.bool ((gm (FoR es) wd ht) y).isSome]) (by rw[spL_get (List.mem_of_getElem? hy),spL_is (List.mem_of_getElem? hy)])) ?_;refine mv rfl ?_;refine vl (v_extract (v:=.agg _) rfl rfl) ?_;refine vl (v_extract (v:=.bool _) rfl rfl) ?_;refine WPL.ef (x_alloc (us:=[_,_,_,_,_,_,_,_]) (σ':=fun _=>[_,_,_,_,_,_]) Tryz.zeroValue63 rfl (fun _=>rfl)) (fun b23=>?_);refine WPL.ef0 (x_storeW (us:=[.int .i64 _,.int .i64 _,.int .i64 _,.int .i64 _,.int .i64 _,.int .i64 _,.int .i64 _,.int .i64 _]) (σ':=[_,_,_,_,_,.cl _ _ [_,_,_,_,_,_,_,_]]) Tryz.sizeOf63 rfl rfl (i:=5) rfl rfl rfl (by simp[Value.oneCell'])) (fun _=>?_);refine sgB rfl ?_;refine nl (oo ?_);refine sqR ?_;refine mv (v:=.map _) rfl ?_;refine mvS rfl ?_;refine mvI rfl ?_;refine vl (v_index (j:=k) Tryz.underlying49 Tryz.sizeOf3 rfl rfl rfl (by omega)) ?_;refine vl (v_load1 (u:=.int .i64 _) Tryz.isAgg3 rfl (fun w hw=>hw.row_at1 (i:=4) rfl (by rw[List.getElem?_map,hy];rfl) (by omega))) ?_;refine vl (v_of (v_lookup (m:=spL (FoR es) (gm (FoR es) wd ht) (oneP id (cut px,cut py)) (ofR 0 0 wd ht) (order (FoR es))) (k:=y) (z:=spotZ.v) Tryz.underlying59 Tryz.underlying3 Tryz.zeroValue63 rfl rfl (fun w hw=>hw.mapAt (i:=3) rfl)) (v':=(spotP (FoR es) (gm (FoR es) wd ht) (oneP id (cut px,cut py)) (ofR 0 0 wd ht) y).v) (spL_get (List.mem_of_getElem? hy))) ?_;refine WPL.ef (x_alloc (us:=[_,_,_,_,_,_,_,_]) (σ':=fun _=>[_,_,_,_,_,_,_]) Tryz.zeroValue63 rfl (fun _=>rfl)) (fun b25=>?_);refine WPL.ef0 (x_storeW (us:=[.int .i64 _,.int .i64 _,.int .i64 _,.int .i64 _,.int .i64 _,.int .i64 _,.int .i64 _,.int .i64 _]) (σ':=[_,_,_,_,_,_,.cl _ _ [_,_,_,_,_,_,_,_]]) Tryz.sizeOf63 rfl rfl (i:=6) rfl rfl rfl (by simp[Value.oneCell'])) (fun _=>?_);refine nl (oo ?_);refine sq ?_;refine sqR ?_;refine mvB rfl ?_;refine vl (v_not rfl) ?_;refine mvB rfl ?_;refine WPL.splitB 101 rfl (fun h101=>?_) (fun h101=>?_)
      ·refine sk ?_;refine sk ?_;refine sk ?_;refine sk ?_;refine sk ?_;refine sk ?_;refine vl (v_pickT (u:=.bool _) rfl rfl) ?_;refine nl (oo ?_);refine WP.condT rfl ?_;refine WP.exit (onto_of ?_);refine WP.region ?_;refine mvI rfl ?_;refine vl (v_add rfl rfl (by omega)) ?_;refine sgI rfl ?_;exact nl fun w hw=>⟨rfl,k+1,(by omega),⟨rfl,(via (.int .i64 _) rfl rfl),(via (.bool _) rfl rfl),(via (.pointer _) rfl rfl),(via (.map _) rfl rfl),(via (ptV _ _) rfl rfl),(via (.map _) rfl rfl),(via (.map _) rfl rfl),(via (.slice _ _ _) rfl rfl),trivial⟩,⟨by omega,(hw.sel [0,1,2,3,4] (by decide))⟩⟩
      ·refine vg (v_move (v:=.pointer _) rfl) ?_;refine vg (v_move (v:=.slice _ _ _) rfl) ?_;refine vg (v_move (v:=.int .i64 _) rfl) ?_;refine vg (v_index (j:=k) Tryz.underlying49 Tryz.sizeOf3 rfl rfl rfl (by omega)) ?_;refine vg (v_load1 (u:=.int .i64 _) Tryz.isAgg3 rfl (fun w hw=>hw.row_at1 (i:=4) rfl (by rw[List.getElem?_map,hy];rfl) (by omega))) ?_;refine WPL.efG (x_call Tryz.call28 (loose_ct tp mb es hk hF y) [0] [1,2,3,4,5,6] rfl (fun w hw=>trivial) (τ:=fun _=>[_,_,_,_,_,_,_]) (fun _=>rfl)) (fun _=>?_);refine WPL.fact (fun _=>?_);refine vl (v_pickF (v:=.bool _) rfl rfl) ?_;refine nl (oo ?_);refine WP.cond rfl (fun h108=>?_) (fun h108=>?_)
       ·refine WP.exit (onto_of ?_);refine WP.region ?_;refine mvI rfl ?_;refine vl (v_add rfl rfl (by omega)) ?_;refine sgI rfl ?_;exact nl fun w hw=>⟨rfl,k+1,(by omega),⟨rfl,(via (.int .i64 _) rfl rfl),(via (.bool _) rfl rfl),(via (.pointer _) rfl rfl),(via (.map _) rfl rfl),(via (ptV _ _) rfl rfl),(via (.map _) rfl rfl),(via (.map _) rfl rfl),(via (.slice _ _ _) rfl rfl),trivial⟩,⟨by omega,(hw.sel [6,0,1,2,3] (by decide))⟩⟩
       ·have hgy:((gm (FoR es) wd ht) y).isSome=true:=by simpa using h101
        have hsc:=(scrolls hF hgs hdep hgb hrm.2 rfl (gm_root hF hgs) (win:=(ofR 0 0 wd ht)) id (cut px,cut py) (d y+1) y (by omega) hhas hgy h108);have hby:=by_le hF hgs hdep hgb hrm.2 (cut px,cut py) id;have hdy:=hdep y hhas;refine WP.skip (onto_of ?_);refine sqR ?_;refine vl (v_fieldL (o':=0) Tryz.underlying63 rfl Tryz.sizeOf52 rfl rfl) ?_;refine vl (v_loadA (cs:=[.int .i64 _,.int .i64 _,.int .i64 _,.int .i64 _]) Tryz.isAgg52 Tryz.sizeOf52 rfl (fun w hw=>hw.cl_at (i:=4) rfl _ rfl)) ?_;refine WPL.ef (x_alloc (us:=[_,_,_,_]) (σ':=fun _=>[_,_,_,_,_,_,_,_]) Tryz.zeroValue52 rfl (fun _=>rfl)) (fun b26=>?_);refine WPL.ef0 (x_storeW (us:=[.int .i64 _,.int .i64 _,.int .i64 _,.int .i64 _]) (σ':=[_,_,_,_,_,_,_,.cl _ _ [_,_,_,_]]) Tryz.sizeOf52 rfl rfl (i:=7) rfl rfl rfl (by simp[Value.oneCell'])) (fun _=>?_);refine nl (oo ?_);refine WP.midK [1,13,14,17,18,19,20,21,22,25,26] (X:=Unit) (fun _=>[]) (fun _=>fun w=>St w0 (foots []) [treeI tp mb es,mapI mp (putAll ps),mapI sb1 (spL (FoR es) (gm (FoR es) wd ht) (fun _=>(0,0)) (ofR 0 0 wd ht) (order (FoR es))),mapI sb2 (spL (FoR es) (gm (FoR es) wd ht) (oneP id (cut px,cut py)) (ofR 0 0 wd ht) (order (FoR es))),kidsI (some ⟨kb,0,none⟩) (order (FoR es)).length c6 (order (FoR es)),.cl b25 63 [.int .i64 (spotP (FoR es) (gm (FoR es) wd ht) (oneP id (cut px,cut py)) (ofR 0 0 wd ht) y).r.x,.int .i64 (spotP (FoR es) (gm (FoR es) wd ht) (oneP id (cut px,cut py)) (ofR 0 0 wd ht) y).r.y,.int .i64 (spotP (FoR es) (gm (FoR es) wd ht) (oneP id (cut px,cut py)) (ofR 0 0 wd ht) y).r.w,.int .i64 (spotP (FoR es) (gm (FoR es) wd ht) (oneP id (cut px,cut py)) (ofR 0 0 wd ht) y).r.h,.int .i64 (spotP (FoR es) (gm (FoR es) wd ht) (oneP id (cut px,cut py)) (ofR 0 0 wd ht) y).c.x,.int .i64 (spotP (FoR es) (gm (FoR es) wd ht) (oneP id (cut px,cut py)) (ofR 0 0 wd ht) y).c.y,.int .i64 (spotP (FoR es) (gm (FoR es) wd ht) (oneP id (cut px,cut py)) (ofR 0 0 wd ht) y).c.w,.int .i64 (spotP (FoR es) (gm (FoR es) wd ht) (oneP id (cut px,cut py)) (ofR 0 0 wd ht) y).c.h],.cl b26 52 (rcC (spotP (FoR es) (gm (FoR es) wd ht) (oneP id (cut px,cut py)) (ofR 0 0 wd ht) y).r)] w) ?_ (fun _ ρ0=>?_)
        ·refine sqR ?_;refine mvP rfl ?_;refine mvS rfl ?_;refine mvI rfl ?_;refine vl (v_index (j:=k) Tryz.underlying49 Tryz.sizeOf3 rfl rfl rfl (by omega)) ?_;refine vl (v_load1 (u:=.int .i64 _) Tryz.isAgg3 rfl (fun w hw=>hw.row_at1 (i:=3) rfl (by rw[List.getElem?_map,hy];rfl) (by omega))) ?_;refine mvI rfl ?_;refine WPL.ef (x_call Tryz.call29 (under_ct tp mb es hk hF y id) [6] [0,1,2,3,4,5,7] rfl (fun w hw=>trivial) (τ:=fun _=>[_,_,_,_,_,_,_,_]) (fun _=>rfl)) (fun _=>?_);refine WPL.fact (fun _=>?_);refine nl (oo ?_);refine WP.cond rfl (fun h117=>?_) (fun h117=>?_)
         ·have hw1:(spotP (FoR es) (gm (FoR es) wd ht) (oneP id (cut px,cut py)) (ofR 0 0 wd ht) y).r=moveR (spotP (FoR es) (gm (FoR es) wd ht) (fun _=>(0,0)) (ofR 0 0 wd ht) y).r (cut (0 - (withinP2 (cut px,cut py) (0,0) (mostP (FoR es) (gm (FoR es) wd ht) id)).1),cut (0 - (withinP2 (cut px,cut py) (0,0) (mostP (FoR es) (gm (FoR es) wd ht) id)).2)):=by
            have h2:=congrArg Spt.r hsc.2;dsimp only at h2;rw[h2,if_pos h117,if_pos h117];have h3:=hsc.1
            generalize (withinP2 (cut px,cut py) (0,0) (mostP (FoR es) (gm (FoR es) wd ht) id))=q at*
            generalize (spotP (FoR es) (gm (FoR es) wd ht) (fun _=>(0,0)) (ofR 0 0 wd ht) y).r=r at*
            unfold moveR;rw[cut_id (n:=r.x) (by omega) (by omega),cut_id (n:=r.y) (by omega) (by omega),cut_id (n:=0 - q.1) (by omega) (by omega),cut_id (n:=0 - q.2) (by omega) (by omega),cut_id (by omega) (by omega),cut_id (by omega) (by omega)];have e1:r.x - q.1=r.x+(0 - q.1):=by omega
            have e2:r.y - q.2=r.y+(0 - q.2):=by omega
            rw[e1,e2]
          refine WP.drawSel (some 4) [0,1,2,3,4,5,6,7] [(0,true),(1,true),(2,false),(3,false),(4,false)] mixed (by kernel_rfl) (by decide) ?_;refine WPD.take rfl (v_loadA (cs:=[.int .i64 _,.int .i64 _,.int .i64 _,.int .i64 _]) Tryz.isAgg52 Tryz.sizeOf52 rfl (fun w hw=>hw.cl_at (i:=6) rfl _ rfl)) ?_ (fun _ h=>h.sel [0,1,2,3,4,5,6,7] (by decide));refine WPD.take rfl (v_move (v:=ptV _ _) rfl) ?_ (fun _ h=>h.sel [0,1,2,3,4,5,6,7] (by decide));refine WPD.ef rfl (x_call Tryz.call31 (psub_ct (0,0) (withinP2 (cut px,cut py) (0,0) (mostP (FoR es) (gm (FoR es) wd ht) id)) zero_PB (within_PB _ _ _)) [] [0,1,2,3,4,5,6,7] rfl (fun w hw=>trivial) (τ:=fun _=>[_,_,_,_,_,_,_,_]) (fun _=>rfl)) (fun _ _ _ h=>h.2.sel [0,1,2,3,4,5,6,7] (by decide)) (fun _=>?_);refine WPD.fact (fun _=>?_);refine WPD.ef rfl (x_call Tryz.call30 (rcmove_ct (spotP (FoR es) (gm (FoR es) wd ht) (fun _=>(0,0)) (ofR 0 0 wd ht) y).r (cut (0 - (withinP2 (cut px,cut py) (0,0) (mostP (FoR es) (gm (FoR es) wd ht) id)).1),cut (0 - (withinP2 (cut px,cut py) (0,0) (mostP (FoR es) (gm (FoR es) wd ht) id)).2)) ⟨cut_Bn _,cut_Bn _⟩) [] [0,1,2,3,4,5,6,7] rfl (fun w hw=>trivial) (τ:=fun _=>[_,_,_,_,_,_,_,_]) (fun _=>rfl)) (fun _ _ _ h=>h.2.sel [0,1,2,3,4,5,6,7] (by decide)) (fun _=>?_);refine WPD.fact (fun _=>?_);refine WPD.ef0 rfl (x_storeW (us:=[.int .i64 _,.int .i64 _,.int .i64 _,.int .i64 _]) (σ':=[_,_,_,_,_,_,.cl _ _ [_,_,_,_],_]) Tryz.sizeOf52 rfl rfl (i:=6) rfl rfl rfl (by simp[Value.oneCell'])) (fun h=>absurd rfl h) (fun _=>?_);exact WPD.nil fun w hw=>⟨rfl,(),⟨(via (.int .i64 _) rfl rfl),(via (.bool _) rfl rfl),(via (.pointer _) rfl rfl),(via (.map _) rfl rfl),(via (ptV _ _) rfl rfl),(via (.map _) rfl rfl),(via (.map _) rfl rfl),(via (.slice _ _ _) rfl rfl),(via (.int .i64 _) rfl rfl),rfl,rfl,trivial⟩,(by have h:=(hw.sel [7,0,1,2,3,5,6] (by decide));rw[←hw1] at h;exact h)⟩
         ·have hw1:(spotP (FoR es) (gm (FoR es) wd ht) (oneP id (cut px,cut py)) (ofR 0 0 wd ht) y).r=(spotP (FoR es) (gm (FoR es) wd ht) (fun _=>(0,0)) (ofR 0 0 wd ht) y).r:=by
            have h2:=congrArg Spt.r hsc.2;dsimp only at h2;rw[h2,if_neg (by simp[h117]),if_neg (by simp[h117]),Int.sub_zero,Int.sub_zero]
          exact WP.skip fun w hw=>⟨rfl,(),⟨(via (.int .i64 _) rfl rfl),(via (.bool _) rfl rfl),(via (.pointer _) rfl rfl),(via (.map _) rfl rfl),(via (ptV _ _) rfl rfl),(via (.map _) rfl rfl),(via (.map _) rfl rfl),(via (.slice _ _ _) rfl rfl),(via (.int .i64 _) rfl rfl),rfl,rfl,trivial⟩,(by have h:=(hw.sel [7,0,1,2,3,5,6] (by decide));rw[←hw1] at h;exact h)⟩
        ·refine sqR ?_;refine vl (v_fieldL (o':=0) Tryz.underlying63 rfl Tryz.sizeOf52 rfl rfl) ?_;refine vl (v_loadA (cs:=[.int .i64 _,.int .i64 _,.int .i64 _,.int .i64 _]) Tryz.isAgg52 Tryz.sizeOf52 rfl (fun w hw=>hw.cl_at (i:=5) rfl _ rfl)) ?_;refine vl (v_loadA (cs:=[.int .i64 _,.int .i64 _,.int .i64 _,.int .i64 _]) Tryz.isAgg52 Tryz.sizeOf52 rfl (fun w hw=>hw.cl_at (i:=6) rfl _ rfl)) ?_;refine vl (v_is (b:=false) (v_neA leaf52 (by kernel_rfl) (fun _=>rfl) rfl rfl rfl rfl) (by rw[eqv_self];rfl)) ?_;refine nl (oo ?_);refine WP.condF rfl ?_;refine WP.skip (onto_of ?_);refine WP.region ?_;refine mvI rfl ?_;refine vl (v_add rfl rfl (by omega)) ?_;refine sgI rfl ?_;exact nl fun w hw=>⟨rfl,k+1,(by omega),⟨rfl,(via (.int .i64 _) rfl rfl),(via (.bool _) rfl rfl),(via (.pointer _) rfl rfl),(via (.map _) rfl rfl),(via (ptV _ _) rfl rfl),(via (.map _) rfl rfl),(via (.map _) rfl rfl),(via (.slice _ _ _) rfl rfl),trivial⟩,⟨by omega,(hw.sel [0,1,2,3,4] (by decide))⟩⟩
     ·refine WP.exit (onto_of ?_);refine sqR ?_;refine mvB rfl ?_;refine mvB rfl ?_;refine vg (v_move (v:=.map _) rfl) ?_;refine vg (v_lenMap Tryz.underlying59 rfl (fun w hw=>hw.mapAt (i:=2) rfl)) ?_;refine vg (v_move (v:=.map _) rfl) ?_;refine vg (v_lenMap Tryz.underlying59 rfl (fun w hw=>hw.mapAt (i:=3) rfl)) ?_;refine vg (v_is (b:=true) (v_eql rfl rfl) (decide_eq_true (by rw[spL_len,spL_len]))) ?_;refine vl (v_pickT (u:=.bool _) rfl rfl) ?_;refine mvB rfl ?_;refine vg (v_move (v:=.map _) rfl) ?_;refine vg (v_lenMap Tryz.underlying59 rfl (fun w hw=>hw.mapAt (i:=2) rfl)) ?_;refine vg (v_move (v:=.map _) rfl) ?_;refine vg (v_lenMap Tryz.underlying47 rfl (fun w hw=>hw.mapAt (i:=1) rfl)) ?_;refine vg (v_is (b:=true) (v_eql rfl rfl) (decide_eq_true (by rw[spL_len,gm_len hF hgs,hmo.1]))) ?_;refine vl (v_pickT (u:=.bool _) rfl rfl) ?_;refine sgB rfl ?_;refine nl (oo ?_);exact WP.ret1 Tryz.results4 (fun _ h=>h) (fun w hw=>⟨(),rfl,trivial,hw.sel [] (by decide)⟩)
end Go.Proofs.YtbedndijejpcaaaGreat
namespace Go.Proofs.YtbedndijejpcaaaGreat
open Go.ChangeShapes Go.WideShapes Go.ChangeAt Go.RowKit Go.Deep
theorem placeScrolls_lifted (os:Os) (started:os.Started) (H:Type) (enc:TypeId×Value→H):
    ReturnsInHanded {} Tryz.checked os 4 .any (Rows.placeScrollsSpec.pre6 enc Tryz.prog Tryz.f4 Rows.placeScrollsRow.domain false) (Rows.placeScrollsSpec.post enc Tryz.prog Tryz.f4 false true false false):=by
  refine returnsInHanded_of_change (C:=Tryz.checked) own started (by kernel_rfl) Tryz.func4
    (ChangeSpec.witness6 (enc:=enc) (C:=Tryz.checked) false ⟨#[],#[.slice none 0 0,.int .i64 0,.int .i64 0,.int .i64 0,.int .i64 0,.int .i64 0],[]⟩ 8 (by kernel_rfl) (by kernel_rfl) (by kernel_rfl) (by kernel_rfl)) ?_
  intro W base args ds gs before hval0 hW _ _;have hval:∀(j:Nat) t v,Tryz.f4.params[j]?=some t→args[j]?=some v→Value.okWide Tryz.prog W .any base t v:=hval0;have hW':=hW;obtain⟨p,q,hA0,hV,rfl,hfz,hnd⟩:=hW;have hA:DataW.TrodAll enc Tryz.prog W 0 (fun _=>true) true Tryz.f4.params.toList args.toList ds p:=hA0;rw[Tryz.params4] at hA hval;obtain⟨v0,vs0,d0,ds0,p0,q0,hargs,rfl,rfl,h0,r0⟩:=trodAll_cons hA;obtain⟨v1,vs1,d1,ds1,p1,q1,rfl,rfl,rfl,h1,r1⟩:=trodAll_cons r0;obtain⟨v2,vs2,d2,ds2,p2,q2,rfl,rfl,rfl,h2,r2⟩:=trodAll_cons r1;obtain⟨v3,vs3,d3,ds3,p3,q3,rfl,rfl,rfl,h3,r3⟩:=trodAll_cons r2;obtain⟨v4,vs4,d4,ds4,p4,q4,rfl,rfl,rfl,h4,r4⟩:=trodAll_cons r3;obtain⟨v5,vs5,d5,ds5,p5,q5,rfl,rfl,rfl,h5,r5⟩:=trodAll_cons r4;obtain⟨rfl,rfl,rfl⟩:=trodAll_nil r5;obtain⟨args⟩:=args;obtain rfl:args=_:=hargs;obtain⟨A,l,c,rfl,hrd⟩:=open_acts (hval 0 22 v0 rfl rfl) h0;obtain⟨id,rfl,-,-,-⟩:=open_int Tryz.underlying3 (hval 1 3 v1 rfl rfl) h1;obtain⟨px,rfl,-,-,-⟩:=open_int Tryz.underlying3 (hval 2 3 v2 rfl rfl) h2;obtain⟨py,rfl,-,-,-⟩:=open_int Tryz.underlying3 (hval 3 3 v3 rfl rfl) h3;obtain⟨wd,rfl,-,-,-⟩:=open_int Tryz.underlying3 (hval 4 3 v4 rfl rfl) h4;obtain⟨ht,rfl,-,-,-⟩:=open_int Tryz.underlying3 (hval 5 3 v5 rfl rfl) h5;refine(Ct.lawF (lawScrolls_ct A c l id px py wd ht) hrd).mono fun e W' ⟨he,hb⟩=>?_;subst he;exact⟨_,rfl,law_post laidOut hW' rfl (by kernel_rfl) rfl Tryz.underlying4 (fun _=>rfl) hb⟩
theorem placeScrolls_ja:mapsRowed Tryz.pinned.checked.prog=true:=by kernel_rfl
theorem placeScrolls_jb:(Rows.placeScrollsRow.inPlace==Tryz.pinned.checked.prog.inPlace 4)=true:=by kernel_rfl
theorem placeScrolls_jc:(Rows.placeScrollsRow.unfollowed==Tryz.pinned.checked.prog.unfollowed 4)=true:=by kernel_rfl
theorem placeScrolls_jd:(Rows.placeScrollsRow.recurses==Tryz.pinned.checked.prog.recurses 4)=true:=by kernel_rfl
theorem placeScrolls_je:(Rows.placeScrollsRow.named==Tryz.pinned.checked.prog.varsNamed 4)=true:=by kernel_rfl
theorem placeScrolls_jl:laidOutB Tryz.pinned.checked.prog=true:=laidOut
theorem placeScrolls_said:Rows.PlaceScrollsSaid:=
  OpenClaim.holds_of_wide 4 Tryz.f4 rfl rfl rfl rfl rfl rfl rfl ⟨rfl,rfl,rfl,rfl,rfl⟩ rfl rfl rfl rfl rfl (by kernel_rfl) Tryz.func4 (by unfold joinedFacts;rw[placeScrolls_jl,placeScrolls_ja,placeScrolls_jb,placeScrolls_jc,placeScrolls_jd,placeScrolls_je];kernel_rfl)
    (of_decide_eq_true (by kernel_rfl)) (by unfold Func.isWrapper;rw[if_neg (by decide+kernel)];exact⟨rfl,rfl⟩)
    (fun os started H enc _=>placeScrolls_lifted os started H enc)
end Go.Proofs.YtbedndijejpcaaaGreat
