/- TreeAdd TreeMov TreeFact RefMut RefFact -/
import Derived.Test.YtbedndijejpcaaaGreatH9
set_option linter.unusedVariables false
set_option linter.unusedSimpArgs false
set_option linter.unusedSectionVars false
set_option maxRecDepth 100000
set_option maxHeartbeats 8000000
namespace Go.Proofs.YtbedndijejpcaaaGreat
open Go.RowKit
theorem xD {es:List PE} {x:Int}:x∈es.map PE.id↔aK (ae es) x=true:=by
  unfold aK ae;constructor
  · intro h
    obtain⟨e,he,rfl⟩:=List.mem_map.1 h;cases hl:lookE es e.id with
    | some _=>rfl
    | none =>
      have:∀es:List PE,e∈es→lookE es e.id≠none:=by
        intro es;induction es with
        | nil=>intro h;cases h
        | cons a es ih =>
          intro h;unfold lookE
          split
          · simp
          · rename_i hn
            rcases List.mem_cons.1 h with rfl | h
            · exact absurd rfl hn
            · exact ih h
      exact absurd hl (this es he)
  · intro h
    cases hl:lookE es x with
    | none=>rw[hl] at h;cases h
    | some e=>exact List.mem_map.2 ⟨e,(bp hl).1,(bp hl).2⟩
theorem SI {es:List PE} (hk:eG es) {d:Int→Nat} (hF:WF (ae es) d):jK (ae es)=es.length:=by
  have h1:=gG (l:=es.map PE.id) (m:=order (ae es)) hk.nodup (fun x hx=>hF.bw.2 (xD.1 hx));have h2:=gG (l:=order (ae es)) (m:=es.map PE.id) hF.fB (fun x hx=>xD.2 (hF.bw.1 hx));rw[List.length_map] at h1 h2;unfold jK;omega
theorem St.Iu {w0 w:World} {M:Nat→Prop} {σ:List HI} {i tp mb:Nat} {es:List PE} (h:St w0 M σ w) (hi:σ[i]?=some (al tp mb es)) {e:PE} {x:Int} (he:lookE es x=some e):aJ w e.bb 1 [.slice e.A e.kids.length e.c]:=
  jY (h.tree hi (.cl e.bb 102 e.cells) (List.mem_cons_of_mem _ (List.mem_cons_of_mem _ (List.mem_flatMap.2 ⟨e,(bp he).1,by simp[PE.items]⟩)))) 1 rfl
def iH (id:Int) (bb:Nat) (up:Int):PE:=⟨id,bb,none,0,up,[],aR⟩
theorem St.KK {w0 w:World} {M:Nat→Prop} {tp mb:Nat} {es:List PE} {F:List HI} {id up:Int} {bb:Nat} (hn:lookE es id=none)
    (h:St w0 M (.cl tp 107 [.map (some mb)]::aP mb (putM (es.map PE.fA) id (.pointer (some ⟨bb,0,none⟩)))::iy es::.cl bb 102 (.int .i64 up::.slice none 0 0::aR)::F) w):St w0 M (al tp mb (es++[iH id bb up])::F) w:=by
  have h1:=h.bB 3 1;rw[Kj es id _ hn] at h1;have h2:St w0 M (.cl (iH id bb up).bb 102 (iH id bb up).cells::az (iH id bb up).A (iH id bb up).kids.length (iH id bb up).c (iH id bb up).kids::iy es::(.cl tp 107 [.map (some mb)]::aP mb ((es++[iH id bb up]).map PE.fA)::F)) w:=by
    refine h1.perm ?_;rw[List.map_append];refine List.Perm.trans ?_ (List.Perm.swap _ _ _);refine(List.perm_append_comm (l₂:=[HI.row 3 1 none 0 0 []])).trans (List.Perm.cons _ ?_);refine List.Perm.trans (List.Perm.cons _ ((List.Perm.cons _ (List.Perm.swap _ _ _)).trans (List.Perm.swap _ _ _))) ?_;refine(List.Perm.swap _ _ _).trans (List.Perm.cons _ ?_);exact(List.Perm.cons _ (List.Perm.swap _ _ _)).trans (List.Perm.swap _ _ _)
  have h3:=St.K8 (es':=es++[iH id bb up]) (List.perm_append_comm (l₂:=[iH id bb up])) h2;exact St.DN (h3.perm ((List.Perm.swap _ _ _).trans (List.Perm.cons _ (List.Perm.swap _ _ _))))
theorem eG.app {es:List PE} (h:eG es) {id up:Int} {bb:Nat} (hn:lookE es id=none):eG (es++[iH id bb up]):=by
  refine⟨fun e he=>?_,?_⟩
  · rcases List.mem_append.1 he with he | he
    · exact h.sty e he
    · obtain rfl : e = _ := by simpa using he
      exact eQ
  · rw [List.map_append, List.nodup_append]
    refine⟨h.nodup,by simp,fun a ha b hb e=>?_⟩;obtain rfl:b=id:=by simpa [iH] using hb
    subst e;have:=xD.1 ha;rw[aK,ae,hn] at this;cases this
theorem pz {es:List PE} {x:Int} {e:PE} (h:lookE es x=some e) (n:PE):lookE (es++[n]) x=some e:=by rw[look_app,h]
theorem J0 {es:List PE} {up id:Int} {e:PE} (h:lookE es up=some e) (hn:lookE es id=none) {bb bb2:Nat} {A:Option Addr} {c k:Nat}:ae (setE (es++[iH id bb2 up]) ⟨e.id,bb,A,c,e.up,bN e.kids k id,e.sty⟩)=addG (ae es) up k id aR:=by
  have hi:=(bp h).2
  funext y
  rw[xa (e:=e) (by show lookE _ e.id=some e;rw[hi];exact pz h _),addG,dc h,hi]
  split
  · rfl
  · unfold ae
    rw[look_app]
    by_cases hy:y=id
    · subst hy;rw[hn];simp[iH]
    · rw [if_neg hy]
      cases lookE es y with
      | some a=>rfl
      | none=>simp[iH,Ne.symm hy]
theorem BR (tp mb:Nat) (es:List PE) (hk:eG es) {d:Int→Nat} (hF:WF (ae es) d) (up at_:Int):
    Ct Tryz.prog 50 #[.pointer (some ⟨tp,0,none⟩),.int .i64 up,.int .i64 at_] [al tp mb es] (fun _=>True) (X:=List PE) (fun _=>.tuple #[.int .i64 (addR aR (ae es) up at_).2.1,.int .i64 (addR aR (ae es) up at_).2.2]) (fun es'=>ae es'=(addR aR (ae es) up at_).1∧eG es') (fun es'=>[al tp mb es']):=by
  have hlen:=SI hk hF;refine Ci fun w0 _=>?_;refine uw ?_;refine vl (ai (u:=.map _) Tryz.isAgg105 rfl (fun w hw=>hw.ld (i:=0) rfl)) ?_;refine av ?_;refine vl (oR (es:=es) (i:=0) rfl Tryz.underlying105 Tryz.underlying3 Tryz.zeroValue104 rfl rfl) ?_;refine iX ?_;refine vl (xJ Tryz.underlying104 rfl rfl) ?_;refine gg ?_;refine WP.cond rfl (fun h16=>?_) (fun h16=>?_)
  ·have hr:addR aR (ae es) up at_=(ae es,-1,2):=by
     have hn:aK (ae es) up=false:=by rw[←xl];cases h:pL es up with | none=>rfl | some a=>rw[h] at h16;cases h16
     simp[addR,hn]
   refine gg ?_;exact rF fun w hw=>⟨es,by rw[hr];rfl,⟨by rw[hr],hk⟩,hw.pk⟩
  ·obtain⟨e,he⟩:=nf (es:=es) (x:=up) (by rw[←xl];cases h:pL es up with | none=>rw[h] at h16;cases h16 | some a=>rfl);rw[pP he];have hup:aK (ae es) up=true:=cG (dc he);have hke:aH (ae es) up=e.kids:=cj (dc he);refine bS ?_;refine aj.split 22 rfl (fun h22=>?_) (fun h22=>?_)
   ·refine gg ?_;have hr:addR aR (ae es) up at_=(ae es,-1,1):=by simp[addR,hup,h22]
    refine WP.aQ rfl ?_;refine gg ?_;exact rF fun w hw=>⟨es,by rw[hr];rfl,⟨by rw[hr],hk⟩,hw.pk⟩
   ·refine bS ?_;refine vg (ai (u:=.slice _ _ _) Tryz.isAgg49 rfl (fun w hw=>hw.Iu (i:=0) rfl he)) ?_;refine gg ?_;refine WP.aw rfl (fun h19=>?_) (fun h19=>?_)
    ·have hr:addR aR (ae es) up at_=(ae es,-1,1):=by simp[addR,hup,hke];omega
     refine gg ?_;exact rF fun w hw=>⟨es,by rw[hr];rfl,⟨by rw[hr],hk⟩,hw.pk⟩
    ·refine gg ?_;refine eF (xC (SG tp mb es)) fun _ _=>?_;refine gg ?_;refine WP.aw rfl (fun h31=>?_) (fun h31=>?_)
     ·have hr:addR aR (ae es) up at_=(ae es,-1,4):=by rw[addR,if_neg (by simp[hup]),if_neg (by rw[hke];omega),if_pos (by rw[hlen];omega)]
      refine gg ?_;exact rF fun w hw=>⟨es,by rw[hr];rfl,⟨by rw[hr],hk⟩,hw.pk⟩
     ·refine gg ?_;refine eF (xC (oS tp mb es hk hF up)) fun _ _=>?_;refine gg ?_;refine WP.aw rfl (fun h35=>?_) (fun h35=>?_)
      ·have hr:addR aR (ae es) up at_=(ae es,-1,5):=by rw[addR,if_neg (by simp[hup]),if_neg (by rw[hke];omega),if_neg (by rw[hlen];omega),if_pos (by omega)]
       refine gg ?_;exact rF fun w hw=>⟨es,by rw[hr];rfl,⟨by rw[hr],hk⟩,hw.pk⟩
      ·have hr:addR aR (ae es) up at_=(addG (ae es) up at_.toNat (least (ae es)) aR,least (ae es),0):=by rw[addR,if_neg (by simp[hup]),if_neg (by rw[hke];omega),if_neg (by rw[hlen];omega),if_neg (by omega)]
       have hno:lookE es (least (ae es))=none:=EJ hF.k8.2.2.1;obtain⟨k,rfl⟩:∃k:Nat,at_=k:=⟨at_.toNat,by omega⟩;rw[Int.toNat_natCast] at hr;have hkl:k≤e.kids.length:=by omega
       refine gg ?_;refine eF (xC (F9 tp mb es hF)) fun _ _=>?_;refine av ?_;refine nl (oo ?_);refine sq ?_;refine WP.pre ?_ (fun w hw=>St.Iz (hw.sel [0] (by decide)));refine bS ?_;refine vl (ai (u:=.map _) Tryz.isAgg105 rfl (fun w hw=>hw.aq (i:=0) rfl _ rfl)) ?_;refine bW ?_;refine vl (aV (us:=(.int .i64 up::.slice none 0 0::aR)) (pl:=[(0,1),(1,1),(2,55)]) Tryz.underlying102 Tryz.zeroValue102 rfl (by kernel_rfl) rfl rfl (by kernel_rfl)) ?_;refine aj.ef (fw (us:=(.int .i64 up::.slice none 0 0::aR)) (σ':=fun _=>[_,_,_,_]) rfl (fun _=>rfl)) (fun nb=>?_);refine aj.aX (mK (m:=es.map PE.fA) (u:=.pointer (some ⟨nb,0,none⟩)) (σ':=[_,_,_,_]) Tryz.underlying105 Tryz.underlying3 rfl rfl rfl (i:=1) rfl rfl) (fun _=>?_);refine nl (oo ?_);refine sq ?_;refine WP.pre ?_ (fun w hw=>St.AI (pz he (iH (least (ae es)) nb up)) (St.KK hno (hw.sel [0,1,2,3] (by decide))));refine gg ?_;refine aj.ef (cu (us:=[.int .i64 _]) (σ':=fun _=>[_,_,_,_,_,_]) Tryz.underlying49 Tryz.sizeOf3 Tryz.zeroValue3 rfl rfl rfl (by decide) (by decide) (fun _=>rfl)) (fun g57=>?_);refine aj.ef (ck Tryz.call86 (uV e.A e.c e.kids k hkl g57 (least (ae es)) (by have:=hF.mU he;omega)) [1,5] [0,2,3,4] rfl (fun w hw=>trivial) (τ:=fun _=>[_,_,_,_,_]) (fun _=>rfl)) (fun⟨A58,c58⟩=>?_);refine aj.fact (fun _=>?_);refine gg ?_;refine aj.aX (cz (u:=.slice _ _ _) (σ':=[_,_,_,_,_]) Tryz.sizeOf49 rfl rfl (i:=0) rfl (Nat.lt_of_lt_of_le (Nat.lt_succ_self _) (Nat.le_of_ble_eq_true rfl)) rfl) (fun _=>?_);refine gg ?_;exact WP.IM Tryz.results50 (fun _ h=>h) (fun w hw=>⟨setE (es++[iH (least (ae es)) nb up]) ⟨e.id,e.bb,A58,c58,e.up,bN e.kids k (least (ae es)),e.sty⟩,by rw[hr];rfl,⟨by rw[hr];exact J0 he hno,(hk.app hno).set (e:=e) (by show lookE _ e.id=some e;rw[(bp he).2];exact pz he _) (hk.sty e (bp he).1)⟩,St.AH (pz he _) (hZ hkl).symm (hw.sel [0,4,1,2,3] (by decide))⟩)
theorem zG:∀{es:List PE} {x:Int},lookE es x=none→delE es x=es
  | [],_,_=>rfl
  | a :: es, x, h => by
    unfold lookE at h;unfold delE
    split at h
    · cases h
    · rename_i hi;rw[if_neg hi,zG h]
theorem St.KF {w0 w:World} {M:Nat→Prop} {tp mb:Nat} {es:List PE} {F:List HI} {x:Int} (h:St w0 M (.cl tp 107 [.map (some mb)]::aP mb (uI (es.map PE.fA) x)::iy es::F) w):St w0 M (al tp mb (delE es x)::F) w:=by
  rw[←CU] at h;refine St.DN ?_;cases hl:lookE es x with
  | none=>rw[zG hl] at h ⊢;exact h
  | some e =>
    have h1:=St.K4 hl (h.perm (σ':=iy es::.cl tp 107 [.map (some mb)]::aP mb ((delE es x).map PE.fA)::F) ((List.Perm.cons _ (List.Perm.swap _ _ _)).trans (List.Perm.swap _ _ _)));have h2:=h1.sub (σ':=iy (delE es x)::.cl tp 107 [.map (some mb)]::aP mb ((delE es x).map PE.fA)::F) ((List.sublist_cons_self _ _).trans (List.sublist_cons_self _ _));exact h2.perm ((List.Perm.swap _ _ _).trans (List.Perm.cons _ (List.Perm.swap _ _ _)))
def si (es:List PE) (l:List Int):List PE:=l.foldl delE es
theorem EF (es:List PE) {l:List Int} {k:Nat} {x:Int} (h:l[k]?=some x):si es (l.take (k+1))=delE (si es (l.take k)) x:=by
  rw[df h];simp[si]
theorem qp:∀(l:List Int) {es:List PE} (_:eG es) (y:Int),eG (si es l)∧lookE (si es l) y=if y∈l then none else lookE es y
  | [],_,h,y=>⟨h,by simp[si]⟩
  | x :: l, es, h, y => by
    obtain⟨h1,h2⟩:=qp l (h.del x) y;refine⟨h1,?_⟩;show lookE (si (delE es x) l) y=_;rw[h2,Gx h.nodup]
    by_cases hx:y=x<;>by_cases hy:y∈l<;>simp[hx,hy]
theorem mf {es:List PE} {up:Int} {pe:PE} (hp:lookE es up=some pe) (id y:Int):lookE (setE es (jo pe id)) y=if y=up then some (jo pe id) else lookE es y:=by
  have hi:=(bp hp).2;rw[pZ (e:=pe) (e':=jo pe id) (by show lookE es pe.id=some pe;rw[hi];exact hp)];show (if y=pe.id then _ else _)=_;rw[hi]
theorem eG.cut {es:List PE} (hk:eG es) {up:Int} {pe:PE} (hp:lookE es up=some pe) (id:Int):eG (setE es (jo pe id)):=by
  have hi:=(bp hp).2;exact hk.set (e:=pe) (e':=jo pe id) (by show lookE es pe.id=some pe;rw[hi];exact hp) (hk.sty pe (bp hp).1)
theorem eG.put {es:List PE} (hk:eG es) {x:Int} {e:PE} (hl:lookE es x=some e) {bb c:Nat} {A:Option Addr} {up:Int} {l:List Int}:eG (setE es ⟨e.id,bb,A,c,up,l,e.sty⟩):=
  hk.set (e:=e) (by show lookE es e.id=some e;rw[(bp hl).2];exact hl) (hk.sty e (bp hl).1)
theorem WF.parent {es:List PE} {d:Int→Nat} (hF:WF (ae es) d) {id:Int} {e:PE} (he:lookE es id=some e) (h0:id≠0):∃pe,lookE es e.up=some pe∧id∈pe.kids∧pe.kids.Nodup∧id≠e.up:=by
  obtain⟨u,h1,h2⟩:=hF.par id _ (dc he) h0;obtain⟨pe,hp⟩:=nf (cG h1);have h3:=dc hp;rw[h1] at h3;cases h3;refine⟨pe,hp,h2,hF.nodup _ _ h1,fun e1=>?_⟩;have:=hF.rank id _ (dc he) h0;rw[←show id=(⟨e.up,e.kids,e.sty⟩:je (List Value)).up from e1] at this;omega
theorem I7 {es:List PE} (hk:eG es) {id:Int} {e pe:PE} (he:lookE es id=some e) (hp:lookE es e.up=some pe):ae (si (setE es (jo pe id)) (sub (ae es) id))=remG (ae es) id:=by
  funext y
  unfold remG;rw[ae,(qp _ (hk.cut hp id) y).2]
  split
  · rfl
  · rw [mf hp, ch (dc he)]
    show Option.map _ (if y=e.up then _ else _)=Option.map (fun b=>if y=e.up then _ else b) _
    by_cases hy:y=e.up
    · subst hy;rw[if_pos rfl,dc hp];simp[jo]
    · rw[if_neg hy];simp only[if_neg hy,ae];cases lookE es y<;>rfl
theorem pY {es:List PE} {id up:Int} {e pe u b:PE} (he:lookE es id=some e) (hp:lookE es e.up=some pe) (hu:lookE es up=some u) (h1:id≠up) (h2:id≠e.up) (hb:lookE (setE es (jo pe id)) up=some b) {A:Option Addr} {c k:Nat}:
    lookE (setE (setE es (jo pe id)) ⟨b.id,b.bb,A,c,b.up,bN b.kids k id,b.sty⟩) id=some e∧ae (setE (setE (setE es (jo pe id)) ⟨b.id,b.bb,A,c,b.up,bN b.kids k id,b.sty⟩) ⟨e.id,e.bb,e.A,e.c,up,e.kids,e.sty⟩)=movG (ae es) id up k:=by
  have hbi:=(bp hb).2;have hei:=(bp he).2;have hl2:∀y,lookE (setE (setE es (jo pe id)) ⟨b.id,b.bb,A,c,b.up,bN b.kids k id,b.sty⟩) y=if y=up then some ⟨b.id,b.bb,A,c,b.up,bN b.kids k id,b.sty⟩ else lookE (setE es (jo pe id)) y:=fun y=>by
    rw[pZ (e:=b) (by show lookE _ b.id=_;rw[hbi];exact hb)];show (if y=b.id then _ else _)=_;rw[hbi]
  have hid:lookE (setE (setE es (jo pe id)) ⟨b.id,b.bb,A,c,b.up,bN b.kids k id,b.sty⟩) id=some e:=by rw[hl2,if_neg h1,mf hp,if_neg h2,he]
  refine⟨hid,?_⟩
  funext y
  rw[xa (e:=e) (by show lookE _ e.id=_;rw[hei];exact hid)];show (if y=e.id then _ else _)=_;rw[hei];unfold movG;rw[ch (dc he)];show (if y=id then _ else ae _ y)=Option.map (fun c:je (List Value)=>(⟨if y=id then up else c.up,if y=up then bN (if y=e.up then bQ c.kids id else c.kids) k id else if y=e.up then bQ c.kids id else c.kids,c.sty⟩:je (List Value))) _
  by_cases hy:y=id
  · rw [if_pos hy, hy, dc he]
    simp[h1,h2]
  · rw [if_neg hy, ae, hl2]
    by_cases hyu:y=up
    · subst hyu
      rw[dc hu];rw[mf hp] at hb
      by_cases hye:y=e.up
      · rw [if_pos hye] at hb
        obtain rfl:jo pe id=b:=Option.some.inj hb;rw[←hye,hu] at hp;cases hp;simp[hye,jo];intro h;exact absurd h.symm h2
      · rw [if_neg hye, hu] at hb; cases hb
        simp[hye,hy]
    · rw [if_neg hyu, mf hp]
      by_cases hye:y=e.up
      · rw [if_pos hye, hye, dc hp]
        rw[hye] at hyu hy;simp[hyu,hy,jo]
      · rw [if_neg hye]
        simp only[hyu,hye,hy,ae,if_false];cases lookE es y<;>rfl
theorem iz (F:ar (List Value)) (x:Int):-1≤bz F x∧bz F x≤63:=by
  have:=AA F 64 x;unfold bz;omega
theorem Ks (F:ar (List Value)) (x:Int):0≤lX F x∧lX F x≤63:=⟨(fP (bz F) (sub F x) 0).1,fH (bz F) 63 (sub F x) 0 (by omega) fun y _=>(iz F y).2⟩
theorem Fg (tp mb:Nat) (es:List PE) (hk:eG es) {d:Int→Nat} (hF:WF (ae es) d) (id:Int):
    Ct Tryz.prog 88 #[.pointer (some ⟨tp,0,none⟩),.int .i64 id] [al tp mb es] (fun _=>True) (X:=List PE) (fun _=>.tuple #[.int .i64 (remR (ae es) id).2.1,.int .i64 (remR (ae es) id).2.2]) (fun es'=>ae es'=(remR (ae es) id).1∧eG es') (fun es'=>[al tp mb es']):=by
  have hsl:=hF.e6 id;refine Ci fun w0 _=>?_;refine gg ?_;refine eF (xC (lE tp mb es id)) fun _ _=>?_;refine gg ?_;refine WP.cond rfl (fun h9=>?_) (fun h9=>?_)
  ·have hr:remR (ae es) id=(ae es,0,2):=by simp only[Bool.not_eq_true'] at h9;simp[remR,h9]
   refine gg ?_;exact rF fun w hw=>⟨es,by rw[hr];rfl,⟨by rw[hr],hk⟩,hw.pk⟩
  ·refine gg ?_;refine WP.aw rfl (fun h14=>?_) (fun h14=>?_)
   ·have hr:remR (ae es) id=(ae es,0,1):=by simp only[Bool.not_eq_false'] at h9;rw[remR,if_neg (by simp[h9]),if_pos h14]
    refine gg ?_;exact rF fun w hw=>⟨es,by rw[hr];rfl,⟨by rw[hr],hk⟩,hw.pk⟩
   ·simp only[Bool.not_eq_false'] at h9;have hr:remR (ae es) id=(remG (ae es) id,((sub (ae es) id).length:Int),0):=by simp[remR,h9,h14]
    obtain⟨e,he⟩:=nf h9;obtain⟨pe,hp,hm,hn,_⟩:=hF.parent he h14;refine gg ?_;refine eF (xC (kW tp id)) fun⟨m2,m3⟩ _=>?_;refine eF (xC (mH tp mb es hk hF id m2 m3)) fun⟨cA,cc⟩ _=>?_;refine gg ?_;refine eF (xC (Hk tp mb es hk id he hp hm hn (by have:=hF.mU hp;omega))) fun _ _=>?_;refine gg ?_;refine WP.bm (X:=Nat) [0,6,24,25] (fun k=>[(26,.int .i64 (k:Int))]) (fun k w=>k≤(sub (ae es) id).length∧St w0 (ay [al tp mb es]) [al tp mb (si (setE es (jo pe id)) ((sub (ae es) id).take k)),az cA (sub (ae es) id).length cc (sub (ae es) id)] w) (fun k=>(sub (ae es) id).length - k) 0 ⟨rfl,trivial⟩ (fun w hw=>⟨Nat.zero_le _,(hw.sel [3,2] (by decide))⟩) (fun k ρ0=>?_);refine WP.fact (fun hk2=>?_);refine gg ?_;refine WP.aw rfl (fun h27=>?_) (fun h27=>?_)
    ·obtain⟨x,hx⟩:∃x,(sub (ae es) id)[k]?=some x:=⟨_,List.getElem?_eq_getElem (by omega)⟩;refine WP.holds (fun w hw=>hw.aM (i:=1) rfl (by omega)) (fun⟨rb,hA⟩=>?_);subst hA;refine bS ?_;refine vl (vX k) ?_;refine vl (vR 1 (by rw[List.getElem?_map,hx];rfl)) ?_;refine bW ?_;refine WP.pre ?_ (fun w hw=>St.Iz (hw.sel [0,1] (by decide)));refine bS ?_;refine vl (ai (u:=.map _) Tryz.isAgg105 rfl (fun w hw=>hw.aq (i:=0) rfl _ rfl)) ?_;refine gg ?_;refine aj.aX (HR (m:=(si (setE es (jo pe id)) ((sub (ae es) id).take k)).map PE.fA) (k:=x) (σ':=[_,_,_,_]) Tryz.underlying105 Tryz.underlying3 rfl rfl (i:=1) rfl rfl) (fun _=>?_);refine bS ?_;exact nl fun w hw=>⟨rfl,k+1,(by omega),⟨rfl,jP,jS,jS,jI,trivial⟩,⟨by omega,by rw[EF _ hx];exact St.KF hw.pk⟩⟩
    ·have hkk:k=(sub (ae es) id).length:=by omega
     refine WP.exit (an ?_);refine gg ?_;exact WP.IM Tryz.results88 (fun _ h=>h) (fun w hw=>⟨si (setE es (jo pe id)) (sub (ae es) id),by rw[hr];rfl,⟨by rw[hr];exact I7 hk he hp,(qp _ (hk.cut hp id) 0).1⟩,by have h:=(hw.sel [0] (by decide));rw[hkk,List.take_of_length_le (Nat.le_refl _)] at h;exact h⟩)
theorem Kq (tp mb:Nat) (es:List PE) (hk:eG es) {d:Int→Nat} (hF:WF (ae es) d) (id up at_:Int):
    Ct Tryz.prog 90 #[.pointer (some ⟨tp,0,none⟩),.int .i64 id,.int .i64 up,.int .i64 at_] [al tp mb es] (fun _=>True) (X:=List PE) (fun _=>.int .i64 (movR (ae es) id up at_).2) (fun es'=>ae es'=(movR (ae es) id up at_).1∧eG es') (fun es'=>[al tp mb es']):=by
  have hsl:=hF.e6 id;refine Ci fun w0 _=>?_;refine gg ?_;refine eF (xC (lE tp mb es id)) fun _ _=>?_;refine bW ?_;refine aj.aY 15 rfl (fun h15=>?_) (fun h15=>?_)
  ·refine gg ?_;have hr:movR (ae es) id up at_=(ae es,2):=by simp only[Bool.not_eq_true'] at h15;simp[movR,h15]
   refine WP.aQ rfl ?_;refine gg ?_;exact aT fun w hw=>⟨es,congrArg (Value.int .i64) (by rw[hr]),⟨by rw[hr],hk⟩,hw.pk⟩
  ·refine gg ?_;refine aj.kn (xC (lE tp mb es up)) (fun _=>?_);refine aj.fact (fun _=>?_);refine gg ?_;refine WP.cond rfl (fun h20=>?_) (fun h20=>?_)
   ·have hr:movR (ae es) id up at_=(ae es,2):=by simp only[Bool.not_eq_true'] at h20;simp[movR,h20]
    refine gg ?_;exact aT fun w hw=>⟨es,congrArg (Value.int .i64) (by rw[hr]),⟨by rw[hr],hk⟩,hw.pk⟩
   ·simp only[Bool.not_eq_false'] at h15 h20;have hid:=h15;have hup:=h20;obtain⟨e,he⟩:=nf hid;obtain⟨u,hu⟩:=nf hup;have hke:aH (ae es) up=u.kids:=cj (dc hu);have hkb:(aH (ae es) up).length≤4096:=by rw[hke];exact hF.mU hu
    have hb1:=iz (ae es) id;have hb2:=iz (ae es) up;have hb3:=Ks (ae es) id;refine gg ?_;refine eF (xC (zM tp mb es hk up)) fun _ _=>?_;refine vl (hR (u:=.slice _ _ _) Tryz.underlying102 rfl Tryz.isAgg49 rfl rfl) ?_;refine cK ?_;refine WP.uo [0,1,2,3] [(9,.int .i64 (pI (ae es) id up))] ?_ (fun ρ0=>?_)
    ·refine gg ?_;refine eF (xC (mm tp mb es hk id)) fun _ _=>?_;refine gg ?_;refine WP.aw rfl (fun h30=>?_) (fun h30=>?_)
     ·refine bS ?_;exact nl fun w hw=>⟨rfl,⟨(congrArg (Value.int .i64) (by unfold pI;split<;>omega)),jP,jI,jI,jI,trivial⟩,hw⟩
     ·exact WP.skip fun w hw=>⟨rfl,⟨(congrArg (Value.int .i64) (by unfold pI;split<;>omega)),jP,jI,jI,jI,trivial⟩,hw⟩
    ·refine gg ?_;refine WP.aw rfl (fun h33=>?_) (fun h33=>?_)
     ·have hr:movR (ae es) id up at_=(ae es,1):=by rw[movR,if_neg (by simp[hid,hup]),if_pos h33]
      refine gg ?_;exact aT fun w hw=>⟨es,congrArg (Value.int .i64) (by rw[hr]),⟨by rw[hr],hk⟩,hw.pk⟩
     ·refine gg ?_;refine eF (xC (kW tp id)) fun⟨m2,m3⟩ _=>?_;refine eF (xC (mH tp mb es hk hF id m2 m3)) fun⟨cA,cc⟩ _=>?_;refine gg ?_;refine eF (xC (yJ cA cc (sub (ae es) id) up (by omega))) fun _ _=>?_;refine gg ?_;refine WP.aw rfl (fun h36=>?_) (fun h36=>?_)
      ·have hr:movR (ae es) id up at_=(ae es,3):=by rw[movR,if_neg (by simp[hid,hup]),if_neg h33,if_pos h36]
       refine gg ?_;exact aT fun w hw=>⟨es,congrArg (Value.int .i64) (by rw[hr]),⟨by rw[hr],hk⟩,hw.pk⟩
      ·refine bS ?_;refine aj.split 46 rfl (fun h46=>?_) (fun h46=>?_)
       ·refine gg ?_;have hr:movR (ae es) id up at_=(ae es,1):=by rw[movR,if_neg (by simp[hid,hup]),if_neg h33,if_neg h36,if_pos (by omega)]
        refine WP.aQ rfl ?_;refine gg ?_;exact aT fun w hw=>⟨es,congrArg (Value.int .i64) (by rw[hr]),⟨by rw[hr],hk⟩,hw.pk⟩
       ·refine gg ?_;refine WP.aw rfl (fun h43=>?_) (fun h43=>?_)
        ·have hr:movR (ae es) id up at_=(ae es,1):=by rw[movR,if_neg (by simp[hid,hup]),if_neg h33,if_neg h36,if_pos (by omega)]
         refine gg ?_;exact aT fun w hw=>⟨es,congrArg (Value.int .i64) (by rw[hr]),⟨by rw[hr],hk⟩,hw.pk⟩
        ·refine gg ?_;refine eF (xC (oS tp mb es hk hF up)) fun _ _=>?_;refine gg ?_;refine eF (xC (J3 tp mb es hk hF id)) fun _ _=>?_;refine gg ?_;refine eF (xC (oS tp mb es hk hF id)) fun _ _=>?_;refine gg ?_;refine WP.aw rfl (fun h51=>?_) (fun h51=>?_)
         ·have hr:movR (ae es) id up at_=(ae es,5):=by rw[movR,if_neg (by simp[hid,hup]),if_neg h33,if_neg h36,if_neg (by omega),if_pos (by omega)]
          refine gg ?_;exact aT fun w hw=>⟨es,congrArg (Value.int .i64) (by rw[hr]),⟨by rw[hr],hk⟩,hw.pk⟩
         ·have hr:movR (ae es) id up at_=(movG (ae es) id up at_.toNat,0):=by rw[movR,if_neg (by simp[hid,hup]),if_neg h33,if_neg h36,if_neg (by omega),if_neg (by omega)]
          obtain⟨pe,hp,hm,hn,hie⟩:=hF.parent he h33;have hiu:id≠up:=fun e1=>h36 (by rw[←e1];exact hF.cH.2 (kg.refl hid));obtain⟨k,rfl⟩:∃k:Nat,at_=k:=⟨at_.toNat,by omega⟩;rw[Int.toNat_natCast] at hr;obtain⟨b,hb,hbl⟩:∃b,lookE (setE es (jo pe id)) up=some b∧(b.kids.length:Int)=pI (ae es) id up:=by
            rw[mf hp,pI,hke,ch (dc he)]
            by_cases h:up=e.up
            · rw [if_pos h, if_pos h.symm]
              rw[←h,hu] at hp;cases hp;have:=o3 hn hm;exact⟨_,rfl,by show ((bQ u.kids id).length:Int)=_;omega⟩
            · rw [if_neg h, if_neg (fun e => h e.symm), hu]
              exact⟨_,rfl,by show _=_ - (0:Int);omega⟩
          have hkl:k≤b.kids.length:=by omega
          have hbk:b.kids.length≤4096:=by
            have h1:=hF.mU hu;rw[pI,hke] at hbl
            split at hbl<;>omega
          refine gg ?_;refine eF (xC (Hk tp mb es hk id he hp hm hn (by have:=hF.mU hp;omega))) fun _ _=>?_;refine cR ?_;refine vl (ai (u:=.map _) Tryz.isAgg105 rfl (fun w hw=>hw.ld (i:=3) rfl)) ?_;refine av ?_;refine vl (oR (es:=(setE es (jo pe id))) (i:=3) rfl Tryz.underlying105 Tryz.underlying3 Tryz.zeroValue104 rfl rfl) ?_;refine av ?_;refine nl (oo ?_);refine sq ?_;refine WP.pre ?_ (fun w hw=>St.AI hb (hw.sel [3,0,1,2] (by decide)));rw[pP hb];refine gg ?_;refine aj.ef (cu (us:=[.int .i64 _]) (σ':=fun _=>[_,_,_,_,_,_,_,_,_]) Tryz.underlying49 Tryz.sizeOf3 Tryz.zeroValue3 rfl rfl rfl (by decide) (by decide) (fun _=>rfl)) (fun g81=>?_);refine aj.ef (ck Tryz.call86 (uV b.A b.c b.kids k hkl g81 id (by omega)) [1,8] [0,2,3,4,5,6,7] rfl (fun w hw=>trivial) (τ:=fun _=>[_,_,_,_,_,_,_,_]) (fun _=>rfl)) (fun⟨A82,c82⟩=>?_);refine aj.fact (fun _=>?_);refine gg ?_;refine aj.aX (cz (u:=.slice _ _ _) (σ':=[_,_,_,_,_,_,_,_]) Tryz.sizeOf49 rfl rfl (i:=0) rfl (Nat.lt_of_lt_of_le (Nat.lt_succ_self _) (Nat.le_of_ble_eq_true rfl)) rfl) (fun _=>?_);refine nl (oo ?_);refine sq ?_;refine WP.pre ?_ (fun w hw=>St.AI (pY he hp hu hiu hie hb (k:=k)).1 (St.AH hb (hZ hkl).symm (hw.sel [0,7,1,2,3] (by decide))));refine bS ?_;refine vl (ai (u:=.map _) Tryz.isAgg105 rfl (fun w hw=>hw.aq (i:=2) rfl _ rfl)) ?_;refine av ?_;refine vl (DH (es:=_) (pY he hp hu hiu hie hb).1 (i:=3) rfl Tryz.underlying105 Tryz.underlying3 Tryz.zeroValue104 rfl rfl) ?_;refine gg ?_;refine aj.aX (cz (u:=.int .i64 _) (σ':=[_,_,_,_,_]) Tryz.sizeOf3 rfl rfl (i:=0) rfl (Nat.lt_of_lt_of_le (Nat.lt_succ_self _) (Nat.le_of_ble_eq_true rfl)) rfl) (fun _=>?_);refine gg ?_;exact WP.cP Tryz.results90 (fun _ h=>h) (fun w hw=>⟨setE (setE (setE es (jo pe id)) ⟨b.id,b.bb,A82,c82,b.up,bN b.kids k id,b.sty⟩) ⟨e.id,e.bb,e.A,e.c,up,e.kids,e.sty⟩,congrArg (Value.int .i64) (by rw[hr]),⟨by rw[hr];exact(pY he hp hu hiu hie hb).2,((hk.cut hp id).put hb).put (pY he hp hu hiu hie hb).1⟩,St.AH (pY he hp hu hiu hie hb).1 rfl (hw.sel [0,1,2,3,4] (by decide))⟩)
end Go.Proofs.YtbedndijejpcaaaGreat
namespace Go.Proofs.YtbedndijejpcaaaGreat
section
variable {S:Type} {F:ar S} {d:Int→Nat}
theorem rm (g:Int→List Int) (x:Int) (P:Int→Int):∀(ks:List Int),(∀c∈ks,P c=x)→(∀c∈ks,∀i y,(g c)[i]?=some y→y≠c→P y∈(g c).take i)→∀j y,(ks.flatMap g)[j]?=some y→P y=x∨P y∈(ks.flatMap g).take j
  | [],_,_,j,y,h=>by simp at h
  | c :: ks, hp, hg, j, y, h => by
    rw[List.flatMap_cons] at h ⊢
    by_cases hj:j<(g c).length
    · rw [List.getElem?_append_left hj] at h
      by_cases hy:y=c
      · left;rw[hy];exact hp c (by simp)
      · right
        have h1:=hg c (by simp) j y h hy;rw[List.take_append_of_le_length (by omega)];exact h1
    · rw [List.getElem?_append_right (by omega)] at h
      rcases rm g x P ks (fun c hc=>hp c (by simp[hc])) (fun c hc=>hg c (by simp[hc])) _ y h with h1 | h1
      · exact .inl h1
      · right
        rw[List.take_append,List.mem_append];exact .inr h1
theorem WF.nR (h:WF F d):∀(n:Nat) (x:Int) (i:Nat) (y:Int),(insideF F n x)[i]?=some y→y≠x→upF F y∈(insideF F n x).take i
  | 0,x,i,y,hi,_=>by simp[insideF] at hi
  | n + 1, x, i, y, hi, hy => by
    cases hx:F x with
    | none=>rw[dQ (n+1) hx] at hi;simp at hi
    | some b =>
      rw[ft n hx] at hi ⊢;cases i with
      | zero=>simp at hi;exact absurd hi.symm hy
      | succ j =>
        rw[List.getElem?_cons_succ] at hi;rw[List.take_succ_cons]
        rcases rm (insideF F n) x (upF F) b.kids (fun c hc=>by obtain⟨_,e,he,hu⟩:=h.kid x b hx c hc;rw[ch he];exact hu) (fun c _ i y=>h.nR n c i y) j y hi with h1 | h1
        · rw[h1];simp
        · exact List.mem_cons_of_mem _ h1
theorem WF.before (h:WF F d) {i:Nat} {y:Int} (hi:(order F)[i]?=some y) (h0:y≠0):upF F y∈(order F).take i:=h.nR 64 0 i y hi h0
theorem WF.Cm (h:WF F d):(order F)[0]?=some 0:=by
  obtain⟨b,hb,_⟩:=h.root;unfold order;rw[h.sub_eq hb];rfl
theorem WF.iV (h:WF F d) {y:Int} (hy:aK F y=true) (h0:y≠0):aK F (upF F y)=true∧y∈aH F (upF F y)∧(aH F (upF F y)).Nodup∧d y=d (upF F y)+1:=by
  obtain⟨b,hb⟩:=aL hy;obtain⟨u,hu,hm⟩:=h.par y b hb h0;rw[ch hb,cj hu];exact⟨cG hu,hm,h.nodup _ u hu,h.rank y b hb h0⟩
theorem WF.DP (h:WF F d) {id y:Int} {b:je S} (hy:F y=some b) (hne:y≠upF F id):id∉b.kids:=fun hm=>by
  obtain⟨_,c,hc,hu⟩:=h.kid y b hy id hm;rw[ch hc] at hne;exact hne hu.symm
end
section
variable {w0 w:World} {M:Nat→Prop} {σ F:List HI} {i rp g bc n:Nat} {bs:List RB}
theorem St.rowAt (h:St w0 M σ w) (hi:σ[i]?=some (.row 152 58 (some ⟨g,0,none⟩) n bc (bV bs))) (hk:lg bs) {j:Nat} {b:RB} (hb:bs[j]?=some b) (o:Nat) {us:List Value} (hu:(b.cells.drop o).take us.length=us):aJ w g (0+j*58+o) us:=by
  refine h.dH hi _ fun k u hj=>?_;rw[show 0+j*58+o+k=j*58+(o+k) by omega];refine ow hk hb ?_;have h3:=congrArg (·[k]?) hu;simp only[hj] at h3;rw[List.getElem?_take] at h3
  split at h3
  · rw[List.getElem?_drop] at h3;exact h3
  · cases h3
theorem St.qR (h:St w0 M σ w) (hi:σ[i]?=some (kH bs)) {j:Nat} {b:RB} (hb:bs[j]?=some b):vd w b.A b.kids∧b.kids.length≤b.c∧Src w b.A b.kids.length (b.kids.map (Value.int .i64)):=
  Co ((h.all _ (List.mem_of_getElem? hi)).2.1 b.row (List.mem_map.2 ⟨b,List.mem_of_getElem? hb,rfl⟩))
theorem St.x3 {j:Nat} {b':RB} (h:St w0 M (.cl rp 155 [.slice (some ⟨g,0,none⟩) bs.length bc]::.row 152 58 (some ⟨g,0,none⟩) bs.length bc (bV (bs.set j b'))::kH (bs.set j b')::F) w):St w0 M (dI rp g bc (bs.set j b')::F) w:=by
  refine St.IL ?_;rw[List.length_set];exact h
theorem wA {j:Nat} {b b':RB} (hb:bs[j]?=some b) (e:b'.row=b.row):kH (bs.set j b')=kH bs:=by
  unfold kH
  congr 1
  apply List.ext_getElem?;intro k;rw[List.getElem?_map,List.getElem?_map,List.getElem?_set]
  split
  · rename_i h
    subst h;rw[if_pos (List.getElem?_eq_some_iff.1 hb).1,hb];simp[e]
  · rfl
end
theorem E4 (a b c:Value) (s s':List Value) (h:s'.length=s.length):setL (a::b::c::s) 3 s'=a::b::c::s':=by
  rw[rN _ _ _ (by simp only[List.length_cons];omega)];simp[h];omega
theorem FN {bs:List RB} {i:Nat} {b:RB} (hb:bs[i]?=some b) (hl:b.live=true) {s:List Value}:aD (bs.set i ⟨b.live,b.up,b.A,b.c,b.kids,s⟩)=setG (aD bs) i s:=by
  funext y
  rw[jC (List.getElem?_eq_some_iff.1 hb).1,setG,c8 hb hl,hl];rfl
theorem Jr (rp g bc:Nat) (bs:List RB) (hk:lg bs) (x:Int) (sty:List Value) (hs:bZ sty):
    Ct Tryz.prog 92 #[.pointer (some ⟨rp,0,none⟩),.int .i64 x,.agg sty.toArray] [dI rp g bc bs] (fun _=>True) (X:=List RB) (fun _=>.int .i64 (setR bg (aD bs) x sty).2) (fun bs'=>aD bs'=(setR bg (aD bs) x sty).1∧lg bs') (fun bs'=>[dI rp g bc bs']):=by
  refine Ci fun w0 _=>?_;refine gg ?_;refine aj.ef (xB (us:=sty)) fun b5=>?_;refine gg ?_;refine eF (xC (j0 rp g bc bs hk x)) fun _ _=>?_;refine gg ?_;refine WP.cond rfl (fun h11=>?_) (fun h11=>?_)
  ·simp only[Bool.not_eq_true',Bool.not_eq_false'] at h11;have hr:setR bg (aD bs) x sty=(aD bs,2):=by simp[setR,h11]
   refine gg ?_;exact aT fun w hw=>⟨bs,congrArg (Value.int .i64) (by rw[hr]),⟨by rw[hr],hk⟩,hw.pk⟩
  ·refine gg ?_;refine vl (vW hs.len) ?_;refine eF (xC (EO sty hs)) fun _ _=>?_;refine gg ?_;refine WP.cond rfl (fun h15=>?_) (fun h15=>?_)
   ·simp only[Bool.not_eq_true',Bool.not_eq_false'] at h11 h15;have hr:setR bg (aD bs) x sty=(aD bs,1):=by simp[setR,h11,h15]
    refine gg ?_;exact aT fun w hw=>⟨bs,congrArg (Value.int .i64) (by rw[hr]),⟨by rw[hr],hk⟩,hw.pk⟩
   ·simp only[Bool.not_eq_true',Bool.not_eq_false'] at h11 h15;have hr:setR bg (aD bs) x sty=(setG (aD bs) x sty,0):=by simp[setR,h11,h15]
    obtain⟨i,b,rfl,hb,hl⟩:=fv h11;have hib:=(List.getElem?_eq_some_iff.1 hb).1;refine bW ?_;refine WP.pre ?_ (fun w hw=>St.DQ (hw.sel [1,0] (by decide)));refine WP.fj (some 8) [(0,true),(1,true),(2,true),(3,true),(4,true),(5,true),(6,false),(7,true),(8,false)] mixed (by kernel_rfl) (by decide) (fun _ h=>h.drawn) ?_;refine cR ?_;refine aB.take rfl (au (cs:=sty) Tryz.isAgg42 Tryz.sizeOf42 rfl (fun w hw=>hw.aq (i:=3) rfl 0 (whole _)) hs.len) ?_ (fun _ h=>h);refine aB.val rfl (bG (j:=i) Tryz.underlying153 Tryz.sizeOf152 rfl rfl rfl (by omega)) (fun _ h=>h) ?_;refine gg ?_;refine aB.aX rfl (jX (us:=sty) (o:=0+i*58+3) (σ':=[_,_,_,_]) Tryz.sizeOf42 rfl rfl (i:=1) rfl (by rw[eJ hk,hs.len];omega) (by rw[show 0+i*58+3=i*58+3 by omega,eI hk hb (b':=(⟨b.live,b.up,b.A,b.c,b.kids,sty⟩:RB)) (by rw[hs.len];decide) (E4 _ _ _ _ _ (by rw[hs.len,(hk.get hb).len]))];rfl) hs.one hs.len) (fun h=>absurd rfl h) (fun _=>?_);refine gg ?_;exact aT fun w hw=>⟨bs.set i (⟨b.live,b.up,b.A,b.c,b.kids,sty⟩:RB),congrArg (Value.int .i64) (by rw[hr]),⟨by rw[hr];exact FN hb hl,hk.set i hs⟩,St.x3 (by rw[wA (b':=(⟨b.live,b.up,b.A,b.c,b.kids,sty⟩:RB)) hb rfl];exact hw.pk)⟩
def nC (bs:List RB) (l:List Int):List RB:=l.foldl (fun bs x=>bs.set x.toNat dL) bs
theorem EN (bs:List RB) {l:List Int} {k:Nat} {x:Int} (h:l[k]?=some x):nC bs (l.take (k+1))=(nC bs (l.take k)).set x.toNat dL:=by
  rw[df h];simp[nC]
theorem pw:∀(l:List Int) {bs:List RB},lg bs→(∀x∈l,0≤x∧x<bs.length)→lg (nC bs l)∧(nC bs l).length=bs.length∧∀y,aD (nC bs l) y=if y∈l then none else aD bs y
  | [],bs,h,_=>⟨h,rfl,fun y=>by simp[nC]⟩
  | x :: l, bs, h, hr => by
    have hx:=hr x (by simp);obtain⟨h1,h2,h3⟩:=pw l (bs:=bs.set x.toNat dL) (h.set _ eQ) (fun y hy=>by rw[List.length_set];exact hr y (by simp[hy]));refine⟨h1,by rw[show nC bs (x::l)=nC (bs.set x.toNat dL) l from rfl,h2,List.length_set],fun y=>?_⟩;rw[show nC bs (x::l)=nC (bs.set x.toNat dL) l from rfl,h3,jC (by omega),show ((x.toNat:Nat):Int)=x by omega]
    by_cases e1:y∈l<;>by_cases e2:y=x<;>simp[e1,e2,dL]
theorem EL {bs:List RB} {x:Int} {t:je (List Value)} (h:aD bs x=some t):∃(i:Nat) (b:RB),x=i∧bs[i]?=some b∧b.live=true∧t=⟨b.up,b.kids,b.sty⟩:=by
  obtain⟨i,b,rfl,hb,hl⟩:=fv (cG h);rw[c8 hb hl] at h;exact⟨i,b,rfl,hb,hl,(Option.some.inj h).symm⟩
theorem WF.DM {bs:List RB} {d:Int→Nat} (hF:WF (aD bs) d) {i:Nat} {b:RB} (hb:bs[i]?=some b) (hl:b.live=true) (h0:(i:Int)≠0):∃(u:Nat) (p:RB),b.up=u∧bs[u]?=some p∧p.live=true∧(i:Int)∈p.kids∧p.kids.Nodup∧u≠i:=by
  have hbb:=c8 hb hl;obtain⟨t,h1,h2⟩:=hF.par i _ hbb h0;obtain⟨u,p,hu,hp,hpl,rfl⟩:=EL h1;refine⟨u,p,hu,hp,hpl,h2,hF.nodup _ _ h1,fun e=>?_⟩;have h3:d i=d b.up+1:=hF.rank i _ hbb h0;have hu2:b.up=u:=hu;rw[hu2,e] at h3;omega
def iv (p:RB) (A:Option Addr) (c:Nat) (x:Int):RB:=⟨p.live,p.up,A,c,bQ p.kids x,p.sty⟩
theorem x8 {bs:List RB} {u:Nat} {p:RB} (hp:bs[u]?=some p) (hl:p.live=true) (A:Option Addr) (c:Nat) (x y:Int):aD (bs.set u (iv p A c x)) y=if y=u then some ⟨p.up,bQ p.kids x,p.sty⟩ else aD bs y:=by
  rw[jC (List.getElem?_eq_some_iff.1 hp).1];simp[iv,hl]
theorem HN {bs:List RB} (hk:lg bs) {i u:Nat} {b p:RB} (hb:bs[i]?=some b) (hl:b.live=true) (hu:b.up=u) (hp:bs[u]?=some p) (hpl:p.live=true) (A:Option Addr) (c:Nat):aD (nC (bs.set u (iv p A c i)) (sub (aD bs) i))=remG (aD bs) i:=by
  have hrange:∀x∈sub (aD bs) i,0≤x∧x<(bs.set u (iv p A c i)).length:=fun x hx=>by
    obtain⟨j,c,rfl,hj,_⟩:=fv (oL hx);have:=(List.getElem?_eq_some_iff.1 hj).1;rw[List.length_set];omega
  funext y
  rw[(pw _ (hk.set u (b':=iv p A c i) (show bZ p.sty from hk.get hp)) hrange).2.2,remG]
  split
  · rfl
  · rw [x8 hp hpl, ch (c8 hb hl)]
    show _=Option.map (fun t=>if y=b.up then _ else t) _;rw[hu]
    by_cases hy:y=u
    · subst hy;rw[if_pos rfl,c8 hp hpl];simp
    · rw[if_neg hy];simp only[if_neg hy];cases aD bs y<;>rfl
theorem By (rp g bc:Nat) (bs:List RB) (hk:lg bs) {d:Int→Nat} (hF:WF (aD bs) d) (x:Int):
    Ct Tryz.prog 89 #[.pointer (some ⟨rp,0,none⟩),.int .i64 x] [dI rp g bc bs] (fun _=>True) (X:=List RB) (fun _=>.tuple #[.int .i64 (remR (aD bs) x).2.1,.int .i64 (remR (aD bs) x).2.2]) (fun bs'=>aD bs'=(remR (aD bs) x).1∧lg bs') (fun bs'=>[dI rp g bc bs']):=by
  have hsl:=hF.e6 x;refine Ci fun w0 _=>?_;refine gg ?_;refine eF (xC (j0 rp g bc bs hk x)) fun _ _=>?_;refine gg ?_;refine WP.cond rfl (fun h12=>?_) (fun h12=>?_)
  ·have hno:aK (aD bs) x=false:=by simpa using h12
   have hr:remR (aD bs) x=(aD bs,0,2):=by rw[remR,if_pos hno]
   refine gg ?_;exact rF fun w hw=>⟨bs,by rw[hr];rfl,⟨by rw[hr],hk⟩,hw.pk⟩
  ·refine gg ?_;refine WP.aw rfl (fun h14=>?_) (fun h14=>?_)
   ·have hyes:aK (aD bs) x=true:=by simpa using h12
    have hr:remR (aD bs) x=(aD bs,0,1):=by rw[remR,if_neg (by simp[hyes]),if_pos h14]
    refine gg ?_;exact rF fun w hw=>⟨bs,by rw[hr];rfl,⟨by rw[hr],hk⟩,hw.pk⟩
   ·have hyes:aK (aD bs) x=true:=by simpa using h12
    have hr:remR (aD bs) x=(remG (aD bs) x,((sub (aD bs) x).length:Int),0):=by rw[remR,if_neg (by simp[hyes]),if_neg h14]
    obtain⟨i,b,rfl,hb,hl⟩:=fv hyes;have hib:=(List.getElem?_eq_some_iff.1 hb).1;obtain⟨u,p,hu,hp,hpl,hm,hn,hui⟩:=hF.DM hb hl h14;have hub:=(List.getElem?_eq_some_iff.1 hp).1;have hpk:p.kids.length≤4096:=hF.j5 (c8 hp hpl);have hrange0:∀x∈sub (aD bs) (i:Int),0≤x∧x<bs.length:=fun x hx=>by
      obtain⟨j,c,rfl,hj,_⟩:=fv (oL hx);have:=(List.getElem?_eq_some_iff.1 hj).1;omega
    refine gg ?_;refine eF (xC (lC rp g bc bs hk hF (i:Int))) fun⟨A6,c6⟩ _=>?_;refine av ?_;refine nl (oo ?_);refine sq ?_;refine WP.pre ?_ (fun w hw=>St.DQ (hw.sel [0,1] (by decide)));refine uw ?_;refine vl (ai (u:=.int .i64 _) Tryz.isAgg3 rfl (fun w hw=>hw.rowAt (i:=1) rfl hk hb 1 (us:=[.int .i64 b.up]) rfl)) ?_;rw[hu];refine gg ?_;refine WP.dj (some 17) [0,1,2,3] [(0,true),(1,true),(2,true),(3,true),(4,true),(5,true),(6,true),(7,true),(8,true),(9,true),(10,true),(11,true),(12,true),(13,true),(14,false),(15,false),(16,true),(17,false)] mixed (by kernel_rfl) (by decide) ?_;refine aB.take rfl (aC (v:=.pointer _) rfl) ?_ (fun _ h=>h.sel [0,1,2,3] (by decide));refine aB.take rfl (jO rfl) ?_ (fun _ h=>h.sel [0,1,2,3] (by decide));refine aB.take rfl (aS (o':=0) Tryz.underlying155 rfl Tryz.sizeOf153 rfl rfl) ?_ (fun _ h=>h.sel [0,1,2,3] (by decide));refine aB.take rfl (ai (u:=.slice _ _ _) Tryz.isAgg153 rfl (fun w hw=>hw.aq (i:=0) rfl _ rfl)) ?_ (fun _ h=>h.sel [0,1,2,3] (by decide));refine aB.take rfl (aC (v:=.int .i64 _) rfl) ?_ (fun _ h=>h.sel [0,1,2,3] (by decide));refine aB.take rfl (aC (v:=.pointer _) rfl) ?_ (fun _ h=>h.sel [0,1,2,3] (by decide));refine aB.take rfl (jO rfl) ?_ (fun _ h=>h.sel [0,1,2,3] (by decide));refine aB.take rfl (aS (o':=0) Tryz.underlying155 rfl Tryz.sizeOf153 rfl rfl) ?_ (fun _ h=>h.sel [0,1,2,3] (by decide));refine aB.take rfl (ai (u:=.slice _ _ _) Tryz.isAgg153 rfl (fun w hw=>hw.aq (i:=0) rfl _ rfl)) ?_ (fun _ h=>h.sel [0,1,2,3] (by decide));refine aB.take rfl (aC (v:=.int .i64 _) rfl) ?_ (fun _ h=>h.sel [0,1,2,3] (by decide));refine aB.take rfl (bG (j:=u) Tryz.underlying153 Tryz.sizeOf152 rfl rfl rfl (by omega)) ?_ (fun _ h=>h.sel [0,1,2,3] (by decide));refine aB.take rfl (e7 (off:=2) Tryz.underlying152 rfl Tryz.sizeOf49 rfl) ?_ (fun _ h=>h.sel [0,1,2,3] (by decide));refine tE rfl (ai (u:=.slice _ _ _) Tryz.isAgg49 rfl (fun w hw=>hw.rowAt (i:=1) rfl hk hp 2 (us:=[.slice p.A p.kids.length p.c]) rfl)) ?_;refine gg ?_;refine aB.ef rfl (ck Tryz.call135 (nZ p.A p.c p.kids (i:Int) (by omega)) [] [0,1,2,3] rfl (fun w hw=>(hw.qR (i:=2) rfl hp).2.2) (τ:=fun _=>[_,_,_,_,_]) (fun _=>rfl)) (fun _ _ _ h=>h.2.sel [0,1,2,3] (by decide)) (fun⟨A40,c40⟩=>?_);refine aB.fact (fun _=>?_);refine aB.val rfl (bG (j:=u) Tryz.underlying153 Tryz.sizeOf152 rfl rfl rfl (by omega)) (fun _ h=>h.sel [0,1,2,3] (by decide)) ?_;refine aB.take rfl (e7 (off:=2) Tryz.underlying152 rfl Tryz.sizeOf49 rfl) ?_ (fun _ h=>h.sel [0,1,2,3] (by decide));refine aB.aX rfl (bU (u:=.slice A40 (bQ p.kids i).length c40) (o:=0+u*58+2) (xs':=bV (bs.set u (iv p A40 c40 (i:Int)))) (σ':=[_,_,_,_,_]) Tryz.sizeOf49 rfl rfl (i:=1) rfl (by rw[eJ hk];omega) (by rw[show 0+u*58+2=u*58+2 by omega];exact eI hk hp (o:=2) (us:=[.slice A40 (bQ p.kids i).length c40]) (by show 2+1≤58;decide) rfl) rfl) (fun h=>absurd rfl h) (fun _=>?_)
    refine aB.nil (an ?_)
    iterate 2 refine sq ?_
    refine WP.pre ?_ (fun w hw=>St.qT (b':=(iv p A40 c40 (i:Int))) hp (hw.sel [2,4,0,1,3] (by decide)));have hk1:lg (bs.set u (iv p A40 c40 (i:Int))):=hk.set u (show bZ p.sty from hk.get hp);have hrange:∀x∈(sub (aD bs) (i:Int)),0≤x∧x<(bs.set u (iv p A40 c40 (i:Int))).length:=fun x hx=>by rw[List.length_set];exact hrange0 x hx
    refine gg ?_;refine WP.bm (X:=Nat) [0,6] (fun k=>[(8,.int .i64 (k:Int))]) (fun k w=>k≤(sub (aD bs) (i:Int)).length∧St w0 (ay [dI rp g bc bs]) [.cl rp 155 [.slice (some ⟨g,0,none⟩) bs.length bc],.row 152 58 (some ⟨g,0,none⟩) bs.length bc (bV (nC (bs.set u (iv p A40 c40 (i:Int))) ((sub (aD bs) (i:Int)).take k))),kH (nC (bs.set u (iv p A40 c40 (i:Int))) ((sub (aD bs) (i:Int)).take k)),az A6 (sub (aD bs) (i:Int)).length c6 (sub (aD bs) (i:Int))] w) (fun k=>(sub (aD bs) (i:Int)).length - k) 0 ⟨rfl,trivial⟩ (fun w hw=>⟨Nat.zero_le _,(hw.sel [1,2,0,3] (by decide))⟩) (fun k ρ0=>?_);refine WP.fact (fun hkl=>?_);refine gg ?_;refine WP.aw rfl (fun h46=>?_) (fun h46=>?_)
    ·obtain⟨y,hy⟩:∃y,(sub (aD bs) (i:Int))[k]?=some y:=⟨_,List.getElem?_eq_getElem (by omega)⟩;obtain⟨j,hyj⟩:∃j:Nat,y=j:=⟨y.toNat,by have:=hrange0 y (List.mem_of_getElem? hy);omega⟩;subst hyj;have hjr:=hrange0 _ (List.mem_of_getElem? hy);have hrk:∀x∈(sub (aD bs) (i:Int)).take k,0≤x∧x<(bs.set u (iv p A40 c40 (i:Int))).length:=fun x hx=>hrange x (List.mem_of_mem_take hx);obtain⟨hzk,hzl,_⟩:=pw ((sub (aD bs) (i:Int)).take k) hk1 hrk;rw[List.length_set] at hzl;obtain⟨bj,hzj⟩:∃bj,(nC (bs.set u (iv p A40 c40 (i:Int))) ((sub (aD bs) (i:Int)).take k))[j]?=some bj:=⟨_,List.getElem?_eq_getElem (by omega)⟩;refine WP.holds (fun w hw=>hw.aM (i:=3) rfl (by omega)) (fun⟨lb,hA⟩=>?_);subst hA;refine gg ?_;refine WP.fj (some 10) [(0,true),(1,true),(2,true),(3,true),(4,true),(5,true),(6,true),(7,true),(8,true),(9,true),(10,false)] mixed (by kernel_rfl) (by decide) (fun _ h=>h.drawn) ?_;refine gg ?_;refine tD (vR 3 (by rw[List.getElem?_map,hy];rfl)) ?_;refine tE rfl (aV (parts:=[]) (us:=dL.cells) (pl:=[(0,1),(1,1),(2,1),(3,55)]) Tryz.underlying152 Tryz.zeroValue152 rfl (by kernel_rfl) rfl rfl (by kernel_rfl)) ?_;refine gg ?_;refine aB.aX rfl (jX (us:=dL.cells) (o:=0+j*58) (σ':=[_,_,_,_]) Tryz.sizeOf152 rfl rfl (i:=1) rfl (by rw[eJ hzk,hzl];show _+58≤_;omega) (by rw[show 0+j*58=j*58+0 by omega,eI hzk hzj (b':=dL) (by decide) (pE _ _ (by rw[RB.il (hzk.get hzj)];rfl))];rfl) (by intro v hv;simp only[RB.cells,dL,List.mem_cons] at hv;rcases hv with rfl | rfl | rfl | hv;rfl;rfl;rfl;exact eQ.one v hv) rfl) (fun h=>absurd rfl h) (fun _=>?_);refine cR ?_;exact nl fun w hw=>⟨rfl,k+1,(by omega),⟨rfl,jP,jS,trivial⟩,⟨by omega,by rw[EN _ hy,Int.toNat_natCast];exact(St.qT (b':=dL) hzj ((hw.bB 3 1).sel [2,4,0,1,3] (by decide))).sel [1,2,0,3] (by decide)⟩⟩
    ·have hkk:k=(sub (aD bs) (i:Int)).length:=by omega
     refine WP.exit (an ?_);refine gg ?_;exact WP.IM Tryz.results89 (fun _ h=>h) (fun w hw=>⟨nC (bs.set u (iv p A40 c40 (i:Int))) (sub (aD bs) (i:Int)),by rw[hr];rfl,⟨by rw[hr];exact HN hk hb hl hu hp hpl A40 c40,(pw _ hk1 hrange).1⟩,by have h:=(hw.sel [0,1,2] (by decide));rw[hkk,List.take_of_length_le (Nat.le_refl _)] at h;exact St.IL (by rw[(pw _ hk1 hrange).2.1,List.length_set];exact h)⟩)
end Go.Proofs.YtbedndijejpcaaaGreat
namespace Go.Proofs.YtbedndijejpcaaaGreat
def HE (F:ar (List Value)) (x:Int) (l:List Int):Int:=l.foldl (fun n y=>max n (bz F y - bz F x)) 0
theorem HC (F:ar (List Value)) (x:Int) {l:List Int} {k:Nat} {y:Int} (h:l[k]?=some y):HE F x (l.take (k+1))=max (HE F x (l.take k)) (bz F y - bz F x):=by
  rw[df h];simp[HE]
theorem Ia (F:ar (List Value)) (x:Int) (l:List Int):0≤HE F x l∧HE F x l≤64:=
  ⟨(fP (fun y=>bz F y - bz F x) l 0).1,fH (fun y=>bz F y - bz F x) 64 l 0 (by omega) fun y _=>by have:=iz F y;have:=iz F x;omega⟩
theorem WF.KH {F:ar (List Value)} {d:Int→Nat} (h:WF F d) {x:Int} (hx:aK F x=true):HE F x (sub F x)=lX F x - bz F x:=by
  have hself:x∈sub F x:=h.cH.2 (kg.refl hx);have h0:0≤bz F x:=by rw[h.depth hx];omega
  have ha:=fP (bz F) (sub F x) 0;have hb:=fP (fun y=>bz F y - bz F x) (sub F x) 0;have h1:=fH (fun y=>bz F y - bz F x) (lX F x - bz F x) (sub F x) 0 (by have:=ha.2 x hself;unfold lX;omega) (fun y hy=>by have:=ha.2 y hy;unfold lX;omega);have h2:=fH (bz F) (HE F x (sub F x)+bz F x) (sub F x) 0 (by have:=hb.1;unfold HE;omega) (fun y hy=>by have:=hb.2 y hy;unfold HE;omega);unfold HE at*;unfold lX at*;omega
theorem WF.IQ {F:ar (List Value)} {d:Int→Nat} (h:WF F d) {id up:Int} (hid:aK F id=true) (h0:id≠0) (hup:aK F up=true):((bQ (aH F up) id).length:Int)=pI F id up:=by
  obtain⟨b,hb⟩:=aL hup;unfold pI;rw[cj hb]
  by_cases e:up=upF F id
  · obtain ⟨h1, h2, h3, _⟩ := h.iV hid h0
    rw[if_pos e.symm];rw[←e,cj hb] at h2 h3;have:=o3 h3 h2;omega
  · rw[if_neg (fun x=>e x.symm),jW (h.DP hb e)];omega
theorem WF.Iy {F:ar (List Value)} {d:Int→Nat} (h:WF F d) {k:Nat} (hb:∀y:Int,0≤y→y<k→aK F y=true) (hk:aK F (k:Int)=false):least F=k:=by
  obtain⟨l1,l2,l3,l4⟩:=h.k8
  rcases Int.lt_trichotomy (least F) k with h1 | h1 | h1
  · rw[hb _ l1 h1] at l3;cases l3
  · exact h1
  · rw[l4 k (by omega) h1] at hk;cases hk
def n9 (q:RB) (A:Option Addr) (c:Nat) (k:Nat) (x:Int):RB:=⟨q.live,q.up,A,c,bN q.kids k x,q.sty⟩
def upB (b:RB) (w:Int):RB:=⟨b.live,w,b.A,b.c,b.kids,b.sty⟩
theorem Hw {bs:List RB} {i u w:Nat} {b p q q1:RB} (hb:bs[i]?=some b) (hl:b.live=true) (hu:b.up=u) (hp:bs[u]?=some p) (hpl:p.live=true) (hw:bs[w]?=some q) (hql:q.live=true) (hui:u≠i) (hwi:w≠i) {A1 A2:Option Addr} {c1 c2 k:Nat} (hq1:(bs.set u (iv p A1 c1 i))[w]?=some q1):
    ((bs.set u (iv p A1 c1 i)).set w (n9 q1 A2 c2 k i))[i]?=some b∧aD (((bs.set u (iv p A1 c1 i)).set w (n9 q1 A2 c2 k i)).set i (upB b w))=movG (aD bs) i w k:=by
  have hil:=(List.getElem?_eq_some_iff.1 hb).1;have hwl:=(List.getElem?_eq_some_iff.1 hw).1;refine⟨by rw[List.getElem?_set_ne hwi,List.getElem?_set_ne hui,hb],?_⟩;have hlive:q1.live=true∧q1.up=q.up∧q1.sty=q.sty∧q1.kids=if w=u then bQ q.kids i else q.kids:=by
    by_cases e:w=u
    · subst e
      rw[hp] at hw;cases hw;rw[List.getElem?_set_self hwl] at hq1;cases hq1;simp[iv,hpl]
    · rw [List.getElem?_set_ne (fun h => e h.symm), hw] at hq1
      cases hq1;simp[hql,e]
  obtain⟨g1,g2,g3,g4⟩:=hlive
  funext y
  rw[jC (by simp[hil]),jC (by simp[hwl]),x8 hp hpl,movG];show _=Option.map (fun t:je (List Value)=>(⟨if y=i then (w:Int) else t.up,if y=w then bN (if y=upF (aD bs) i then bQ t.kids i else t.kids) k i else if y=upF (aD bs) i then bQ t.kids i else t.kids,t.sty⟩:je (List Value))) _;rw[ch (c8 hb hl)];show _=Option.map (fun t:je (List Value)=>(⟨if y=i then (w:Int) else t.up,if y=w then bN (if y=b.up then bQ t.kids i else t.kids) k i else if y=b.up then bQ t.kids i else t.kids,t.sty⟩:je (List Value))) _;rw[hu];have n1:((i:Int)≠w):=by omega
  have n2:((i:Int)≠u):=by omega
  by_cases e1:y=i
  · subst e1
    rw[c8 hb hl];simp[upB,hl,n1,n2]
  · by_cases e2 : y = w
    · subst e2
      rw[c8 hw hql]
      by_cases e3:w=u
      · have e5 : ((u : Int) ≠ i) := by omega
        simp[n9,g1,g2,g3,g4,e3,e5]
      · have e4 : ((w : Int) ≠ u) := by omega
        simp[n9,g1,g2,g3,g4,e3,e1,e4]
        try (intro h;omega)
    · by_cases e3 : y = u
      · subst e3
        rw[c8 hp hpl];simp[e1,e2]
      · simp only [e1, e2, e3, if_false]
        cases aD bs y<;>rfl
end Go.Proofs.YtbedndijejpcaaaGreat
