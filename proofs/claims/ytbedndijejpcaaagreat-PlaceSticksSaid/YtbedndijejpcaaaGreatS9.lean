/- TreeInside RefIns RecRef TreeOpen -/
import Derived.Test.YtbedndijejpcaaaGreatS8
set_option linter.unusedVariables false
set_option linter.unusedSimpArgs false
set_option linter.unusedSectionVars false
set_option maxRecDepth 100000
set_option maxHeartbeats 8000000
namespace Go.Proofs.YtbedndijejpcaaaGreat
open Go.RowKit
abbrev tpI (b tp:Nat):HI:=.cl b 24 [.pointer (some ⟨tp,0,none⟩)]
abbrev idI (b:Nat) (x:Int):HI:=.cl b 3 [.int .i64 x]
theorem inside_ct (tp:Nat) (x:Int):Ct Tryz.prog 62 #[.pointer (some ⟨tp,0,none⟩),.int .i64 x] [] (fun _=>True) (X:=Nat×Nat) (fun p=>.func (.func 112) #[] #[.pointer (some ⟨p.1,0,none⟩),.pointer (some ⟨p.2,0,none⟩)]) (fun _=>True) (fun p=>[tpI p.1 tp,idI p.2 x]):=by
  refine Ci fun w0 _=>?_;refine gg ?_;refine WPL.ef (x_box1 (u:=.pointer _) (σ':=fun _=>[_]) rfl (fun _=>rfl)) (fun b2=>?_);refine WPL.ef (x_box1 (u:=.int .i64 _) (σ':=fun _=>[_,_]) rfl (fun _=>rfl)) (fun b3=>?_);refine sg rfl ?_;refine nl (oo ?_);refine sqR ?_;refine vl (v_func) ?_;refine sg rfl ?_;refine gg ?_;exact rt1 fun w hw=>⟨(b2,b3),rfl,trivial,hw⟩
section
variable {S:Type} (F:Forest S)
def posK (kids:List Int) (i:Nat):Nat:=1+((kids.take i).flatMap (sub F)).length
theorem posK_succ {kids:List Int} {i:Nat} {kid:Int} (h:kids[i]?=some kid):posK F kids (i+1)=posK F kids i+(sub F kid).length:=by
  unfold posK;rw[take_snoc h,List.flatMap_append,List.length_append];simp;omega
theorem pos_at {kids:List Int} {i k:Nat} {kid x id:Int} (h:kids[i]?=some kid) (hx:(sub F kid)[k]?=some x):(id::kids.flatMap (sub F))[posK F kids i+k]?=some x:=by
  have hk:=(List.getElem?_eq_some_iff.1 h).1;have e:kids=kids.take i++kid::kids.drop (i+1):=by
    have h1:=List.take_append_drop i kids;rw[List.drop_eq_getElem_cons hk,(List.getElem?_eq_some_iff.1 h).2] at h1;exact h1.symm
  have h2:kids.flatMap (sub F)=(kids.take i).flatMap (sub F)++(sub F kid++(kids.drop (i+1)).flatMap (sub F)):=by
    conv=>lhs;rw[e]
    rw[List.flatMap_append,List.flatMap_cons]
  have h3:posK F kids i+k=(((kids.take i).flatMap (sub F)).length+k)+1:=by unfold posK;omega
  rw[h3,List.getElem?_cons_succ,h2,List.getElem?_append_right (by omega),Nat.add_sub_cancel_left,List.getElem?_append_left (List.getElem?_eq_some_iff.1 hx).1];exact hx
theorem posK_all (id:Int) (kids:List Int):posK F kids kids.length=(id::kids.flatMap (sub F)).length:=by
  unfold posK;rw[List.take_of_length_le (Nat.le_refl _)];simp;omega
theorem WF.kids_le {S:Type} {F:Forest S} {d:Int→Nat} (hF:WF F d) {x:Int} {b:TBox S} (hx:F x=some b):b.kids.length≤4096:=by
  have h:=nodup_len (l:=b.kids) (m:=(List.range 4096).map fun n:Nat=>(n:Int)) (hF.nodup x b hx) fun y hy=>by
    obtain⟨_,c,hc,_⟩:=hF.kid x b hx y hy;have:=hF.range y c hc;exact List.mem_map.2 ⟨y.toNat,List.mem_range.2 (by omega),by omega⟩
  simpa using h
theorem isLeft_of {Z Y:Type} {o:Z ⊕ Y} (h:(!o.isLeft)=false):∃z,o=.inl z:=by cases o with | inl z=>exact⟨z,rfl⟩ | inr y=>cases h
theorem isRight_of {Z Y:Type} {o:Z ⊕ Y} (h:(!o.isLeft)=true):∃y,o=.inr y:=by cases o with | inr y=>exact⟨y,rfl⟩ | inl z=>cases h
end
theorem inside_step (tp mb:Nat) (es:List PE) (hk:LOk es) {d:Int→Nat} (hF:WF (FoR es) d) (id:Int) (n2 n3:Nat)
    (ih:∀kid m2 m3,kid∈kidsF (FoR es) id→IterOK Tryz.prog 112 [] [.pointer (some ⟨m2,0,none⟩),.pointer (some ⟨m3,0,none⟩)] [treeI tp mb es,tpI m2 tp,idI m3 kid] intA (sub (FoR es) kid)):
    IterOK Tryz.prog 112 [] [.pointer (some ⟨n2,0,none⟩),.pointer (some ⟨n3,0,none⟩)] [treeI tp mb es,tpI n2 tp,idI n3 id] intA (sub (FoR es) id):=by
  intro l Z Y H J Inv hy z0 hz0;refine Ci fun w0 _=>?_;refine gg ?_;refine WPL.ef (x_box1 (u:=_) (σ':=fun _=>[_,_,_,_,_]) rfl (fun _=>rfl)) (fun b3=>?_);refine gg ?_;refine eF (xC (has_ct tp mb es id)) fun _ _=>?_
  iterate 2 refine av ?_
  refine WPL.splitB 11 rfl (fun h11=>?_) (fun h11=>?_)
  ·refine gg ?_;have hnil:sub (FoR es) id=[]:=sub_none (none_has (by simpa using h11));refine WP.condT rfl ?_;exact WP.ret0 Tryz.results112 (fun _ h=>h) (fun w hw=>⟨.inl z0,rfl,⟨fun z e=>(by cases e;rw[hnil];exact hz0),fun p e=>(by cases e)⟩,(by rw[hnil];exact(hw.sel [4,0,1,2] (by decide)))⟩)
  ·obtain⟨e,he⟩:∃e,lookE es id=some e:=by have h:=(show hasF (FoR es) id=true by simpa using h11);unfold hasF FoR at h;cases h2:lookE es id with | none=>rw[h2] at h;cases h | some e=>exact⟨e,rfl⟩
   have hFe:FoR es id=some ⟨e.up,e.kids,e.sty⟩:=by simp[FoR,he]
   have hsub:sub (FoR es) id=id::e.kids.flatMap (sub (FoR es)):=hF.sub_eq hFe;have hke:kidsF (FoR es) id=e.kids:=kids_some hFe;have hkl:(kidsF (FoR es) id).length=e.kids.length:=by rw[hke]
   have hkb:e.kids.length≤4096:=hF.kids_le hFe;refine vg (v_load1 (u:=_) Tryz.isAgg44 rfl (fun w hw=>hw.cl_at (i:=3) rfl _ rfl)) ?_;refine gg ?_;refine WPL.efG (x_yieldC (hy 0 id z0 (by rw[hsub];rfl) hz0) [4,0,1,2] [3] rfl (τ:=fun _=>[_,_,_,_,_]) (fun _=>rfl)) (fun o=>?_);refine WPL.fact (fun hf=>?_);refine gg ?_;refine WP.cond rfl (fun h16=>?_) (fun h16=>?_)
   ·obtain⟨y,rfl⟩:=isRight_of h16;exact WP.ret0 Tryz.results112 (fun _ h=>h) (fun w hw=>⟨.inr (0,y),rfl,⟨fun z e=>(by cases e),fun p e=>(by cases e;rw[hsub];exact Nat.succ_pos _)⟩,(hw.sel [1,2,3,4] (by decide))⟩)
   ·obtain⟨zz,rfl⟩:=isLeft_of h16;refine gg ?_;refine eF (xC (of_ct tp mb es hk id)) fun _ _=>?_;refine vl (v_part (u:=.slice _ _ _) Tryz.underlying102 rfl Tryz.isAgg49 rfl rfl) ?_;refine gg ?_;refine WP.loopD (X:=Nat×Z×List Nat) [1,3,20,21,29] (fun p=>[(22,.int .i64 (p.1:Int))]) (fun p w=>(p.1≤e.kids.length∧Inv (posK (FoR es) e.kids p.1) p.2.1)∧St w0 (foots ([treeI tp mb es,tpI n2 tp,idI n3 id]++[H 0 z0])) [marksI p.2.2,treeI tp mb es,tpI n2 tp,idI n3 id,.cl b3 44 [.func (.yield l) #[] #[]],H (posK (FoR es) e.kids p.1) p.2.1] w) (fun p=>p.2.2.map mark) (fun p=>e.kids.length - p.1) (0,zz,[]) ⟨rfl,trivial⟩ rfl (fun w hw=>⟨⟨Nat.zero_le _,hf zz rfl⟩,St.noMarks (hw.sel [4,1,2,0,3] (by decide))⟩) (fun p ρ0=>?_);obtain⟨i,z,Ds⟩:=p;dsimp only;refine WP.fact (fun⟨hile,hinv⟩=>?_);refine gg ?_;refine WP.condP rfl (fun h23=>?_) (fun h23=>?_)
    ·have hi:i<e.kids.length:=by omega
     obtain⟨kid,hkid⟩:∃kid,e.kids[i]?=some kid:=⟨_,List.getElem?_eq_getElem hi⟩;have hkid':(kidsF (FoR es) id)[i]?=some kid:=by rw[hke];exact hkid
     refine WP.holds (p:=∃b o,kA es id=some ⟨b,o,none⟩) (fun w hw=>by obtain⟨b,o,e1,_⟩:=(hw.treeKidsOf (i:=1) rfl id).1 i kid hkid';exact⟨b,o,e1⟩) (fun⟨kb,ko,hka⟩=>?_);rw[hka];refine WP.skip (onto_of ?_);refine sq ?_;refine WP.block ?_;refine sqR ?_;refine av ?_;refine vl (v_load1 (u:=.int .i64 _) Tryz.isAgg3 rfl (fun w hw=>by obtain⟨b1,o1,e1,hc⟩:=(hw.treeKidsOf (i:=1) rfl id).1 i kid hkid';rw[hka] at e1;cases e1;exact hc)) ?_;refine gg ?_;refine eF (xC (inside_ct tp kid)) fun⟨m2,m3⟩ _=>?_;refine nl (oo ?_);refine WP.block ?_;refine WP.pre ?_ (fun w hw=>(hw.sel [1,6,7,5,2,3,4,0] (by decide)));refine WP.rangeIter (gf:=112) (first:=[]) (cap:=[.pointer (some ⟨m2,0,none⟩),.pointer (some ⟨m3,0,none⟩)]) rfl Tryz.call112 (ih kid m2 m3 (by rw[hke];exact List.mem_of_getElem? hkid)) (Z:=Z) (own:=fun k z=>[H (posK (FoR es) e.kids i+k) z,tpI n2 tp,idI n3 id,.cl b3 44 [.func (.yield l) #[] #[]],marksI Ds]) (Inv:=fun k z=>Inv (posK (FoR es) e.kids i+k) z) z hinv (List.Perm.refl _) (fun _=>rfl) (by decide) (Y:=(Nat×Y)) (fun c _ y=>c=.ret∧y.1<(sub (FoR es) id).length) (fun y=>[J y.1 y.2,tpI n2 tp,idI n3 id,.cl b3 44 [.func (.yield l) #[] #[]],marksI Ds]) ?_ ?_ ?_
     ·intro lk l2 D2 k x z1 hx hz w1 M1;refine WP.region ?_;refine av ?_;refine WPL.nil (begun_of (i:=0) rfl ?_);refine WP.block ?_;refine sqR ?_;refine vl (v_load1 (u:=_) Tryz.isAgg44 rfl (fun w hw=>hw.cl_at (i:=9) rfl _ rfl)) ?_;refine gg ?_;refine WPL.ef (x_yieldC (hy (posK (FoR es) e.kids i+k) x z1 (by rw[hsub];exact pos_at (FoR es) hkid hx) hz) [3,7,8,6] [0,1,2,4,5,9,10] rfl (τ:=fun _=>[_,_,_,_,_,_,_,_,_,_,_]) (fun _=>rfl)) (fun o=>?_);refine WPL.fact (fun hf=>?_);refine gg ?_;refine WP.cond rfl (fun h33=>?_) (fun h33=>?_)
      ·obtain⟨y,rfl⟩:=isRight_of h33;have hlt:posK (FoR es) e.kids i+k<(sub (FoR es) id).length:=by rw[hsub];exact(List.getElem?_eq_some_iff.1 (pos_at (id:=id) (FoR es) hkid hx)).1
       exact WP.ret (fun w hw=>RoundQ.jump (i:=0) (.inl ⟨rfl,rfl⟩) rfl hw (fun w2 hw2=>.inr ⟨_,(posK (FoR es) e.kids i+k,y),rfl,⟨rfl,hlt⟩,(hw2.sel [0,1,2,7,3,4,10,8,9,5,6] (by decide))⟩))
      ·obtain⟨z2,rfl⟩:=isLeft_of h33;exact WP.skip (fun w hw=>RoundQ.normal (i:=0) rfl hw (fun w2 hw2=>.inl ⟨z2,rfl,(hf z2 rfl),(hw2.sel [0,1,2,7,3,4,10,8,9,5,6] (by decide))⟩))
     ·intro D z3 hz;refine fin_id (onto_of ?_);refine WP.region ?_
      iterate 2 refine av ?_
      exact nl fun w hw=>⟨(i+1,z3,D::Ds),(by simp only;omega),rfl,⟨rfl,rfl,rfl,jS,jI,rfl,trivial⟩,⟨⟨by simp only;omega,by simp only;rw[posK_succ (FoR es) hkid];exact hz⟩,by simp only;rw[posK_succ (FoR es) hkid];exact St.mark (hw.sel [7,8,0,4,5,6,3] (by decide))⟩⟩
     ·intro D c k y hf hk2;obtain⟨rfl,hlt⟩:=hf;obtain⟨yk,yy⟩:=y;exact WP.retM (D::Ds) (τ:=[treeI tp mb es,tpI n2 tp,idI n3 id,J yk yy]) (fun w hw=>St.unmark (St.mark hw.pk)) (fun _ h=>h) (fun w hw=>RetQ.of0 Tryz.results112 (.inl rfl) ⟨.inr (yk,yy),rfl,⟨fun z e=>(by cases e),fun p e=>(by cases e;exact hlt)⟩,hw⟩)
    ·have hi:i=e.kids.length:=by omega
     exact WP.exit fun w hw=>RetQ.marksE Ds (.inr rfl) (St.unmark (hw.sel [0,1,2,3,5] (by decide))) (fun w hw=>RetQ.of0 Tryz.results112 (.inl rfl) ⟨.inl z,rfl,⟨fun z9 e9=>(by cases e9;rw[hsub,←posK_all (FoR es),←hi];exact hinv),fun p e=>(by cases e)⟩,(by rw[show (sub (FoR es) id).length=posK (FoR es) e.kids i from by rw[hsub,←posK_all (FoR es),←hi]];exact hw)⟩)
theorem inside_iter (tp mb:Nat) (es:List PE) (hk:LOk es) {d:Int→Nat} (hF:WF (FoR es) d):∀(n:Nat) (id:Int) (n2 n3:Nat),64≤n+d id→
    IterOK Tryz.prog 112 [] [.pointer (some ⟨n2,0,none⟩),.pointer (some ⟨n3,0,none⟩)] [treeI tp mb es,tpI n2 tp,idI n3 id] intA (sub (FoR es) id)
  | 0, id, n2, n3, hn => inside_step tp mb es hk hF id n2 n3 fun kid m2 m3 hm => by
    cases e:FoR es id with
    | none=>simp[kidsF,e] at hm
    | some b=>have:=hF.deep id b e;omega
  | n + 1, id, n2, n3, hn => inside_step tp mb es hk hF id n2 n3 fun kid m2 m3 hm => by
    cases e:FoR es id with
    | none=>simp[kidsF,e] at hm
    | some b =>
      rw[kids_some e] at hm;have:=hF.kid_rank e hm;exact inside_iter tp mb es hk hF n kid m2 m3 (by omega)
theorem inside_pack (tp mb:Nat) (es:List PE) (hk:LOk es) {d:Int→Nat} (hF:WF (FoR es) d) (id:Int) (n2 n3:Nat):
    IterOK Tryz.prog 112 [] [.pointer (some ⟨n2,0,none⟩),.pointer (some ⟨n3,0,none⟩)] [bundle [treeI tp mb es,tpI n2 tp,idI n3 id]] intA (sub (FoR es) id):=
  (inside_iter tp mb es hk hF 64 id n2 n3 (by omega)).pack
theorem WF.len_le {F:Forest (List Value)} {d:Int→Nat} (hF:WF F d) (x:Int):(sub F x).length≤4096:=by
  have h:=nodup_len (l:=sub F x) (m:=(List.range 4096).map fun n:Nat=>(n:Int)) (hF.sub_nodup x) fun y hy=>by
    obtain⟨b,hb⟩:=some_has (sub_has hy);have:=hF.range y b hb;exact List.mem_map.2 ⟨y.toNat,List.mem_range.2 (by omega),by omega⟩
  simpa using h
theorem collectT_ct (tp mb:Nat) (es:List PE) (hk:LOk es) {d:Int→Nat} (hF:WF (FoR es) d) (id:Int) (n2 n3:Nat):
    Ct Tryz.prog 61 #[.func (.func 112) #[] #[.pointer (some ⟨n2,0,none⟩),.pointer (some ⟨n3,0,none⟩)]] [treeI tp mb es,tpI n2 tp,idI n3 id] (fun _=>True) (X:=Option Addr×Nat) (fun p=>.slice p.1 (sub (FoR es) id).length p.2) (fun _=>True)
      (fun p=>[treeI tp mb es,tpI n2 tp,idI n3 id,kidsI p.1 (sub (FoR es) id).length p.2 (sub (FoR es) id)]):=by
  have h:=collect_ct 112 [.pointer (some ⟨n2,0,none⟩),.pointer (some ⟨n3,0,none⟩)] Tryz.call112 (bundle [treeI tp mb es,tpI n2 tp,idI n3 id]) (sub (FoR es) id) (by have:=hF.len_le id;omega) (inside_pack tp mb es hk hF id n2 n3);intro w h1 h2 h3;have st:=St.pack (F:=[]) (by simpa using St.start h1 h2);refine(h w st.all st.disj h3).mono ?_
  rintro e w' ⟨p,rfl,hf,hs⟩
  refine⟨p,rfl,hf,?_⟩;have hs':=hs.unpack;rw[foots_bundle] at hs';exact hs'
theorem order_ct (tp mb:Nat) (es:List PE) (hk:LOk es) {d:Int→Nat} (hF:WF (FoR es) d):Ct Tryz.prog 22 #[.pointer (some ⟨tp,0,none⟩)] [treeI tp mb es] (fun _=>True) (X:=Option Addr×Nat) (fun p=>.slice p.1 (order (FoR es)).length p.2) (fun _=>True)
      (fun p=>[treeI tp mb es,kidsI p.1 (order (FoR es)).length p.2 (order (FoR es))]):=by
  refine Ci fun w0 _=>?_;refine gg ?_;refine eF (xC (inside_ct tp 0)) fun⟨m2,m3⟩ _=>?_;refine eF (xC (collectT_ct tp mb es hk hF 0 m2 m3)) fun⟨A5,c5⟩ _=>?_;refine gg ?_;exact WP.ret1 Tryz.results22 (fun _ h=>h) (fun w hw=>⟨(A5,c5),rfl,trivial,(hw.sel [0,3] (by decide))⟩)
theorem cutK_ne {l:List Int} {k:Nat} {y n:Int} (h:l[k]?=some y) (hn:y≠n):cutK (l.take (k+1)) n=cutK (l.take k) n++[y]:=by
  rw[take_snoc h,cutK,List.filter_append];simp[cutK,hn]
theorem cutK_eq {l:List Int} {k:Nat} {y n:Int} (h:l[k]?=some y) (hn:y=n):cutK (l.take (k+1)) n=cutK (l.take k) n:=by
  rw[take_snoc h,cutK,List.filter_append];simp[cutK,hn]
theorem cutK_le (l:List Int) (n:Int):(cutK l n).length≤l.length:=List.length_filter_le _ _
theorem Src.cut {w:World} {A:Option Addr} {l:List Int} (h:Src w A l.length (l.map (Value.int .i64))) (lo m q:Nat) (hm:m=lo→l.drop lo=[]) (hq:q≤l.length - lo):Src w (cutAddr A lo m 1) q (((l.drop lo).take q).map (Value.int .i64)):=by
  rcases h with ⟨rfl,h0⟩ | ⟨b,o,rfl,hc⟩
  · exact .inl ⟨by unfold cutAddr;split<;>rfl,by omega⟩
  · unfold cutAddr
    split
    · rename_i e
      rw[hm e];exact .inr ⟨b,o,rfl,fun j u hj=>by simp at hj⟩
    · refine .inr ⟨b, o + lo * 1, by simp [Addr.add], fun j u hj => ?_⟩
      rw[List.getElem?_map,List.getElem?_take] at hj
      split at hj
      · rw [List.getElem?_drop] at hj
        have h1:=hc (lo+j) u (by rw[List.getElem?_map,hj]);rw[show o+lo*1+j=o+(lo+j) by omega];exact h1
      · cases hj
theorem Src.rd {w:World} {A:Option Addr} {l:List Int} (h:Src w A l.length (l.map (Value.int .i64))):RdI w A l:=fun k x hx=>by
  have hk:=(List.getElem?_eq_some_iff.1 hx).1
  rcases h with ⟨rfl,h0⟩ | ⟨b,o,rfl,hc⟩
  · omega
  · refine ⟨b, o, rfl, fun j u hj => ?_⟩
    match j,hj with
    | 0, hj =>
      cases hj;have:=hc k (.int .i64 x) (by rw[List.getElem?_map,hx];rfl);rw[Nat.mul_one];exact this
    | j+1,hj=>simp at hj
theorem without_ct (A:Option Addr) (c:Nat) (l:List Int) (n:Int) (hl:l.length≤5000):Ct Tryz.prog 135 #[.slice A l.length c,.int .i64 n] [] (fun w=>Src w A l.length (l.map (Value.int .i64))) (X:=Option Addr×Nat) (fun p=>.slice p.1 (cutK l n).length p.2) (fun _=>True) (fun p=>[kidsI p.1 (cutK l n).length p.2 (cutK l n)]):=by
  refine Ci fun w0 hz0=>?_;have hz:=hz0.rd;refine sqR ?_;refine av ?_;refine nl (oo ?_);refine sqR ?_;refine av ?_;refine nl (oo ?_)
  iterate 2 refine sq ?_
  refine WP.pre ?_ (fun w hw=>hw.nilRow 3 1);refine gg ?_;refine WP.loopK (X:=Nat×Option Addr×Nat) [0,1] (fun p=>[(6,.int .i64 (p.1:Int)),(5,.slice p.2.1 (cutK (l.take p.1) n).length p.2.2)]) (fun p w=>p.1≤l.length∧St w0 (foots []) [kidsI p.2.1 (cutK (l.take p.1) n).length p.2.2 (cutK (l.take p.1) n)] w) (fun p=>l.length - p.1) (0,none,0) ⟨rfl,rfl,trivial⟩ (fun w hw=>⟨Nat.zero_le _,hw⟩) (fun p ρ0=>?_);obtain⟨k,zA,zc⟩:=p;dsimp only;refine WP.fact (fun hkl=>?_);refine gg ?_;refine WP.condP rfl (fun h10=>?_) (fun h10=>?_)
  ·obtain⟨y,hy⟩:∃y,l[k]?=some y:=⟨_,List.getElem?_eq_getElem (by omega)⟩;obtain⟨ab,ao,rfl,hc⟩:=hz k y hy;have hcl:=cutK_le (l.take k) n;rw[List.length_take] at hcl;refine gg ?_;refine vl (vO hc) ?_;refine gg ?_;refine WP.condP rfl (fun h18=>?_) (fun h18=>?_)
   ·have hck:=cutK_ne hy h18;refine gg ?_;refine vl (vO hc) ?_;refine WPL.ef (xN (L1 rfl)) fun g24=>?_;refine WPL.ef (xP 0 1) fun⟨A25,c25⟩=>?_;refine av ?_;refine nl (oo ?_);refine WP.region ?_
    iterate 3 refine av ?_
    exact nl fun w hw=>⟨rfl,(k+1,A25,c25),(by simp only;omega),⟨rfl,(by show Value.slice A25 ((cutK (l.take k) n).length+1) c25=Value.slice A25 (cutK (l.take (k+1)) n).length c25;rw[hck,List.length_append];rfl),jS,jI,trivial⟩,⟨by simp only;omega,by have h:=(hw.sel [0] (by decide));rw[show kidsI A25 (cutK (l.take (k+1)) n).length c25 (cutK (l.take (k+1)) n)=.row 3 1 A25 ((cutK (l.take k) n).length+1) c25 ((cutK (l.take k) n).map (Value.int .i64)++[.int .i64 y]) by rw[kidsI,hck,List.length_append,List.map_append];rfl];exact h⟩⟩
   ·have hck:=cutK_eq hy (Decidable.not_not.1 h18);refine WP.skip (onto_of ?_);refine WP.region ?_
    iterate 3 refine av ?_
    exact nl fun w hw=>⟨rfl,(k+1,zA,zc),(by simp only;omega),⟨rfl,(by show Value.slice zA (cutK (l.take k) n).length zc=Value.slice zA (cutK (l.take (k+1)) n).length zc;rw[hck]),jS,jI,trivial⟩,⟨by simp only;omega,by rw[hck];exact hw.pk⟩⟩
  ·obtain rfl:k=l.length:=by omega
   rw[List.take_of_length_le (Nat.le_refl _)];refine WP.exit (onto_of ?_);refine gg ?_;exact rt1 fun w hw=>⟨(zA,zc),rfl,trivial,hw⟩
theorem with_ct (A:Option Addr) (c:Nat) (l:List Int) (k:Nat) (hk:k≤l.length) (hlc:l.length≤c) (n:Int) (hl:l.length≤5000):Ct Tryz.prog 138 #[.slice A l.length c,.int .i64 k,.int .i64 n] [] (fun w=>Src w A l.length (l.map (Value.int .i64))) (X:=Option Addr×Nat) (fun p=>.slice p.1 (l.length+1) p.2) (fun _=>True) (fun p=>[kidsI p.1 (l.length+1) p.2 (insAt l k n)]):=by
  refine Ci fun w0 hz=>?_;refine sqR ?_;refine av ?_;refine nl (oo ?_);refine sqR ?_;refine av ?_;refine nl (oo ?_);refine sq ?_;refine WP.pre ?_ (fun w hw=>hw.nilRow 3 1);refine WP.region ?_
  iterate 3 refine av ?_
  refine vl (v_slice (kl:=0) (l:=0) (h:=k) Tryz.underlying49 Tryz.sizeOf3 rfl rfl ⟨rfl,rfl⟩ (by omega) (by omega)) ?_;refine WPL.ef (x_append (sz:=1) (σ':=fun _=>[_]) Tryz.underlying49 int_info rfl (by decide) rfl rfl (i:=0) rfl (fun w hw=>(hw.oldSrc hz (fun _ _=>not_foots_nil _)).cut 0 c (k - 0) (fun e=>by rw[List.drop_eq_nil_of_le];omega) (by omega)) (by simp;omega) (ints_one _) (by omega) (by omega) (fun _=>rfl)) (fun⟨A12,c12⟩=>?_);refine gg ?_;refine WPL.ef (xN (L1 rfl)) fun g15=>?_;refine WPL.ef (xP 0 1) fun⟨A16,c16⟩=>?_;refine av ?_;refine nl (oo ?_);refine sqR ?_
  iterate 3 refine av ?_
  refine vl (v_slice (kh:=0) (l:=k) (h:=l.length) Tryz.underlying49 Tryz.sizeOf3 rfl ⟨rfl,rfl⟩ rfl (by omega) (by omega)) ?_;refine WPL.ef (x_append (sz:=1) (σ':=fun _=>[_,_]) Tryz.underlying49 int_info rfl (by decide) rfl rfl (i:=0) rfl (fun w hw=>(hw.oldSrc hz (fun _ _=>not_foots_nil _)).cut k c (l.length - k) (fun e=>List.drop_eq_nil_of_le (by omega)) (by omega)) (by simp) (ints_one _) (by omega) (by omega) (fun _=>rfl)) (fun⟨A21,c21⟩=>?_);refine gg ?_;exact WP.ret1 Tryz.results138 (fun _ h=>h) (fun w hw=>⟨(A21,c21),by show Value.slice A21 _ c21=Value.slice A21 _ c21;congr 1;omega,trivial,by have h:=(hw.sel [0] (by decide));rw[show 0+(k - 0)+1+(l.length - k)=l.length+1 by omega,show ([]:List Value)++((l.drop 0).take (k - 0)).map (Value.int .i64)++[.int .i64 n]++((l.drop k).take (l.length - k)).map (Value.int .i64)=(insAt l k n).map (Value.int .i64) by rw[show (l.drop k).take (l.length - k)=l.drop k from List.take_of_length_le (by rw[List.length_drop];exact Nat.le_refl _)];simp[insAt]] at h;exact h⟩)
def LS (F:Forest (List Value)) (x:Int) (l:List Int) (k:Nat):List Int:=x::(l.take k).flatMap (sub F)
theorem LS_succ (F:Forest (List Value)) (x:Int) {l:List Int} {k:Nat} {y:Int} (h:l[k]?=some y):LS F x l (k+1)=LS F x l k++sub F y:=by
  unfold LS;rw[take_snoc h,List.flatMap_append];simp
theorem LS_le (F:Forest (List Value)) (x:Int) (l:List Int) (k:Nat):(LS F x l k).length≤(x::l.flatMap (sub F)).length:=by
  have h:l.flatMap (sub F)=(l.take k).flatMap (sub F)++(l.drop k).flatMap (sub F):=by rw[←List.flatMap_append,List.take_append_drop]
  rw[h];simp only[LS,List.length_cons,List.length_append];omega
theorem rinside_step (rp g bc:Nat) (bs:List RB) (hk:ROk bs) {d:Int→Nat} (hF:WF (absR bs) d) (x:Int)
    (ih:∀kid∈kidsF (absR bs) x,Ct Tryz.prog 55 #[.pointer (some ⟨rp,0,none⟩),.int .i64 kid] [refI rp g bc bs] (fun _=>True) (X:=Option Addr×Nat) (fun p=>.slice p.1 (sub (absR bs) kid).length p.2) (fun _=>True) (fun p=>[refI rp g bc bs,kidsI p.1 (sub (absR bs) kid).length p.2 (sub (absR bs) kid)])):
    Ct Tryz.prog 55 #[.pointer (some ⟨rp,0,none⟩),.int .i64 x] [refI rp g bc bs] (fun _=>True) (X:=Option Addr×Nat) (fun p=>.slice p.1 (sub (absR bs) x).length p.2) (fun _=>True) (fun p=>[refI rp g bc bs,kidsI p.1 (sub (absR bs) x).length p.2 (sub (absR bs) x)]):=by
  refine Ci fun w0 _=>?_;refine gg ?_;refine eF (xC (rhas_ct rp g bc bs hk x)) fun _ _=>?_;refine gg ?_;refine WP.cond rfl (fun h10=>?_) (fun h10=>?_)
  ·have hno:hasF (absR bs) x=false:=by simpa using h10
   have hnil:sub (absR bs) x=[]:=sub_none (none_has hno);refine gg ?_;exact rt1 fun w hw=>⟨(none,0),by rw[hnil];rfl,trivial,by rw[hnil];exact hw.nilRow 3 1⟩
  ·obtain⟨i,b,rfl,hb,hl⟩:=absR_has (bs:=bs) (x:=x) (by simpa using h10);have hbb:=absR_at hb hl;have hib:=(List.getElem?_eq_some_iff.1 hb).1;have hsub:=hF.sub_eq hbb;have hkb:b.kids.length≤4096:=hF.kids_le hbb;have hsl:=hF.len_le (i:Int);refine gg ?_;refine WPL.ef (xN (L1 rfl)) fun g12=>?_;refine gg ?_;refine WP.loopK (X:=Nat×Option Addr×Nat) [0,1] (fun p=>[(6,.int .i64 (p.1:Int)),(5,.slice p.2.1 (LS (absR bs) i b.kids p.1).length p.2.2)]) (fun p w=>p.1≤b.kids.length∧St w0 (foots [refI rp g bc bs]) [refI rp g bc bs,kidsI p.2.1 (LS (absR bs) i b.kids p.1).length p.2.2 (LS (absR bs) i b.kids p.1)] w) (fun p=>b.kids.length - p.1) (0,some ⟨g12,0,none⟩,1) ⟨rfl,rfl,trivial⟩ (fun w hw=>⟨Nat.zero_le _,(hw.sel [0,1] (by decide))⟩) (fun p ρ0=>?_);obtain⟨k,zA,zc⟩:=p;dsimp only;refine WP.fact (fun hkl=>?_);refine sq ?_;refine sqR ?_
   iterate 4 refine av ?_
   refine vl (v_load1 (u:=.slice _ _ _) Tryz.isAgg153 rfl (fun w hw=>hw.refRoot (i:=0) rfl)) ?_
   iterate 3 refine av ?_
   refine vl (v_load1 (u:=.slice _ _ _) Tryz.isAgg49 rfl (fun w hw=>hw.refAt (i:=0) rfl hk hb 2 (us:=[.slice b.A b.kids.length b.c]) rfl)) ?_;refine gg ?_;refine WP.condP rfl (fun h23=>?_) (fun h23=>?_)
   ·obtain⟨kid,hkid⟩:∃kid,b.kids[k]?=some kid:=⟨_,List.getElem?_eq_getElem (by omega)⟩;have hl1:=LS_le (absR bs) i b.kids k;simp only at hsub;rw[←hsub] at hl1;have hl2:=hF.len_le kid;refine WP.holds (p:=∃kb ko,b.A=some ⟨kb,ko,none⟩) (fun w hw=>by obtain⟨kb,ko,e1,_⟩:=(hw.refKids (i:=0) rfl hb).1 k kid hkid;exact⟨kb,ko,e1⟩) (fun⟨kb,ko,hbA⟩=>?_);refine WP.skip (onto_of ?_);refine sq ?_;refine WP.block ?_;refine WP.region ?_
    iterate 5 refine av ?_
    refine vl (v_load1 (u:=.slice _ _ _) Tryz.isAgg153 rfl (fun w hw=>hw.refRoot (i:=0) rfl)) ?_
    iterate 3 refine av ?_
    refine vl (v_load1 (u:=.slice _ _ _) Tryz.isAgg49 rfl (fun w hw=>hw.refAt (i:=0) rfl hk hb 2 (us:=[.slice b.A b.kids.length b.c]) rfl)) ?_;refine av ?_;rw[hbA];refine av ?_;refine vl (v_load1 (u:=.int .i64 _) Tryz.isAgg3 rfl (fun w hw=>by obtain⟨b1,o1,e1,hc⟩:=(hw.refKids (i:=0) rfl hb).1 k kid hkid;rw[hbA] at e1;cases e1;exact hc)) ?_;refine eF (xC (ih kid (by rw[kids_some hbb];exact List.mem_of_getElem? hkid))) fun⟨A39,c39⟩ _=>?_;refine WPL.ef (xP 0 2 (hl:=by simp) (h1:=ints_one _)) fun⟨A40,c40⟩=>?_;refine av ?_;refine nl (oo ?_);refine WP.region ?_
    iterate 3 refine av ?_
    exact nl fun w hw=>⟨rfl,(k+1,A40,c40),(by simp only;omega),⟨rfl,(by show Value.slice A40 ((LS (absR bs) i b.kids k).length+(sub (absR bs) kid).length) c40=Value.slice A40 (LS (absR bs) i b.kids (k+1)).length c40;rw[LS_succ _ _ hkid,List.length_append]),jP,jI,trivial⟩,⟨by simp only;omega,by have h:=(hw.sel [1,0] (by decide));simp only;rw[show kidsI A40 (LS (absR bs) i b.kids (k+1)).length c40 (LS (absR bs) i b.kids (k+1))=.row 3 1 A40 ((LS (absR bs) i b.kids k).length+(sub (absR bs) kid).length) c40 ((LS (absR bs) i b.kids k).map (Value.int .i64)++(sub (absR bs) kid).map (Value.int .i64)) by rw[kidsI,LS_succ _ _ hkid,List.length_append,List.map_append]];exact h⟩⟩
   ·obtain rfl:k=b.kids.length:=by omega
    have hsub2:(sub (absR bs) i)=(LS (absR bs) i b.kids b.kids.length):=by rw[hsub,LS,List.take_of_length_le (Nat.le_refl _)]
    refine WP.exit (onto_of ?_);refine gg ?_;exact rt1 fun w hw=>⟨(zA,zc),by rw[hsub2];rfl,trivial,by rw[hsub2];exact hw.pk⟩
theorem rinside_all (rp g bc:Nat) (bs:List RB) (hk:ROk bs) {d:Int→Nat} (hF:WF (absR bs) d):∀(n:Nat) (x:Int),64≤n+d x→
    Ct Tryz.prog 55 #[.pointer (some ⟨rp,0,none⟩),.int .i64 x] [refI rp g bc bs] (fun _=>True) (X:=Option Addr×Nat) (fun p=>.slice p.1 (sub (absR bs) x).length p.2) (fun _=>True) (fun p=>[refI rp g bc bs,kidsI p.1 (sub (absR bs) x).length p.2 (sub (absR bs) x)])
  | 0, x, hn => rinside_step rp g bc bs hk hF x fun kid hm => by
    cases e:absR bs x with
    | none=>simp[kidsF,e] at hm
    | some b=>have:=hF.deep x b e;omega
  | n + 1, x, hn => rinside_step rp g bc bs hk hF x fun kid hm => by
    cases e:absR bs x with
    | none=>simp[kidsF,e] at hm
    | some b =>
      rw[kids_some e] at hm;have:=hF.kid_rank e hm;exact rinside_all rp g bc bs hk hF n kid (by omega)
theorem rinside_ct (rp g bc:Nat) (bs:List RB) (hk:ROk bs) {d:Int→Nat} (hF:WF (absR bs) d) (x:Int):
    Ct Tryz.prog 55 #[.pointer (some ⟨rp,0,none⟩),.int .i64 x] [refI rp g bc bs] (fun _=>True) (X:=Option Addr×Nat) (fun p=>.slice p.1 (sub (absR bs) x).length p.2) (fun _=>True) (fun p=>[refI rp g bc bs,kidsI p.1 (sub (absR bs) x).length p.2 (sub (absR bs) x)]):=
  rinside_all rp g bc bs hk hF 64 x (by omega)
theorem rlen_ct (rp g bc:Nat) (bs:List RB) (hk:ROk bs) {d:Int→Nat} (hF:WF (absR bs) d):
    Ct Tryz.prog 140 #[.pointer (some ⟨rp,0,none⟩)] [refI rp g bc bs] (fun _=>True) (X:=Unit) (fun _=>.int .i64 (lenF (absR bs))) (fun _=>True) (fun _=>[refI rp g bc bs]):=by
  refine Ci fun w0 _=>?_;refine gg ?_;refine eF (xC (rinside_ct rp g bc bs hk hF 0)) fun⟨A4,c4⟩ _=>?_;refine gg ?_;exact rt1 fun w hw=>⟨(),rfl,trivial,hw.pk⟩
theorem intAt {l:List Int} {k:Nat} {x:Int} (h:l[k]?=some x):(l.map (Value.int .i64))[k]?=some (.int .i64 x):=by rw[List.getElem?_map,h];rfl
theorem takes {cs:List Value} (hs:SOk cs):∀(n o:Nat),o+n≤55→(nums cs).take o++(List.range' o n).map (val cs)=(nums cs).take (o+n)
  | 0,o,_=>by simp
  | n + 1, o, h => by
    rw[List.range'_succ,List.map_cons,←List.singleton_append,←List.append_assoc,hs.step o (by omega),takes hs n (o+1) (by omega)]
    congr 1;omega
def lenPos2:List Nat:=[3,5,7,9,11,13,41,15,23,17,25,19,27,21,29]
def sizPos2:List Nat:=[46,53,54,31,35,32,36,33,37,34,38]
def lens2 (cs:List Value):List (Int×Int):=lenPos2.map fun j=>(val cs j,val cs (j+1))
def sizes2 (cs:List Value):List Int:=sizPos2.map (val cs)
def kinds7 (cs:List Value):Bool:=within (val cs 0) 0 3&&within (val cs 1) 0 4&&within (val cs 2) 0 2&&within (val cs 43) 0 5&&within (val cs 44) 0 3&&within (val cs 49) 0 2&&within (val cs 50) 0 3
theorem validB_ref (cs:List Value):validB cs=(kinds7 cs&&(lens2 cs).all (fun p=>lenOk p.1 p.2)&&(sizes2 cs).all (fun n=>within n 0 1048576)&&within (val cs 39) 0 1000&&within (val cs 40) 0 1000&&within (val cs 48) (-1048576) 1048576):=by
  have h1:(lens2 cs).all (fun p=>lenOk p.1 p.2)=lensB cs:=by
    unfold lensB lens2 lensOf;rw[←all_any (fun p:Int×Int=>lenOk p.1 p.2)];exact all_perm (List.Perm.map _ (by decide))
  have h2:(sizes2 cs).all (fun n=>within n 0 1048576)=sizesB cs:=by
    unfold sizesB sizes2 sizesOf;rw[←all_any (fun n:Int=>within n 0 1048576)];exact all_perm (List.Perm.map _ (by decide))
  rw[h1,h2];unfold validB kinds7 kindsB waysB;simp only[Bool.and_assoc]
theorem all_more {α:Type} {p:α→Bool} {l:List α} {k:Nat} {x:α} (hx:l[k]?=some x):(l.take (k+1)).all p=((l.take k).all p&&p x):=by
  rw[List.take_add_one,hx,List.all_append];simp
theorem rvalid_ct (cs:List Value) (hs:SOk cs):Ct Tryz.prog 139 #[.agg cs.toArray] [] (fun _=>True) (X:=Unit) (fun _=>.bool (validB cs)) (fun _=>True) (fun _=>[]):=by
  refine Ci fun w0 _=>?_;refine gg ?_;refine WPL.ef (xB (us:=cs)) fun sty=>?_;refine av ?_;refine nl (oo ?_);refine WP.midS [1] [(3,.bool (kinds7 cs))] ?_ (fun ρ0=>?_)
  ·refine WP.region ?_;refine av ?_;refine vl (v_load1 (u:=.int .i64 _) Tryz.isAgg28 rfl (fun w hw=>hw.cl_at (i:=0) rfl 0 (cell_of (hs.int 0 (by decide) (by decide))))) ?_;refine vl (vC (in169_any _ _ _ _)) ?_;refine av ?_;refine WPL.splitB 12 rfl (fun h12=>?_) (fun h12=>?_)
   ·refine ag ?_;refine vg (v_load1 (u:=.int .i64 _) Tryz.isAgg29 rfl (fun w hw=>hw.cl_at (i:=0) rfl 1 (cell_of (hs.int 1 (by decide) (by decide))))) ?_;refine vg (vC (in169_any _ _ _ _)) ?_
    iterate 2 refine av ?_
    refine WPL.splitB 17 rfl (fun h17=>?_) (fun h17=>?_)
    ·refine ag ?_;refine vg (v_load1 (u:=.int .i64 _) Tryz.isAgg30 rfl (fun w hw=>hw.cl_at (i:=0) rfl 2 (cell_of (hs.int 2 (by decide) (by decide))))) ?_;refine vg (vC (in169_any _ _ _ _)) ?_
     iterate 2 refine av ?_
     refine WPL.splitB 22 rfl (fun h22=>?_) (fun h22=>?_)
     ·refine ag ?_;refine vg (v_load1 (u:=.int .i64 _) Tryz.isAgg36 rfl (fun w hw=>hw.cl_at (i:=0) rfl 43 (cell_of (hs.int 43 (by decide) (by decide))))) ?_;refine vg (vC (in169_any _ _ _ _)) ?_
      iterate 2 refine av ?_
      refine WPL.splitB 27 rfl (fun h27=>?_) (fun h27=>?_)
      ·refine ag ?_;refine vg (v_load1 (u:=.int .i64 _) Tryz.isAgg37 rfl (fun w hw=>hw.cl_at (i:=0) rfl 44 (cell_of (hs.int 44 (by decide) (by decide))))) ?_;refine vg (vC (in169_any _ _ _ _)) ?_
       iterate 2 refine av ?_
       refine WPL.splitB 32 rfl (fun h32=>?_) (fun h32=>?_)
       ·refine ag ?_;refine vg (v_load1 (u:=.int .i64 _) Tryz.isAgg38 rfl (fun w hw=>hw.cl_at (i:=0) rfl 49 (cell_of (hs.int 49 (by decide) (by decide))))) ?_;refine vg (vC (in169_any _ _ _ _)) ?_
        iterate 2 refine av ?_
        refine WPL.splitB 37 rfl (fun h37=>?_) (fun h37=>?_)
        ·refine ag ?_;refine vg (v_load1 (u:=.int .i64 _) Tryz.isAgg39 rfl (fun w hw=>hw.cl_at (i:=0) rfl 50 (cell_of (hs.int 50 (by decide) (by decide))))) ?_;refine vg (vC (in169_any _ _ _ _)) ?_
         iterate 2 refine av ?_
         exact nl fun w hw=>⟨rfl,⟨(congrArg Value.bool (by simp only[kinds7, *,Bool.and_true,Bool.and_false,Bool.true_and,Bool.false_and,Bool.not_true,Bool.not_false])),rfl,trivial⟩,hw⟩
        ·iterate 3 refine sk ?_
         iterate 2 refine av ?_
         exact nl fun w hw=>⟨rfl,⟨(congrArg Value.bool (by simp only[kinds7, *,Bool.and_true,Bool.and_false,Bool.true_and,Bool.false_and,Bool.not_true,Bool.not_false])),rfl,trivial⟩,hw⟩
       ·iterate 3 refine sk ?_
        iterate 2 refine av ?_
        iterate 3 refine sk ?_
        iterate 2 refine av ?_
        exact nl fun w hw=>⟨rfl,⟨(congrArg Value.bool (by simp only[kinds7, *,Bool.and_true,Bool.and_false,Bool.true_and,Bool.false_and,Bool.not_true,Bool.not_false])),rfl,trivial⟩,hw⟩
      ·iterate 3 refine sk ?_
       iterate 2 refine av ?_
       iterate 3 refine sk ?_
       iterate 2 refine av ?_
       iterate 3 refine sk ?_
       iterate 2 refine av ?_
       exact nl fun w hw=>⟨rfl,⟨(congrArg Value.bool (by simp only[kinds7, *,Bool.and_true,Bool.and_false,Bool.true_and,Bool.false_and,Bool.not_true,Bool.not_false])),rfl,trivial⟩,hw⟩
     ·iterate 3 refine sk ?_
      iterate 2 refine av ?_
      iterate 3 refine sk ?_
      iterate 2 refine av ?_
      iterate 3 refine sk ?_
      iterate 2 refine av ?_
      iterate 3 refine sk ?_
      iterate 2 refine av ?_
      exact nl fun w hw=>⟨rfl,⟨(congrArg Value.bool (by simp only[kinds7, *,Bool.and_true,Bool.and_false,Bool.true_and,Bool.false_and,Bool.not_true,Bool.not_false])),rfl,trivial⟩,hw⟩
    ·iterate 3 refine sk ?_
     iterate 2 refine av ?_
     iterate 3 refine sk ?_
     iterate 2 refine av ?_
     iterate 3 refine sk ?_
     iterate 2 refine av ?_
     iterate 3 refine sk ?_
     iterate 2 refine av ?_
     iterate 3 refine sk ?_
     iterate 2 refine av ?_
     exact nl fun w hw=>⟨rfl,⟨(congrArg Value.bool (by simp only[kinds7, *,Bool.and_true,Bool.and_false,Bool.true_and,Bool.false_and,Bool.not_true,Bool.not_false])),rfl,trivial⟩,hw⟩
   ·iterate 3 refine sk ?_
    iterate 2 refine av ?_
    iterate 3 refine sk ?_
    iterate 2 refine av ?_
    iterate 3 refine sk ?_
    iterate 2 refine av ?_
    iterate 3 refine sk ?_
    iterate 2 refine av ?_
    iterate 3 refine sk ?_
    iterate 2 refine av ?_
    iterate 3 refine sk ?_
    iterate 2 refine av ?_
    exact nl fun w hw=>⟨rfl,⟨(congrArg Value.bool (by simp only[kinds7, *,Bool.and_true,Bool.and_false,Bool.true_and,Bool.false_and,Bool.not_true,Bool.not_false])),rfl,trivial⟩,hw⟩
  ·refine sqR ?_;refine av ?_;refine vl (v_loadA (cs:=[.int .i64 _,.int .i64 _]) Tryz.isAgg33 Tryz.sizeOf33 rfl (fun w hw=>hw.cl_at (i:=0) rfl 3 (hs.segE 2 3 (by decide) (by decide) rfl rfl))) ?_;refine av ?_;refine vl (v_loadA (cs:=[.int .i64 _,.int .i64 _]) Tryz.isAgg33 Tryz.sizeOf33 rfl (fun w hw=>hw.cl_at (i:=0) rfl 5 (hs.segE 2 5 (by decide) (by decide) rfl rfl))) ?_;refine av ?_;refine vl (v_loadA (cs:=[.int .i64 _,.int .i64 _]) Tryz.isAgg33 Tryz.sizeOf33 rfl (fun w hw=>hw.cl_at (i:=0) rfl 7 (hs.segE 2 7 (by decide) (by decide) rfl rfl))) ?_;refine av ?_;refine vl (v_loadA (cs:=[.int .i64 _,.int .i64 _]) Tryz.isAgg33 Tryz.sizeOf33 rfl (fun w hw=>hw.cl_at (i:=0) rfl 9 (hs.segE 2 9 (by decide) (by decide) rfl rfl))) ?_;refine av ?_;refine vl (v_loadA (cs:=[.int .i64 _,.int .i64 _]) Tryz.isAgg33 Tryz.sizeOf33 rfl (fun w hw=>hw.cl_at (i:=0) rfl 11 (hs.segE 2 11 (by decide) (by decide) rfl rfl))) ?_;refine av ?_;refine vl (v_loadA (cs:=[.int .i64 _,.int .i64 _]) Tryz.isAgg33 Tryz.sizeOf33 rfl (fun w hw=>hw.cl_at (i:=0) rfl 13 (hs.segE 2 13 (by decide) (by decide) rfl rfl))) ?_;refine av ?_;refine vl (v_loadA (cs:=[.int .i64 _,.int .i64 _]) Tryz.isAgg33 Tryz.sizeOf33 rfl (fun w hw=>hw.cl_at (i:=0) rfl 41 (hs.segE 2 41 (by decide) (by decide) rfl rfl))) ?_;refine WPL.ef (xN rfl (us:=[.int .i64 _,.int .i64 _,.int .i64 _,.int .i64 _,.int .i64 _,.int .i64 _,.int .i64 _,.int .i64 _,.int .i64 _,.int .i64 _,.int .i64 _,.int .i64 _,.int .i64 _,.int .i64 _])) fun g56=>?_;refine av ?_;refine nl (oo ?_);refine sqR ?_;refine av ?_;refine vl (v_load1 (u:=.int .i64 _) Tryz.isAgg3 rfl (fun w hw=>hw.cl_at (i:=0) rfl 46 (cell_of (hs.int 46 (by decide) (by decide))))) ?_
   iterate 2 refine av ?_
   refine vl (v_load1 (u:=.int .i64 _) Tryz.isAgg3 rfl (fun w hw=>hw.cl_at (i:=0) rfl 53 (cell_of (hs.int 53 (by decide) (by decide))))) ?_
   iterate 2 refine av ?_
   refine vl (v_load1 (u:=.int .i64 _) Tryz.isAgg3 rfl (fun w hw=>hw.cl_at (i:=0) rfl 54 (cell_of (hs.int 54 (by decide) (by decide))))) ?_;refine WPL.ef (xN rfl (us:=[.int .i64 _,.int .i64 _,.int .i64 _])) fun g65=>?_;refine gg ?_;refine WP.loopN 5 ?_;refine WPR.succ ?_;refine gg ?_;refine WP.condT rfl ?_;refine gg ?_;refine wP none [0,2] [pT 0,pT 1,pT 2,pT 3,pT 4,pT 5,pT 6,pT 7,pT 8,pF 9,pF 10,pT 11] ?_
   iterate 4 refine ad ?_
   refine tE rfl (v_loadA (cs:=[.int .i64 _,.int .i64 _]) Tryz.isAgg33 Tryz.sizeOf33 rfl (fun w hw=>hw.cl_at (i:=0) rfl 15 (hs.segE 2 15 (by decide) (by decide) rfl rfl))) ?_
   iterate 3 refine ad ?_
   refine tE rfl (v_loadA (cs:=[.int .i64 _,.int .i64 _]) Tryz.isAgg33 Tryz.sizeOf33 rfl (fun w hw=>hw.cl_at (i:=0) rfl 23 (hs.segE 2 23 (by decide) (by decide) rfl rfl))) ?_;refine dE (xN rfl (us:=[.int .i64 _,.int .i64 _,.int .i64 _,.int .i64 _])) fun g79=>?_;refine WPD.ef rfl (x_append (sz:=2) (σ':=fun _=>[_,_,_,_]) Tryz.underlying156 info33 rfl (by decide) rfl rfl (i:=1) rfl (fun w hw=>hw.src_row (i:=3) rfl) rfl (by simp[Value.oneCell']) (by decide) (by decide) (fun _=>rfl)) (fun _ _ _ h=>h.sel [0,2] (by decide)) (fun⟨A80_0,c80_0⟩=>?_);refine gg ?_;refine wP none [0,1,3] [pT 0,pT 1,pT 2,pT 3,pT 4,pT 5,pT 6,pT 7,pT 8,pF 9,pF 10,pT 11] ?_
   iterate 4 refine ad ?_
   refine tE rfl (v_load1 (u:=.int .i64 _) Tryz.isAgg3 rfl (fun w hw=>hw.cl_at (i:=0) rfl 31 (cell_of (hs.int 31 (by decide) (by decide))))) ?_
   iterate 3 refine ad ?_
   refine tE rfl (v_load1 (u:=.int .i64 _) Tryz.isAgg3 rfl (fun w hw=>hw.cl_at (i:=0) rfl 35 (cell_of (hs.int 35 (by decide) (by decide))))) ?_;refine dE (xN (L2 rfl)) fun g90=>?_;refine WPD.ef rfl (x_append (sz:=1) (σ':=fun _=>[_,_,_,_,_]) Tryz.underlying49 int_info rfl (by decide) rfl rfl (i:=2) rfl (fun w hw=>hw.src_row (i:=4) rfl) rfl (by simp[Value.oneCell']) (by decide) (by decide) (fun _=>rfl)) (fun _ _ _ h=>h.sel [0,1,3] (by decide)) (fun⟨A91_0,c91_0⟩=>?_);refine ad ?_;refine WPD.nil (onto_of ?_);refine WP.region ?_
   iterate 3 refine av ?_
   refine WPL.nil (rounds_of ?_);refine WPR.succ ?_;refine gg ?_;refine WP.condT rfl ?_;refine gg ?_;refine wP none [0,2,3,4] [pT 0,pT 1,pT 2,pT 3,pT 4,pT 5,pT 6,pT 7,pT 8,pF 9,pF 10,pT 11] ?_
   iterate 4 refine ad ?_
   refine tE rfl (v_loadA (cs:=[.int .i64 _,.int .i64 _]) Tryz.isAgg33 Tryz.sizeOf33 rfl (fun w hw=>hw.cl_at (i:=0) rfl 17 (hs.segE 2 17 (by decide) (by decide) rfl rfl))) ?_
   iterate 3 refine ad ?_
   refine tE rfl (v_loadA (cs:=[.int .i64 _,.int .i64 _]) Tryz.isAgg33 Tryz.sizeOf33 rfl (fun w hw=>hw.cl_at (i:=0) rfl 25 (hs.segE 2 25 (by decide) (by decide) rfl rfl))) ?_;refine dE (xN rfl (us:=[.int .i64 _,.int .i64 _,.int .i64 _,.int .i64 _])) fun g79=>?_;refine WPD.ef rfl (x_append (sz:=2) (σ':=fun _=>[_,_,_,_,_,_]) Tryz.underlying156 info33 rfl (by decide) rfl rfl (i:=1) rfl (fun w hw=>hw.src_row (i:=5) rfl) rfl (by simp[Value.oneCell']) (by decide) (by decide) (fun _=>rfl)) (fun _ _ _ h=>h.sel [0,2,3,4] (by decide)) (fun⟨A80_1,c80_1⟩=>?_);refine gg ?_;refine wP none [0,1,3,4,5] [pT 0,pT 1,pT 2,pT 3,pT 4,pT 5,pT 6,pT 7,pT 8,pF 9,pF 10,pT 11] ?_
   iterate 4 refine ad ?_
   refine tE rfl (v_load1 (u:=.int .i64 _) Tryz.isAgg3 rfl (fun w hw=>hw.cl_at (i:=0) rfl 32 (cell_of (hs.int 32 (by decide) (by decide))))) ?_
   iterate 3 refine ad ?_
   refine tE rfl (v_load1 (u:=.int .i64 _) Tryz.isAgg3 rfl (fun w hw=>hw.cl_at (i:=0) rfl 36 (cell_of (hs.int 36 (by decide) (by decide))))) ?_;refine dE (xN (L2 rfl)) fun g90=>?_;refine WPD.ef rfl (x_append (sz:=1) (σ':=fun _=>[_,_,_,_,_,_,_]) Tryz.underlying49 int_info rfl (by decide) rfl rfl (i:=2) rfl (fun w hw=>hw.src_row (i:=6) rfl) rfl (by simp[Value.oneCell']) (by decide) (by decide) (fun _=>rfl)) (fun _ _ _ h=>h.sel [0,1,3,4,5] (by decide)) (fun⟨A91_1,c91_1⟩=>?_);refine ad ?_;refine WPD.nil (onto_of ?_);refine WP.region ?_
   iterate 3 refine av ?_
   refine WPL.nil (rounds_of ?_);refine WPR.succ ?_;refine gg ?_;refine WP.condT rfl ?_;refine gg ?_;refine wP none [0,2,3,4,5,6] [pT 0,pT 1,pT 2,pT 3,pT 4,pT 5,pT 6,pT 7,pT 8,pF 9,pF 10,pT 11] ?_
   iterate 4 refine ad ?_
   refine tE rfl (v_loadA (cs:=[.int .i64 _,.int .i64 _]) Tryz.isAgg33 Tryz.sizeOf33 rfl (fun w hw=>hw.cl_at (i:=0) rfl 19 (hs.segE 2 19 (by decide) (by decide) rfl rfl))) ?_
   iterate 3 refine ad ?_
   refine tE rfl (v_loadA (cs:=[.int .i64 _,.int .i64 _]) Tryz.isAgg33 Tryz.sizeOf33 rfl (fun w hw=>hw.cl_at (i:=0) rfl 27 (hs.segE 2 27 (by decide) (by decide) rfl rfl))) ?_;refine dE (xN rfl (us:=[.int .i64 _,.int .i64 _,.int .i64 _,.int .i64 _])) fun g79=>?_;refine WPD.ef rfl (x_append (sz:=2) (σ':=fun _=>[_,_,_,_,_,_,_,_]) Tryz.underlying156 info33 rfl (by decide) rfl rfl (i:=1) rfl (fun w hw=>hw.src_row (i:=7) rfl) rfl (by simp[Value.oneCell']) (by decide) (by decide) (fun _=>rfl)) (fun _ _ _ h=>h.sel [0,2,3,4,5,6] (by decide)) (fun⟨A80_2,c80_2⟩=>?_);refine gg ?_;refine wP none [0,1,3,4,5,6,7] [pT 0,pT 1,pT 2,pT 3,pT 4,pT 5,pT 6,pT 7,pT 8,pF 9,pF 10,pT 11] ?_
   iterate 4 refine ad ?_
   refine tE rfl (v_load1 (u:=.int .i64 _) Tryz.isAgg3 rfl (fun w hw=>hw.cl_at (i:=0) rfl 33 (cell_of (hs.int 33 (by decide) (by decide))))) ?_
   iterate 3 refine ad ?_
   refine tE rfl (v_load1 (u:=.int .i64 _) Tryz.isAgg3 rfl (fun w hw=>hw.cl_at (i:=0) rfl 37 (cell_of (hs.int 37 (by decide) (by decide))))) ?_;refine dE (xN (L2 rfl)) fun g90=>?_;refine WPD.ef rfl (x_append (sz:=1) (σ':=fun _=>[_,_,_,_,_,_,_,_,_]) Tryz.underlying49 int_info rfl (by decide) rfl rfl (i:=2) rfl (fun w hw=>hw.src_row (i:=8) rfl) rfl (by simp[Value.oneCell']) (by decide) (by decide) (fun _=>rfl)) (fun _ _ _ h=>h.sel [0,1,3,4,5,6,7] (by decide)) (fun⟨A91_2,c91_2⟩=>?_);refine ad ?_;refine WPD.nil (onto_of ?_);refine WP.region ?_
   iterate 3 refine av ?_
   refine WPL.nil (rounds_of ?_);refine WPR.succ ?_;refine gg ?_;refine WP.condT rfl ?_;refine gg ?_;refine wP none [0,2,3,4,5,6,7,8] [pT 0,pT 1,pT 2,pT 3,pT 4,pT 5,pT 6,pT 7,pT 8,pF 9,pF 10,pT 11] ?_
   iterate 4 refine ad ?_
   refine tE rfl (v_loadA (cs:=[.int .i64 _,.int .i64 _]) Tryz.isAgg33 Tryz.sizeOf33 rfl (fun w hw=>hw.cl_at (i:=0) rfl 21 (hs.segE 2 21 (by decide) (by decide) rfl rfl))) ?_
   iterate 3 refine ad ?_
   refine tE rfl (v_loadA (cs:=[.int .i64 _,.int .i64 _]) Tryz.isAgg33 Tryz.sizeOf33 rfl (fun w hw=>hw.cl_at (i:=0) rfl 29 (hs.segE 2 29 (by decide) (by decide) rfl rfl))) ?_;refine dE (xN rfl (us:=[.int .i64 _,.int .i64 _,.int .i64 _,.int .i64 _])) fun g79=>?_;refine WPD.ef rfl (x_append (sz:=2) (σ':=fun _=>[_,_,_,_,_,_,_,_,_,_]) Tryz.underlying156 info33 rfl (by decide) rfl rfl (i:=1) rfl (fun w hw=>hw.src_row (i:=9) rfl) rfl (by simp[Value.oneCell']) (by decide) (by decide) (fun _=>rfl)) (fun _ _ _ h=>h.sel [0,2,3,4,5,6,7,8] (by decide)) (fun⟨A80_3,c80_3⟩=>?_);refine gg ?_;refine wP none [0,1,3,4,5,6,7,8,9] [pT 0,pT 1,pT 2,pT 3,pT 4,pT 5,pT 6,pT 7,pT 8,pF 9,pF 10,pT 11] ?_
   iterate 4 refine ad ?_
   refine tE rfl (v_load1 (u:=.int .i64 _) Tryz.isAgg3 rfl (fun w hw=>hw.cl_at (i:=0) rfl 34 (cell_of (hs.int 34 (by decide) (by decide))))) ?_
   iterate 3 refine ad ?_
   refine tE rfl (v_load1 (u:=.int .i64 _) Tryz.isAgg3 rfl (fun w hw=>hw.cl_at (i:=0) rfl 38 (cell_of (hs.int 38 (by decide) (by decide))))) ?_;refine dE (xN (L2 rfl)) fun g90=>?_;refine WPD.ef rfl (x_append (sz:=1) (σ':=fun _=>[_,_,_,_,_,_,_,_,_,_,_]) Tryz.underlying49 int_info rfl (by decide) rfl rfl (i:=2) rfl (fun w hw=>hw.src_row (i:=10) rfl) rfl (by simp[Value.oneCell']) (by decide) (by decide) (fun _=>rfl)) (fun _ _ _ h=>h.sel [0,1,3,4,5,6,7,8,9] (by decide)) (fun⟨A91_3,c91_3⟩=>?_);refine ad ?_;refine WPD.nil (onto_of ?_);refine WP.region ?_
   iterate 3 refine av ?_
   refine WPL.nil (rounds_of ?_);refine WPR.succ ?_;refine gg ?_;refine WP.condF rfl ?_;refine WP.exit (onto_of ?_)
   iterate 2 refine sq ?_
   refine WP.holds (fun w hw=>hw.row_pos (i:=1) rfl (by decide)) (fun⟨lb,hA⟩=>?_);subst hA;refine WP.holds (fun w hw=>hw.row_pos (i:=2) rfl (by decide)) (fun⟨nb,hA⟩=>?_);subst hA;refine gg ?_;refine WP.loopK (X:=Nat) [1,4,5] (fun k=>[(3,.bool (kinds7 cs&&((lens2 cs).take k).all (fun p=>lenOk p.1 p.2))),(7,.int .i64 (k:Int))]) (fun k w=>k≤15∧St w0 (foots []) [.cl sty 42 cs,.row 33 2 (some ⟨lb,0,none⟩) (7+2+2+2+2) c80_3 ((lens2 cs).flatMap lenE),.row 3 1 (some ⟨nb,0,none⟩) (3+2+2+2+2) c91_3 ((sizes2 cs).map (Value.int .i64))] w) (fun k=>15 - k) 0 ⟨congrArg Value.bool (by simp),rfl,trivial⟩ (fun w hw=>⟨by omega,(hw.sel [0,1,2] (by decide))⟩) (fun k ρ0=>?_);refine WP.fact (fun hk=>?_);refine gg ?_;refine WP.condP rfl (fun h95=>?_) (fun h95=>?_)
   ·have hk15:k<15:=by omega
    obtain⟨x,hx⟩:∃x,(lens2 cs)[k]?=some x:=⟨_,List.getElem?_eq_getElem (by simp[lens2,lenPos2];omega)⟩;refine WP.skip (onto_of ?_);refine sq ?_;refine WP.block ?_;refine WP.region ?_
    iterate 2 refine av ?_
    refine WPL.splitB 99 rfl (fun h99=>?_) (fun h99=>?_)
    ·iterate 3 refine ag ?_
     refine vg (v_loadA (cs:=[.int .i64 _,.int .i64 _]) Tryz.isAgg33 Tryz.sizeOf33 rfl (fun w hw=>hw.row_at (i:=1) rfl _ (fun j u hj=>by rw[Nat.zero_add];exact(flatMap_get (sz:=2) (fun _=>rfl) (lens2 cs) k j x hx (by have:=(List.getElem?_eq_some_iff.1 hj).1;exact this)).trans hj))) ?_;refine WPL.efG (xC (rlenValid_ct x.1 x.2)) (fun _=>?_);refine WPL.fact (fun _=>?_)
     iterate 2 refine av ?_
     refine nl (oo ?_);refine WP.region ?_
     iterate 3 refine av ?_
     exact nl fun w hw=>⟨rfl,k+1,(by omega),⟨(congrArg Value.bool (by rw[all_more hx,←Bool.and_assoc,h99];first | rfl | exact(Bool.true_and _).symm)),rfl,rfl,jS,jS,trivial⟩,by omega,hw.pk⟩
    ·iterate 5 refine sk ?_
     iterate 2 refine av ?_
     refine nl (oo ?_);refine WP.region ?_
     iterate 3 refine av ?_
     exact nl fun w hw=>⟨rfl,k+1,(by omega),⟨(congrArg Value.bool (by rw[all_more hx,←Bool.and_assoc,h99];first | rfl | exact(Bool.true_and _).symm)),rfl,rfl,jS,jS,trivial⟩,by omega,hw.pk⟩
   ·obtain rfl:k=15:=by omega
    have hall:(lens2 cs).take 15=lens2 cs:=List.take_of_length_le (by simp[lens2,lenPos2]);refine WP.exit (onto_of ?_);refine gg ?_;refine WP.loopK (X:=Nat) [1,5] (fun k=>[(3,.bool (kinds7 cs&&(lens2 cs).all (fun p=>lenOk p.1 p.2)&&((sizes2 cs).take k).all (fun n=>within n 0 1048576))),(8,.int .i64 (k:Int))]) (fun k w=>k≤11∧St w0 (foots []) [.cl sty 42 cs,.row 3 1 (some ⟨nb,0,none⟩) (3+2+2+2+2) c91_3 ((sizes2 cs).map (Value.int .i64))] w) (fun k=>11 - k) 0 ⟨congrArg Value.bool (by simp[hall]),rfl,trivial⟩ (fun w hw=>⟨by omega,(hw.sel [0,2] (by decide))⟩) (fun k ρ0=>?_);refine WP.fact (fun hk=>?_);refine gg ?_;refine WP.condP rfl (fun h109=>?_) (fun h109=>?_)
    ·have hk11:k<11:=by omega
     obtain⟨x,hx⟩:∃x,(sizes2 cs)[k]?=some x:=⟨_,List.getElem?_eq_getElem (by simp[sizes2,sizPos2];omega)⟩;refine WP.skip (onto_of ?_);refine sq ?_;refine WP.block ?_;refine WP.region ?_
     iterate 2 refine av ?_
     refine WPL.splitB 113 rfl (fun h113=>?_) (fun h113=>?_)
     ·iterate 3 refine ag ?_
      refine vg (v_load1 (u:=.int .i64 _) Tryz.isAgg3 rfl (fun w hw=>hw.row_at1 (i:=1) rfl (intAt hx) (Nat.zero_add _ |>.trans (Nat.mul_one _)))) ?_;refine vg (vC (in169_any _ _ _ _)) ?_
      iterate 2 refine av ?_
      refine nl (oo ?_);refine WP.region ?_
      iterate 3 refine av ?_
      exact nl fun w hw=>⟨rfl,k+1,(by omega),⟨(congrArg Value.bool (by rw[all_more hx,←Bool.and_assoc,h113];first | rfl | exact(Bool.true_and _).symm)),rfl,rfl,jS,trivial⟩,by omega,hw.pk⟩
     ·iterate 5 refine sk ?_
      iterate 2 refine av ?_
      refine nl (oo ?_);refine WP.region ?_
      iterate 3 refine av ?_
      exact nl fun w hw=>⟨rfl,k+1,(by omega),⟨(congrArg Value.bool (by rw[all_more hx,←Bool.and_assoc,h113];first | rfl | exact(Bool.true_and _).symm)),rfl,rfl,jS,trivial⟩,by omega,hw.pk⟩
    ·obtain rfl:k=11:=by omega
     have hall2:(sizes2 cs).take 11=sizes2 cs:=List.take_of_length_le (by simp[sizes2,sizPos2]);rw[hall2];refine WP.exit (onto_of ?_);refine sqR ?_
     iterate 2 refine av ?_
     refine WPL.splitB 121 rfl (fun h121=>?_) (fun h121=>?_)
     ·refine ag ?_;refine vg (v_load1 (u:=.int .i64 _) Tryz.isAgg3 rfl (fun w hw=>hw.cl_at (i:=0) rfl 39 (cell_of (hs.int 39 (by decide) (by decide))))) ?_;refine vg (vC (in169_any _ _ _ _)) ?_
      iterate 2 refine av ?_
      refine WPL.splitB 126 rfl (fun h126=>?_) (fun h126=>?_)
      ·refine ag ?_;refine vg (v_load1 (u:=.int .i64 _) Tryz.isAgg3 rfl (fun w hw=>hw.cl_at (i:=0) rfl 40 (cell_of (hs.int 40 (by decide) (by decide))))) ?_;refine vg (vC (in169_any _ _ _ _)) ?_
       iterate 2 refine av ?_
       refine WPL.splitB 131 rfl (fun h131=>?_) (fun h131=>?_)
       ·refine ag ?_;refine vg (v_load1 (u:=.int .i64 _) Tryz.isAgg3 rfl (fun w hw=>hw.cl_at (i:=0) rfl 48 (cell_of (hs.int 48 (by decide) (by decide))))) ?_;refine vg (vC (in169_any _ _ _ _)) ?_;refine gg ?_;exact rt1 fun w hw=>⟨(),congrArg Value.bool (by rw[validB_ref];simp only[*,Bool.and_true,Bool.and_false,Bool.true_and,Bool.false_and]),trivial,hw.pk⟩
       ·refine gg ?_;exact rt1 fun w hw=>⟨(),congrArg Value.bool (by rw[validB_ref];simp only[*,Bool.and_true,Bool.and_false,Bool.true_and,Bool.false_and]),trivial,hw.pk⟩
      ·refine gg ?_;exact rt1 fun w hw=>⟨(),congrArg Value.bool (by rw[validB_ref];simp only[*,Bool.and_true,Bool.and_false,Bool.true_and,Bool.false_and]),trivial,hw.pk⟩
     ·refine gg ?_;exact rt1 fun w hw=>⟨(),congrArg Value.bool (by rw[validB_ref];simp only[*,Bool.and_true,Bool.and_false,Bool.true_and,Bool.false_and]),trivial,hw.pk⟩
def delE:List PE→Int→List PE
  | [],_=>[]
  | e::es,x=>if e.id=x then es else e::delE es x
def setE:List PE→PE→List PE
  | [],_=>[]
  | e::es,e'=>if e.id=e'.id then e'::es else e::setE es e'
abbrev restI (es:List PE):HI:=bundle (es.flatMap PE.items)
theorem ent_del:∀(es:List PE) (x:Int),(delE es x).map PE.ent=delM (es.map PE.ent) x
  | [],_=>rfl
  | e :: es, x => by
    simp only[delE,List.map_cons,delM,PE.ent]
    split
    · rfl
    · rw[List.map_cons,ent_del es x];rfl
theorem ent_set:∀(es:List PE) (e e':PE),lookE es e'.id=some e→e'.bb=e.bb→(setE es e').map PE.ent=es.map PE.ent
  | [],_,_,h,_=>by cases h
  | a :: es, e, e', h, hb => by
    unfold lookE at h;unfold setE
    split at h
    · rename_i hi
      cases h;rw[if_pos hi];simp[PE.ent,hi,hb]
    · rename_i hi
      rw[if_neg hi,List.map_cons,List.map_cons,ent_set es e e' h hb]
theorem del_perm:∀{es:List PE} {x:Int} {e:PE},lookE es x=some e→es.Perm (e::delE es x)
  | [],_,_,h=>by cases h
  | a :: es, x, e, h => by
    unfold lookE at h;unfold delE
    split at h
    · rename_i hi;cases h;rw[if_pos hi]
    · rename_i hi
      rw[if_neg hi];exact(List.Perm.cons a (del_perm h)).trans (List.Perm.swap e a _)
theorem set_perm:∀{es:List PE} {e e':PE},lookE es e'.id=some e→(setE es e').Perm (e'::delE es e'.id)
  | [],_,_,h=>by cases h
  | a :: es, e, e', h => by
    unfold lookE at h;unfold setE delE
    split at h
    · rename_i hi;rw[if_pos hi,if_pos hi]
    · rename_i hi
      rw[if_neg hi,if_neg hi];exact(List.Perm.cons a (set_perm h)).trans (List.Perm.swap e' a _)
theorem look_set:∀{es:List PE} {e e':PE},lookE es e'.id=some e→∀y,lookE (setE es e') y=if y=e'.id then some e' else lookE es y
  | [],_,_,h,_=>by cases h
  | a :: es, e, e', h, y => by
    unfold lookE at h;unfold setE
    split at h
    · rename_i hi
      rw[if_pos hi]
      by_cases hy:y=e'.id
      · rw[if_pos hy,lookE,if_pos hy.symm]
      · rw[if_neg hy,lookE,if_neg (fun e=>hy e.symm),lookE,if_neg (fun e=>hy (by rw[←e,hi]))]
    · rename_i hi
      rw[if_neg hi]
      by_cases ha:a.id=y
      · rw[lookE,if_pos ha,if_neg (fun e=>hi (by rw[ha,e])),lookE,if_pos ha]
      · rw[lookE,if_neg ha,look_set h y,lookE,if_neg ha]
theorem look_del {es:List PE} (hn:(es.map PE.id).Nodup) (x y:Int):lookE (delE es x) y=if y=x then none else lookE es y:=by
  induction es with
  | nil=>simp[delE,lookE]
  | cons a es ih =>
    rw[List.map_cons,List.nodup_cons] at hn;unfold delE
    by_cases ha:a.id=x
    · rw [if_pos ha]
      by_cases hy:y=x
      · rw [if_pos hy, hy, ← ha]
        cases h:lookE es a.id with
        | none=>rfl
        | some e=>exact absurd (List.mem_map.2 ⟨e,(lookE_mem h).1,(lookE_mem h).2⟩) hn.1
      · rw[if_neg hy,lookE,if_neg (fun e=>hy (by rw[←e,ha]))]
    · rw [if_neg ha]
      by_cases hay:a.id=y
      · rw[lookE,if_pos hay,if_neg (fun e=>ha (by rw[hay,e])),lookE,if_pos hay]
      · rw[lookE,if_neg hay,ih hn.2,lookE,if_neg hay]
theorem look_app (es:List PE) (e:PE) (y:Int):lookE (es++[e]) y=match lookE es y with | some a=>some a | none=>if e.id=y then some e else none:=by
  induction es with
  | nil=>simp[lookE]
  | cons a es ih =>
    simp only[List.cons_append,lookE]
    split
    · rfl
    · exact ih
theorem LOk.set {es:List PE} (h:LOk es) {e e':PE} (hl:lookE es e'.id=some e) (hs:SOk e'.sty):LOk (setE es e'):=by
  have hp:=set_perm hl;have hq:=del_perm hl;refine⟨fun a ha=>?_,?_⟩
  · rcases List.mem_cons.1 (hp.mem_iff.1 ha) with rfl | ha
    · exact hs
    · exact h.sty a (hq.mem_iff.2 (List.mem_cons_of_mem _ ha))
  · have h1 := (hp.map PE.id).nodup_iff.2
    refine h1 ?_;have h2:=(hq.map PE.id).nodup_iff.1 h.nodup;rw[List.map_cons] at h2 ⊢;rw[(lookE_mem hl).2] at h2;exact h2
theorem LOk.del {es:List PE} (h:LOk es) (x:Int):LOk (delE es x):=by
  cases hl:lookE es x with
  | none =>
    have:∀es:List PE,lookE es x=none→delE es x=es:=by
      intro es;induction es with
      | nil=>intro _;rfl
      | cons a es ih =>
        intro h;unfold lookE at h;unfold delE
        split at h
        · cases h
        · rename_i hi;rw[if_neg hi,ih h]
    rw[this es hl];exact h
  | some e =>
    have hq:=del_perm hl;refine⟨fun a ha=>h.sty a (hq.mem_iff.2 (List.mem_cons_of_mem _ ha)),?_⟩;have h2:=(hq.map PE.id).nodup_iff.1 h.nodup;rw[List.map_cons,List.nodup_cons] at h2;exact h2.2
section
variable {w0 w:World} {M:Nat→Prop} {tp mb:Nat} {es:List PE} {F:List HI}
theorem St.openT (h:St w0 M (treeI tp mb es::F) w):St w0 M (.cl tp 107 [.map (some mb)]::mapI mb (es.map PE.ent)::restI es::F) w:=by
  have h1:=h.unpack;have h2:St w0 M (es.flatMap PE.items++(.cl tp 107 [.map (some mb)]::mapI mb (es.map PE.ent)::F)) w:=by
    refine h1.perm ?_;show ((.cl tp 107 [.map (some mb)]::mapI mb (es.map PE.ent)::es.flatMap PE.items)++F).Perm _;have e1:((HI.cl tp 107 [.map (some mb)]::mapI mb (es.map PE.ent)::es.flatMap PE.items)++F)=[HI.cl tp 107 [.map (some mb)],mapI mb (es.map PE.ent)]++(es.flatMap PE.items++F):=rfl;have e2:(es.flatMap PE.items++(HI.cl tp 107 [.map (some mb)]::mapI mb (es.map PE.ent)::F))=es.flatMap PE.items++([HI.cl tp 107 [.map (some mb)],mapI mb (es.map PE.ent)]++F):=rfl;rw[e1,e2,←List.append_assoc,←List.append_assoc];exact List.Perm.append_right _ List.perm_append_comm
  exact h2.pack.perm ((List.Perm.swap _ _ _).trans (List.Perm.cons _ (List.Perm.swap _ _ _)))
theorem St.shutT (h:St w0 M (.cl tp 107 [.map (some mb)]::mapI mb (es.map PE.ent)::restI es::F) w):St w0 M (treeI tp mb es::F) w:=by
  have h1:=(h.perm ((List.Perm.cons _ (List.Perm.swap _ _ _)).trans (List.Perm.swap _ _ _))).unpack;have h2:St w0 M (ptree tp mb es++F) w:=by
    refine h1.perm ?_;show (es.flatMap PE.items++([HI.cl tp 107 [.map (some mb)],mapI mb (es.map PE.ent)]++F)).Perm ([HI.cl tp 107 [.map (some mb)],mapI mb (es.map PE.ent)]++(es.flatMap PE.items++F));rw[←List.append_assoc,←List.append_assoc];exact List.Perm.append_right _ List.perm_append_comm
  exact h2.pack
theorem flat_perm {a b:List PE} (h:a.Perm b):(a.flatMap PE.items).Perm (b.flatMap PE.items):=h.flatMap_right _
theorem St.openR {e:PE} {x:Int} (hl:lookE es x=some e) (h:St w0 M (restI es::F) w):St w0 M (.cl e.bb 102 e.cells::kidsI e.A e.kids.length e.c e.kids::restI (delE es x)::F) w:=by
  have h1:=h.unpack;have h2:St w0 M ((delE es x).flatMap PE.items++(.cl e.bb 102 e.cells::kidsI e.A e.kids.length e.c e.kids::F)) w:=by
    refine h1.perm ?_;refine(List.Perm.append_right F (flat_perm (del_perm hl))).trans ?_;show ([HI.cl e.bb 102 e.cells,kidsI e.A e.kids.length e.c e.kids]++(delE es x).flatMap PE.items++F).Perm ((delE es x).flatMap PE.items++([HI.cl e.bb 102 e.cells,kidsI e.A e.kids.length e.c e.kids]++F));rw[←List.append_assoc];exact List.Perm.append_right _ List.perm_append_comm
  exact h2.pack.perm ((List.Perm.swap _ _ _).trans (List.Perm.cons _ (List.Perm.swap _ _ _)))
theorem St.shutR {e:PE} {es':List PE} (hp:es'.Perm (e::es)) (h:St w0 M (.cl e.bb 102 e.cells::kidsI e.A e.kids.length e.c e.kids::restI es::F) w):St w0 M (restI es'::F) w:=by
  have h1:=(h.perm ((List.Perm.cons _ (List.Perm.swap _ _ _)).trans (List.Perm.swap _ _ _))).unpack;have h2:St w0 M (es'.flatMap PE.items++F) w:=by
    refine h1.perm ?_;refine List.Perm.trans ?_ (List.Perm.append_right F (flat_perm hp).symm);show ((es.flatMap PE.items)++([HI.cl e.bb 102 e.cells,kidsI e.A e.kids.length e.c e.kids]++F)).Perm ([HI.cl e.bb 102 e.cells,kidsI e.A e.kids.length e.c e.kids]++es.flatMap PE.items++F);rw[←List.append_assoc];exact List.Perm.append_right _ List.perm_append_comm
  exact h2.pack
theorem St.openB {e:PE} {x:Int} (hl:lookE es x=some e) (h:St w0 M (treeI tp mb es::F) w):
    St w0 M (.cl e.bb 102 e.cells::kidsI e.A e.kids.length e.c e.kids::.cl tp 107 [.map (some mb)]::mapI mb (es.map PE.ent)::restI (delE es x)::F) w:=by
  have h1:=h.openT;have h2:=St.openR hl (h1.perm (σ':=restI es::.cl tp 107 [.map (some mb)]::mapI mb (es.map PE.ent)::F) ((List.Perm.cons _ (List.Perm.swap _ _ _)).trans (List.Perm.swap _ _ _)));refine h2.perm (List.Perm.cons _ (List.Perm.cons _ ?_));exact(List.Perm.swap _ _ _).trans (List.Perm.cons _ (List.Perm.swap _ _ _))
theorem St.shutB {e e':PE} (hl:lookE es e'.id=some e) (hb:e'.bb=e.bb)
    (h:St w0 M (.cl e'.bb 102 e'.cells::kidsI e'.A e'.kids.length e'.c e'.kids::.cl tp 107 [.map (some mb)]::mapI mb (es.map PE.ent)::restI (delE es e'.id)::F) w):St w0 M (treeI tp mb (setE es e')::F) w:=by
  have h1:St w0 M (.cl e'.bb 102 e'.cells::kidsI e'.A e'.kids.length e'.c e'.kids::restI (delE es e'.id)::.cl tp 107 [.map (some mb)]::mapI mb (es.map PE.ent)::F) w:=by
    refine h.perm (List.Perm.cons _ (List.Perm.cons _ ?_));exact(List.Perm.cons _ (List.Perm.swap _ _ _)).trans (List.Perm.swap _ _ _)
  have h2:=St.shutR (set_perm hl) h1;refine St.shutT ?_;rw[ent_set es e e' hl hb];exact h2.perm ((List.Perm.swap _ _ _).trans (List.Perm.cons _ (List.Perm.swap _ _ _)))
end
theorem put_new (es:List PE) (x:Int) (v:Value) (h:lookE es x=none):putM (es.map PE.ent) x v=es.map PE.ent++[(x,v)]:=by
  induction es with
  | nil=>rfl
  | cons a es ih =>
    unfold lookE at h
    split at h
    · cases h
    · rename_i hi
      simp only[List.map_cons,putM,PE.ent,hi,if_false,List.cons_append];rw[ih h]
theorem FoR_set {es:List PE} {e e':PE} (hl:lookE es e'.id=some e) (y:Int):FoR (setE es e') y=if y=e'.id then some ⟨e'.up,e'.kids,e'.sty⟩ else FoR es y:=by
  unfold FoR;rw[look_set hl]
  split<;>rfl
theorem FoR_some {es:List PE} {x:Int} {e:PE} (h:lookE es x=some e):FoR es x=some ⟨e.up,e.kids,e.sty⟩:=by simp[FoR,h]
theorem look_of {es:List PE} {x:Int} (h:hasF (FoR es) x=true):∃e,lookE es x=some e:=by
  unfold hasF FoR at h;cases e:lookE es x with
  | none=>rw[e] at h;cases h
  | some a=>exact⟨a,rfl⟩
theorem look_none {es:List PE} {x:Int} (h:hasF (FoR es) x=false):lookE es x=none:=by
  unfold hasF FoR at h;cases e:lookE es x with
  | none=>rfl
  | some a=>rw[e] at h;cases h
end Go.Proofs.YtbedndijejpcaaaGreat
