/- RefIns RecRef TreeOpen TreeMut -/
import Derived.Test.YtpgjbbaplpdaiaaGreatL8
set_option linter.unusedVariables false
set_option linter.unusedSimpArgs false
set_option linter.unusedSectionVars false
set_option maxRecDepth 100000
set_option maxHeartbeats 8000000
namespace Go.Proofs.YtpgjbbaplpdaiaaGreat
open Go.RowKit
theorem cutK_ne {l:List Int} {k:Nat} {y n:Int} (h:l[k]?=some y) (hn:y≠n):cutK (l.take (k+1)) n=cutK (l.take k) n++[y]:=by
  rw[take_snoc h,cutK,List.filter_append];simp[cutK,hn]
theorem cutK_eq {l:List Int} {k:Nat} {y n:Int} (h:l[k]?=some y) (hn:y=n):cutK (l.take (k+1)) n=cutK (l.take k) n:=by
  rw[take_snoc h,cutK,List.filter_append];simp[cutK,hn]
theorem cutK_le (l:List Int) (n:Int):(cutK l n).length≤l.length:=List.length_filter_le _ _
theorem Src.cut {w:World} {A:Option Addr} {l:List Int} (h:Src w A l.length (l.map (Value.int .i64))) (lo m q:Nat) (hm:m=lo→l.drop lo=[]) (hq:q≤l.length - lo):Src w (cutAddr A lo m 1) q (((l.drop lo).take q).map (Value.int .i64)):=by
  rcases h with ⟨rfl,h0⟩ | ⟨b,o,rfl,hc⟩
  · exact .inl ⟨by unfold cutAddr;split<;>rfl,by omega⟩
  · unfold cutAddr
    split
    · rename_i e
      rw[hm e];exact .inr ⟨b,o,rfl,fun j u hj=>by simp at hj⟩
    · refine .inr ⟨b, o + lo * 1, by simp [Addr.add], fun j u hj => ?_⟩
      rw[List.getElem?_map,List.getElem?_take] at hj
      split at hj
      · rw [List.getElem?_drop] at hj
        have h1:=hc (lo+j) u (by rw[List.getElem?_map,hj]);rw[show o+lo*1+j=o+(lo+j) by omega];exact h1
      · cases hj
theorem Src.rd {w:World} {A:Option Addr} {l:List Int} (h:Src w A l.length (l.map (Value.int .i64))):RdI w A l:=fun k x hx=>by
  have hk:=(List.getElem?_eq_some_iff.1 hx).1
  rcases h with ⟨rfl,h0⟩ | ⟨b,o,rfl,hc⟩
  · omega
  · refine ⟨b, o, rfl, fun j u hj => ?_⟩
    match j,hj with
    | 0, hj =>
      cases hj;have:=hc k (.int .i64 x) (by rw[List.getElem?_map,hx];rfl);rw[Nat.mul_one];exact this
    | j+1,hj=>simp at hj
theorem without_ct (A:Option Addr) (c:Nat) (l:List Int) (n:Int) (hl:l.length≤5000):Ct Tryz.prog 115 #[.slice A l.length c,.int .i64 n] [] (fun w=>Src w A l.length (l.map (Value.int .i64))) (X:=Option Addr×Nat) (fun p=>.slice p.1 (cutK l n).length p.2) (fun _=>True) (fun p=>[kidsI p.1 (cutK l n).length p.2 (cutK l n)]):=by
  refine Ci fun w0 hz0=>?_;have hz:=hz0.rd;refine sqR ?_;refine av ?_;refine nl (oo ?_);refine sqR ?_;refine av ?_;refine nl (oo ?_)
  iterate 2 refine sq ?_
  refine WP.pre ?_ (fun w hw=>hw.nilRow 3 1);refine gg ?_;refine WP.loopK (X:=Nat×Option Addr×Nat) [0,1] (fun p=>[(6,.int .i64 (p.1:Int)),(5,.slice p.2.1 (cutK (l.take p.1) n).length p.2.2)]) (fun p w=>p.1≤l.length∧St w0 (foots []) [kidsI p.2.1 (cutK (l.take p.1) n).length p.2.2 (cutK (l.take p.1) n)] w) (fun p=>l.length - p.1) (0,none,0) ⟨rfl,rfl,trivial⟩ (fun w hw=>⟨Nat.zero_le _,hw⟩) (fun p ρ0=>?_);obtain⟨k,zA,zc⟩:=p;dsimp only;refine WP.fact (fun hkl=>?_);refine gg ?_;refine WP.condP rfl (fun h10=>?_) (fun h10=>?_)
  ·obtain⟨y,hy⟩:∃y,l[k]?=some y:=⟨_,List.getElem?_eq_getElem (by omega)⟩;obtain⟨ab,ao,rfl,hc⟩:=hz k y hy;have hcl:=cutK_le (l.take k) n;rw[List.length_take] at hcl;refine gg ?_;refine vl (vO hc) ?_;refine gg ?_;refine WP.condP rfl (fun h18=>?_) (fun h18=>?_)
   ·have hck:=cutK_ne hy h18;refine gg ?_;refine vl (vO hc) ?_;refine WPL.ef (xN (L1 rfl)) fun g24=>?_;refine WPL.ef (xP 0 1) fun⟨A25,c25⟩=>?_;refine n6 ?_;exact nl fun w hw=>⟨rfl,(k+1,A25,c25),(by simp only;omega),⟨rfl,(by show Value.slice A25 ((cutK (l.take k) n).length+1) c25=Value.slice A25 (cutK (l.take (k+1)) n).length c25;rw[hck,List.length_append];rfl),jS,jI,trivial⟩,⟨by simp only;omega,by have h:=(hw.sel [0] (by decide));rw[show kidsI A25 (cutK (l.take (k+1)) n).length c25 (cutK (l.take (k+1)) n)=.row 3 1 A25 ((cutK (l.take k) n).length+1) c25 ((cutK (l.take k) n).map (Value.int .i64)++[.int .i64 y]) by rw[kidsI,hck,List.length_append,List.map_append];rfl];exact h⟩⟩
   ·have hck:=cutK_eq hy (Decidable.not_not.1 h18);refine n5 ?_;exact nl fun w hw=>⟨rfl,(k+1,zA,zc),(by simp only;omega),⟨rfl,(by show Value.slice zA (cutK (l.take k) n).length zc=Value.slice zA (cutK (l.take (k+1)) n).length zc;rw[hck]),jS,jI,trivial⟩,⟨by simp only;omega,by rw[hck];exact hw.pk⟩⟩
  ·obtain rfl:k=l.length:=by omega
   rw[List.take_of_length_le (Nat.le_refl _)];refine WP.exit (onto_of ?_);refine gg ?_;exact rt1 fun w hw=>⟨(zA,zc),rfl,trivial,hw⟩
theorem with_ct (A:Option Addr) (c:Nat) (l:List Int) (k:Nat) (hk:k≤l.length) (hlc:l.length≤c) (n:Int) (hl:l.length≤5000):Ct Tryz.prog 118 #[.slice A l.length c,.int .i64 k,.int .i64 n] [] (fun w=>Src w A l.length (l.map (Value.int .i64))) (X:=Option Addr×Nat) (fun p=>.slice p.1 (l.length+1) p.2) (fun _=>True) (fun p=>[kidsI p.1 (l.length+1) p.2 (insAt l k n)]):=by
  refine Ci fun w0 hz=>?_;refine sqR ?_;refine av ?_;refine nl (oo ?_);refine sqR ?_;refine av ?_;refine nl (oo ?_);refine sq ?_;refine WP.pre ?_ (fun w hw=>hw.nilRow 3 1);refine n4 ?_;refine vl (v_slice (kl:=0) (l:=0) (h:=k) Tryz.underlying55 Tryz.sizeOf3 rfl rfl ⟨rfl,rfl⟩ (by omega) (by omega)) ?_;refine WPL.ef (x_append (sz:=1) (σ':=fun _=>[_]) Tryz.underlying55 int_info rfl (by decide) rfl rfl (i:=0) rfl (fun w hw=>(hw.oldSrc hz (fun _ _=>not_foots_nil _)).cut 0 c (k - 0) (fun e=>by rw[List.drop_eq_nil_of_le];omega) (by omega)) (by simp;omega) (ints_one _) (by omega) (by omega) (fun _=>rfl)) (fun⟨A12,c12⟩=>?_);refine gg ?_;refine WPL.ef (xN (L1 rfl)) fun g15=>?_;refine WPL.ef (xP 0 1) fun⟨A16,c16⟩=>?_;refine n6 ?_;refine vl (v_slice (kh:=0) (l:=k) (h:=l.length) Tryz.underlying55 Tryz.sizeOf3 rfl ⟨rfl,rfl⟩ rfl (by omega) (by omega)) ?_;refine WPL.ef (x_append (sz:=1) (σ':=fun _=>[_,_]) Tryz.underlying55 int_info rfl (by decide) rfl rfl (i:=0) rfl (fun w hw=>(hw.oldSrc hz (fun _ _=>not_foots_nil _)).cut k c (l.length - k) (fun e=>List.drop_eq_nil_of_le (by omega)) (by omega)) (by simp) (ints_one _) (by omega) (by omega) (fun _=>rfl)) (fun⟨A21,c21⟩=>?_);refine gg ?_;exact WP.ret1 Tryz.results118 (fun _ h=>h) (fun w hw=>⟨(A21,c21),by show Value.slice A21 _ c21=Value.slice A21 _ c21;congr 1;omega,trivial,by have h:=(hw.sel [0] (by decide));rw[show 0+(k - 0)+1+(l.length - k)=l.length+1 by omega,show ([]:List Value)++((l.drop 0).take (k - 0)).map (Value.int .i64)++[.int .i64 n]++((l.drop k).take (l.length - k)).map (Value.int .i64)=(insAt l k n).map (Value.int .i64) by rw[show (l.drop k).take (l.length - k)=l.drop k from List.take_of_length_le (by rw[List.length_drop];exact Nat.le_refl _)];simp[insAt]] at h;exact h⟩)
def LS (F:Forest (List Value)) (x:Int) (l:List Int) (k:Nat):List Int:=x::(l.take k).flatMap (sub F)
theorem LS_succ (F:Forest (List Value)) (x:Int) {l:List Int} {k:Nat} {y:Int} (h:l[k]?=some y):LS F x l (k+1)=LS F x l k++sub F y:=by
  unfold LS;rw[take_snoc h,List.flatMap_append];simp
theorem LS_le (F:Forest (List Value)) (x:Int) (l:List Int) (k:Nat):(LS F x l k).length≤(x::l.flatMap (sub F)).length:=by
  have h:l.flatMap (sub F)=(l.take k).flatMap (sub F)++(l.drop k).flatMap (sub F):=by rw[←List.flatMap_append,List.take_append_drop]
  rw[h];simp only[LS,List.length_cons,List.length_append];omega
theorem rinside_step (rp g bc:Nat) (bs:List RB) (hk:ROk bs) {d:Int→Nat} (hF:WF (absR bs) d) (x:Int)
    (ih:∀kid∈kidsF (absR bs) x,Ct Tryz.prog 46 #[.pointer (some ⟨rp,0,none⟩),.int .i64 kid] [refI rp g bc bs] (fun _=>True) (X:=Option Addr×Nat) (fun p=>.slice p.1 (sub (absR bs) kid).length p.2) (fun _=>True) (fun p=>[refI rp g bc bs,kidsI p.1 (sub (absR bs) kid).length p.2 (sub (absR bs) kid)])):
    Ct Tryz.prog 46 #[.pointer (some ⟨rp,0,none⟩),.int .i64 x] [refI rp g bc bs] (fun _=>True) (X:=Option Addr×Nat) (fun p=>.slice p.1 (sub (absR bs) x).length p.2) (fun _=>True) (fun p=>[refI rp g bc bs,kidsI p.1 (sub (absR bs) x).length p.2 (sub (absR bs) x)]):=by
  refine Ci fun w0 _=>?_;refine gg ?_;refine eF (xC (rhas_ct rp g bc bs hk x)) fun _ _=>?_;refine gg ?_;refine WP.cond rfl (fun h10=>?_) (fun h10=>?_)
  ·have hno:hasF (absR bs) x=false:=by simpa using h10
   have hnil:sub (absR bs) x=[]:=sub_none (none_has hno);refine gg ?_;exact rt1 fun w hw=>⟨(none,0),by rw[hnil];rfl,trivial,by rw[hnil];exact hw.nilRow 3 1⟩
  ·obtain⟨i,b,rfl,hb,hl⟩:=absR_has (bs:=bs) (x:=x) (by simpa using h10);have hbb:=absR_at hb hl;have hib:=(List.getElem?_eq_some_iff.1 hb).1;have hsub:=hF.sub_eq hbb;have hkb:b.kids.length≤4096:=hF.kids_le hbb;have hsl:=hF.len_le (i:Int);refine gg ?_;refine WPL.ef (xN (L1 rfl)) fun g12=>?_;refine gg ?_;refine WP.loopK (X:=Nat×Option Addr×Nat) [0,1] (fun p=>[(6,.int .i64 (p.1:Int)),(5,.slice p.2.1 (LS (absR bs) i b.kids p.1).length p.2.2)]) (fun p w=>p.1≤b.kids.length∧St w0 (foots [refI rp g bc bs]) [refI rp g bc bs,kidsI p.2.1 (LS (absR bs) i b.kids p.1).length p.2.2 (LS (absR bs) i b.kids p.1)] w) (fun p=>b.kids.length - p.1) (0,some ⟨g12,0,none⟩,1) ⟨rfl,rfl,trivial⟩ (fun w hw=>⟨Nat.zero_le _,(hw.sel [0,1] (by decide))⟩) (fun p ρ0=>?_);obtain⟨k,zA,zc⟩:=p;dsimp only;refine WP.fact (fun hkl=>?_);refine n6 ?_;refine vl (v_load1 (u:=.slice _ _ _) Tryz.isAgg135 rfl (fun w hw=>hw.refRoot (i:=0) rfl)) ?_;refine n3 ?_;refine vl (v_load1 (u:=.slice _ _ _) Tryz.isAgg55 rfl (fun w hw=>hw.refAt (i:=0) rfl hk hb 2 (us:=[.slice b.A b.kids.length b.c]) rfl)) ?_;refine gg ?_;refine WP.condP rfl (fun h23=>?_) (fun h23=>?_)
   ·obtain⟨kid,hkid⟩:∃kid,b.kids[k]?=some kid:=⟨_,List.getElem?_eq_getElem (by omega)⟩;have hl1:=LS_le (absR bs) i b.kids k;simp only at hsub;rw[←hsub] at hl1;have hl2:=hF.len_le kid;refine WP.holds (p:=∃kb ko,b.A=some ⟨kb,ko,none⟩) (fun w hw=>by obtain⟨kb,ko,e1,_⟩:=(hw.refKids (i:=0) rfl hb).1 k kid hkid;exact⟨kb,ko,e1⟩) (fun⟨kb,ko,hbA⟩=>?_);refine n9 ?_;refine vl (v_load1 (u:=.slice _ _ _) Tryz.isAgg135 rfl (fun w hw=>hw.refRoot (i:=0) rfl)) ?_;refine n3 ?_;refine vl (v_load1 (u:=.slice _ _ _) Tryz.isAgg55 rfl (fun w hw=>hw.refAt (i:=0) rfl hk hb 2 (us:=[.slice b.A b.kids.length b.c]) rfl)) ?_;refine av ?_;rw[hbA];refine av ?_;refine vl (v_load1 (u:=.int .i64 _) Tryz.isAgg3 rfl (fun w hw=>by obtain⟨b1,o1,e1,hc⟩:=(hw.refKids (i:=0) rfl hb).1 k kid hkid;rw[hbA] at e1;cases e1;exact hc)) ?_;refine eF (xC (ih kid (by rw[kids_some hbb];exact List.mem_of_getElem? hkid))) fun⟨A39,c39⟩ _=>?_;refine WPL.ef (xP 0 2 (hl:=by simp) (h1:=ints_one _)) fun⟨A40,c40⟩=>?_;refine n6 ?_;exact nl fun w hw=>⟨rfl,(k+1,A40,c40),(by simp only;omega),⟨rfl,(by show Value.slice A40 ((LS (absR bs) i b.kids k).length+(sub (absR bs) kid).length) c40=Value.slice A40 (LS (absR bs) i b.kids (k+1)).length c40;rw[LS_succ _ _ hkid,List.length_append]),jP,jI,trivial⟩,⟨by simp only;omega,by have h:=(hw.sel [1,0] (by decide));simp only;rw[show kidsI A40 (LS (absR bs) i b.kids (k+1)).length c40 (LS (absR bs) i b.kids (k+1))=.row 3 1 A40 ((LS (absR bs) i b.kids k).length+(sub (absR bs) kid).length) c40 ((LS (absR bs) i b.kids k).map (Value.int .i64)++(sub (absR bs) kid).map (Value.int .i64)) by rw[kidsI,LS_succ _ _ hkid,List.length_append,List.map_append]];exact h⟩⟩
   ·obtain rfl:k=b.kids.length:=by omega
    have hsub2:(sub (absR bs) i)=(LS (absR bs) i b.kids b.kids.length):=by rw[hsub,LS,List.take_of_length_le (Nat.le_refl _)]
    refine WP.exit (onto_of ?_);refine gg ?_;exact rt1 fun w hw=>⟨(zA,zc),by rw[hsub2];rfl,trivial,by rw[hsub2];exact hw.pk⟩
theorem rinside_all (rp g bc:Nat) (bs:List RB) (hk:ROk bs) {d:Int→Nat} (hF:WF (absR bs) d):∀(n:Nat) (x:Int),64≤n+d x→
    Ct Tryz.prog 46 #[.pointer (some ⟨rp,0,none⟩),.int .i64 x] [refI rp g bc bs] (fun _=>True) (X:=Option Addr×Nat) (fun p=>.slice p.1 (sub (absR bs) x).length p.2) (fun _=>True) (fun p=>[refI rp g bc bs,kidsI p.1 (sub (absR bs) x).length p.2 (sub (absR bs) x)])
  | 0, x, hn => rinside_step rp g bc bs hk hF x fun kid hm => by
    cases e:absR bs x with
    | none=>simp[kidsF,e] at hm
    | some b=>have:=hF.deep x b e;omega
  | n + 1, x, hn => rinside_step rp g bc bs hk hF x fun kid hm => by
    cases e:absR bs x with
    | none=>simp[kidsF,e] at hm
    | some b =>
      rw[kids_some e] at hm;have:=hF.kid_rank e hm;exact rinside_all rp g bc bs hk hF n kid (by omega)
theorem rinside_ct (rp g bc:Nat) (bs:List RB) (hk:ROk bs) {d:Int→Nat} (hF:WF (absR bs) d) (x:Int):
    Ct Tryz.prog 46 #[.pointer (some ⟨rp,0,none⟩),.int .i64 x] [refI rp g bc bs] (fun _=>True) (X:=Option Addr×Nat) (fun p=>.slice p.1 (sub (absR bs) x).length p.2) (fun _=>True) (fun p=>[refI rp g bc bs,kidsI p.1 (sub (absR bs) x).length p.2 (sub (absR bs) x)]):=
  rinside_all rp g bc bs hk hF 64 x (by omega)
theorem rlen_ct (rp g bc:Nat) (bs:List RB) (hk:ROk bs) {d:Int→Nat} (hF:WF (absR bs) d):
    Ct Tryz.prog 120 #[.pointer (some ⟨rp,0,none⟩)] [refI rp g bc bs] (fun _=>True) (X:=Unit) (fun _=>.int .i64 (lenF (absR bs))) (fun _=>True) (fun _=>[refI rp g bc bs]):=by
  refine Ci fun w0 _=>?_;refine gg ?_;refine eF (xC (rinside_ct rp g bc bs hk hF 0)) fun⟨A4,c4⟩ _=>?_;refine gg ?_;exact rt1 fun w hw=>⟨(),rfl,trivial,hw.pk⟩
theorem intAt {l:List Int} {k:Nat} {x:Int} (h:l[k]?=some x):(l.map (Value.int .i64))[k]?=some (.int .i64 x):=by rw[List.getElem?_map,h];rfl
def lenPos2:List Nat:=[3,5,7,9,11,13,41,15,23,17,25,19,27,21,29]
def sizPos2:List Nat:=[46,53,54,31,35,32,36,33,37,34,38]
def lens2 (cs:List Value):List (Int×Int):=lenPos2.map fun j=>(val cs j,val cs (j+1))
def sizes2 (cs:List Value):List Int:=sizPos2.map (val cs)
def kinds7 (cs:List Value):Bool:=within (val cs 0) 0 3&&within (val cs 1) 0 4&&within (val cs 2) 0 2&&within (val cs 43) 0 5&&within (val cs 44) 0 3&&within (val cs 49) 0 2&&within (val cs 50) 0 3
theorem validB_ref (cs:List Value):validB cs=(kinds7 cs&&(lens2 cs).all (fun p=>lenOk p.1 p.2)&&(sizes2 cs).all (fun n=>within n 0 1048576)&&within (val cs 39) 0 1000&&within (val cs 40) 0 1000&&within (val cs 48) (-1048576) 1048576):=by
  have h1:(lens2 cs).all (fun p=>lenOk p.1 p.2)=lensB cs:=by
    unfold lensB lens2 lensOf;rw[←all_any (fun p:Int×Int=>lenOk p.1 p.2)];exact all_perm (List.Perm.map _ (by decide))
  have h2:(sizes2 cs).all (fun n=>within n 0 1048576)=sizesB cs:=by
    unfold sizesB sizes2 sizesOf;rw[←all_any (fun n:Int=>within n 0 1048576)];exact all_perm (List.Perm.map _ (by decide))
  rw[h1,h2];unfold validB kinds7 kindsB waysB;simp only[Bool.and_assoc]
theorem all_more {α:Type} {p:α→Bool} {l:List α} {k:Nat} {x:α} (hx:l[k]?=some x):(l.take (k+1)).all p=((l.take k).all p&&p x):=by
  rw[List.take_add_one,hx,List.all_append];simp
theorem rvalid_ct (cs:List Value) (hs:SOk cs):Ct Tryz.prog 119 #[.agg cs.toArray] [] (fun _=>True) (X:=Unit) (fun _=>.bool (validB cs)) (fun _=>True) (fun _=>[]):=by
  refine Ci fun w0 _=>?_;refine gg ?_;refine WPL.ef (xB (us:=cs)) fun sty=>?_;refine n2 ?_;refine WP.midS [1] [(3,.bool (kinds7 cs))] ?_ (fun ρ0=>?_)
  ·refine n2 ?_;refine vl (v_load1 (u:=.int .i64 _) Tryz.isAgg22 rfl (fun w hw=>hw.cl_at (i:=0) rfl 0 (cell_of (hs.int 0 (by decide) (by decide))))) ?_;refine vl (vC (in145_any _ _ _ _)) ?_;refine av ?_;refine WPL.splitB 12 rfl (fun h12=>?_) (fun h12=>?_)
   ·refine ag ?_;refine vg (v_load1 (u:=.int .i64 _) Tryz.isAgg23 rfl (fun w hw=>hw.cl_at (i:=0) rfl 1 (cell_of (hs.int 1 (by decide) (by decide))))) ?_;refine vg (vC (in145_any _ _ _ _)) ?_;refine n2 ?_;refine WPL.splitB 17 rfl (fun h17=>?_) (fun h17=>?_)
    ·refine ag ?_;refine vg (v_load1 (u:=.int .i64 _) Tryz.isAgg24 rfl (fun w hw=>hw.cl_at (i:=0) rfl 2 (cell_of (hs.int 2 (by decide) (by decide))))) ?_;refine vg (vC (in145_any _ _ _ _)) ?_;refine n2 ?_;refine WPL.splitB 22 rfl (fun h22=>?_) (fun h22=>?_)
     ·refine ag ?_;refine vg (v_load1 (u:=.int .i64 _) Tryz.isAgg30 rfl (fun w hw=>hw.cl_at (i:=0) rfl 43 (cell_of (hs.int 43 (by decide) (by decide))))) ?_;refine vg (vC (in145_any _ _ _ _)) ?_;refine n2 ?_;refine WPL.splitB 27 rfl (fun h27=>?_) (fun h27=>?_)
      ·refine ag ?_;refine vg (v_load1 (u:=.int .i64 _) Tryz.isAgg31 rfl (fun w hw=>hw.cl_at (i:=0) rfl 44 (cell_of (hs.int 44 (by decide) (by decide))))) ?_;refine vg (vC (in145_any _ _ _ _)) ?_;refine n2 ?_;refine WPL.splitB 32 rfl (fun h32=>?_) (fun h32=>?_)
       ·refine ag ?_;refine vg (v_load1 (u:=.int .i64 _) Tryz.isAgg32 rfl (fun w hw=>hw.cl_at (i:=0) rfl 49 (cell_of (hs.int 49 (by decide) (by decide))))) ?_;refine vg (vC (in145_any _ _ _ _)) ?_;refine n2 ?_;refine WPL.splitB 37 rfl (fun h37=>?_) (fun h37=>?_)
        ·refine ag ?_;refine vg (v_load1 (u:=.int .i64 _) Tryz.isAgg33 rfl (fun w hw=>hw.cl_at (i:=0) rfl 50 (cell_of (hs.int 50 (by decide) (by decide))))) ?_;refine vg (vC (in145_any _ _ _ _)) ?_;refine n2 ?_;exact nl fun w hw=>⟨rfl,⟨(congrArg Value.bool (by simp only[kinds7, *,Bool.and_true,Bool.and_false,Bool.true_and,Bool.false_and,Bool.not_true,Bool.not_false])),rfl,trivial⟩,hw⟩
        ·refine n5 ?_;exact nl fun w hw=>⟨rfl,⟨(congrArg Value.bool (by simp only[kinds7, *,Bool.and_true,Bool.and_false,Bool.true_and,Bool.false_and,Bool.not_true,Bool.not_false])),rfl,trivial⟩,hw⟩
       ·refine n10 ?_;exact nl fun w hw=>⟨rfl,⟨(congrArg Value.bool (by simp only[kinds7, *,Bool.and_true,Bool.and_false,Bool.true_and,Bool.false_and,Bool.not_true,Bool.not_false])),rfl,trivial⟩,hw⟩
      ·refine n15 ?_;exact nl fun w hw=>⟨rfl,⟨(congrArg Value.bool (by simp only[kinds7, *,Bool.and_true,Bool.and_false,Bool.true_and,Bool.false_and,Bool.not_true,Bool.not_false])),rfl,trivial⟩,hw⟩
     ·iterate 3 refine sk ?_
      iterate 2 refine av ?_
      iterate 3 refine sk ?_
      iterate 2 refine av ?_
      iterate 3 refine sk ?_
      iterate 2 refine av ?_
      iterate 3 refine sk ?_
      iterate 2 refine av ?_
      exact nl fun w hw=>⟨rfl,⟨(congrArg Value.bool (by simp only[kinds7, *,Bool.and_true,Bool.and_false,Bool.true_and,Bool.false_and,Bool.not_true,Bool.not_false])),rfl,trivial⟩,hw⟩
    ·iterate 3 refine sk ?_
     iterate 2 refine av ?_
     iterate 3 refine sk ?_
     iterate 2 refine av ?_
     iterate 3 refine sk ?_
     iterate 2 refine av ?_
     iterate 3 refine sk ?_
     iterate 2 refine av ?_
     iterate 3 refine sk ?_
     iterate 2 refine av ?_
     exact nl fun w hw=>⟨rfl,⟨(congrArg Value.bool (by simp only[kinds7, *,Bool.and_true,Bool.and_false,Bool.true_and,Bool.false_and,Bool.not_true,Bool.not_false])),rfl,trivial⟩,hw⟩
   ·iterate 3 refine sk ?_
    iterate 2 refine av ?_
    iterate 3 refine sk ?_
    iterate 2 refine av ?_
    iterate 3 refine sk ?_
    iterate 2 refine av ?_
    iterate 3 refine sk ?_
    iterate 2 refine av ?_
    iterate 3 refine sk ?_
    iterate 2 refine av ?_
    iterate 3 refine sk ?_
    iterate 2 refine av ?_
    exact nl fun w hw=>⟨rfl,⟨(congrArg Value.bool (by simp only[kinds7, *,Bool.and_true,Bool.and_false,Bool.true_and,Bool.false_and,Bool.not_true,Bool.not_false])),rfl,trivial⟩,hw⟩
  ·refine n2 ?_;refine vl (v_loadA (cs:=[.int .i64 _,.int .i64 _]) Tryz.isAgg27 Tryz.sizeOf27 rfl (fun w hw=>hw.cl_at (i:=0) rfl 3 (hs.segE 2 3 (by decide) (by decide) rfl rfl))) ?_;refine av ?_;refine vl (v_loadA (cs:=[.int .i64 _,.int .i64 _]) Tryz.isAgg27 Tryz.sizeOf27 rfl (fun w hw=>hw.cl_at (i:=0) rfl 5 (hs.segE 2 5 (by decide) (by decide) rfl rfl))) ?_;refine av ?_;refine vl (v_loadA (cs:=[.int .i64 _,.int .i64 _]) Tryz.isAgg27 Tryz.sizeOf27 rfl (fun w hw=>hw.cl_at (i:=0) rfl 7 (hs.segE 2 7 (by decide) (by decide) rfl rfl))) ?_;refine av ?_;refine vl (v_loadA (cs:=[.int .i64 _,.int .i64 _]) Tryz.isAgg27 Tryz.sizeOf27 rfl (fun w hw=>hw.cl_at (i:=0) rfl 9 (hs.segE 2 9 (by decide) (by decide) rfl rfl))) ?_;refine av ?_;refine vl (v_loadA (cs:=[.int .i64 _,.int .i64 _]) Tryz.isAgg27 Tryz.sizeOf27 rfl (fun w hw=>hw.cl_at (i:=0) rfl 11 (hs.segE 2 11 (by decide) (by decide) rfl rfl))) ?_;refine av ?_;refine vl (v_loadA (cs:=[.int .i64 _,.int .i64 _]) Tryz.isAgg27 Tryz.sizeOf27 rfl (fun w hw=>hw.cl_at (i:=0) rfl 13 (hs.segE 2 13 (by decide) (by decide) rfl rfl))) ?_;refine av ?_;refine vl (v_loadA (cs:=[.int .i64 _,.int .i64 _]) Tryz.isAgg27 Tryz.sizeOf27 rfl (fun w hw=>hw.cl_at (i:=0) rfl 41 (hs.segE 2 41 (by decide) (by decide) rfl rfl))) ?_;refine WPL.ef (xN rfl (us:=[.int .i64 _,.int .i64 _,.int .i64 _,.int .i64 _,.int .i64 _,.int .i64 _,.int .i64 _,.int .i64 _,.int .i64 _,.int .i64 _,.int .i64 _,.int .i64 _,.int .i64 _,.int .i64 _])) fun g56=>?_;refine n4 ?_;refine vl (v_load1 (u:=.int .i64 _) Tryz.isAgg3 rfl (fun w hw=>hw.cl_at (i:=0) rfl 46 (cell_of (hs.int 46 (by decide) (by decide))))) ?_;refine n2 ?_;refine vl (v_load1 (u:=.int .i64 _) Tryz.isAgg3 rfl (fun w hw=>hw.cl_at (i:=0) rfl 53 (cell_of (hs.int 53 (by decide) (by decide))))) ?_;refine n2 ?_;refine vl (v_load1 (u:=.int .i64 _) Tryz.isAgg3 rfl (fun w hw=>hw.cl_at (i:=0) rfl 54 (cell_of (hs.int 54 (by decide) (by decide))))) ?_;refine WPL.ef (xN rfl (us:=[.int .i64 _,.int .i64 _,.int .i64 _])) fun g65=>?_;refine gg ?_;refine WP.loopN 5 ?_;refine WPR.succ ?_;refine gg ?_;refine WP.condT rfl ?_;refine gg ?_;refine wP none [0,2] [pT 0,pT 1,pT 2,pT 3,pT 4,pT 5,pT 6,pT 7,pT 8,pF 9,pF 10,pT 11] ?_;refine n4 ?_;refine tE rfl (v_loadA (cs:=[.int .i64 _,.int .i64 _]) Tryz.isAgg27 Tryz.sizeOf27 rfl (fun w hw=>hw.cl_at (i:=0) rfl 15 (hs.segE 2 15 (by decide) (by decide) rfl rfl))) ?_;refine n3 ?_;refine tE rfl (v_loadA (cs:=[.int .i64 _,.int .i64 _]) Tryz.isAgg27 Tryz.sizeOf27 rfl (fun w hw=>hw.cl_at (i:=0) rfl 23 (hs.segE 2 23 (by decide) (by decide) rfl rfl))) ?_;refine dE (xN rfl (us:=[.int .i64 _,.int .i64 _,.int .i64 _,.int .i64 _])) fun g79=>?_;refine WPD.ef rfl (x_append (sz:=2) (σ':=fun _=>[_,_,_,_]) Tryz.underlying78 info27 rfl (by decide) rfl rfl (i:=1) rfl (fun w hw=>hw.src_row (i:=3) rfl) rfl (by simp[Value.oneCell']) (by decide) (by decide) (fun _=>rfl)) (fun _ _ _ h=>h.sel [0,2] (by decide)) (fun⟨A80_0,c80_0⟩=>?_);refine gg ?_;refine wP none [0,1,3] [pT 0,pT 1,pT 2,pT 3,pT 4,pT 5,pT 6,pT 7,pT 8,pF 9,pF 10,pT 11] ?_
   refine n4 ?_;refine tE rfl (v_load1 (u:=.int .i64 _) Tryz.isAgg3 rfl (fun w hw=>hw.cl_at (i:=0) rfl 31 (cell_of (hs.int 31 (by decide) (by decide))))) ?_;refine n3 ?_;refine tE rfl (v_load1 (u:=.int .i64 _) Tryz.isAgg3 rfl (fun w hw=>hw.cl_at (i:=0) rfl 35 (cell_of (hs.int 35 (by decide) (by decide))))) ?_;refine dE (xN (L2 rfl)) fun g90=>?_;refine WPD.ef rfl (x_append (sz:=1) (σ':=fun _=>[_,_,_,_,_]) Tryz.underlying55 int_info rfl (by decide) rfl rfl (i:=2) rfl (fun w hw=>hw.src_row (i:=4) rfl) rfl (by simp[Value.oneCell']) (by decide) (by decide) (fun _=>rfl)) (fun _ _ _ h=>h.sel [0,1,3] (by decide)) (fun⟨A91_0,c91_0⟩=>?_);refine n6 ?_;refine WPL.nil (rounds_of ?_);refine WPR.succ ?_;refine gg ?_;refine WP.condT rfl ?_;refine gg ?_;refine wP none [0,2,3,4] [pT 0,pT 1,pT 2,pT 3,pT 4,pT 5,pT 6,pT 7,pT 8,pF 9,pF 10,pT 11] ?_;refine n4 ?_;refine tE rfl (v_loadA (cs:=[.int .i64 _,.int .i64 _]) Tryz.isAgg27 Tryz.sizeOf27 rfl (fun w hw=>hw.cl_at (i:=0) rfl 17 (hs.segE 2 17 (by decide) (by decide) rfl rfl))) ?_;refine n3 ?_;refine tE rfl (v_loadA (cs:=[.int .i64 _,.int .i64 _]) Tryz.isAgg27 Tryz.sizeOf27 rfl (fun w hw=>hw.cl_at (i:=0) rfl 25 (hs.segE 2 25 (by decide) (by decide) rfl rfl))) ?_;refine dE (xN rfl (us:=[.int .i64 _,.int .i64 _,.int .i64 _,.int .i64 _])) fun g79=>?_;refine WPD.ef rfl (x_append (sz:=2) (σ':=fun _=>[_,_,_,_,_,_]) Tryz.underlying78 info27 rfl (by decide) rfl rfl (i:=1) rfl (fun w hw=>hw.src_row (i:=5) rfl) rfl (by simp[Value.oneCell']) (by decide) (by decide) (fun _=>rfl)) (fun _ _ _ h=>h.sel [0,2,3,4] (by decide)) (fun⟨A80_1,c80_1⟩=>?_);refine gg ?_;refine wP none [0,1,3,4,5] [pT 0,pT 1,pT 2,pT 3,pT 4,pT 5,pT 6,pT 7,pT 8,pF 9,pF 10,pT 11] ?_;refine n4 ?_;refine tE rfl (v_load1 (u:=.int .i64 _) Tryz.isAgg3 rfl (fun w hw=>hw.cl_at (i:=0) rfl 32 (cell_of (hs.int 32 (by decide) (by decide))))) ?_;refine n3 ?_;refine tE rfl (v_load1 (u:=.int .i64 _) Tryz.isAgg3 rfl (fun w hw=>hw.cl_at (i:=0) rfl 36 (cell_of (hs.int 36 (by decide) (by decide))))) ?_;refine dE (xN (L2 rfl)) fun g90=>?_;refine WPD.ef rfl (x_append (sz:=1) (σ':=fun _=>[_,_,_,_,_,_,_]) Tryz.underlying55 int_info rfl (by decide) rfl rfl (i:=2) rfl (fun w hw=>hw.src_row (i:=6) rfl) rfl (by simp[Value.oneCell']) (by decide) (by decide) (fun _=>rfl)) (fun _ _ _ h=>h.sel [0,1,3,4,5] (by decide)) (fun⟨A91_1,c91_1⟩=>?_);refine n6 ?_;refine WPL.nil (rounds_of ?_);refine WPR.succ ?_;refine gg ?_;refine WP.condT rfl ?_;refine gg ?_;refine wP none [0,2,3,4,5,6] [pT 0,pT 1,pT 2,pT 3,pT 4,pT 5,pT 6,pT 7,pT 8,pF 9,pF 10,pT 11] ?_;refine n4 ?_;refine tE rfl (v_loadA (cs:=[.int .i64 _,.int .i64 _]) Tryz.isAgg27 Tryz.sizeOf27 rfl (fun w hw=>hw.cl_at (i:=0) rfl 19 (hs.segE 2 19 (by decide) (by decide) rfl rfl))) ?_;refine n3 ?_;refine tE rfl (v_loadA (cs:=[.int .i64 _,.int .i64 _]) Tryz.isAgg27 Tryz.sizeOf27 rfl (fun w hw=>hw.cl_at (i:=0) rfl 27 (hs.segE 2 27 (by decide) (by decide) rfl rfl))) ?_;refine dE (xN rfl (us:=[.int .i64 _,.int .i64 _,.int .i64 _,.int .i64 _])) fun g79=>?_;refine WPD.ef rfl (x_append (sz:=2) (σ':=fun _=>[_,_,_,_,_,_,_,_]) Tryz.underlying78 info27 rfl (by decide) rfl rfl (i:=1) rfl (fun w hw=>hw.src_row (i:=7) rfl) rfl (by simp[Value.oneCell']) (by decide) (by decide) (fun _=>rfl)) (fun _ _ _ h=>h.sel [0,2,3,4,5,6] (by decide)) (fun⟨A80_2,c80_2⟩=>?_)
   refine gg ?_;refine wP none [0,1,3,4,5,6,7] [pT 0,pT 1,pT 2,pT 3,pT 4,pT 5,pT 6,pT 7,pT 8,pF 9,pF 10,pT 11] ?_;refine n4 ?_;refine tE rfl (v_load1 (u:=.int .i64 _) Tryz.isAgg3 rfl (fun w hw=>hw.cl_at (i:=0) rfl 33 (cell_of (hs.int 33 (by decide) (by decide))))) ?_;refine n3 ?_;refine tE rfl (v_load1 (u:=.int .i64 _) Tryz.isAgg3 rfl (fun w hw=>hw.cl_at (i:=0) rfl 37 (cell_of (hs.int 37 (by decide) (by decide))))) ?_;refine dE (xN (L2 rfl)) fun g90=>?_;refine WPD.ef rfl (x_append (sz:=1) (σ':=fun _=>[_,_,_,_,_,_,_,_,_]) Tryz.underlying55 int_info rfl (by decide) rfl rfl (i:=2) rfl (fun w hw=>hw.src_row (i:=8) rfl) rfl (by simp[Value.oneCell']) (by decide) (by decide) (fun _=>rfl)) (fun _ _ _ h=>h.sel [0,1,3,4,5,6,7] (by decide)) (fun⟨A91_2,c91_2⟩=>?_);refine n6 ?_;refine WPL.nil (rounds_of ?_);refine WPR.succ ?_;refine gg ?_;refine WP.condT rfl ?_;refine gg ?_;refine wP none [0,2,3,4,5,6,7,8] [pT 0,pT 1,pT 2,pT 3,pT 4,pT 5,pT 6,pT 7,pT 8,pF 9,pF 10,pT 11] ?_;refine n4 ?_;refine tE rfl (v_loadA (cs:=[.int .i64 _,.int .i64 _]) Tryz.isAgg27 Tryz.sizeOf27 rfl (fun w hw=>hw.cl_at (i:=0) rfl 21 (hs.segE 2 21 (by decide) (by decide) rfl rfl))) ?_;refine n3 ?_;refine tE rfl (v_loadA (cs:=[.int .i64 _,.int .i64 _]) Tryz.isAgg27 Tryz.sizeOf27 rfl (fun w hw=>hw.cl_at (i:=0) rfl 29 (hs.segE 2 29 (by decide) (by decide) rfl rfl))) ?_;refine dE (xN rfl (us:=[.int .i64 _,.int .i64 _,.int .i64 _,.int .i64 _])) fun g79=>?_;refine WPD.ef rfl (x_append (sz:=2) (σ':=fun _=>[_,_,_,_,_,_,_,_,_,_]) Tryz.underlying78 info27 rfl (by decide) rfl rfl (i:=1) rfl (fun w hw=>hw.src_row (i:=9) rfl) rfl (by simp[Value.oneCell']) (by decide) (by decide) (fun _=>rfl)) (fun _ _ _ h=>h.sel [0,2,3,4,5,6,7,8] (by decide)) (fun⟨A80_3,c80_3⟩=>?_);refine gg ?_;refine wP none [0,1,3,4,5,6,7,8,9] [pT 0,pT 1,pT 2,pT 3,pT 4,pT 5,pT 6,pT 7,pT 8,pF 9,pF 10,pT 11] ?_;refine n4 ?_;refine tE rfl (v_load1 (u:=.int .i64 _) Tryz.isAgg3 rfl (fun w hw=>hw.cl_at (i:=0) rfl 34 (cell_of (hs.int 34 (by decide) (by decide))))) ?_;refine n3 ?_;refine tE rfl (v_load1 (u:=.int .i64 _) Tryz.isAgg3 rfl (fun w hw=>hw.cl_at (i:=0) rfl 38 (cell_of (hs.int 38 (by decide) (by decide))))) ?_;refine dE (xN (L2 rfl)) fun g90=>?_;refine WPD.ef rfl (x_append (sz:=1) (σ':=fun _=>[_,_,_,_,_,_,_,_,_,_,_]) Tryz.underlying55 int_info rfl (by decide) rfl rfl (i:=2) rfl (fun w hw=>hw.src_row (i:=10) rfl) rfl (by simp[Value.oneCell']) (by decide) (by decide) (fun _=>rfl)) (fun _ _ _ h=>h.sel [0,1,3,4,5,6,7,8,9] (by decide)) (fun⟨A91_3,c91_3⟩=>?_);refine n6 ?_;refine WPL.nil (rounds_of ?_);refine WPR.succ ?_;refine gg ?_;refine WP.condF rfl ?_;refine WP.exit (onto_of ?_)
   iterate 2 refine sq ?_
   refine WP.holds (fun w hw=>hw.row_pos (i:=1) rfl (by decide)) (fun⟨lb,hA⟩=>?_);subst hA;refine WP.holds (fun w hw=>hw.row_pos (i:=2) rfl (by decide)) (fun⟨nb,hA⟩=>?_);subst hA;refine gg ?_;refine WP.loopK (X:=Nat) [1,4,5] (fun k=>[(3,.bool (kinds7 cs&&((lens2 cs).take k).all (fun p=>lenOk p.1 p.2))),(7,.int .i64 (k:Int))]) (fun k w=>k≤15∧St w0 (foots []) [.cl sty 36 cs,.row 27 2 (some ⟨lb,0,none⟩) (7+2+2+2+2) c80_3 ((lens2 cs).flatMap lenE),.row 3 1 (some ⟨nb,0,none⟩) (3+2+2+2+2) c91_3 ((sizes2 cs).map (Value.int .i64))] w) (fun k=>15 - k) 0 ⟨congrArg Value.bool (by simp),rfl,trivial⟩ (fun w hw=>⟨by omega,(hw.sel [0,1,2] (by decide))⟩) (fun k ρ0=>?_);refine WP.fact (fun hk=>?_);refine gg ?_;refine WP.condP rfl (fun h95=>?_) (fun h95=>?_)
   ·have hk15:k<15:=by omega
    obtain⟨x,hx⟩:∃x,(lens2 cs)[k]?=some x:=⟨_,List.getElem?_eq_getElem (by simp[lens2,lenPos2];omega)⟩;refine n6 ?_;refine WPL.splitB 99 rfl (fun h99=>?_) (fun h99=>?_)
    ·refine n3 ?_;refine vg (v_loadA (cs:=[.int .i64 _,.int .i64 _]) Tryz.isAgg27 Tryz.sizeOf27 rfl (fun w hw=>hw.row_at (i:=1) rfl _ (fun j u hj=>by rw[Nat.zero_add];exact(flatMap_get (sz:=2) (fun _=>rfl) (lens2 cs) k j x hx (by have:=(List.getElem?_eq_some_iff.1 hj).1;exact this)).trans hj))) ?_;refine WPL.efG (xC (rlenValid_ct x.1 x.2)) (fun _=>?_);refine WPL.fact (fun _=>?_);refine n7 ?_;exact nl fun w hw=>⟨rfl,k+1,(by omega),⟨(congrArg Value.bool (by rw[all_more hx,←Bool.and_assoc,h99];first | rfl | exact(Bool.true_and _).symm)),rfl,rfl,jS,jS,trivial⟩,by omega,hw.pk⟩
    ·refine n12 ?_;exact nl fun w hw=>⟨rfl,k+1,(by omega),⟨(congrArg Value.bool (by rw[all_more hx,←Bool.and_assoc,h99];first | rfl | exact(Bool.true_and _).symm)),rfl,rfl,jS,jS,trivial⟩,by omega,hw.pk⟩
   ·obtain rfl:k=15:=by omega
    have hall:(lens2 cs).take 15=lens2 cs:=List.take_of_length_le (by simp[lens2,lenPos2]);refine WP.exit (onto_of ?_);refine gg ?_;refine WP.loopK (X:=Nat) [1,5] (fun k=>[(3,.bool (kinds7 cs&&(lens2 cs).all (fun p=>lenOk p.1 p.2)&&((sizes2 cs).take k).all (fun n=>within n 0 1048576))),(8,.int .i64 (k:Int))]) (fun k w=>k≤11∧St w0 (foots []) [.cl sty 36 cs,.row 3 1 (some ⟨nb,0,none⟩) (3+2+2+2+2) c91_3 ((sizes2 cs).map (Value.int .i64))] w) (fun k=>11 - k) 0 ⟨congrArg Value.bool (by simp[hall]),rfl,trivial⟩ (fun w hw=>⟨by omega,(hw.sel [0,2] (by decide))⟩) (fun k ρ0=>?_);refine WP.fact (fun hk=>?_);refine gg ?_;refine WP.condP rfl (fun h109=>?_) (fun h109=>?_)
    ·have hk11:k<11:=by omega
     obtain⟨x,hx⟩:∃x,(sizes2 cs)[k]?=some x:=⟨_,List.getElem?_eq_getElem (by simp[sizes2,sizPos2];omega)⟩;refine n6 ?_;refine WPL.splitB 113 rfl (fun h113=>?_) (fun h113=>?_)
     ·refine n3 ?_;refine vg (v_load1 (u:=.int .i64 _) Tryz.isAgg3 rfl (fun w hw=>hw.row_at1 (i:=1) rfl (intAt hx) (Nat.zero_add _ |>.trans (Nat.mul_one _)))) ?_;refine vg (vC (in145_any _ _ _ _)) ?_;refine n7 ?_;exact nl fun w hw=>⟨rfl,k+1,(by omega),⟨(congrArg Value.bool (by rw[all_more hx,←Bool.and_assoc,h113];first | rfl | exact(Bool.true_and _).symm)),rfl,rfl,jS,trivial⟩,by omega,hw.pk⟩
     ·refine n12 ?_;exact nl fun w hw=>⟨rfl,k+1,(by omega),⟨(congrArg Value.bool (by rw[all_more hx,←Bool.and_assoc,h113];first | rfl | exact(Bool.true_and _).symm)),rfl,rfl,jS,trivial⟩,by omega,hw.pk⟩
    ·obtain rfl:k=11:=by omega
     have hall2:(sizes2 cs).take 11=sizes2 cs:=List.take_of_length_le (by simp[sizes2,sizPos2]);rw[hall2];refine WP.exit (onto_of ?_);refine n3 ?_;refine WPL.splitB 121 rfl (fun h121=>?_) (fun h121=>?_)
     ·refine ag ?_;refine vg (v_load1 (u:=.int .i64 _) Tryz.isAgg3 rfl (fun w hw=>hw.cl_at (i:=0) rfl 39 (cell_of (hs.int 39 (by decide) (by decide))))) ?_;refine vg (vC (in145_any _ _ _ _)) ?_;refine n2 ?_;refine WPL.splitB 126 rfl (fun h126=>?_) (fun h126=>?_)
      ·refine ag ?_;refine vg (v_load1 (u:=.int .i64 _) Tryz.isAgg3 rfl (fun w hw=>hw.cl_at (i:=0) rfl 40 (cell_of (hs.int 40 (by decide) (by decide))))) ?_;refine vg (vC (in145_any _ _ _ _)) ?_;refine n2 ?_;refine WPL.splitB 131 rfl (fun h131=>?_) (fun h131=>?_)
       ·refine ag ?_;refine vg (v_load1 (u:=.int .i64 _) Tryz.isAgg3 rfl (fun w hw=>hw.cl_at (i:=0) rfl 48 (cell_of (hs.int 48 (by decide) (by decide))))) ?_;refine vg (vC (in145_any _ _ _ _)) ?_;refine gg ?_;exact rt1 fun w hw=>⟨(),congrArg Value.bool (by rw[validB_ref];simp only[*,Bool.and_true,Bool.and_false,Bool.true_and,Bool.false_and]),trivial,hw.pk⟩
       ·refine gg ?_;exact rt1 fun w hw=>⟨(),congrArg Value.bool (by rw[validB_ref];simp only[*,Bool.and_true,Bool.and_false,Bool.true_and,Bool.false_and]),trivial,hw.pk⟩
      ·refine gg ?_;exact rt1 fun w hw=>⟨(),congrArg Value.bool (by rw[validB_ref];simp only[*,Bool.and_true,Bool.and_false,Bool.true_and,Bool.false_and]),trivial,hw.pk⟩
     ·refine gg ?_;exact rt1 fun w hw=>⟨(),congrArg Value.bool (by rw[validB_ref];simp only[*,Bool.and_true,Bool.and_false,Bool.true_and,Bool.false_and]),trivial,hw.pk⟩
def delE:List PE→Int→List PE
  | [],_=>[]
  | e::es,x=>if e.id=x then es else e::delE es x
def setE:List PE→PE→List PE
  | [],_=>[]
  | e::es,e'=>if e.id=e'.id then e'::es else e::setE es e'
abbrev restI (es:List PE):HI:=bundle (es.flatMap PE.items)
theorem ent_del:∀(es:List PE) (x:Int),(delE es x).map PE.ent=delM (es.map PE.ent) x
  | [],_=>rfl
  | e :: es, x => by
    simp only[delE,List.map_cons,delM,PE.ent]
    split
    · rfl
    · rw[List.map_cons,ent_del es x];rfl
theorem ent_set:∀(es:List PE) (e e':PE),lookE es e'.id=some e→e'.bb=e.bb→(setE es e').map PE.ent=es.map PE.ent
  | [],_,_,h,_=>by cases h
  | a :: es, e, e', h, hb => by
    unfold lookE at h;unfold setE
    split at h
    · rename_i hi
      cases h;rw[if_pos hi];simp[PE.ent,hi,hb]
    · rename_i hi
      rw[if_neg hi,List.map_cons,List.map_cons,ent_set es e e' h hb]
theorem del_perm:∀{es:List PE} {x:Int} {e:PE},lookE es x=some e→es.Perm (e::delE es x)
  | [],_,_,h=>by cases h
  | a :: es, x, e, h => by
    unfold lookE at h;unfold delE
    split at h
    · rename_i hi;cases h;rw[if_pos hi]
    · rename_i hi
      rw[if_neg hi];exact(List.Perm.cons a (del_perm h)).trans (List.Perm.swap e a _)
theorem set_perm:∀{es:List PE} {e e':PE},lookE es e'.id=some e→(setE es e').Perm (e'::delE es e'.id)
  | [],_,_,h=>by cases h
  | a :: es, e, e', h => by
    unfold lookE at h;unfold setE delE
    split at h
    · rename_i hi;rw[if_pos hi,if_pos hi]
    · rename_i hi
      rw[if_neg hi,if_neg hi];exact(List.Perm.cons a (set_perm h)).trans (List.Perm.swap e' a _)
theorem look_set:∀{es:List PE} {e e':PE},lookE es e'.id=some e→∀y,lookE (setE es e') y=if y=e'.id then some e' else lookE es y
  | [],_,_,h,_=>by cases h
  | a :: es, e, e', h, y => by
    unfold lookE at h;unfold setE
    split at h
    · rename_i hi
      rw[if_pos hi]
      by_cases hy:y=e'.id
      · rw[if_pos hy,lookE,if_pos hy.symm]
      · rw[if_neg hy,lookE,if_neg (fun e=>hy e.symm),lookE,if_neg (fun e=>hy (by rw[←e,hi]))]
    · rename_i hi
      rw[if_neg hi]
      by_cases ha:a.id=y
      · rw[lookE,if_pos ha,if_neg (fun e=>hi (by rw[ha,e])),lookE,if_pos ha]
      · rw[lookE,if_neg ha,look_set h y,lookE,if_neg ha]
theorem look_del {es:List PE} (hn:(es.map PE.id).Nodup) (x y:Int):lookE (delE es x) y=if y=x then none else lookE es y:=by
  induction es with
  | nil=>simp[delE,lookE]
  | cons a es ih =>
    rw[List.map_cons,List.nodup_cons] at hn;unfold delE
    by_cases ha:a.id=x
    · rw [if_pos ha]
      by_cases hy:y=x
      · rw [if_pos hy, hy, ← ha]
        cases h:lookE es a.id with
        | none=>rfl
        | some e=>exact absurd (List.mem_map.2 ⟨e,(lookE_mem h).1,(lookE_mem h).2⟩) hn.1
      · rw[if_neg hy,lookE,if_neg (fun e=>hy (by rw[←e,ha]))]
    · rw [if_neg ha]
      by_cases hay:a.id=y
      · rw[lookE,if_pos hay,if_neg (fun e=>ha (by rw[hay,e])),lookE,if_pos hay]
      · rw[lookE,if_neg hay,ih hn.2,lookE,if_neg hay]
theorem look_app (es:List PE) (e:PE) (y:Int):lookE (es++[e]) y=match lookE es y with | some a=>some a | none=>if e.id=y then some e else none:=by
  induction es with
  | nil=>simp[lookE]
  | cons a es ih =>
    simp only[List.cons_append,lookE]
    split
    · rfl
    · exact ih
theorem LOk.set {es:List PE} (h:LOk es) {e e':PE} (hl:lookE es e'.id=some e) (hs:SOk e'.sty):LOk (setE es e'):=by
  have hp:=set_perm hl;have hq:=del_perm hl;refine⟨fun a ha=>?_,?_⟩
  · rcases List.mem_cons.1 (hp.mem_iff.1 ha) with rfl | ha
    · exact hs
    · exact h.sty a (hq.mem_iff.2 (List.mem_cons_of_mem _ ha))
  · have h1 := (hp.map PE.id).nodup_iff.2
    refine h1 ?_;have h2:=(hq.map PE.id).nodup_iff.1 h.nodup;rw[List.map_cons] at h2 ⊢;rw[(lookE_mem hl).2] at h2;exact h2
theorem LOk.del {es:List PE} (h:LOk es) (x:Int):LOk (delE es x):=by
  cases hl:lookE es x with
  | none =>
    have:∀es:List PE,lookE es x=none→delE es x=es:=by
      intro es;induction es with
      | nil=>intro _;rfl
      | cons a es ih =>
        intro h;unfold lookE at h;unfold delE
        split at h
        · cases h
        · rename_i hi;rw[if_neg hi,ih h]
    rw[this es hl];exact h
  | some e =>
    have hq:=del_perm hl;refine⟨fun a ha=>h.sty a (hq.mem_iff.2 (List.mem_cons_of_mem _ ha)),?_⟩;have h2:=(hq.map PE.id).nodup_iff.1 h.nodup;rw[List.map_cons,List.nodup_cons] at h2;exact h2.2
section
variable {w0 w:World} {M:Nat→Prop} {tp mb:Nat} {es:List PE} {F:List HI}
theorem St.openT (h:St w0 M (treeI tp mb es::F) w):St w0 M (.cl tp 84 [.map (some mb)]::mapI mb (es.map PE.ent)::restI es::F) w:=by
  have h1:=h.unpack;have h2:St w0 M (es.flatMap PE.items++(.cl tp 84 [.map (some mb)]::mapI mb (es.map PE.ent)::F)) w:=by
    refine h1.perm ?_;show ((.cl tp 84 [.map (some mb)]::mapI mb (es.map PE.ent)::es.flatMap PE.items)++F).Perm _;have e1:((HI.cl tp 84 [.map (some mb)]::mapI mb (es.map PE.ent)::es.flatMap PE.items)++F)=[HI.cl tp 84 [.map (some mb)],mapI mb (es.map PE.ent)]++(es.flatMap PE.items++F):=rfl;have e2:(es.flatMap PE.items++(HI.cl tp 84 [.map (some mb)]::mapI mb (es.map PE.ent)::F))=es.flatMap PE.items++([HI.cl tp 84 [.map (some mb)],mapI mb (es.map PE.ent)]++F):=rfl;rw[e1,e2,←List.append_assoc,←List.append_assoc];exact List.Perm.append_right _ List.perm_append_comm
  exact h2.pack.perm ((List.Perm.swap _ _ _).trans (List.Perm.cons _ (List.Perm.swap _ _ _)))
theorem St.shutT (h:St w0 M (.cl tp 84 [.map (some mb)]::mapI mb (es.map PE.ent)::restI es::F) w):St w0 M (treeI tp mb es::F) w:=by
  have h1:=(h.perm ((List.Perm.cons _ (List.Perm.swap _ _ _)).trans (List.Perm.swap _ _ _))).unpack;have h2:St w0 M (ptree tp mb es++F) w:=by
    refine h1.perm ?_;show (es.flatMap PE.items++([HI.cl tp 84 [.map (some mb)],mapI mb (es.map PE.ent)]++F)).Perm ([HI.cl tp 84 [.map (some mb)],mapI mb (es.map PE.ent)]++(es.flatMap PE.items++F));rw[←List.append_assoc,←List.append_assoc];exact List.Perm.append_right _ List.perm_append_comm
  exact h2.pack
theorem flat_perm {a b:List PE} (h:a.Perm b):(a.flatMap PE.items).Perm (b.flatMap PE.items):=h.flatMap_right _
theorem St.openR {e:PE} {x:Int} (hl:lookE es x=some e) (h:St w0 M (restI es::F) w):St w0 M (.cl e.bb 81 e.cells::kidsI e.A e.kids.length e.c e.kids::restI (delE es x)::F) w:=by
  have h1:=h.unpack;have h2:St w0 M ((delE es x).flatMap PE.items++(.cl e.bb 81 e.cells::kidsI e.A e.kids.length e.c e.kids::F)) w:=by
    refine h1.perm ?_;refine(List.Perm.append_right F (flat_perm (del_perm hl))).trans ?_;show ([HI.cl e.bb 81 e.cells,kidsI e.A e.kids.length e.c e.kids]++(delE es x).flatMap PE.items++F).Perm ((delE es x).flatMap PE.items++([HI.cl e.bb 81 e.cells,kidsI e.A e.kids.length e.c e.kids]++F));rw[←List.append_assoc];exact List.Perm.append_right _ List.perm_append_comm
  exact h2.pack.perm ((List.Perm.swap _ _ _).trans (List.Perm.cons _ (List.Perm.swap _ _ _)))
theorem St.shutR {e:PE} {es':List PE} (hp:es'.Perm (e::es)) (h:St w0 M (.cl e.bb 81 e.cells::kidsI e.A e.kids.length e.c e.kids::restI es::F) w):St w0 M (restI es'::F) w:=by
  have h1:=(h.perm ((List.Perm.cons _ (List.Perm.swap _ _ _)).trans (List.Perm.swap _ _ _))).unpack;have h2:St w0 M (es'.flatMap PE.items++F) w:=by
    refine h1.perm ?_;refine List.Perm.trans ?_ (List.Perm.append_right F (flat_perm hp).symm);show ((es.flatMap PE.items)++([HI.cl e.bb 81 e.cells,kidsI e.A e.kids.length e.c e.kids]++F)).Perm ([HI.cl e.bb 81 e.cells,kidsI e.A e.kids.length e.c e.kids]++es.flatMap PE.items++F);rw[←List.append_assoc];exact List.Perm.append_right _ List.perm_append_comm
  exact h2.pack
theorem St.openB {e:PE} {x:Int} (hl:lookE es x=some e) (h:St w0 M (treeI tp mb es::F) w):
    St w0 M (.cl e.bb 81 e.cells::kidsI e.A e.kids.length e.c e.kids::.cl tp 84 [.map (some mb)]::mapI mb (es.map PE.ent)::restI (delE es x)::F) w:=by
  have h1:=h.openT;have h2:=St.openR hl (h1.perm (σ':=restI es::.cl tp 84 [.map (some mb)]::mapI mb (es.map PE.ent)::F) ((List.Perm.cons _ (List.Perm.swap _ _ _)).trans (List.Perm.swap _ _ _)));refine h2.perm (List.Perm.cons _ (List.Perm.cons _ ?_));exact(List.Perm.swap _ _ _).trans (List.Perm.cons _ (List.Perm.swap _ _ _))
theorem St.shutB {e e':PE} (hl:lookE es e'.id=some e) (hb:e'.bb=e.bb)
    (h:St w0 M (.cl e'.bb 81 e'.cells::kidsI e'.A e'.kids.length e'.c e'.kids::.cl tp 84 [.map (some mb)]::mapI mb (es.map PE.ent)::restI (delE es e'.id)::F) w):St w0 M (treeI tp mb (setE es e')::F) w:=by
  have h1:St w0 M (.cl e'.bb 81 e'.cells::kidsI e'.A e'.kids.length e'.c e'.kids::restI (delE es e'.id)::.cl tp 84 [.map (some mb)]::mapI mb (es.map PE.ent)::F) w:=by
    refine h.perm (List.Perm.cons _ (List.Perm.cons _ ?_));exact(List.Perm.cons _ (List.Perm.swap _ _ _)).trans (List.Perm.swap _ _ _)
  have h2:=St.shutR (set_perm hl) h1;refine St.shutT ?_;rw[ent_set es e e' hl hb];exact h2.perm ((List.Perm.swap _ _ _).trans (List.Perm.cons _ (List.Perm.swap _ _ _)))
end
theorem put_new (es:List PE) (x:Int) (v:Value) (h:lookE es x=none):putM (es.map PE.ent) x v=es.map PE.ent++[(x,v)]:=by
  induction es with
  | nil=>rfl
  | cons a es ih =>
    unfold lookE at h
    split at h
    · cases h
    · rename_i hi
      simp only[List.map_cons,putM,PE.ent,hi,if_false,List.cons_append];rw[ih h]
theorem FoR_set {es:List PE} {e e':PE} (hl:lookE es e'.id=some e) (y:Int):FoR (setE es e') y=if y=e'.id then some ⟨e'.up,e'.kids,e'.sty⟩ else FoR es y:=by
  unfold FoR;rw[look_set hl]
  split<;>rfl
theorem FoR_some {es:List PE} {x:Int} {e:PE} (h:lookE es x=some e):FoR es x=some ⟨e.up,e.kids,e.sty⟩:=by simp[FoR,h]
theorem look_of {es:List PE} {x:Int} (h:hasF (FoR es) x=true):∃e,lookE es x=some e:=by
  unfold hasF FoR at h;cases e:lookE es x with
  | none=>rw[e] at h;cases h
  | some a=>exact⟨a,rfl⟩
theorem look_none {es:List PE} {x:Int} (h:hasF (FoR es) x=false):lookE es x=none:=by
  unfold hasF FoR at h;cases e:lookE es x with
  | none=>rfl
  | some a=>rw[e] at h;cases h
theorem ptr_some {es:List PE} {x:Int} {e:PE} (h:lookE es x=some e):ptrE es x=some ⟨e.bb,0,none⟩:=by simp[ptrE,h]
def cutE (pe:PE) (id:Int):PE:=⟨pe.id,pe.bb,pe.A,pe.c,pe.up,cutK pe.kids id,pe.sty⟩
theorem St.shutK {w0 w:World} {M:Nat→Prop} {tp mb:Nat} {es:List PE} {F:List HI} {e:PE} {x:Int} (hl:lookE es x=some e) {A:Option Addr} {n c:Nat} {up:Int} {l:List Int} {sty:List Value} (hn:n=l.length)
    (h:St w0 M (.cl e.bb 81 (.int .i64 up::.slice A n c::sty)::kidsI A n c l::.cl tp 84 [.map (some mb)]::mapI mb (es.map PE.ent)::restI (delE es x)::F) w):St w0 M (treeI tp mb (setE es ⟨e.id,e.bb,A,c,up,l,sty⟩)::F) w:=by
  subst hn;have hi:=(lookE_mem hl).2;subst hi;exact St.shutB (e':=⟨e.id,e.bb,A,c,up,l,sty⟩) hl rfl h
theorem WF.kids_len {es:List PE} {d:Int→Nat} (hF:WF (FoR es) d) {x:Int} {e:PE} (h:lookE es x=some e):e.kids.length≤4096:=hF.kids_le (FoR_some h)
theorem cut_ct (tp mb:Nat) (es:List PE) (hk:LOk es) (id:Int) {e pe:PE} (he:lookE es id=some e) (hp:lookE es e.up=some pe) (hm:id∈pe.kids) (hn:pe.kids.Nodup) (hl:pe.kids.length≤5000):
    Ct Tryz.prog 114 #[.pointer (some ⟨tp,0,none⟩),.int .i64 id] [treeI tp mb es] (fun _=>True) (X:=Unit) (fun _=>.tuple #[]) (fun _=>True) (fun _=>[treeI tp mb (setE es (cutE pe id))]):=by
  obtain⟨k,hk1,_,hk3⟩:=idxI_mem hm;have hkl:=(List.getElem?_eq_some_iff.1 hk1).1;have hup:ptrE es (upF (FoR es) id)=some ⟨pe.bb,0,none⟩:=by rw[up_some (FoR_some he)];exact ptr_some hp
  have hpid:pe.id=e.up:=(lookE_mem hp).2;have hlen:(cutK pe.kids id).length=pe.kids.length - 1:=by have:=cutK_len hn hm;omega
  refine Ci fun w0 _=>?_;refine gg ?_;refine wP none [0] [pT 0,pT 1,pT 2,pT 3,pT 4,pT 5,pF 6,pT 7,pT 8] ?_;refine n3 ?_;refine tE rfl (v_load1 (u:=.map _) Tryz.isAgg82 rfl (fun w hw=>hw.treeRoot (i:=0) rfl)) ?_;refine gg ?_;refine dG (xC (up_ct tp mb es hk id)) fun _ _=>?_;refine tE rfl (v_lookT (es:=es) (i:=0) rfl Tryz.underlying82 Tryz.underlying3 Tryz.zeroValue79 rfl rfl) ?_;refine ad ?_;refine WPD.nil (onto_of ?_);refine sq ?_;refine WP.pre ?_ (fun w hw=>St.openB hp (hw.sel [0] (by decide)));rw[hup];refine gg ?_;refine WPL.ef (x_call Tryz.call143 (index_ct pe.A pe.c pe.kids id (by omega)) [1] [0,2,3,4] rfl (fun w hw=>trivial) (τ:=fun _=>[_,_,_,_,_]) (fun _=>rfl)) (fun _=>?_);refine WPL.fact (fun _=>?_);refine n2 ?_;rw[hk3];refine gg ?_;refine eF (xC (delete_ct pe.A pe.c pe.kids k hkl hl)) fun _ _=>?_;refine gg ?_;refine WPL.ef0 (x_store (u:=.slice _ _ _) (σ':=[_,_,_,_,_]) Tryz.sizeOf55 rfl rfl (i:=0) rfl (Nat.lt_of_lt_of_le (Nat.lt_succ_self _) (Nat.le_of_ble_eq_true rfl)) rfl) (fun _=>?_);exact nl fun w hw=>RetQ.of0 Tryz.results114 (.inr rfl) ⟨(),rfl,trivial,St.shutK (l:=cutK pe.kids id) hp hlen.symm (by rw[←erase_cut hn hk1];exact(hw.sel [0,4,1,2,3] (by decide)))⟩
def depN (F:Forest (List Value)) (l:List Int):Int:=l.foldl (fun n x=>max n (depthF F x)) 0
theorem depN_snoc (F:Forest (List Value)) {l:List Int} {k:Nat} {x:Int} (h:l[k]?=some x):depN F (l.take (k+1))=max (depN F (l.take k)) (depthF F x):=by
  rw[take_snoc h];simp[depN]
theorem deep_ct (tp mb:Nat) (es:List PE) (hk:LOk es) {d:Int→Nat} (hF:WF (FoR es) d) (id:Int):
    Ct Tryz.prog 117 #[.pointer (some ⟨tp,0,none⟩),.int .i64 id] [treeI tp mb es] (fun _=>True) (X:=Unit) (fun _=>.int .i64 (deepF (FoR es) id)) (fun _=>True) (fun _=>[treeI tp mb es]):=by
  refine Ci fun w0 _=>?_;refine gg ?_;refine WPL.ef (x_box1 (u:=.pointer _) (σ':=fun _=>[_,_]) rfl (fun _=>rfl)) (fun b2=>?_);refine gg ?_;refine WPL.ef xAl fun b5=>?_;refine WPL.ef0 (xS rfl (isI rfl)) fun _=>?_;refine gg ?_;refine eF (xC (inside_ct tp id)) fun⟨m2,m3⟩ _=>?_;refine n2 ?_;refine sl [0,3,4,2,1] ?_;refine WP.rangeIter (gf:=98) (first:=[]) (cap:=[.pointer (some ⟨m2,0,none⟩),.pointer (some ⟨m3,0,none⟩)]) rfl Tryz.call98 (inside_iter tp mb es hk hF 64 id m2 m3 (by omega)) (Z:=Unit) (own:=fun k _=>[.cl b5 3 [.int .i64 (depN (FoR es) ((sub (FoR es) id).take k))],.cl b2 39 [.pointer (some ⟨tp,0,none⟩)]]) (Inv:=fun _ _=>True) () trivial (List.Perm.refl _) (fun _=>rfl) (by decide) (Y:=Unit) (fun _ _ _=>False) (fun _=>[]) ?_ ?_ ?_
  ·intro lk l2 D2 k x _z hx hz w1 M1;refine n2 ?_;refine WPL.nil (begun_of (i:=0) rfl ?_);refine gg ?_;refine WP.drawSel (some 5) [0,1,2,3,4,5,6,7] [(0,true),(1,true),(2,true),(3,false),(4,true),(5,false)] mixed (by kernel_rfl) (by decide) ?_
   iterate 3 refine ad ?_
   refine WPD.ef rfl (x_call Tryz.call33 (depth_ct tp mb es hk hF x) [3] [0,1,2,4,5,6,7] rfl (fun w hw=>trivial) (τ:=fun _=>[_,_,_,_,_,_,_,_]) (fun _=>rfl)) (fun _ _ _ h=>h.2.sel [0,1,2,7,3,4,5,6] (by decide)) (fun _=>?_);refine WPD.fact (fun _=>?_);refine WPD.take rfl (v_max rfl rfl) ?_ (fun _ h=>h.sel [0,1,2,7,3,4,5,6] (by decide));refine WPD.ef0 rfl (x_store (u:=.int .i64 _) (σ':=[_,_,_,_,_,.cl _ _ [_],_,_]) Tryz.sizeOf3 rfl rfl (i:=5) rfl (Nat.lt_of_lt_of_le (Nat.lt_succ_self _) (Nat.le_of_ble_eq_true rfl)) rfl) (fun h=>absurd rfl h) (fun _=>?_);exact WPD.nil (fun w hw=>RoundQ.normal (i:=0) rfl hw (fun w2 hw2=>.inl ⟨(),rfl,trivial,by dsimp only;rw[depN_snoc (FoR es) hx];exact(hw2.sel [0,1,2,7,3,4,5,6] (by decide))⟩))
  ·intro D _z hz;rw[List.take_of_length_le (Nat.le_refl (sub (FoR es) id).length)];refine fin_id (onto_of ?_);refine gg ?_;exact WP.retM [D] (τ:=[treeI tp mb es]) (fun w hw=>(hw.sel [0,5] (by decide))) (fun _ h=>h) (fun w hw=>RetQ.of1 Tryz.results117 (.inl rfl) ⟨(),rfl,trivial,hw⟩)
  ·intro D c k y hf;exact hf.elim
theorem v_lookO {P:Program} {w0:World} {M:Nat→Prop} {σ:List HI} {ρ:Env} {dst:Option Tmp} {ty:TypeId} {pos:String} {af:Array Edge} {g:Option (Nat×Bool)} {x y:Operand} {t kt et:TypeId} {i mb:Nat} {es:List PE} {k:Int} {q:IntKind} {e:PE} (hl:lookE es k=some e) (hi:σ[i]?=some (mapI mb (es.map PE.ent))) (ht:P.underlying t=some (.map kt et)) (hk:P.underlying kt=some (.int q)) (hz:∀w,(zeroValue et).run P w=.ok (.pointer none) w) (hx:evo ρ x=.map (some mb)) (hy:evo ρ y=.int .i64 k):
    OpV P (St w0 M σ) ⟨dst,.lookup t x y false,ty,pos,af,g⟩ ρ (.pointer (some ⟨e.bb,0,none⟩)):=by
  have h:=v_lookup (P:=P) (S:=St w0 M σ) (dst:=dst) (ty:=ty) (pos:=pos) (af:=af) (g:=g) (m:=es.map PE.ent) ht hk hz hx hy (fun w hw=>hw.mapAt hi)
  rwa [look_ptr,ptr_some hl] at h
theorem setL_box (a b:Value) (s s':List Value) (h:s'.length=s.length):setL (a::b::s) 2 s'=a::b::s':=by
  rw[setL_eq _ _ _ (by simp only[List.length_cons];omega)];simp[h];omega
theorem FoR_sty {es:List PE} {x:Int} {e:PE} (h:lookE es x=some e) {bb:Nat} {A:Option Addr} {c:Nat} {sty:List Value}:FoR (setE es ⟨e.id,bb,A,c,e.up,e.kids,sty⟩)=setG (FoR es) x sty:=by
  have hi:=(lookE_mem h).2
  funext y
  rw[FoR_set (e:=e) (by show lookE es e.id=some e;rw[hi];exact h),setG,FoR_some h,hi];rfl
theorem set_ct (tp mb:Nat) (es:List PE) (hk:LOk es) (id:Int) (sty:List Value) (hs:SOk sty):
    Ct Tryz.prog 14 #[.pointer (some ⟨tp,0,none⟩),.int .i64 id,.agg sty.toArray] [treeI tp mb es] (fun _=>True) (X:=List PE) (fun _=>.int .i64 (setR validB (FoR es) id sty).2) (fun es'=>FoR es'=(setR validB (FoR es) id sty).1∧LOk es') (fun es'=>[treeI tp mb es']):=by
  refine Ci fun w0 _=>?_;refine gg ?_;refine WPL.ef (xB (us:=sty)) fun b5=>?_;refine gg ?_;refine eF (xC (has_ct tp mb es id)) fun _ _=>?_;refine gg ?_;refine WP.cond rfl (fun h7=>?_) (fun h7=>?_)
  ·have hr:setR validB (FoR es) id sty=(FoR es,2):=by simp only[Bool.not_eq_true'] at h7;simp[setR,h7]
   refine gg ?_;exact rt1 fun w hw=>⟨es,congrArg (Value.int .i64) (by rw[hr]),⟨by rw[hr],hk⟩,hw.pk⟩
  ·refine gg ?_;refine vl (vW hs.len) ?_;refine eF (xC (valid_ct sty hs)) fun _ _=>?_;refine gg ?_;refine WP.cond rfl (fun h12=>?_) (fun h12=>?_)
   ·have hr:setR validB (FoR es) id sty=(FoR es,1):=by simp only[Bool.not_eq_true',Bool.not_eq_false'] at h7 h12;simp[setR,h7,h12]
    refine gg ?_;exact rt1 fun w hw=>⟨es,congrArg (Value.int .i64) (by rw[hr]),⟨by rw[hr],hk⟩,hw.pk⟩
   ·simp only[Bool.not_eq_false'] at h7 h12;have hr:setR validB (FoR es) id sty=(setG (FoR es) id sty,0):=by simp[setR,h7,h12]
    obtain⟨e,he⟩:=look_of h7;have hes:=(hk.sty e (lookE_mem he).1).len;refine n2 ?_;refine WP.pre ?_ (fun w hw=>St.openB he (hw.sel [1,0] (by decide)));refine WP.drawS (some 9) [(0,true),(1,true),(2,true),(3,true),(4,true),(5,true),(6,true),(7,false),(8,true),(9,false)] mixed (by kernel_rfl) (by decide) (fun _ h=>h.drawn) ?_;refine n3 ?_;refine tE rfl (v_load1 (u:=.map _) Tryz.isAgg82 rfl (fun w hw=>hw.cl_at (i:=2) rfl _ rfl)) ?_;refine ad ?_;refine tE rfl (v_lookO (es:=es) he (i:=3) rfl Tryz.underlying82 Tryz.underlying3 Tryz.zeroValue79 rfl rfl) ?_;refine WPD.take rfl (v_loadA (cs:=sty) Tryz.isAgg36 Tryz.sizeOf36 rfl (fun w hw=>hw.cl_at (i:=5) rfl 0 (whole _)) hs.len) ?_ (fun _ h=>h);refine WPD.val rfl (v_nil rfl) (fun _ h=>h) ?_;refine gg ?_;refine WPD.ef0 rfl (x_storeA (us:=sty) (σ':=[.cl _ _ _,_,_,_,_,_]) Tryz.sizeOf36 rfl rfl (i:=0) rfl (by show 2+sty.length≤e.sty.length+1+1;rw[hs.len,hes];decide) (by rw[PE.cells,setL_box _ _ _ _ (by rw[hs.len,hes])];rfl) hs.one hs.len) (fun h=>absurd rfl h) (fun _=>?_);refine gg ?_;exact rt1 fun w hw=>⟨setE es ⟨e.id,e.bb,e.A,e.c,e.up,e.kids,sty⟩,congrArg (Value.int .i64) (by rw[hr]),⟨by rw[hr];exact FoR_sty he,hk.set (e:=e) (by show lookE es e.id=some e;rw[(lookE_mem he).2];exact he) hs⟩,St.shutK he rfl hw.pk⟩
end Go.Proofs.YtpgjbbaplpdaiaaGreat
