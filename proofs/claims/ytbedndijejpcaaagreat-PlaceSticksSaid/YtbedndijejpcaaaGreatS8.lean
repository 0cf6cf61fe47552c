/- TreeRead RefRead Buf TreeLib TreeSeq -/
import Derived.Lib.AppendZerosOnto
import Derived.Lib.Overlaps
import Derived.Test.YtbedndijejpcaaaGreatS7
set_option linter.unusedVariables false
set_option linter.unusedSimpArgs false
set_option linter.unusedSectionVars false
set_option maxRecDepth 100000
set_option maxHeartbeats 8000000
namespace Go.Proofs.YtbedndijejpcaaaGreat
open Go.RowKit
theorem has_ct (tp mb:Nat) (es:List PE) (x:Int):Ct Tryz.prog 19 #[.pointer (some ⟨tp,0,none⟩),.int .i64 x] [treeI tp mb es] (fun _=>True) (X:=Unit) (fun _=>.bool (hasF (FoR es) x)) (fun _=>True) (fun _=>[treeI tp mb es]):=by
  refine Ci fun w0 _=>?_;refine sqR ?_;refine av ?_;refine nl (oo ?_);refine sqR ?_
  iterate 3 refine av ?_
  refine vl (v_load1 (u:=.map _) Tryz.isAgg105 rfl (fun w hw=>hw.treeRoot (i:=0) rfl)) ?_;refine av ?_;refine vl (v_lookT (i:=0) rfl Tryz.underlying105 Tryz.underlying3 Tryz.zeroValue104 rfl rfl) ?_;refine vl (v_neNil Tryz.underlying104 rfl rfl) ?_;refine gg ?_;exact rt1 fun w hw=>⟨(),congrArg Value.bool (ptr_has es x),trivial,hw.pk⟩
theorem of_ct (tp mb:Nat) (es:List PE) (hk:LOk es) (x:Int):Ct Tryz.prog 57 #[.pointer (some ⟨tp,0,none⟩),.int .i64 x] [treeI tp mb es] (fun _=>True) (X:=Unit) (fun _=>.agg (ofV es x).toArray) (fun _=>True) (fun _=>[treeI tp mb es]):=by
  refine Ci fun w0 _=>?_;refine gg ?_;refine WPL.ef (x_alloc (us:=.int .i64 0::.slice none 0 0::zeroS) (σ':=fun _=>[_,_]) Tryz.zeroValue102 rfl (fun _=>rfl)) (fun b4=>?_);refine nl (oo ?_);refine sq ?_;refine sqR ?_
  iterate 3 refine av ?_
  refine vl (v_load1 (u:=.map _) Tryz.isAgg105 rfl (fun w hw=>hw.treeRoot (i:=0) rfl)) ?_;refine av ?_;refine vl (v_lookT (i:=0) rfl Tryz.underlying105 Tryz.underlying3 Tryz.zeroValue104 rfl rfl) ?_;refine av ?_;refine nl (oo ?_);refine sqR ?_;refine av ?_;refine vl (v_neNil Tryz.underlying104 rfl rfl) ?_;refine gg ?_;refine WP.cond rfl (fun h13=>?_) (fun h13=>?_)
  ·obtain⟨e,he⟩:∃e,lookE es x=some e:=by unfold ptrE at h13;cases h:lookE es x with | none=>rw[h] at h13;cases h13 | some e=>exact⟨e,rfl⟩
   have hlen:e.cells.length=57:=by rw[←ofV_some he];exact hk.of_len x
   have hone:∀u∈e.cells,u.oneCell'=true:=by rw[←ofV_some he];exact hk.of_one x
   rw[show ptrE es x=some ⟨e.bb,0,none⟩ from by simp[ptrE,he]];refine sqR ?_
   iterate 2 refine av ?_
   refine vl (v_loadA (cs:=e.cells) Tryz.isAgg102 Tryz.sizeOf102 rfl (fun w hw=>hw.treeBox (i:=0) rfl (lookE_mem he).1) hlen) ?_;refine WPL.ef0 (x_storeW (us:=e.cells) (σ':=[_,_]) Tryz.sizeOf102 rfl rfl (i:=1) rfl hlen rfl hone hlen) (fun _=>?_);refine nl (oo ?_);simp only[ofV_some he];exact WP.retC (us:=e.cells) Tryz.results57 rfl Tryz.isAgg102 Tryz.sizeOf102 (fun w hw=>hw.cl_at (i:=1) rfl 0 (whole _)) hlen (fun _ h=>h) (fun w hw=>⟨(),rfl,trivial,hw.pk⟩)
  ·have he:lookE es x=none:=by unfold ptrE at h13;cases h:lookE es x with | none=>rfl | some e=>rw[h] at h13;cases h13
   have hlen:(.int .i64 (-1)::.slice none 0 0::zeroS).length=57:=rfl;have hone:∀u∈(.int .i64 (-1)::.slice none 0 0::zeroS),u.oneCell'=true:=by rw[←ofV_none he];exact hk.of_one x
   refine WP.skip (onto_of ?_);refine sqR ?_;refine vl (v_struct (us:=(.int .i64 (-1)::.slice none 0 0::zeroS)) (pl:=[(0,1),(1,1),(2,55)]) Tryz.underlying102 Tryz.zeroValue102 rfl (by kernel_rfl) rfl rfl (by kernel_rfl)) ?_;refine WPL.ef0 (x_storeW (us:=(.int .i64 (-1)::.slice none 0 0::zeroS)) (σ':=[_,_]) Tryz.sizeOf102 rfl rfl (i:=1) rfl hlen rfl hone hlen) (fun _=>?_);refine nl (oo ?_);simp only[ofV_none he];exact WP.retC (us:=(.int .i64 (-1)::.slice none 0 0::zeroS)) Tryz.results57 rfl Tryz.isAgg102 Tryz.sizeOf102 (fun w hw=>hw.cl_at (i:=1) rfl 0 (whole _)) hlen (fun _ h=>h) (fun w hw=>⟨(),rfl,trivial,hw.pk⟩)
theorem up_ct (tp mb:Nat) (es:List PE) (hk:LOk es) (x:Int):Ct Tryz.prog 37 #[.pointer (some ⟨tp,0,none⟩),.int .i64 x] [treeI tp mb es] (fun _=>True) (X:=Unit) (fun _=>.int .i64 (upF (FoR es) x)) (fun _=>True) (fun _=>[treeI tp mb es]):=by
  refine Ci fun w0 _=>?_;refine gg ?_;refine eF (xC (of_ct tp mb es hk x)) fun _ _=>?_;refine vl (v_part (u:=.int .i64 _) Tryz.underlying102 rfl Tryz.isAgg3 rfl rfl) ?_;refine gg ?_;exact rt1 fun w hw=>⟨(),rfl,trivial,hw.pk⟩
theorem style_ct (tp mb:Nat) (es:List PE) (hk:LOk es) (x:Int):Ct Tryz.prog 18 #[.pointer (some ⟨tp,0,none⟩),.int .i64 x] [treeI tp mb es] (fun _=>True) (X:=Unit) (fun _=>.agg (styF zeroS (FoR es) x).toArray) (fun _=>True) (fun _=>[treeI tp mb es]):=by
  refine Ci fun w0 _=>?_;refine gg ?_;refine WPL.ef xAl fun b4=>?_;refine gg ?_;refine eF (xC (of_ct tp mb es hk x)) fun _ _=>?_;refine vl (v_partA (us:=(styF zeroS (FoR es) x).toArray) Tryz.underlying102 rfl Tryz.isAgg42 Tryz.sizeOf42 rfl (sty_part hk x)) ?_;refine WPL.ef0 (x_storeW (us:=styF zeroS (FoR es) x) (σ':=[_,_]) Tryz.sizeOf42 rfl rfl (i:=0) rfl (hk.styOk x).len (hσ:=rfl) (hk.styOk x).one (hk.styOk x).len) (fun _=>?_);refine gg ?_;exact WP.retC (us:=styF zeroS (FoR es) x) Tryz.results18 rfl Tryz.isAgg42 Tryz.sizeOf42 (fun w hw=>hw.cl_at (i:=0) rfl 0 (whole _)) (hk.styOk x).len (fun _ h=>h) (fun w hw=>⟨(),rfl,trivial,hw.pk⟩)
theorem len_ct (tp mb:Nat) (es:List PE):Ct Tryz.prog 83 #[.pointer (some ⟨tp,0,none⟩)] [treeI tp mb es] (fun _=>True) (X:=Unit) (fun _=>.int .i64 (es.length:Int)) (fun _=>True) (fun _=>[treeI tp mb es]):=by
  refine Ci fun w0 _=>?_;refine sqR ?_;refine av ?_;refine nl (oo ?_);refine sqR ?_
  iterate 3 refine av ?_
  refine vl (v_load1 (u:=.map _) Tryz.isAgg105 rfl (fun w hw=>hw.treeRoot (i:=0) rfl)) ?_;refine vl (v_lenMap Tryz.underlying105 rfl (fun w hw=>hw.treeMap (i:=0) rfl)) ?_;refine gg ?_;exact rt1 fun w hw=>⟨(),congrArg (Value.int .i64) (by simp),trivial,hw.pk⟩
theorem chain_le (F:Forest (List Value)):∀n x,chainF F n x≤n
  | 0,_=>Nat.le_refl _
  | n + 1, x => by
    rw[chainF]
    split
    · have:=chain_le F n (upF F x);omega
    · omega
theorem depth_ct (tp mb:Nat) (es:List PE) (hk:LOk es) {d:Int→Nat} (hF:WF (FoR es) d) (x:Int):Ct Tryz.prog 84 #[.pointer (some ⟨tp,0,none⟩),.int .i64 x] [treeI tp mb es] (fun _=>True) (X:=Unit) (fun _=>.int .i64 (depthF (FoR es) x)) (fun _=>True) (fun _=>[treeI tp mb es]):=by
  refine Ci fun w0 _=>?_;refine gg ?_;refine WP.loopK (X:=Nat×Int) [0] (fun p=>[(1,.int .i64 p.2),(5,.int .i64 (63 - (p.1:Int)))]) (fun p w=>(depthF (FoR es) x=63 - p.1+chainF (FoR es) p.1 p.2∧p.1≤64∧(hasF (FoR es) p.2=true→d p.2+1≤p.1))∧St w0 (foots [treeI tp mb es]) [treeI tp mb es] w) (fun p=>p.1) (64,x) ⟨rfl,rfl,trivial⟩ (fun w hw=>⟨⟨by unfold depthF;dsimp only;omega,Nat.le_refl _,fun h=>by dsimp only at h ⊢;obtain⟨b,hb⟩:=some_has h;have:=hF.deep x b hb;omega⟩,hw⟩) (fun p ρ0=>?_);refine WP.fact (fun⟨hd,hp,hr⟩=>?_);refine gg ?_;refine eF (xC (has_ct tp mb es p.2)) fun _ _=>?_;refine gg ?_;refine WP.cond rfl (fun h8=>?_) (fun h8=>?_)
  ·have hr1:=hr h8;have hd2:depthF (FoR es) x=63 - ((p.1 - 1:Nat):Int)+chainF (FoR es) (p.1 - 1) (upF (FoR es) p.2):=by
     rw[show p.1=(p.1 - 1)+1 by omega,chainF,if_pos h8] at hd;omega
   have hr2:hasF (FoR es) (upF (FoR es) p.2)=true→d (upF (FoR es) p.2)+1≤p.1 - 1:=fun hu=>by
     obtain⟨b,hb⟩:=some_has h8;rw[up_some hb] at hu ⊢
     by_cases h0:p.2=0
     · obtain ⟨r, hr0, hru⟩ := hF.root
       rw[h0,hr0] at hb;cases hb;rw[hru,has_none (hF.neg (by omega))] at hu;cases hu
     · have:=hF.rank p.2 b hb h0;omega
   refine gg ?_;refine eF (xC (up_ct tp mb es hk p.2)) fun _ _=>?_;refine av ?_;exact nl fun w hw=>⟨rfl,(p.1 - 1,upF (FoR es) p.2),(by simp only;omega),⟨rfl,(congrArg (Value.int .i64) (by simp only;omega)),jP,trivial⟩,⟨hd2,by simp only;omega,hr2⟩,hw⟩
  ·have hc:chainF (FoR es) p.1 p.2=0:=by cases e:p.1 with | zero=>rfl | succ n=>rw[chainF,if_neg (by simp[h8])]
   refine WP.exit (onto_of ?_);refine gg ?_;exact rt1 fun w hw=>⟨(),congrArg (Value.int .i64) (by omega),trivial,hw.pk⟩
theorem clone_ct (A:Option Addr) (c:Nat) (l:List Int) (hl:l.length≤10000):Ct Tryz.prog 74 #[.slice A l.length c] [] (fun w=>Src w A l.length (l.map (Value.int .i64))) (X:=Option Addr×Nat) (fun p=>.slice p.1 l.length p.2) (fun _=>True) (fun p=>[kidsI p.1 l.length p.2 l]):=by
  refine Ci fun w0 hz=>?_;refine sqR ?_;refine av ?_;refine nl (oo ?_);refine sq ?_;refine sqR ?_;refine av ?_;refine vl (v_eqNilS Tryz.underlying49 rfl rfl) ?_;refine gg ?_;refine WP.cond rfl (fun h4=>?_) (fun h4=>?_)
  ·have hA:A=none:=Option.isNone_iff_eq_none.1 h4;subst hA;have hl0:l=[]:=by rcases hz with ⟨_,h⟩ | ⟨b,o,e,_⟩;exact List.eq_nil_of_length_eq_zero h;cases e
   subst hl0;refine gg ?_;exact rt1 fun w hw=>⟨(none,0),rfl,trivial,hw.nilRow 3 1⟩
  ·refine gg ?_;refine WPL.ef (x_buildSlice0 (σ':=fun _=>[_]) Tryz.underlying49 Tryz.sizeOf3 (fun _=>rfl)) (fun g5=>?_);refine gg ?_;refine WPL.ef (x_append (sz:=1) (σ':=fun _=>[_]) Tryz.underlying49 int_info rfl (by decide) rfl rfl (i:=0) rfl (fun w hw=>hw.oldSrc hz (fun _ _=>not_foots_nil _)) (by simp) (by intro u hu;obtain⟨z,_,rfl⟩:=List.mem_map.1 hu;rfl) (by omega) (by omega) (fun _=>rfl)) (fun⟨A7,c7⟩=>?_);refine gg ?_;exact rt1 fun w hw=>⟨(A7,c7),by show Value.slice A7 (0+l.length) c7=_;rw[Nat.zero_add],trivial,by rw[kidsI,←Nat.zero_add l.length];exact hw⟩
theorem kids_ct (tp mb:Nat) (es:List PE) (hk:LOk es) (x:Int) (hl:(kidsF (FoR es) x).length≤10000):Ct Tryz.prog 36 #[.pointer (some ⟨tp,0,none⟩),.int .i64 x] [treeI tp mb es] (fun _=>True) (X:=Option Addr×Nat) (fun p=>.slice p.1 (kidsF (FoR es) x).length p.2) (fun _=>True) (fun p=>[treeI tp mb es,kidsI p.1 (kidsF (FoR es) x).length p.2 (kidsF (FoR es) x)]):=by
  refine Ci fun w0 _=>?_;refine gg ?_;refine eF (xC (of_ct tp mb es hk x)) fun _ _=>?_;refine vl (v_part (u:=.slice _ _ _) Tryz.underlying102 rfl Tryz.isAgg49 rfl rfl) ?_;refine eF (xC (clone_ct (kA es x) (kC es x) (kidsF (FoR es) x) hl) (hF:=fun w hw=>hw.treeSrcOf (i:=0) rfl x)) fun⟨A9,c9⟩ _=>?_;refine gg ?_;exact rt1 fun w hw=>⟨(A9,c9),rfl,trivial,hw.pk⟩
theorem least_ct (tp mb:Nat) (es:List PE) {d:Int→Nat} (hF:WF (FoR es) d):Ct Tryz.prog 85 #[.pointer (some ⟨tp,0,none⟩)] [treeI tp mb es] (fun _=>True) (X:=Unit) (fun _=>.int .i64 (least (FoR es))) (fun _=>True) (fun _=>[treeI tp mb es]):=by
  refine Ci fun w0 _=>?_;refine gg ?_;refine WP.loopK (X:=Nat) [0] (fun k=>[(3,.int .i64 (k:Int))]) (fun k w=>(∀j:Nat,j<k→hasF (FoR es) j=true)∧St w0 (foots [treeI tp mb es]) [treeI tp mb es] w) (fun k=>4096 - k) 0 ⟨rfl,trivial⟩ (fun w hw=>⟨fun j hj=>by omega,hw⟩) (fun k ρ0=>?_);refine WP.fact (fun hall=>?_);refine gg ?_;refine eF (xC (has_ct tp mb es (k:Int))) fun _ _=>?_;refine gg ?_;refine WP.cond rfl (fun h6=>?_) (fun h6=>?_)
  ·have hk:k<4096:=by obtain⟨b,hb⟩:=some_has h6;have:=hF.range _ b hb;omega
   have hall2:∀j:Nat,j<k+1→hasF (FoR es) j=true:=fun j hj=>by rcases Nat.lt_or_ge j k with h | h;exact hall j h;(obtain rfl:j=k:=by omega);exact h6
   refine WP.skip (onto_of ?_);refine WP.block ?_;refine WP.region ?_
   iterate 3 refine av ?_
   exact nl fun w hw=>⟨rfl,k+1,(by omega),⟨rfl,jP,trivial⟩,hall2,hw⟩
  ·have hle:least (FoR es)=(k:Int):=by
     obtain⟨l1,l2,l3,l4⟩:=hF.least_ok
     rcases Int.lt_trichotomy (least (FoR es)) k with h | h | h
     · have h9 := hall (least (FoR es)).toNat (by omega)
       rw[show ((least (FoR es)).toNat:Int)=least (FoR es) by omega,l3] at h9;cases h9
     · exact h
     · rw[l4 k (by omega) h] at h6;cases h6
   refine WP.exit (onto_of ?_);refine gg ?_;exact rt1 fun w hw=>⟨(),congrArg (Value.int .i64) hle.symm,trivial,hw.pk⟩
theorem rhas_ct (rp g bc:Nat) (bs:List RB) (hk:ROk bs) (x:Int):Ct Tryz.prog 94 #[.pointer (some ⟨rp,0,none⟩),.int .i64 x] [refI rp g bc bs] (fun _=>True) (X:=Unit) (fun _=>.bool (hasF (absR bs) x)) (fun _=>True) (fun _=>[refI rp g bc bs]):=by
  refine Ci fun w0 _=>?_;refine sqR ?_;refine av ?_;refine nl (oo ?_);refine sqR ?_
  iterate 3 refine av ?_
  refine WPL.split 7 rfl (fun h7=>?_) (fun h7=>?_)
  ·obtain⟨i,rfl⟩:∃i:Nat,x=i:=⟨x.toNat,by omega⟩
   iterate 4 refine ag ?_
   refine vg (v_load1 (u:=.slice _ _ _) Tryz.isAgg153 rfl (fun w hw=>hw.refRoot (i:=0) rfl)) ?_
   iterate 2 refine ag ?_
   iterate 2 refine av ?_
   refine WPL.split 16 rfl (fun h16=>?_) (fun h16=>?_)
   ·obtain⟨b,hb⟩:∃b,bs[i]?=some b:=⟨_,List.getElem?_eq_getElem (by omega)⟩
    iterate 3 refine ag ?_
    refine vg (v_load1 (u:=.slice _ _ _) Tryz.isAgg153 rfl (fun w hw=>hw.refRoot (i:=0) rfl)) ?_
    iterate 3 refine ag ?_
    refine vg (v_load1 (u:=.bool _) Tryz.isAgg4 rfl (fun w hw=>hw.refAt (i:=0) rfl hk hb 0 (us:=[.bool b.live]) rfl)) ?_;refine gg ?_;exact rt1 fun w hw=>⟨(),congrArg Value.bool (by first | exact(absR_live hb).symm | (rw[hasF,absR_neg (by omega)];rfl) | (rw[hasF,absR_out (by omega)];rfl)),trivial,hw.pk⟩
   ·refine gg ?_;exact rt1 fun w hw=>⟨(),congrArg Value.bool (by first | exact(absR_live hb).symm | (rw[hasF,absR_neg (by omega)];rfl) | (rw[hasF,absR_out (by omega)];rfl)),trivial,hw.pk⟩
  ·refine gg ?_;exact rt1 fun w hw=>⟨(),congrArg Value.bool (by first | exact(absR_live hb).symm | (rw[hasF,absR_neg (by omega)];rfl) | (rw[hasF,absR_out (by omega)];rfl)),trivial,hw.pk⟩
theorem rdepth_ct (rp g bc:Nat) (bs:List RB) (hk:ROk bs) {d:Int→Nat} (hF:WF (absR bs) d) (x:Int):Ct Tryz.prog 56 #[.pointer (some ⟨rp,0,none⟩),.int .i64 x] [refI rp g bc bs] (fun _=>True) (X:=Unit) (fun _=>.int .i64 (depthF (absR bs) x)) (fun _=>True) (fun _=>[refI rp g bc bs]):=by
  refine Ci fun w0 _=>?_;refine gg ?_;refine WP.loopK (X:=Nat×Int) [0] (fun p=>[(1,.int .i64 p.2),(5,.int .i64 (63 - (p.1:Int)))]) (fun p w=>(depthF (absR bs) x=63 - p.1+chainF (absR bs) p.1 p.2∧p.1≤64∧(hasF (absR bs) p.2=true→d p.2+1≤p.1))∧St w0 (foots [refI rp g bc bs]) [refI rp g bc bs] w) (fun p=>p.1) (64,x) ⟨rfl,rfl,trivial⟩ (fun w hw=>⟨⟨by unfold depthF;dsimp only;omega,Nat.le_refl _,fun h=>by dsimp only at h ⊢;obtain⟨b,hb⟩:=some_has h;have:=hF.deep x b hb;omega⟩,hw⟩) (fun p ρ0=>?_);refine WP.fact (fun⟨hd,hp,hr⟩=>?_);refine gg ?_;refine eF (xC (rhas_ct rp g bc bs hk p.2)) fun _ _=>?_;refine gg ?_;refine WP.cond rfl (fun h8=>?_) (fun h8=>?_)
  ·have hr1:=hr h8;have hd2:depthF (absR bs) x=63 - ((p.1 - 1:Nat):Int)+chainF (absR bs) (p.1 - 1) (upF (absR bs) p.2):=by
     rw[show p.1=(p.1 - 1)+1 by omega,chainF,if_pos h8] at hd;omega
   have hr2:hasF (absR bs) (upF (absR bs) p.2)=true→d (upF (absR bs) p.2)+1≤p.1 - 1:=fun hu=>by
     obtain⟨b,hb⟩:=some_has h8;rw[up_some hb] at hu ⊢
     by_cases h0:p.2=0
     · obtain ⟨r, hr0, hru⟩ := hF.root
       rw[h0,hr0] at hb;cases hb;rw[hru,has_none (hF.neg (by omega))] at hu;cases hu
     · have:=hF.rank p.2 b hb h0;omega
   obtain⟨i,b,hpi,hb,hl⟩:=absR_has h8;have hib:=(List.getElem?_eq_some_iff.1 hb).1;have hub:upF (absR bs) p.2=b.up:=by rw[hpi,up_some (absR_at hb hl)]
   refine WP.skip (onto_of ?_);refine WP.block ?_;refine sqR ?_
   iterate 3 refine av ?_
   refine nl (oo ?_);rw[hpi];refine WP.region ?_
   iterate 3 refine av ?_
   refine vl (v_load1 (u:=.slice _ _ _) Tryz.isAgg153 rfl (fun w hw=>hw.refRoot (i:=0) rfl)) ?_
   iterate 3 refine av ?_
   refine vl (v_load1 (u:=.int .i64 _) Tryz.isAgg3 rfl (fun w hw=>hw.refAt (i:=0) rfl hk hb 1 (us:=[.int .i64 b.up]) rfl)) ?_;refine av ?_;exact nl fun w hw=>⟨rfl,(p.1 - 1,upF (absR bs) p.2),(by simp only;omega),⟨(congrArg (Value.int .i64) hub.symm),(congrArg (Value.int .i64) (by simp only;omega)),jP,trivial⟩,⟨hd2,by simp only;omega,hr2⟩,hw⟩
  ·have hc:chainF (absR bs) p.1 p.2=0:=by cases e:p.1 with | zero=>rfl | succ n=>rw[chainF,if_neg (by simp[h8])]
   refine WP.exit (onto_of ?_);refine gg ?_;exact rt1 fun w hw=>⟨(),congrArg (Value.int .i64) (by omega),trivial,hw.pk⟩
theorem setL_eq:∀(us cs:List Value) (o:Nat),o+us.length≤cs.length→setL cs o us=cs.take o++us++cs.drop (o+us.length)
  | [],cs,o,_=>by simp[setL]
  | u :: us, cs, o, h => by
    simp only[List.length_cons] at h;rw[setL,setL_eq us _ _ (by rw[List.length_set];omega)];have ho:o<cs.length:=by omega
    rw[List.take_set,List.drop_set];have e1:(cs.take (o+1)).set o u=cs.take o++[u]:=by
      rw[List.take_succ_eq_append_getElem ho,List.set_append_right _ _ (by simp;omega)];simp[List.length_take,Nat.min_eq_left (Nat.le_of_lt ho)]
    rw[e1,if_pos (by omega)];simp only[List.length_cons,List.append_assoc,List.cons_append,List.nil_append];rw[show o+1+us.length=o+(us.length+1) by omega]
section
variable {w0 w:World} {M:Nat→Prop} {σ σ':List HI}
theorem St.buf {i g n cap:Nat} {t:TypeId} {xs:List Value} (h:St w0 M σ w) (hi:σ[i]?=some (.row t 1 (some ⟨g,0,none⟩) n cap xs)):∃rest:List Value,(xs.length=n∧n+rest.length=cap∧cap≤maxLen)∧St w0 M (σ.set i (.cl g t (xs++rest))) w:=by
  have h1:w.ownsRow 0 t 1 (.slice (some ⟨g,0,none⟩) n cap) n xs:=h.all _ (List.mem_of_getElem? hi);obtain⟨hl,h2⟩:=h1
  rcases h2 with ⟨hv,_⟩ | ⟨gb,cap',cur,hv,_,hh,hnc,hm,hsz,htake⟩
  · cases hv
  · injection hv with e1 e2 e3
    injection e1 with e1
    injection e1 with e1
    subst e1 e3;rw[Nat.mul_one] at hl htake hsz;have hcur:cur.toList.length=cap:=by simpa using hsz
    refine⟨cur.toList.drop n,⟨hl,by rw[List.length_drop];omega,hm⟩,?_⟩;have e:xs++cur.toList.drop n=cur.toList:=by rw[←htake];exact List.take_append_drop n cur.toList
    rw[e];refine h.upd hi (St.turn (fun _ _ _=>rfl) ?_ (fun b hb=>.inr ⟨_,rfl,hb⟩) rfl rfl rfl (Nat.le_refl _));show w.heap[g]?=some (.cells cur.toList.toArray t (0,0));rw[Array.toArray_toList];exact hh
theorem St.unbuf {i g n cap:Nat} {t:TypeId} {cs:List Value} (h:St w0 M σ w) (hi:σ[i]?=some (.cl g t cs)) (hl:cs.length=cap) (hm:cap≤maxLen) (hn:n≤cap):St w0 M (σ.set i (.row t 1 (some ⟨g,0,none⟩) n cap (cs.take n))) w:=by
  have h1:w.heap[g]?=some (.cells cs.toArray t (0,0)):=h.all _ (List.mem_of_getElem? hi);refine h.upd hi (St.turn (fun _ _ _=>rfl) ?_ (fun b hb=>.inr (by obtain⟨a,ha,e⟩:=hb;cases ha;exact e)) rfl rfl rfl (Nat.le_refl _));exact⟨by rw[List.length_take];omega,.inr ⟨g,cap,cs.toArray,rfl,Nat.zero_le _,h1,hn,hm,by simp[hl],by simp⟩⟩
variable {P:Program} {r:Option Nat} {ρ:Env} {dst:Option Tmp} {ty:TypeId} {pos:String} {af:Array Edge} {g':Option (Nat×Bool)} {t t2 te:TypeId} {x y:Operand}
theorem size1 (hs:(P.info? te).map (·.size)=some 1) (w:World):(sizeOf te).run P w=.ok 1 w:=by
  obtain⟨i,hi,he⟩:=Option.map_eq_some_iff.1 hs;simp[sizeOf,typeInfo,hi,he]
theorem x_copyIn {i g o n c g2 o2 m c2:Nat} {tc:TypeId} {cs us:List Value} (ht:P.underlying t=some (.slice te)) (hs:(P.info? te).map (·.size)=some 1) (hx:evo ρ x=.slice (some ⟨g,o,none⟩) n c) (hy:evo ρ y=.slice (some ⟨g2,o2,none⟩) m c2) (hi:σ[i]?=some (.cl g tc cs))
    (hl:us.length=Nat.min m n) (hsrc:∀w,St w0 M σ w→CellsAt w g2 o2 us) (ho:o+us.length≤cs.length) (h1:∀u∈us,u.oneCell'=true) (hσ:σ.set i (.cl g tc (setL cs o us))=σ'):
    OpX P r (St w0 M σ) ⟨dst,.call ⟨.builtin .copy,#[x,y],#[t,t2]⟩,ty,pos,af,g'⟩ ρ (X:=Unit) (fun _=>.int .i64 (us.length:Int)) (fun _=>St w0 M σ'):=OpX.of_run rfl fun w hw=>by
  have h:(HI.cl g tc cs).holds w:=hw.all _ (List.mem_of_getElem? hi);obtain⟨w',hrun,hst⟩:=run_storeCells P (b:=g) (o:=o) (t:=tc) us 0 cs w h (by omega) h1;have hload:=run_loadCells P (hsrc w hw);refine⟨(),w',?_,by rw[←hσ];exact hw.upd hi (by simpa using hst)⟩;simp[execOp,resolve,invoke,builtin,hx,hy,Builtin.copy_,run_underlying ht,Builtin.lenOf,Builtin.firstCells,size1 hs,←hl,hload,hrun,Result.andThen,goInt]
theorem x_appendIn {i g o n c m c2:Nat} {B:Option Addr} {tc:TypeId} {cs us:List Value} (ht:P.underlying t=some (.slice te)) (hs:(P.info? te).map (·.size)=some 1) (hx:evo ρ x=.slice (some ⟨g,o,none⟩) n c) (hy:evo ρ y=.slice B m c2) (hi:σ[i]?=some (.cl g tc cs))
    (hl:us.length=m) (hsrc:∀w,St w0 M σ w→Src w B m us) (hroom:n+m≤c) (ho:o+n+us.length≤cs.length) (h1:∀u∈us,u.oneCell'=true) (hσ:σ.set i (.cl g tc (setL cs (o+n) us))=σ') (ht2:t2=t:=by rfl):
    OpX P r (St w0 M σ) ⟨dst,.call ⟨.builtin .append,#[x,y],#[t,t2]⟩,ty,pos,af,g'⟩ ρ (X:=Unit) (fun _=>.slice (some ⟨g,o,none⟩) (n+m) c) (fun _=>St w0 M σ'):=OpX.of_run rfl fun w hw=>by
  subst ht2;have h:(HI.cl g tc cs).holds w:=hw.all _ (List.mem_of_getElem? hi);obtain⟨w',hrun,hst⟩:=run_storeCells P (b:=g) (o:=o+n) (t:=tc) us 0 cs w h (by omega) h1;have hload:(Builtin.firstCells 1 m (.slice B m c2)).run P w=.ok us.toArray w:=by
    rcases hsrc w hw with ⟨rfl,rfl⟩ | ⟨b,o2,rfl,hc⟩
    · have : us = [] := List.eq_nil_of_length_eq_zero hl
      subst this;rfl
    · have := run_loadCells P hc
      rw[hl] at this;simp[Builtin.firstCells,this]
  refine⟨(),w',?_,by rw[←hσ];exact hw.upd hi (by simpa using hst)⟩;have hz:∀q:IntKind,(TypeDesc.slice te)≠.int q:=fun q e=>by cases e
  simp[execOp,resolve,invoke,builtin,hx,hy,Builtin.append_,run_underlying ht,Builtin.lenOf,size1 hs,hroom,hload,hrun,Result.andThen,add_lit']
theorem x_clearIn {i g o n c:Nat} {tc:TypeId} {cs:List Value} {z:Value} (ht:P.underlying t=some (.slice te)) (hz:∀w,(zeroValue te).run P w=.ok z w) (hz1:z.cells=#[z]) (hone:z.oneCell'=true) (hx:evo ρ x=.slice (some ⟨g,o,none⟩) (n+1) c) (hi:σ[i]?=some (.cl g tc cs))
    (ho:o+(n+1)≤cs.length) (hσ:σ.set i (.cl g tc (setL cs o (List.replicate (n+1) z)))=σ'):
    OpX P r (St w0 M σ) ⟨dst,.call ⟨.builtin .clear,#[x],#[t]⟩,ty,pos,af,g'⟩ ρ (X:=Unit) (fun _=>.tuple #[]) (fun _=>St w0 M σ'):=OpX.of_run rfl fun w hw=>by
  have h:(HI.cl g tc cs).holds w:=hw.all _ (List.mem_of_getElem? hi);have hzc:(Builtin.zeroCells z.cells (n+1)).toList=List.replicate (n+1) z:=by
    rw[hz1];simp[Builtin.zeroCells];apply List.ext_getElem
    · simp
    · intro i h1 h2
      simp[Nat.mod_one]
  obtain⟨w',hrun,hst⟩:=run_storeCells P (b:=g) (o:=o) (t:=tc) (List.replicate (n+1) z) 0 cs w h (by simp;omega) (fun u hu=>by rw[List.eq_of_mem_replicate hu];exact hone);refine⟨(),w',?_,by rw[←hσ];exact hw.upd hi (by simpa using hst)⟩;simp[execOp,resolve,invoke,builtin,hx,Builtin.clear_,run_underlying ht,hz,hzc,hrun,Result.andThen]
theorem v_slice3 {sz n c l h m:Nat} {A:Option Addr} {lo:Option Operand} {hi mx:Operand} {kl kh km:Int} (ht:P.underlying t=some (.slice te)) (hz:∀w,(sizeOf te).run P w=.ok sz w) (hx:evo ρ x=.slice A n c) {S:World→Prop}
    (hl:match lo with | some o=>evo ρ o=.int .i64 kl∧kl=(l:Int) | none=>l=0) (hh:evo ρ hi=.int .i64 kh∧kh=(h:Int)) (hmx:evo ρ mx=.int .i64 km∧km=(m:Int)) (hlh:l≤h) (hhm:h≤m) (hmc:m≤c):
    OpV P S ⟨dst,.slice t x lo (some hi) (some mx),ty,pos,af,g'⟩ ρ (.slice (if m=l then A else A.map fun a=>a.add (l*sz)) (h - l) (m - l)):=v_run fun w _=>by
  obtain⟨h1,rfl⟩:=hh;obtain⟨h2,rfl⟩:=hmx;cases lo<;>simp only at hl
  · subst hl
    simp[execOp,Instr.sliceAt,Instr.slice,Instr.sliceBounds,Instr.sliceBound,asIntOf,run_underlying ht,hx,hz,h1,h2,hhm,hmc]
  · obtain ⟨h3, rfl⟩ := hl
    simp[execOp,Instr.sliceAt,Instr.slice,Instr.sliceBounds,Instr.sliceBound,asIntOf,run_underlying ht,hx,hz,h1,h2,h3,hlh,hhm,hmc]
theorem growBy_le (need:Nat):∀(r c:Nat),Builtin.growBy need r c≤2 ^ r*(c+192)
  | 0,c=>by simp[Builtin.growBy]
  | r + 1, c => by
    rw[Builtin.growBy]
    split
    · have : 1 ≤ 2 ^ (r + 1) := Nat.one_le_two_pow
      calc c≤1*(c+192):=by omega
        _≤2 ^ (r+1)*(c+192):=Nat.mul_le_mul_right _ this
    · refine Nat.le_trans (growBy_le need r _) ?_
      rw[Nat.pow_succ,Nat.mul_assoc];exact Nat.mul_le_mul_left _ (by omega)
theorem nextcap_le {need old:Nat} (h:need≤10000) (h2:old≤10000):Builtin.nextslicecap need old≤200000:=by
  unfold Builtin.nextslicecap
  split
  · omega
  · split
    · omega
    · have := growBy_le need 4 old
      omega
theorem zeroCells_one {z:Value} (hz:z.cells=#[z]) (n:Nat):Builtin.zeroCells z.cells n=(List.replicate n z).toArray:=by
  apply Array.ext';rw[hz];simp[Builtin.zeroCells];apply List.ext_getElem
  · simp
  · intro i h1 h2
    simp[Nat.mod_one]
theorem x_appendGrowZ {k j c bytes:Nat} {q:IntKind} {A:Option Addr} {us:List Value} {z:Value} {jj:Int} {σ'':Nat×Nat→List HI} (ht:P.underlying t=some (.slice te)) (ht2:P.underlying t2=some (.int q)) (hinfo:(P.info? te).map (fun i=>(i.zero,i.size,i.bytes))=some (some z,1,bytes)) (hz1:z.cells=#[z])
    (hx:evo ρ x=.slice A k c) (hy:evo ρ y=.int .i64 jj) (hj:jj=(j:Int)) (hl:us.length=k) (hsrc:∀w,St w0 M σ w→Src w A k us) (h0:0<j) (hg:c<k+j) (hb:k+j≤10000) (hc:c≤10000) (hby:bytes≤1000)
    (hσ:∀p:Nat×Nat,σ++[.cl p.1 te (us++List.replicate j z++List.replicate (p.2 - (k+j)) z)]=σ'' p):
    OpX P r (St w0 M σ) ⟨dst,.call ⟨.builtin .append,#[x,y],#[t,t2]⟩,ty,pos,af,g'⟩ ρ (X:=Nat×Nat) (fun p=>.slice (some ⟨p.1,0,none⟩) (k+j) p.2) (fun p w=>(k+j≤p.2∧p.2≤maxLen)∧St w0 M (σ'' p) w):=OpX.of_run rfl fun w hw=>by
  subst hj;obtain⟨info,hf,hz,hs,hb'⟩:=info_parts hinfo;have hload:(Builtin.firstCells info.size k (.slice A k c)).run P w.drew=.ok us.toArray w.drew:=by
    rw[hs]
    rcases hsrc w hw with ⟨rfl,rfl⟩ | ⟨b,o2,rfl,hcc⟩
    · have : us = [] := List.eq_nil_of_length_eq_zero hl
      subst this;rfl
    · have := run_loadCells P (w := w.drew) (b := b) (o := o2) (cs := us) hcc
      rw[hl] at this;simp[Builtin.firstCells,this]
  have hcap:=nextcap_le (need:=k+j) (old:=c) hb hc
  have hr := Lib.run_append_grow_zeros (P := P) w t t2 ty te info z .i64 q ht ht2 hf hz A k c us hload j h0 (by omega) hg (by omega) (by
      have : j * info.bytes ≤ 10000 * 1000 := Nat.mul_le_mul (by omega) (by omega)
      omega) (by
      have : Builtin.nextslicecap (k + j) c * info.bytes ≤ 200000 * 1000 := Nat.mul_le_mul hcap (by omega)
      omega)
  have hge:=grownCap_ge w (k+j) c te;have hle:=grownCap_le_maxLen w (k+j) c te (by unfold maxLen;omega);refine⟨(w.heap.size,grownCap w (k+j) c te),w.drew.alloc (.cells (us.toArray++Builtin.zeroCells z.cells j++Builtin.zeroCells z.cells (grownCap w (k+j) c te - (k+j))) te),?_,⟨hge,hle⟩,?_⟩
  · simp only[execOp,Sem.run_bind,resolve,List.map_toArray,List.map_cons,List.map_nil,hx,hy,Sem.run_pure,Result.andThen,invoke,builtin,hr]
  · rw [← hσ]
    have h1:=St.new w.drew te (us++List.replicate j z++List.replicate (grownCap w (k+j) c te - (k+j)) z);rw[zeroCells_one hz1,zeroCells_one hz1];have e:(us.toArray++(List.replicate j z).toArray++(List.replicate (grownCap w (k+j) c te - (k+j)) z).toArray)=(us++List.replicate j z++List.replicate (grownCap w (k+j) c te - (k+j)) z).toArray:=by simp
    rw[e];exact hw.drawn.add h1
theorem WP.buf {N:Nat} {c:Code} {Q:XP} {ds:List Deferred} {i g n cap:Nat} {xs:List Value} (hi:σ[i]?=some (.row t 1 (some ⟨g,0,none⟩) n cap xs)) (h:∀rest:List Value,xs.length=n→n+rest.length=cap→cap≤maxLen→WP P r N c Q ρ ds (St w0 M (σ.set i (.cl g t (xs++rest))))):WP P r N c Q ρ ds (St w0 M σ):=fun w hw=>by
  obtain⟨rest,⟨h1,h2,h3⟩,hs⟩:=hw.buf hi;exact h rest h1 h2 h3 w hs
theorem St.row_cap {i n cap sz:Nat} {t:TypeId} {A:Option Addr} {xs:List Value} (h:St w0 M σ w) (hi:σ[i]?=some (.row t sz A n cap xs)):n≤cap∧cap≤maxLen:=by
  have h1:w.ownsRow 0 t sz (.slice A n cap) n xs:=h.all _ (List.mem_of_getElem? hi)
  rcases h1.2 with ⟨hv,hn⟩ | ⟨gb,cap',cur,hv,_,hh,hnc,hm,_⟩
  · injection hv with e1 e2 e3
    exact⟨by omega,by rw[e3];exact Nat.zero_le _⟩
  · injection hv with e1 e2 e3
    subst e3;exact⟨hnc,hm⟩
theorem cutAddr_if (b o l m sz:Nat):cutAddr (some ⟨b,o,none⟩) l m sz=some ⟨b,o+(if m=l then 0 else l*sz),none⟩:=by
  unfold cutAddr
  split
  · simp
  · simp[Addr.add]
theorem cutAddr_ne {b o l m sz:Nat} (h:m≠l):cutAddr (some ⟨b,o,none⟩) l m sz=some ⟨b,o+l*sz,none⟩:=by rw[cutAddr_if,if_neg h]
theorem ints_one (l:List Int):∀u∈l.map (Value.int .i64),u.oneCell'=true:=by
  intro u hu;obtain⟨z,_,rfl⟩:=List.mem_map.1 hu;rfl
end
def idxI:List Int→Int→Int
  | [],_=>-1
  | y::l,x=>if y=x then 0 else if idxI l x<0 then -1 else idxI l x+1
theorem idxI_not:∀{l:List Int} {x:Int},x∉l→idxI l x= -1
  | [],_,_=>rfl
  | y :: l, x, h => by
    have h1:y≠x:=fun e=>h (by simp[e]);rw[idxI,if_neg h1,idxI_not (fun hm=>h (by simp[hm]))];rfl
theorem idxI_at:∀{l:List Int} {x:Int} {k:Nat},l[k]?=some x→x∉l.take k→idxI l x=k
  | [],_,_,h,_=>by simp at h
  | y :: l, x, 0, h, _ => by
    obtain rfl:y=x:=by simpa using h
    simp[idxI]
  | y :: l, x, k + 1, h, hn => by
    have h1:y≠x:=fun e=>hn (by simp[e]);have h2:=idxI_at (l:=l) (x:=x) (k:=k) (by simpa using h) (fun hm=>hn (by simp[hm]));rw[idxI,if_neg h1,h2,if_neg (by omega)];omega
theorem idxI_mem {l:List Int} {x:Int} (h:x∈l):∃k:Nat,l[k]?=some x∧x∉l.take k∧idxI l x=k:=by
  obtain⟨k,⟨hk,hmin⟩⟩:=least_of (p:=fun k:Nat=>l[k]?=some x) (List.getElem?_of_mem h);have hn:x∉l.take k:=fun hm=>by
    obtain⟨j,hj⟩:=List.getElem?_of_mem hm;have hjl:=(List.getElem?_eq_some_iff.1 hj).1;rw[List.length_take] at hjl;rw[List.getElem?_take,if_pos (by omega)] at hj;have:=hmin j hj;omega
  exact⟨k,hk,hn,idxI_at hk hn⟩
theorem idxI_ge (l:List Int) (x:Int):(0≤idxI l x)↔x∈l:=by
  by_cases h:x∈l
  · obtain ⟨k, _, _, e⟩ := idxI_mem h
    simp[h,e]
  · rw[idxI_not h];simp[h]
theorem erase_cut {l:List Int} {x:Int} {k:Nat} (hn:l.Nodup) (h:l[k]?=some x):l.eraseIdx k=cutK l x:=by
  have h1:=insAt_cut hn h;have hk:=(List.getElem?_eq_some_iff.1 h).1;have h2:=cutK_len hn (List.mem_of_getElem? h)
  conv=>lhs;rw[←h1]
  unfold insAt;have hl:((cutK l x).take k).length=k:=by rw[List.length_take];omega
  rw[List.eraseIdx_append_of_length_le (by omega),hl,Nat.sub_self,List.eraseIdx_zero,List.tail_cons,List.take_append_drop]
theorem index_ct (A:Option Addr) (c:Nat) (l:List Int) (x:Int) (hl:l.length≤10000):Ct Tryz.prog 167 #[.slice A l.length c,.int .i64 x] [kidsI A l.length c l] (fun _=>True) (X:=Unit) (fun _=>.int .i64 (idxI l x)) (fun _=>True) (fun _=>[kidsI A l.length c l]):=by
  refine Ci fun w0 _=>?_;refine gg ?_;refine WP.loopK (X:=Nat) [0,1,7] (fun k=>[(8,.int .i64 (k:Int))]) (fun k w=>(k≤l.length∧x∉l.take k)∧St w0 (foots [kidsI A l.length c l]) [kidsI A l.length c l] w) (fun k=>l.length - k) 0 ⟨rfl,trivial⟩ (fun w hw=>⟨⟨Nat.zero_le _,by simp⟩,hw⟩) (fun k ρ0=>?_);refine WP.fact (fun⟨hk,hn⟩=>?_);refine gg ?_;refine WP.condP rfl (fun h9=>?_) (fun h9=>?_)
  ·have hk':k<l.length:=by omega
   obtain⟨y,hy⟩:∃y,l[k]?=some y:=⟨_,List.getElem?_eq_getElem hk'⟩;refine WP.holds (fun w hw=>hw.row_pos (i:=0) rfl (by omega)) (fun⟨rb,hA⟩=>?_);subst hA;refine gg ?_;refine vl (vR 0 (by rw[List.getElem?_map,hy];rfl)) ?_;refine gg ?_;refine WP.condP rfl (fun h16=>?_) (fun h16=>?_)
   ·have hx:idxI l x=k:=idxI_at (by rw[hy,h16]) hn;refine gg ?_;exact rt1 fun w hw=>⟨(),congrArg (Value.int .i64) (by first | exact hx.symm | exact(idxI_not hx).symm),trivial,hw⟩
   ·refine WP.skip (onto_of ?_);refine WP.region ?_
    iterate 2 refine av ?_
    exact nl fun w hw=>⟨rfl,k+1,(by omega),⟨rfl,jS,jI,jI,trivial⟩,⟨by omega,by rw[take_snoc hy];simp only[List.mem_append,List.mem_singleton,not_or];exact⟨hn,h16⟩⟩,hw⟩
  ·have hx:x∉l:=by rw[List.take_of_length_le (by omega)] at hn;exact hn
   refine WP.exit (onto_of ?_);refine gg ?_;exact rt1 fun w hw=>⟨(),congrArg (Value.int .i64) (by first | exact hx.symm | exact(idxI_not hx).symm),trivial,hw⟩
theorem contains_ct (A:Option Addr) (c:Nat) (l:List Int) (x:Int) (hl:l.length≤10000):Ct Tryz.prog 136 #[.slice A l.length c,.int .i64 x] [kidsI A l.length c l] (fun _=>True) (X:=Unit) (fun _=>.bool (decide (x∈l))) (fun _=>True) (fun _=>[kidsI A l.length c l]):=by
  refine Ci fun w0 _=>?_;refine gg ?_;refine eF (xC (index_ct A c l x hl)) fun _ _=>?_;refine gg ?_;exact rt1 fun w hw=>⟨(),congrArg Value.bool (decide_eq_decide.2 (idxI_ge l x)),trivial,hw⟩
theorem v_overlaps {P:Program} {w0:World} {M:Nat→Prop} {σ:List HI} {ρ:Env} {dst:Option Tmp} {ty:TypeId} {pos:String} {af:Array Edge} {g:Option (Nat×Bool)} {x y:Operand} {ats:Array TypeId} {f i j vb vn vc b o lb cb:Nat} {tS tR e t1 t2:TypeId} {cs us:List Value}
    (hrun:∀args w,(callFunc f args).run P w=((Extern.SlicesOverlaps.overlaps #[tS,tS] #[tR] args).run P w).andThen fun v w'=>.ok (.value v) w') (ht:P.underlying tS=some (.slice e)) (hz:∀w,(sizeOf e).run P w=.ok 1 w)
    (hx:evo ρ x=.slice (some ⟨vb,0,none⟩) vn vc) (hy:evo ρ y=.slice (some ⟨b,o,none⟩) lb cb) (hi:σ[i]?=some (.cl vb t1 us)) (hj:σ[j]?=some (.cl b t2 cs)) (hne:i≠j) (hcs:cs.length≠0):
    OpV P (St w0 M σ) ⟨dst,.call ⟨.value (.func f),#[x,y],ats⟩,ty,pos,af,g⟩ ρ (.bool false):=v_run fun w hw=>by
  have h1:w.heap[vb]?=some (.cells us.toArray t1 (0,0)):=hw.all _ (List.mem_of_getElem? hi);have h2:w.heap[b]?=some (.cells cs.toArray t2 (0,0)):=hw.all _ (List.mem_of_getElem? hj);have hb:vb≠b:=by
    obtain⟨hil,ei⟩:=List.getElem?_eq_some_iff.1 hi;obtain⟨hjl,ej⟩:=List.getElem?_eq_some_iff.1 hj;intro e;have hd:=List.pairwise_iff_getElem.1 hw.disj
    rcases Nat.lt_or_gt_of_ne hne with h | h
    · exact hd i j hil hjl h vb (by rw[ei];exact rfl) (by rw[ej];exact e)
    · exact hd j i hjl hil h vb (by rw[ej];exact e) (by rw[ei];exact rfl)
  have h3:=Lib.run_overlaps_apart (P:=P) w tS tR e ht 1 hz ⟨vb,0,none⟩ ⟨b,o,none⟩ vn vc lb cb hb t1 t2 us.length cs.length (by simp[World.shape?,h1]) (by simp[World.shape?,h2]) hcs (by simp[World.frozen?,h1]) (by simp[World.frozen?,h1]);have e0:evo ρ (.func f)=.func (.func f) #[] #[]:=rfl;simp[execOp,resolve,e0,Deferred.ofValue,invoke,hrun,hx,hy,h3,Result.andThen]
theorem take_get {l:List Int} {k j:Nat} {u:Value} (h:((l.take k).map (Value.int .i64))[j]?=some u):(l.map (Value.int .i64))[j]?=some u:=by
  rw[List.getElem?_map] at h ⊢;obtain⟨z,hz,rfl⟩:=Option.map_eq_some_iff.1 h;have hj:=(List.getElem?_eq_some_iff.1 hz).1;rw[List.length_take] at hj;rw[List.getElem?_take,if_pos (by omega)] at hz;rw[hz];rfl
theorem drop_seg (l:List Int) (rest:List Value) {k:Nat} (h:k≤l.length):((l.map (Value.int .i64)++rest).drop (0+k*1)).take ((l.drop k).map (Value.int .i64)).length=(l.drop k).map (Value.int .i64):=by
  rw[show 0+k*1=k by omega,List.drop_append_of_le_length (by simpa using h),←List.map_drop];exact List.take_left' rfl
theorem setL_app (a c us:List Value) (h:us.length≤c.length) {o:Nat} (ho:o=a.length):setL (a++c) o us=a++us++c.drop us.length:=by
  subst ho;rw[setL_eq _ _ _ (by rw[List.length_append];omega),List.take_left' rfl,←List.drop_drop,List.drop_left' rfl]
theorem ins_map (l:List Int) (k:Nat) (x:Int):(insAt l k x).map (Value.int .i64)=(l.take k).map (Value.int .i64)++[.int .i64 x]++(l.drop k).map (Value.int .i64):=by simp[insAt]
theorem ins_grow (l:List Int) (x:Int) {k c2:Nat} (hk:k≤l.length) (hc:l.length+1≤c2):(setL (setL ((l.take k).map (Value.int .i64)++List.replicate (l.length+1 - k) (.int .i64 0)++List.replicate (c2 - (k+(l.length+1 - k))) (.int .i64 0)) (0+k*1) [.int .i64 x]) (0+(k+1)*1) ((l.drop k).map (Value.int .i64))).take (l.length+1)=(insAt l k x).map (Value.int .i64):=by
  have h1:((l.take k).map (Value.int .i64)).length=k:=by simp;omega
  have h2:((l.drop k).map (Value.int .i64)).length=l.length - k:=by simp
  rw[List.append_assoc,setL_app _ _ _ (by simp;omega) (by omega),setL_app _ _ _ (by rw[h2];simp;omega) (by rw[List.length_append,h1];simp),ins_map];exact List.take_left' (by rw[List.length_append,List.length_append,h1,h2];simp;omega)
theorem ins_shift (l:List Int) (x:Int) {k:Nat} (hk:k<l.length) (rest:List Value) (hr:0<rest.length):(setL (setL (l.map (Value.int .i64)++rest) (0+(k+1)*1) ((l.drop k).map (Value.int .i64))) (0+k*1) [.int .i64 x]).take (l.length+1)=(insAt l k x).map (Value.int .i64):=by
  have h1:((l.take k).map (Value.int .i64)).length=k:=by simp;omega
  have h2:((l.drop k).map (Value.int .i64)).length=l.length - k:=by simp
  have e:l.map (Value.int .i64)++rest=((l.take k).map (Value.int .i64)++[.int .i64 l[k]])++((l.drop (k+1)).map (Value.int .i64)++rest):=by
    have e0:l=l.take k++l[k]::l.drop (k+1):=by rw[←List.drop_eq_getElem_cons hk,List.take_append_drop]
    conv=>lhs;rw[e0]
    simp only[List.map_append,List.map_cons,List.append_assoc,List.cons_append,List.nil_append]
  rw[e,setL_app _ _ _ (by rw[h2];simp;omega) (by rw[List.length_append,h1];simp),List.append_assoc,List.append_assoc,setL_app _ _ _ (by simp) (by omega),ins_map];have e2:(([.int .i64 l[k]]:List Value)++((l.drop k).map (Value.int .i64)++((l.drop (k+1)).map (Value.int .i64)++rest).drop ((l.drop k).map (Value.int .i64)).length)).drop ([.int .i64 x]:List Value).length=(l.drop k).map (Value.int .i64)++((l.drop (k+1)).map (Value.int .i64)++rest).drop ((l.drop k).map (Value.int .i64)).length:=rfl;rw[e2,←List.append_assoc];exact List.take_left' (by rw[List.length_append,List.length_append,h1,h2];simp;omega)
theorem del_cells (l:List Int) {k:Nat} (hk:k<l.length) (rest:List Value):(setL (setL (l.map (Value.int .i64)++rest) (0+(k - 0)) ((l.drop (k+1)).map (Value.int .i64))) (0+(l.length - 1)*1) (List.replicate (0+1) (.int .i64 0))).take (l.length - 1)=(l.eraseIdx k).map (Value.int .i64):=by
  have h1:((l.take k).map (Value.int .i64)).length=k:=by simp;omega
  have h2:((l.drop (k+1)).map (Value.int .i64)).length=l.length - (k+1):=by simp
  have e:l.map (Value.int .i64)++rest=(l.take k).map (Value.int .i64)++(.int .i64 l[k]::((l.drop (k+1)).map (Value.int .i64)++rest)):=by
    have e0:l=l.take k++l[k]::l.drop (k+1):=by rw[←List.drop_eq_getElem_cons hk,List.take_append_drop]
    conv=>lhs;rw[e0]
    simp only[List.map_append,List.map_cons,List.append_assoc,List.cons_append,List.nil_append]
  rw[e,setL_app _ _ _ (by rw[h2];simp;omega) (by omega),setL_app _ _ _ (by rw[h2];simp;omega) (by rw[List.length_append,h1,h2];omega),List.eraseIdx_eq_take_drop_succ,List.map_append,List.append_assoc ((l.take k).map (Value.int .i64)++(l.drop (k+1)).map (Value.int .i64))];exact List.take_left' (by rw[List.length_append,h1,h2];omega)
theorem del_src {w:World} {rb c:Nat} (l:List Int) (rest:List Value) {k:Nat} (hk:k<l.length) (hc:l.length≤c) (h:∀(o:Nat) {us:List Value},((l.map (Value.int .i64)++rest).drop o).take us.length=us→CellsAt w rb o us):CellsAt w rb (0+if c=k+1 then 0 else (k+1)*1) ((l.drop (k+1)).map (Value.int .i64)):=by
  split
  · rw [List.drop_eq_nil_of_le (by omega)]
    intro j u hj;simp at hj
  · exact h _ (drop_seg l rest (by omega))
theorem insert_ct (A:Option Addr) (c:Nat) (l:List Int) (k:Nat) (hk:k≤l.length) (vb:Nat) (x:Int) (hl:l.length≤5000):Ct Tryz.prog 86 #[.slice A l.length c,.int .i64 k,.slice (some ⟨vb,0,none⟩) 1 1] [kidsI A l.length c l,kidsI (some ⟨vb,0,none⟩) 1 1 [x]] (fun _=>True)
    (X:=Option Addr×Nat) (fun p=>.slice p.1 (l.length+1) p.2) (fun _=>True) (fun p=>[kidsI p.1 (l.length+1) p.2 (insAt l k x)]):=by
  refine Ci fun w0 _=>?_;refine sq ?_;refine WP.holds (fun w hw=>hw.row_cap (i:=0) rfl) (fun⟨hnc,hcm⟩=>?_);refine WP.region ?_;refine av ?_;refine nl (oo ?_);refine sqR ?_
  iterate 2 refine av ?_
  refine vl (v_slice (kh:=0) (l:=k) (h:=l.length) Tryz.underlying49 Tryz.sizeOf3 rfl ⟨rfl,rfl⟩ rfl (by omega) (by omega)) ?_;refine gg ?_;refine WP.condF rfl ?_;refine gg ?_;refine WP.condP rfl (fun h22=>?_) (fun h22=>?_)
  ·obtain rfl:k=l.length:=by omega
   refine gg ?_;refine WPL.ef (xP 0 1) fun⟨A25,c25⟩=>?_;refine gg ?_;exact WP.ret1 Tryz.results86 (fun _ h=>h) (fun w hw=>⟨(A25,c25),rfl,trivial,by have h:=(hw.sel [0] (by decide));rw[←(show (insAt l l.length x).map (Value.int .i64)=l.map (Value.int .i64)++[x].map (Value.int .i64) by simp[insAt])] at h;exact h⟩)
  ·have hkl:k<l.length:=by omega
   refine WP.holds (fun w hw=>hw.row_pos (i:=0) rfl (by omega)) (fun⟨rb,hA⟩=>?_);subst hA;refine WP.skip (onto_of ?_);refine sq ?_;refine sqR ?_
   iterate 4 refine av ?_
   refine vl (v_cap Tryz.underlying49 rfl) ?_;refine gg ?_;refine WP.condP rfl (fun h31=>?_) (fun h31=>?_)
   ·refine sqR ?_
    iterate 2 refine av ?_
    refine vl (v_slice (kl:=0) (l:=0) (h:=k) Tryz.underlying49 Tryz.sizeOf3 rfl rfl ⟨rfl,rfl⟩ (by omega) (by omega)) ?_;simp only[cutAddr_zero];refine gg ?_;refine WPL.ef (x_appendGrowZ (k:=k) (j:=l.length+1 - k) (us:=(l.take k).map (Value.int .i64)) (σ'':=fun _=>[_,_,_]) Tryz.underlying49 Tryz.underlying3 int_info rfl rfl rfl (by omega) (by simp;omega) (fun w hw=>.inr ⟨rb,0,rfl,hw.row_at (i:=0) rfl 0 (fun j u hj=>by rw[Nat.zero_add];exact take_get hj)⟩) (by omega) (by omega) (by omega) (by omega) (by decide) (fun _=>rfl)) (fun⟨nb,c2⟩=>?_);refine WPL.fact (fun⟨hc2,hm2⟩=>?_);dsimp only at hc2 hm2;dsimp only;refine av ?_;refine nl (oo ?_);refine sqR ?_
    iterate 2 refine av ?_
    refine vl (v_slice (kh:=0) (l:=k) (h:=k+(l.length+1 - k)) Tryz.underlying49 Tryz.sizeOf3 rfl ⟨rfl,rfl⟩ rfl (by omega) (by omega)) ?_;rw[cutAddr_ne (show c2≠k by omega)];refine gg ?_;refine WPL.ef (x_copyIn (us:=[.int .i64 x]) (σ':=[_,_,_]) Tryz.underlying49 (by kernel_rfl) rfl rfl (i:=2) rfl (by show 1=min 1 _;omega) (fun w hw=>hw.row_at1 (i:=1) (k:=0) rfl rfl rfl) (by simp;omega) (by simp[Value.oneCell']) rfl) (fun _=>?_);refine gg ?_;refine wP none [0,1] [pT 0,pT 1,pT 2,pT 3,pT 4,pT 5,pT 6,pT 7,pF 8] ?_
    iterate 4 refine ad ?_
    refine tE rfl (v_slice (kh:=0) (l:=(k+1)) (h:=k+(l.length+1 - k)) Tryz.underlying49 Tryz.sizeOf3 rfl ⟨rfl,rfl⟩ rfl (by omega) (by omega)) ?_;rw[cutAddr_ne (show c2≠k+1 by omega)]
    iterate 2 refine ad ?_
    refine tE rfl (v_slice (kh:=0) (l:=k) (h:=l.length) Tryz.underlying49 Tryz.sizeOf3 rfl ⟨rfl,rfl⟩ rfl (by omega) (by omega)) ?_;rw[cutAddr_ne (show c≠k by omega)];refine WPD.ef rfl (x_copyIn (us:=(l.drop k).map (Value.int .i64)) (σ':=[_,_,_]) Tryz.underlying49 (by kernel_rfl) rfl rfl (i:=2) rfl (by rw[List.length_map,List.length_drop];show _=min _ _;omega) (fun w hw=>hw.row_at (i:=0) rfl _ (fun j u hj=>by rw[←hj,List.getElem?_map,List.getElem?_map,List.getElem?_drop];congr 2;omega)) (by rw[setL_length,List.length_map,List.length_drop];simp;omega) (ints_one _) rfl) (fun _ _ _ h=>h.sel [0,1] (by decide)) (fun _=>?_);refine gg ?_;exact WP.ret1 Tryz.results86 (fun _ h=>h) (fun w hw=>⟨(some ⟨nb,0,none⟩,c2),by show Value.slice _ (k+(l.length+1 - k)) c2=_;rw[show k+(l.length+1 - k)=l.length+1 by omega],trivial,by have h:=((hw.sel [2] (by decide))).unbuf (i:=0) (n:=l.length+1) (cap:=c2) rfl (by rw[setL_length,setL_length];simp;omega) hm2 (by omega);rw[ins_grow l x (Nat.le_of_lt hkl) (by omega)] at h;exact h⟩)
   ·refine WP.skip (onto_of ?_);refine sq ?_;refine WP.buf (i:=0) rfl (fun rest hl_rest hc_rest hm_rest=>?_);refine WP.buf (i:=1) rfl (fun vrest hl_vrest hc_vrest hm_vrest=>?_);have hrl:(l.map (Value.int .i64)++rest).length=c:=by rw[List.length_append,List.length_map];exact hc_rest
    refine WP.region ?_
    iterate 4 refine av ?_
    refine vl (v_slice (kl:=0) (l:=0) (h:=(l.length+1)) Tryz.underlying49 Tryz.sizeOf3 rfl rfl ⟨rfl,rfl⟩ (by omega) (by omega)) ?_;simp only[cutAddr_zero];refine av ?_;refine nl (oo ?_);refine sq ?_;refine sqR ?_
    iterate 5 refine av ?_
    refine vl (v_slice (kh:=0) (l:=(k+1)) (h:=l.length+1 - 0) Tryz.underlying49 Tryz.sizeOf3 rfl ⟨rfl,rfl⟩ rfl (by omega) (by omega)) ?_;rw[cutAddr_ne (show c - 0≠k+1 by omega)];refine vl (v_overlaps (f:=131) (i:=1) (j:=0) (tS:=49) (tR:=4) (run_callFunc_extern Tryz.func131 (by kernel_rfl) (by kernel_rfl) (by kernel_rfl) (by kernel_rfl)) Tryz.underlying49 Tryz.sizeOf3 rfl rfl rfl rfl (by decide) (by omega)) ?_;refine gg ?_;refine WP.condT rfl ?_;refine gg ?_;refine WP.drawSel none [1] [(0,true),(1,true),(2,true),(3,true),(4,true),(5,true),(6,true),(7,true),(8,false)] mixed (by kernel_rfl) (by decide) ?_;refine WPD.take rfl (v_move (v:=.slice _ _ _) rfl) ?_ (fun _ h=>h.sel [1] (by decide));refine WPD.take rfl (v_move (v:=.int .i64 _) rfl) ?_ (fun _ h=>h.sel [1] (by decide));refine WPD.take rfl (v_move (v:=.int .i64 _) rfl) ?_ (fun _ h=>h.sel [1] (by decide));refine WPD.take rfl (v_add rfl rfl (by omega)) ?_ (fun _ h=>h.sel [1] (by decide));refine WPD.take rfl (v_slice (kh:=0) (l:=(k+1)) (h:=l.length+1 - 0) Tryz.underlying49 Tryz.sizeOf3 rfl ⟨rfl,rfl⟩ rfl (by omega) (by omega)) ?_ (fun _ h=>h.sel [1] (by decide));rw[cutAddr_ne (show c - 0≠k+1 by omega)]
    iterate 2 refine ad ?_
    refine WPD.take rfl (v_slice (kh:=0) (l:=k) (h:=l.length+1 - 0) Tryz.underlying49 Tryz.sizeOf3 rfl ⟨rfl,rfl⟩ rfl (by omega) (by omega)) ?_ (fun _ h=>h.sel [1] (by decide));rw[cutAddr_ne (show c - 0≠k by omega)];refine WPD.ef rfl (x_copyIn (us:=(l.drop k).map (Value.int .i64)) (σ':=[_,_]) Tryz.underlying49 (by kernel_rfl) rfl rfl (i:=0) rfl (by rw[List.length_map,List.length_drop];show _=min _ _;omega) (fun w hw=>hw.cl_at (i:=0) rfl _ (drop_seg l rest (by omega))) (by rw[hrl,List.length_map,List.length_drop];omega) (ints_one _) rfl) (fun _ _ _ h=>h.sel [1] (by decide)) (fun _=>?_);refine WPD.nil (onto_of ?_);refine sqR ?_
    iterate 2 refine av ?_
    refine vl (v_slice (kh:=0) (l:=k) (h:=l.length+1 - 0) Tryz.underlying49 Tryz.sizeOf3 rfl ⟨rfl,rfl⟩ rfl (by omega) (by omega)) ?_;rw[cutAddr_ne (show c - 0≠k by omega)];refine gg ?_;refine WPL.ef (x_copyIn (us:=[.int .i64 x]) (σ':=[_,_]) Tryz.underlying49 (by kernel_rfl) rfl rfl (i:=0) rfl (by show _=min _ _;simp;omega) (fun w hw=>hw.cl_at (i:=1) rfl 0 rfl) (by rw[setL_length,hrl];simp;omega) (by simp[Value.oneCell']) rfl) (fun _=>?_);refine gg ?_;exact WP.ret1 Tryz.results86 (fun _ h=>h) (fun w hw=>⟨(some ⟨rb,0,none⟩,c),rfl,trivial,by have h:=((hw.sel [0] (by decide))).unbuf (i:=0) (n:=l.length+1) (cap:=c) rfl (by rw[setL_length,setL_length];exact hrl) hcm (by omega);rw[ins_shift l x hkl rest (by omega)] at h;exact h⟩)
theorem delete_ct (A:Option Addr) (c:Nat) (l:List Int) (k:Nat) (hk:k<l.length) (hl:l.length≤5000):Ct Tryz.prog 168 #[.slice A l.length c,.int .i64 k,.int .i64 (k+1)] [kidsI A l.length c l] (fun _=>True)
    (X:=Unit) (fun _=>.slice A (l.length - 1) c) (fun _=>True) (fun _=>[kidsI A (l.length - 1) c (l.eraseIdx k)]):=by
  refine Ci fun w0 _=>?_;refine sq ?_;refine WP.holds (fun w hw=>hw.row_cap (i:=0) rfl) (fun⟨hnc,hcm⟩=>?_);refine WP.holds (fun w hw=>hw.row_pos (i:=0) rfl (by omega)) (fun⟨rb,hA⟩=>?_);subst hA;refine WP.region ?_;refine av ?_;refine nl (oo ?_);refine sqR ?_
  iterate 5 refine av ?_
  refine vl (v_slice3 (l:=k) (h:=k+1) (m:=l.length) Tryz.underlying49 Tryz.sizeOf3 rfl ⟨rfl,rfl⟩ ⟨rfl,rfl⟩ ⟨rfl,rfl⟩ (by omega) (by omega) (by omega)) ?_;refine gg ?_;refine WP.condP rfl (fun h=>absurd h (by omega)) (fun h16=>?_);refine WP.skip (onto_of ?_);refine sqR ?_
  iterate 3 refine av ?_
  refine nl (oo ?_);refine sq ?_;refine WP.buf (i:=0) rfl (fun rest hl_rest hc_rest hm_rest=>?_);have hrl:(l.map (Value.int .i64)++rest).length=c:=by rw[List.length_append,List.length_map];exact hc_rest
  refine wP none [] [pT 0,pT 1,pT 2,pT 3,pT 4,pT 5,pF 6,pT 7] ?_
  iterate 2 refine ad ?_
  refine tE rfl (v_slice (kl:=0) (l:=0) (h:=k) Tryz.underlying49 Tryz.sizeOf3 rfl rfl ⟨rfl,rfl⟩ (by omega) (by omega)) ?_;simp only[cutAddr_zero]
  iterate 2 refine ad ?_
  refine tE rfl (v_slice (kh:=0) (l:=(k+1)) (h:=l.length) Tryz.underlying49 Tryz.sizeOf3 rfl ⟨rfl,rfl⟩ rfl (by omega) (by omega)) ?_;rw[cutAddr_if];refine WPD.ef rfl (x_appendIn (us:=(l.drop (k+1)).map (Value.int .i64)) (σ':=[_]) Tryz.underlying49 (by kernel_rfl) rfl rfl (i:=0) rfl (by rw[List.length_map,List.length_drop]) (fun w hw=>.inr ⟨rb,_,rfl,del_src l rest (by omega) (by omega) (fun o us hu=>hw.cl_at (i:=0) rfl o hu)⟩) (by omega) (by rw[hrl,List.length_map,List.length_drop];omega) (ints_one _) rfl) (fun _ _ _ h=>h.sel [] (by decide)) (fun _=>?_);rw[show k - 0+(l.length - (k+1))=l.length - 1 by omega];refine ad ?_;refine WPD.nil (onto_of ?_);refine sqR ?_
  iterate 4 refine av ?_
  refine vl (v_slice (l:=(l.length - 1)) (h:=l.length) Tryz.underlying49 Tryz.sizeOf3 rfl ⟨rfl,rfl⟩ ⟨rfl,rfl⟩ (by omega) (by omega)) ?_;rw[cutAddr_ne (show c - 0≠l.length - 1 by omega),show l.length - (l.length - 1)=0+1 by omega];refine WPL.ef0 (x_clearIn (n:=0) (σ':=[_]) Tryz.underlying49 Tryz.zeroValue3 rfl rfl rfl (i:=0) rfl (by rw[setL_length,hrl];omega) rfl) (fun _=>?_);refine gg ?_;exact WP.ret1 Tryz.results168 (fun _ h=>h) (fun w hw=>⟨(),rfl,trivial,by have h:=((hw.sel [0] (by decide))).unbuf (i:=0) (n:=l.length - 1) (cap:=c) rfl (by rw[setL_length,setL_length];exact hrl) hcm (by omega);rw[del_cells l hk rest] at h;exact h⟩)
def intA (x:Int):List Value:=[.int .i64 x]
theorem appendSeq_ct (gf:Nat) (cap:List Value) (eg:∀args w,(callFunc gf args).run Tryz.prog w=.ok (.enter gf args) w) (R:HI) (xs:List Int) (hl:xs.length≤100000) (hit:IterOK Tryz.prog gf [] cap [R] intA xs):
    Ct Tryz.prog 111 #[.slice none 0 0,.func (.func gf) #[] cap.toArray] [R] (fun _=>True) (X:=Option Addr×Nat) (fun p=>.slice p.1 xs.length p.2) (fun _=>True) (fun p=>[R,kidsI p.1 xs.length p.2 xs]):=by
  refine Ci fun w0 _=>?_;refine gg ?_;refine WPL.ef (x_box1 (u:=.slice _ _ _) (σ':=fun _=>[_,_]) rfl (fun _=>rfl)) (fun b2=>?_);refine av ?_;refine nl (oo ?_)
  iterate 2 refine sq ?_
  refine WP.pre ?_ (fun w hw=>hw.nilRow 3 1);refine WP.region ?_;refine mv rfl ?_;refine nl (oo ?_);refine WP.block ?_;refine WP.pre ?_ (fun w hw=>(hw.sel [0,1,2] (by decide)));refine WP.rangeIter (gf:=gf) (first:=[]) (cap:=cap) rfl eg hit (Z:=Option Addr×Nat) (own:=fun k z=>[.cl b2 49 [.slice z.1 k z.2],kidsI z.1 k z.2 (xs.take k)]) (Inv:=fun _ _=>True) (none,0) trivial (List.Perm.refl _) (fun _=>rfl) (by decide) (Y:=Unit) (fun _ _ _=>False) (fun _=>[]) ?_ ?_ ?_
  ·intro lk l2 D2 k x z hx hz w1 M1;have hkl:=(List.getElem?_eq_some_iff.1 hx).1;obtain⟨zA,zc⟩:=z;dsimp only;refine WP.region ?_;refine av ?_;refine WPL.nil (begun_of (i:=0) rfl ?_);refine gg ?_;refine WPL.ef (x_buildSlice (us:=[.int .i64 _]) (σ':=fun _=>[_,_,_,_,_,_,_]) Tryz.underlying49 Tryz.sizeOf3 Tryz.zeroValue3 rfl rfl rfl (by decide) (by decide) (fun _=>rfl)) (fun g10=>?_);refine WPL.ef (xP 5 6) fun⟨A11,c11⟩=>?_;refine WPL.ef0 (xS rfl (isS rfl)) fun _=>?_;exact nl (fun w hw=>RoundQ.normal (i:=0) rfl hw (fun w2 hw2=>.inl ⟨(A11,c11),rfl,trivial,by dsimp only;rw[show kidsI A11 (k+1) c11 (xs.take (k+1))=.row 3 1 A11 (k+1) c11 ((xs.take k).map (Value.int .i64)++[.int .i64 x]) by rw[kidsI,take_snoc hx,List.map_append];rfl];exact(hw2.sel [0,1,2,3,4,5] (by decide))⟩))
  ·intro D z hz;obtain⟨zA,zc⟩:=z;rw[List.take_of_length_le (Nat.le_refl xs.length)];refine fin_id (onto_of ?_);refine gg ?_;exact WP.retM [D] (τ:=[R,kidsI zA xs.length zc xs]) (fun w hw=>(hw.sel [0,2,3] (by decide))) (fun _ h=>h) (fun w hw=>RetQ.of1 Tryz.results111 (.inl rfl) ⟨(zA,zc),rfl,trivial,hw⟩)
  ·intro D c k y hf;exact hf.elim
theorem collect_ct (gf:Nat) (cap:List Value) (eg:∀args w,(callFunc gf args).run Tryz.prog w=.ok (.enter gf args) w) (R:HI) (xs:List Int) (hl:xs.length≤100000) (hit:IterOK Tryz.prog gf [] cap [R] intA xs):
    Ct Tryz.prog 61 #[.func (.func gf) #[] cap.toArray] [R] (fun _=>True) (X:=Option Addr×Nat) (fun p=>.slice p.1 xs.length p.2) (fun _=>True) (fun p=>[R,kidsI p.1 xs.length p.2 xs]):=by
  refine Ci fun w0 _=>?_;refine sqR ?_;refine av ?_;refine nl (oo ?_);refine sqR ?_;refine mv rfl ?_;refine eF (xC (appendSeq_ct gf cap eg R xs hl hit)) fun⟨A4,c4⟩ _=>?_;refine gg ?_;exact rt1 fun w hw=>⟨(A4,c4),rfl,trivial,hw.pk⟩
end Go.Proofs.YtbedndijejpcaaaGreat
