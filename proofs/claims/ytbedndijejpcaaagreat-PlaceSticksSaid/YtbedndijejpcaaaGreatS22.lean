/- FlowAll Grown Law Open FActs MapR TreeNew Grow2 FSame -/
import Derived.Test.YtbedndijejpcaaaGreatRows
import Derived.Deep.Fields
import Derived.Deep.Slices
import Derived.Maps.RangeRun
import Derived.OpenShut
import Derived.ProofKit
import Derived.Test.YtbedndijejpcaaaGreatS21
set_option linter.unusedVariables false
set_option linter.unusedSimpArgs false
set_option linter.unusedSectionVars false
set_option maxRecDepth 100000
set_option maxHeartbeats 8000000
namespace Go.Proofs.YtbedndijejpcaaaGreat
open Go.RowKit
theorem St.emptyPool {w0 w:World} {M:Nat→Prop} {σ:List HI} (h:St w0 M σ w):St w0 M (σ++[poolI fun _=>none]) w:=by
  refine h.add ⟨rfl,rfl,rfl,Nat.le_refl _,fun _ _ _=>rfl,fun i hi=>?_,List.pairwise_singleton _ _,fun i hi b hb=>?_⟩
  · obtain rfl : i = _ := by simpa using hi
    exact⟨pool_local _,fun g cs hg=>by cases hg⟩
  · obtain rfl : i = _ := by simpa using hi
    have hb':(none:Option (List Value)).isSome=true:=hb;cases hb'
theorem RepK.rows {H:Pool} {A:Option Addr} {ks:List Frm} (h:RepK H A ks):∃es:List FP,es.map FP.fr=ks∧(∀e∈es,RepE H e)∧((A=none∧es=[])∨∃g,A=some ⟨g,0,none⟩∧H g=some (es.flatMap FP.enc)):=by
  cases h with
  | nil=>exact⟨[],rfl,fun e he=>by simp at he,.inl ⟨rfl,rfl⟩⟩
  | row hg he=>exact⟨_,rfl,he,.inr ⟨_,rfl,hg⟩⟩
theorem St.poolSrc {w0 w:World} {M:Nat→Prop} {σ:List HI} {i:Nat} {H:Pool} {A:Option Addr} {es:List FP} {n:Nat} (h:St w0 M σ w) (hi:σ[i]?=some (poolI H)) (ha:(A=none∧es=[])∨∃g,A=some ⟨g,0,none⟩∧H g=some (es.flatMap FP.enc)) (hn:n=es.length):Src w A n (es.flatMap FP.enc):=by
  subst hn
  rcases ha with ⟨rfl,rfl⟩ | ⟨g,rfl,hg⟩
  · exact .inl ⟨rfl,rfl⟩
  · exact .inr ⟨g,0,rfl,h.poolAt hi hg⟩
theorem flat_front (l:List FP) (e:FP):((l++[e]).flatMap FP.enc).take (l.length*6)=l.flatMap FP.enc:=by
  rw[List.flatMap_append];exact List.take_left' (flatF_len l)
theorem St.shrinkF {w0 w:World} {M:Nat→Prop} {σ:List HI} {i g c:Nat} {l:List FP} {e:FP} (h:St w0 M σ w) (hi:σ[i]?=some (rowF (some ⟨g,0,none⟩) c (l++[e]))):St w0 M (σ.set i (rowF (some ⟨g,0,none⟩) c l)) w:=by
  obtain⟨rest,⟨h1,h2,h3,h4⟩,hb⟩:=h.bufN hi;have hlt:=(List.getElem?_eq_some_iff.1 hi).1;have hlen:(l++[e]).length=l.length+1:=by simp
  have h5:=hb.unbufN (i:=i) (n:=l.length) (by rw[List.getElem?_set_self hlt]) (by rw[List.length_append,h1];exact h2) h4 (by omega);rw[List.set_set,List.take_append_of_le_length (by rw[h1,hlen];omega),flat_front] at h5;exact h5
theorem rowF_app (A:Option Addr) (c:Nat) (es ks:List FP):rowF A c (es++ks)=.row 115 6 A (es.length+ks.length) c (es.flatMap FP.enc++ks.flatMap FP.enc):=by simp[rowF]
section
variable (tp mb:Nat) (es:List PE) (hk:LOk es) {d:Int→Nat} (hF:WF (FoR es) d) (hg:∀x,GS (stF (FoR es) x)) (hK:∀x,(kidsF (FoR es) x).length≤64)
include hk hF hg hK in
theorem flowLay_ct (wd ht:Int) (hw1:wd≤1048576) (hh1:ht≤1048576):Ct Tryz.prog 21 #[.pointer (some ⟨tp,0,none⟩),.int .i64 wd,.int .i64 ht] [treeI tp mb es] (fun _=>True) (X:=Nat×List Frm) (fun p=>.map (some p.1))
    (fun p=>p.2.Perm (allP (FoR es) wd ht)) (fun p=>[treeI tp mb es,mapI p.1 (putAll p.2)]):=by
  have hrt:hasF (FoR es) 0=true:=by obtain⟨b,hb,_⟩:=hF.root;exact has_some hb
  have hlen:=all_len hF hg wd ht;have hgr:=good_root hF hg (ww:=max wd 0) (wh:=max ht 0) (max wd 0) (max ht 0) (-1) (-1);refine Ci fun w0 _=>?_;refine sqR ?_;refine sg rfl ?_;refine gg ?_;refine WPL.ef (x_makeMap (σ':=fun _=>[_,_]) (fun _=>rfl)) (fun mp11=>?_);refine sg (v:=.map _) rfl ?_;refine gg ?_;refine eF (xC (fshown_ct tp mb es hk hF 0)) fun _ _=>?_;refine gg ?_;refine WP.cond rfl (fun h14=>?_) (fun h14=>?_)
  ·have hno:allP (FoR es) wd ht=[]:=if_neg (by simpa using h14);refine sqR ?_;refine mv (v:=.map _) rfl ?_;refine sg (v:=.map _) rfl ?_;refine gg ?_;exact WP.ret1 Tryz.results21 (fun _ h=>h) (fun w hw=>⟨(mp11,[]),rfl,by rw[hno],(hw.sel [1,0] (by decide))⟩)
  ·have hsh:shownF (FoR es) 0=true:=by simpa using h14
   refine WP.skip (onto_of ?_);refine sqR ?_
   iterate 5 refine av ?_
   refine vl (v_array (us:=[.int .i64 _,.int .i64 _]) Tryz.underlying109 Tryz.zeroValue109 Tryz.sizeOf3 rfl rfl rfl) ?_;refine WPL.ef (x_makeMapK (σ':=fun _=>[_,_,_]) (fun _=>rfl)) (fun lb=>?_);refine vl (v_struct (us:=[.pointer _,.int .i64 _,.int .i64 _,.map _]) (pl:=[(0,1),(1,2),(3,1)]) Tryz.underlying112 Tryz.zeroValue112 rfl (by kernel_rfl) rfl rfl (by kernel_rfl)) ?_;refine WPL.ef (xB (us:=[.pointer (some ⟨tp,0,none⟩),.int .i64 (max wd 0),.int .i64 (max ht 0),.map (some lb)])) fun fb=>?_;refine av ?_;refine nl (oo ?_);refine sqR ?_
   iterate 5 refine av ?_
   refine vl (v_array (us:=[.int .i64 _,.int .i64 _]) Tryz.underlying109 Tryz.zeroValue109 Tryz.sizeOf3 rfl rfl rfl) ?_;refine WPL.pre ?_ (fun w hw=>hw.emptyPool);refine eF (xC (lays_ct tp mb fb lb es hk hF hg hK (max wd 0) (max ht 0) ⟨by omega,by omega⟩ ⟨by omega,by omega⟩ 64 0 hrt (by omega) [] (fun _=>none) (max wd 0) (max ht 0) (-1) (-1) (MOK.nil _ _) (by rw[hF.rank0];unfold okA bnd;omega))) fun⟨m1,H1,fA1,fc1⟩ ⟨hsub1,hmok1,hrep1⟩=>?_;dsimp only at hsub1 hmok1 hrep1;refine WPL.ef (xN (LF rfl)) fun g32=>?_;refine gg ?_;refine WP.loopK (X:=List Frm×List FP×Option Addr×Nat) [7] (fun p=>[(9,.slice p.2.2.1 p.2.1.length p.2.2.2)]) (fun p w=>((∀e∈p.2.1,RepE H1 e∧Good (FoR es) (max wd 0) (max ht 0) e.fr)∧(p.1++(p.2.1.map FP.fr).flatMap (flatN 64)).Perm (allP (FoR es) wd ht))∧St w0 (foots [treeI tp mb es]) [treeI tp mb es,mapI mp11 (putAll p.1),poolI H1,rowF p.2.2.1 p.2.2.2 p.2.1] w) (fun p=>4096 - p.1.length) ([],[⟨(LAY (FoR es) (max wd 0) (max ht 0) 0 (max wd 0) (max ht 0) (-1) (-1)),fA1,fc1⟩],some ⟨g32,0,none⟩,1) ⟨(via (.slice (some ⟨g32,0,none⟩) 1 1) rfl (by simp only[List.length_singleton])),trivial⟩ (fun w hw=>⟨⟨fun e he=>by obtain rfl:e=_:=(by simpa using he);exact⟨hrep1,hgr⟩,by simp only[List.map_cons,List.map_nil,List.flatMap_cons,List.flatMap_nil,List.append_nil,List.nil_append];unfold allP;rw[if_pos hsh]⟩,(hw.sel [1,0,4,5] (by decide))⟩) (fun p ρ0=>?_);obtain⟨ps,fs,sA,sc⟩:=p;dsimp only;refine WP.fact (fun⟨hall,hperm⟩=>?_);have hpl:=hperm.length_eq;rw[List.length_append] at hpl;have hfl:=flat_all hF hg (fs.map FP.fr) (fun f hf=>by obtain⟨e,he,rfl⟩:=List.mem_map.1 hf;exact(hall e he).2);rw[List.length_map] at hfl;refine gg ?_;refine WP.condP rfl (fun h35=>?_) (fun h35=>?_)
   ·have hne:fs≠[]:=by rintro rfl;simp at h35
    obtain⟨ini,e,rfl⟩:∃ini e,fs=ini++[e]:=⟨fs.dropLast,fs.getLast hne,(List.dropLast_concat_getLast hne).symm⟩;obtain⟨he1,he2⟩:=hall e (by simp);obtain⟨ks,hkm,hke,hka⟩:=RepK.rows he1;have hkl:ks.length=e.fr.kids.length:=by rw[←hkm,List.length_map]
    have hkf:=flat_all hF hg e.fr.kids (fun f hf=>(he2.kids hF hg f hf).1);have hperm2:((ps++[e.fr])++((ini.map FP.fr).flatMap (flatN 64)++e.fr.kids.flatMap (flatN 64))).Perm (allP (FoR es) wd ht):=by
      refine List.Perm.trans ?_ hperm;rw[List.map_append,List.flatMap_append,List.map_singleton,List.flatMap_singleton,flat_eq hF hg he2,List.append_assoc];refine List.Perm.append_left ps ?_;exact(List.perm_middle (l₁:=(ini.map FP.fr).flatMap (flatN 64))).symm
    have hpl2:=hperm2.length_eq;rw[List.length_append,List.length_append,List.length_append,List.length_singleton] at hpl2;have hif:=flat_all hF hg (ini.map FP.fr) (fun f hf=>by obtain⟨e,he,rfl⟩:=List.mem_map.1 hf;exact(hall e (by simp[he])).2);rw[List.length_map] at hif;have hsl:(ini++[e]).length=ini.length+1:=snoc_len _ _;refine WP.holds (fun w hw=>(hw.row_cap (i:=3) rfl).1) (fun(hcap:(ini++[e]).length≤sc)=>?_);refine WP.holds (fun w hw=>hw.row_pos (i:=3) rfl (by omega)) (fun⟨pb_stk,hA_stk⟩=>?_);subst hA_stk;refine WP.skip (onto_of ?_);refine WP.block ?_;refine sqR ?_
    iterate 4 refine av ?_
    refine vl (vX (ini.length)) ?_;refine vl (v_loadA (cs:=e.enc) Tryz.isAgg115 Tryz.sizeOf115 rfl (fun w hw=>hw.row_at (i:=3) rfl (0+ini.length*6) (fun q u hq=>by rw[Nat.zero_add];exact flat_at FP.enc 6 (fun _=>rfl) (ini++[e]) ini.length q e u (by simp) hq))) ?_;refine WPL.ef xAl fun b10=>?_;refine WPL.ef0 (xW rfl) fun _=>?_;refine gg ?_;refine wP none [0,1,2,4] [pT 0,pT 1,pT 2,pT 3,pT 4,pT 5,pT 6,pF 7,pT 8] ?_
    iterate 4 refine ad ?_
    refine tE rfl (v_of (v_slice (l:=0) (h:=ini.length) (kl:=0) Tryz.underlying113 Tryz.sizeOf115 rfl rfl ⟨rfl,(by omega)⟩ (by omega) (by omega)) (v':=.slice (some ⟨pb_stk,0,none⟩) ini.length sc) (by rw[cutAddr_if,Nat.zero_mul,ite_self];rfl)) ?_
    iterate 2 refine ad ?_
    refine WPD.pre ?_ (fun w hw=>hw.shrinkF (i:=3) rfl);refine WPD.ef rfl (x_append (sz:=6) (σ':=fun _=>[_,_,_,_,_]) Tryz.underlying113 info115 rfl (by decide) rfl rfl (i:=3) rfl (fun w hw=>hw.poolSrc (i:=2) rfl hka hkl.symm) (by rw[flatF_len,hkl]) (flatF_one _) (by omega) (by omega) (fun _=>rfl)) (fun _ _ _ h=>h.sel [0,1,2,4] (by decide)) (fun⟨A49,c49⟩=>?_);refine gg ?_;refine WP.drawS (some 20) [(0,true),(1,true),(2,true),(3,true),(4,true),(5,true),(6,true),(7,true),(8,true),(9,true),(10,true),(11,true),(12,true),(13,true),(14,true),(15,true),(16,true),(17,true),(18,true),(19,true),(20,false)] mixed (by kernel_rfl) (by decide) (fun _ h=>h.drawn) ?_;refine tE rfl (v_move (v:=.map _) rfl) ?_;refine gg ?_;refine tD (vC (cut_any _ _)) ?_;refine gg ?_;refine tD (vC (cut_any _ _)) ?_;refine gg ?_;refine tD (vC (cut_any _ _)) ?_;refine gg ?_;refine tD (vC (cut_any _ _)) ?_;refine tE rfl (v_struct (us:=[.int .i64 _,.int .i64 _,.int .i64 _,.int .i64 _]) (pl:=[(0,1),(1,1),(2,1),(3,1)]) Tryz.underlying52 Tryz.zeroValue52 rfl (by kernel_rfl) rfl rfl (by kernel_rfl)) ?_;refine WPD.ef0 rfl (x_mapPut (m:=putAll ps) (k:=e.fr.id) (u:=rectV e.fr) (σ':=[_,_,_,_,_]) Tryz.underlying47 Tryz.underlying3 rfl rfl rfl (i:=1) rfl rfl) (fun h=>absurd rfl h) (fun _=>?_);exact WPD.nil fun w hw=>⟨rfl,(ps++[e.fr],ini++ks,A49,c49),(by simp only;rw[List.length_append,List.length_singleton];omega),⟨(via (.slice A49 (ini.length+e.fr.kids.length) c49) rfl (by simp only;rw[List.length_append,hkl])),(via (.map _) rfl rfl),trivial⟩,⟨⟨fun x hx=>by rcases List.mem_append.1 hx with hx | hx;exact hall x (by simp[hx]);exact⟨hke x hx,(he2.kids hF hg x.fr (by rw[←hkm];exact List.mem_map.2 ⟨x,hx,rfl⟩)).1⟩,by simp only;rw[List.map_append,List.flatMap_append,hkm];exact hperm2⟩,by simp only;rw[putAll_snoc,rowF_app,hkl];exact hw.pk⟩⟩
   ·have hnil:fs=[]:=List.eq_nil_of_length_eq_zero (by omega);rw[hnil] at hperm;have hno:ps.Perm (allP (FoR es) wd ht):=by simpa using hperm
    refine WP.exit (onto_of ?_);refine sqR ?_;refine mv (v:=.map _) rfl ?_;refine sg (v:=.map _) rfl ?_;refine gg ?_;exact rt1 fun w hw=>⟨(mp11,ps),rfl,hno,hw.pk⟩
end
abbrev AC:={a:Act (List Value) // SOk a.sty}
abbrev encA:AC→List Value:=fun a=>actC a.1
def AF (l:List AC):Forest (List Value):=actsR zeroS validB (newF zeroS) (l.map (·.1))
theorem AF_wf (l:List AC):∃d,WF (AF l) d:=acts_new zeroS validB _
theorem AF_snoc {l:List AC} {k:Nat} {x:AC} (h:l[k]?=some x):AF (l.take (k+1))=actR zeroS validB (AF (l.take k)) x.1:=by
  rw[take_snoc h,AF,List.map_append];exact acts_snoc zeroS validB _ _ _
theorem encA_len (x:AC):(encA x).length=59:=by simp[actC,x.2.len]
section
variable {F:Forest (List Value)} {d d':Int→Nat} {G:Forest (List Value)}
theorem WF.len_le' (h:WF F d) (hG:WF G d') (i:Int) (hs:∀x,hasF G x=true→x=i∨hasF F x=true):lenF G≤lenF F+1:=by
  have := nodup_len (l := order G) (m := i :: order F) hG.order_nodup (fun x hx => by
    rcases hs x (hG.mem_order.1 hx) with rfl | h1
    · simp
    · exact List.mem_cons_of_mem _ (h.mem_order.2 h1))
  simp only[List.length_cons] at this;unfold lenF;omega
theorem has_addG {up id:Int} {k:Nat} {z:List Value} {x:Int} (h:hasF (addG F up k id z) x=true):x=id∨hasF F x=true:=by
  unfold hasF addG at h
  split at h
  · rename_i e;right;subst e;simpa [hasF] using h
  · split at h
    · left;assumption
    · right;exact h
theorem has_movG (id up:Int) (k:Nat) (x:Int):hasF (movG F id up k) x=hasF F x:=by simp[hasF,movG]
theorem has_setG (id:Int) (s:List Value) (x:Int):hasF (setG F id s) x=hasF F x:=by
  unfold hasF setG
  split
  · rename_i e;subst e;simp
  · rfl
theorem has_remG {id x:Int} (h:hasF (remG F id) x=true):hasF F x=true:=by
  unfold hasF remG at h
  split at h
  · cases h
  · simpa [hasF] using h
theorem WF.act_len (h:WF F d) (a:Act (List Value)):lenF (actR zeroS validB F a)≤lenF F+1:=by
  obtain⟨d',h'⟩:=h.act zeroS validB a;refine h.len_le' h' (least F) (fun x hx=>?_);unfold actR at hx
  split at hx
  · right
    unfold Go.Proofs.YtbedndijejpcaaaGreat.remR at hx
    split at hx
    · exact hx
    · split at hx
      · exact hx
      · exact has_remG hx
  · split at hx
    · right
      unfold Go.Proofs.YtbedndijejpcaaaGreat.movR at hx
      repeat' split at hx
      all_goals first | exact hx | (rw[has_movG] at hx;exact hx)
    · split at hx
      · right
        unfold Go.Proofs.YtbedndijejpcaaaGreat.setR at hx
        repeat' split at hx
        all_goals first | exact hx | (rw[has_setG] at hx;exact hx)
      · unfold Go.Proofs.YtbedndijejpcaaaGreat.addR at hx
        repeat' split at hx
        all_goals first | exact .inr hx | exact has_addG hx
end
theorem AF_len (l:List AC):∀k≤l.length,lenF (AF (l.take k))≤1+k
  | 0, _ => by
    show lenF (newF zeroS)≤_;have h:lenF (newF zeroS)=1:=by kernel_rfl
    omega
  | k + 1, hk => by
    obtain⟨x,hx⟩:∃x,l[k]?=some x:=⟨_,List.getElem?_eq_getElem (by omega)⟩;obtain⟨d,hd⟩:=AF_wf (l.take k);have h1:=hd.act_len x.1;have h2:=AF_len l k (by omega);rw[AF_snoc hx];push_cast at*;omega
def AllGS (F:Forest (List Value)):Prop:=∀x b,F x=some b→GS b.sty
theorem AllGS.st {F:Forest (List Value)} (h:AllGS F) (x:Int):GS (stF F x):=by
  unfold stF styF
  split
  · rename_i b hb;exact h x b hb
  · exact GS.zero
theorem AllGS.new:AllGS (newF zeroS):=fun x b h=>by
  unfold newF at h
  split at h
  · cases h;exact GS.zero
  · cases h
theorem AllGS.addG {F:Forest (List Value)} (h:AllGS F) (up:Int) (k:Nat) (id:Int) {z:List Value} (hz:GS z):AllGS (addG F up k id z):=fun x b hb=>by
  unfold Go.Proofs.YtbedndijejpcaaaGreat.addG at hb
  split at hb
  · obtain ⟨c, hc, rfl⟩ := Option.map_eq_some_iff.1 hb
    exact h _ c hc
  · split at hb
    · cases hb;exact hz
    · exact h x b hb
theorem AllGS.remG {F:Forest (List Value)} (h:AllGS F) (id:Int):AllGS (remG F id):=fun x b hb=>by
  unfold Go.Proofs.YtbedndijejpcaaaGreat.remG at hb
  split at hb
  · cases hb
  · obtain ⟨c, hc, rfl⟩ := Option.map_eq_some_iff.1 hb
    split<;>exact h x c hc
theorem AllGS.movG {F:Forest (List Value)} (h:AllGS F) (id up:Int) (k:Nat):AllGS (movG F id up k):=fun x b hb=>by
  unfold Go.Proofs.YtbedndijejpcaaaGreat.movG at hb;obtain⟨c,hc,rfl⟩:=Option.map_eq_some_iff.1 hb;exact h x c hc
theorem AllGS.setG {F:Forest (List Value)} (h:AllGS F) (id:Int) {s:List Value} (hs:GS s):AllGS (setG F id s):=fun x b hb=>by
  unfold Go.Proofs.YtbedndijejpcaaaGreat.setG at hb
  split at hb
  · obtain ⟨c, hc, rfl⟩ := Option.map_eq_some_iff.1 hb
    exact hs
  · exact h x b hb
theorem AllGS.addR {F:Forest (List Value)} (h:AllGS F) (up at_:Int):AllGS (addR zeroS F up at_).1:=by
  unfold Go.Proofs.YtbedndijejpcaaaGreat.addR
  repeat' split
  all_goals first | exact h | exact h.addG _ _ _ GS.zero
theorem AllGS.setR {F:Forest (List Value)} (h:AllGS F) (id:Int) {s:List Value} (hs:SOk s):AllGS (setR validB F id s).1:=by
  unfold Go.Proofs.YtbedndijejpcaaaGreat.setR
  split
  · exact h
  · split
    · exact h
    · rename_i hv
      exact h.setG id (GS.of hs (by simpa using hv))
theorem AllGS.act {F:Forest (List Value)} (h:AllGS F) (a:Act (List Value)) (hs:SOk a.sty):AllGS (actR zeroS validB F a):=by
  unfold actR
  split
  · unfold Go.Proofs.YtbedndijejpcaaaGreat.remR
    repeat' split
    all_goals first | exact h | exact h.remG _
  · split
    · unfold Go.Proofs.YtbedndijejpcaaaGreat.movR
      repeat' split
      all_goals first | exact h | exact h.movG _ _ _
    · split
      · exact h.setR _ hs
      · exact h.addR _ _
theorem AF_good (l:List AC):∀k≤l.length,AllGS (AF (l.take k))
  | 0,_=>AllGS.new
  | k + 1, hk => by
    obtain⟨x,hx⟩:∃x,l[k]?=some x:=⟨_,List.getElem?_eq_getElem (by omega)⟩;rw[AF_snoc hx];exact(AF_good l k (by omega)).act x.1 x.2
theorem AF_all (l:List AC):AllGS (AF l):=by
  have h:=AF_good l l.length (Nat.le_refl _)
  rwa [List.take_of_length_le (Nat.le_refl _)] at h
theorem kids_few {F:Forest (List Value)} {d:Int→Nat} (hF:WF F d) {n:Nat} (h:lenF F≤n) (x:Int):(kidsF F x).length≤n:=by
  cases e:F x with
  | none=>simp[kidsF,e]
  | some b =>
    rw[kids_some e];have h1:=nodup_len (l:=b.kids) (m:=order F) (hF.nodup x b e) fun k hk=>by
      obtain⟨_,c,hc,_⟩:=hF.kid x b e k hk;exact hF.mem_order.2 (has_some hc)
    unfold lenF at h;omega
theorem AF_few (l:List AC):lenF (AF l)≤1+l.length:=by
  have h:=AF_len l l.length (Nat.le_refl _)
  rwa [List.take_of_length_le (Nat.le_refl _)] at h
def lenTame (p:Int×Int):Prop:=(p.1=1→-1048576≤p.2∧p.2≤1048576)∧(p.1=2→p.2≤10000)
def tameL (s:List Value):List (Int×Int):=[(val s 3,val s 4),(val s 5,val s 6),(val s 7,val s 8),(val s 9,val s 10),(val s 11,val s 12),(val s 13,val s 14),(val s 41,val s 42),(val s 15,val s 16),(val s 23,val s 24),(val s 17,val s 18),(val s 25,val s 26),(val s 19,val s 20),(val s 27,val s 28),(val s 21,val s 22),(val s 29,val s 30)]
def TameS (s:List Value):Prop:=∀p∈tameL s,lenTame p
abbrev encL2 (p:Int×Int):List Value:=[.int .i64 p.1,.int .i64 p.2]
theorem tame_ct (s:List Value) (hs:SOk s):Ct Tryz.prog 53 #[.agg s.toArray] [] (fun _=>True) (X:=Bool) (fun b=>.bool b) (fun b=>b=true→TameS s) (fun _=>[]):=by
  refine Ci fun w0 _=>?_;refine gg ?_;refine WPL.ef (xB (us:=s)) fun b1=>?_;refine gg ?_;refine vl (vS2 hs 3 4) ?_;refine gg ?_;refine vl (vS2 hs 5 6) ?_;refine gg ?_;refine vl (vS2 hs 7 8) ?_;refine gg ?_;refine vl (vS2 hs 9 10) ?_;refine gg ?_;refine vl (vS2 hs 11 12) ?_;refine gg ?_;refine vl (vS2 hs 13 14) ?_;refine gg ?_;refine vl (vS2 hs 41 42) ?_;refine WPL.ef (xN rfl (us:=[.int .i64 _,.int .i64 _,.int .i64 _,.int .i64 _,.int .i64 _,.int .i64 _,.int .i64 _,.int .i64 _,.int .i64 _,.int .i64 _,.int .i64 _,.int .i64 _,.int .i64 _,.int .i64 _])) fun g20=>?_;refine gg ?_;refine WP.loopN 5 ?_;refine WPR.succ ?_;refine gg ?_;refine WP.condT rfl ?_;refine gg ?_;refine wP none [0] [pT 0,pT 1,pT 2,pT 3,pT 4,pT 5,pT 6,pT 7,pT 8,pF 9,pF 10,pT 11] ?_;refine gg ?_;refine tD (vS2 hs 15 16) ?_;refine gg ?_;refine tD (vS2 hs 23 24) ?_;refine dE (xN rfl (us:=[.int .i64 _,.int .i64 _,.int .i64 _,.int .i64 _])) fun g34=>?_;refine dE (xP 1 2) fun⟨A35,c35⟩=>?_;refine ad ?_;refine WPD.nil (onto_of ?_);refine WP.region ?_
  iterate 3 refine av ?_
  refine WPL.nil (rounds_of ?_);refine WPR.succ ?_;refine gg ?_;refine WP.condT rfl ?_;refine gg ?_;refine wP none [0,2] [pT 0,pT 1,pT 2,pT 3,pT 4,pT 5,pT 6,pT 7,pT 8,pF 9,pF 10,pT 11] ?_;refine gg ?_;refine tD (vS2 hs 17 18) ?_;refine gg ?_;refine tD (vS2 hs 25 26) ?_;refine dE (xN rfl (us:=[.int .i64 _,.int .i64 _,.int .i64 _,.int .i64 _])) fun g34=>?_;refine dE (xP 1 3) fun⟨A35,c35⟩=>?_;refine ad ?_;refine WPD.nil (onto_of ?_);refine WP.region ?_
  iterate 3 refine av ?_
  refine WPL.nil (rounds_of ?_);refine WPR.succ ?_;refine gg ?_;refine WP.condT rfl ?_;refine gg ?_;refine wP none [0,2,3] [pT 0,pT 1,pT 2,pT 3,pT 4,pT 5,pT 6,pT 7,pT 8,pF 9,pF 10,pT 11] ?_;refine gg ?_;refine tD (vS2 hs 19 20) ?_;refine gg ?_;refine tD (vS2 hs 27 28) ?_;refine dE (xN rfl (us:=[.int .i64 _,.int .i64 _,.int .i64 _,.int .i64 _])) fun g34=>?_;refine dE (xP 1 4) fun⟨A35,c35⟩=>?_;refine ad ?_;refine WPD.nil (onto_of ?_);refine WP.region ?_
  iterate 3 refine av ?_
  refine WPL.nil (rounds_of ?_);refine WPR.succ ?_;refine gg ?_;refine WP.condT rfl ?_;refine gg ?_;refine wP none [0,2,3,4] [pT 0,pT 1,pT 2,pT 3,pT 4,pT 5,pT 6,pT 7,pT 8,pF 9,pF 10,pT 11] ?_;refine gg ?_;refine tD (vS2 hs 21 22) ?_;refine gg ?_;refine tD (vS2 hs 29 30) ?_;refine dE (xN rfl (us:=[.int .i64 _,.int .i64 _,.int .i64 _,.int .i64 _])) fun g34=>?_;refine dE (xP 1 5) fun⟨A35,c35⟩=>?_;refine ad ?_;refine WPD.nil (onto_of ?_);refine WP.region ?_
  iterate 3 refine av ?_
  refine WPL.nil (rounds_of ?_);refine WPR.succ ?_;refine gg ?_;refine WP.condF rfl ?_;refine WP.exit (onto_of ?_);refine gg ?_;refine WP.loopK (X:=Nat) [3] (fun k=>[(5,.int .i64 (k:Int))]) (fun k w=>(k≤15∧∀j p,j<k→(tameL s)[j]?=some p→lenTame p)∧St w0 (foots []) [.cl b1 42 s,.row 33 2 A35 15 c35 ((tameL s).flatMap encL2)] w) (fun k=>15 - k) 0 ⟨rfl,trivial⟩ (fun w hw=>⟨⟨Nat.zero_le _,fun j p h=>by omega⟩,(hw.sel [0,1] (by decide))⟩) (fun k ρ0=>?_);refine WP.fact (fun⟨hkn,hall⟩=>?_);refine gg ?_;refine WP.condP rfl (fun h39=>?_) (fun h39=>?_)
  ·obtain⟨q,hq⟩:∃q,(tameL s)[k]?=some q:=⟨_,List.getElem?_eq_getElem (by show k<15;omega)⟩;refine WP.holds (fun w hw=>hw.row_pos (i:=1) rfl (by omega)) (fun⟨pb,hA⟩=>?_);subst hA;refine WP.skip (onto_of ?_);refine sq ?_;refine WP.block ?_;refine sqR ?_
   iterate 4 refine av ?_
   refine vl (v_load1 (u:=.int .i64 q.1) Tryz.isAgg31 rfl (fun w hw=>hw.row_at1 (i:=1) (k:=k*2+0) rfl (flat_at encL2 2 (fun _=>rfl) _ k 0 q _ hq rfl) (by omega))) ?_
   iterate 2 refine av ?_
   refine WPL.split 48 rfl (fun h48=>?_) (fun h48=>?_)
   ·iterate 4 refine ag ?_
    refine vg (v_load1 (u:=.int .i64 q.2) Tryz.isAgg3 rfl (fun w hw=>hw.row_at1 (i:=1) (k:=k*2+1) rfl (flat_at encL2 2 (fun _=>rfl) _ k 1 q _ hq rfl) (by omega))) ?_
    iterate 2 refine ag ?_
    refine WPL.split 55 rfl (fun h55=>?_) (fun h55=>?_)
    ·refine gg ?_;refine WP.condT rfl ?_;refine gg ?_;exact rt1 fun w hw=>by first | exact⟨false,rfl,(fun h=>by cases h),hw.pk⟩ | exact⟨true,rfl,(fun _ p hp=>by obtain⟨j,hj⟩:=List.getElem?_of_mem hp;exact hall j p (List.getElem?_eq_some_iff.1 hj).1 hj),hw.pk⟩
    ·iterate 4 refine ag ?_
     refine vg (v_load1 (u:=.int .i64 q.2) Tryz.isAgg3 rfl (fun w hw=>hw.row_at1 (i:=1) (k:=k*2+1) rfl (flat_at encL2 2 (fun _=>rfl) _ k 1 q _ hq rfl) (by omega))) ?_
     iterate 2 refine ag ?_
     iterate 2 refine av ?_
     refine WPL.split 64 rfl (fun h64=>?_) (fun h64=>?_)
     ·refine gg ?_;refine WP.condT rfl ?_;refine gg ?_;exact rt1 fun w hw=>by first | exact⟨false,rfl,(fun h=>by cases h),hw.pk⟩ | exact⟨true,rfl,(fun _ p hp=>by obtain⟨j,hj⟩:=List.getElem?_of_mem hp;exact hall j p (List.getElem?_eq_some_iff.1 hj).1 hj),hw.pk⟩
     ·iterate 4 refine ag ?_
      refine vg (v_load1 (u:=.int .i64 q.1) Tryz.isAgg31 rfl (fun w hw=>hw.row_at1 (i:=1) (k:=k*2+0) rfl (flat_at encL2 2 (fun _=>rfl) _ k 0 q _ hq rfl) (by omega))) ?_
      iterate 2 refine ag ?_
      refine WPL.split 71 rfl (fun h71=>?_) (fun h71=>?_)
      ·iterate 4 refine ag ?_
       refine vg (v_load1 (u:=.int .i64 q.2) Tryz.isAgg3 rfl (fun w hw=>hw.row_at1 (i:=1) (k:=k*2+1) rfl (flat_at encL2 2 (fun _=>rfl) _ k 1 q _ hq rfl) (by omega))) ?_;refine gg ?_;refine WP.cond rfl (fun h79=>?_) (fun h79=>?_)
       ·refine gg ?_;exact rt1 fun w hw=>by first | exact⟨false,rfl,(fun h=>by cases h),hw.pk⟩ | exact⟨true,rfl,(fun _ p hp=>by obtain⟨j,hj⟩:=List.getElem?_of_mem hp;exact hall j p (List.getElem?_eq_some_iff.1 hj).1 hj),hw.pk⟩
       ·have h79n:=of_decide_eq_false h79;have hok:lenTame q:=by unfold lenTame;omega
        refine WP.skip (onto_of ?_);refine WP.region ?_
        iterate 3 refine av ?_
        exact nl fun w hw=>⟨rfl,k+1,(by omega),⟨rfl,jS,trivial⟩,⟨⟨by omega,fun j p h hp=>by rcases Nat.lt_succ_iff_lt_or_eq.1 h with h | rfl;exact hall j p h hp;rw[hq] at hp;cases hp;exact hok⟩,hw.pk⟩⟩
      ·refine gg ?_;have hok:lenTame q:=by unfold lenTame;omega
       refine WP.condF rfl ?_;refine WP.skip (onto_of ?_);refine WP.region ?_
       iterate 3 refine av ?_
       exact nl fun w hw=>⟨rfl,k+1,(by omega),⟨rfl,jS,trivial⟩,⟨⟨by omega,fun j p h hp=>by rcases Nat.lt_succ_iff_lt_or_eq.1 h with h | rfl;exact hall j p h hp;rw[hq] at hp;cases hp;exact hok⟩,hw.pk⟩⟩
   ·iterate 14 refine sk ?_
    iterate 2 refine av ?_
    iterate 4 refine ag ?_
    refine vg (v_load1 (u:=.int .i64 q.1) Tryz.isAgg31 rfl (fun w hw=>hw.row_at1 (i:=1) (k:=k*2+0) rfl (flat_at encL2 2 (fun _=>rfl) _ k 0 q _ hq rfl) (by omega))) ?_
    iterate 2 refine ag ?_
    refine WPL.split 71 rfl (fun h71=>?_) (fun h71=>?_)
    ·iterate 4 refine ag ?_
     refine vg (v_load1 (u:=.int .i64 q.2) Tryz.isAgg3 rfl (fun w hw=>hw.row_at1 (i:=1) (k:=k*2+1) rfl (flat_at encL2 2 (fun _=>rfl) _ k 1 q _ hq rfl) (by omega))) ?_;refine gg ?_;refine WP.cond rfl (fun h79=>?_) (fun h79=>?_)
     ·refine gg ?_;exact rt1 fun w hw=>by first | exact⟨false,rfl,(fun h=>by cases h),hw.pk⟩ | exact⟨true,rfl,(fun _ p hp=>by obtain⟨j,hj⟩:=List.getElem?_of_mem hp;exact hall j p (List.getElem?_eq_some_iff.1 hj).1 hj),hw.pk⟩
     ·have h79n:=of_decide_eq_false h79;have hok:lenTame q:=by unfold lenTame;omega
      refine WP.skip (onto_of ?_);refine WP.region ?_
      iterate 3 refine av ?_
      exact nl fun w hw=>⟨rfl,k+1,(by omega),⟨rfl,jS,trivial⟩,⟨⟨by omega,fun j p h hp=>by rcases Nat.lt_succ_iff_lt_or_eq.1 h with h | rfl;exact hall j p h hp;rw[hq] at hp;cases hp;exact hok⟩,hw.pk⟩⟩
    ·refine gg ?_;have hok:lenTame q:=by unfold lenTame;omega
     refine WP.condF rfl ?_;refine WP.skip (onto_of ?_);refine WP.region ?_
     iterate 3 refine av ?_
     exact nl fun w hw=>⟨rfl,k+1,(by omega),⟨rfl,jS,trivial⟩,⟨⟨by omega,fun j p h hp=>by rcases Nat.lt_succ_iff_lt_or_eq.1 h with h | rfl;exact hall j p h hp;rw[hq] at hp;cases hp;exact hok⟩,hw.pk⟩⟩
  ·obtain rfl:k=15:=by omega
   refine WP.exit (onto_of ?_);refine gg ?_;exact rt1 fun w hw=>by first | exact⟨false,rfl,(fun h=>by cases h),hw.pk⟩ | exact⟨true,rfl,(fun _ p hp=>by obtain⟨j,hj⟩:=List.getElem?_of_mem hp;exact hall j p (List.getElem?_eq_some_iff.1 hj).1 hj),hw.pk⟩
end Go.Proofs.YtbedndijejpcaaaGreat
namespace Go.Proofs.YtbedndijejpcaaaGreat
open Go.ChangeShapes Go.WideShapes Go.ChangeAt Go.RowKit Go.Deep
theorem own:ownKnob Tryz.prog.godebug=none:=by kernel_rfl
theorem laidOut:laidOutB Tryz.prog=true:=by kernel_rfl
theorem carryAll {H:Type} {enc:TypeId×Value→H} {P:Program} {W W':World} (hl:laidOutB P=true) (hb:Below W.heap.size W W'):∀{ts:List TypeId} {vs:List Value} {ds:List (DataW H)} {ps:List MemPlace},
    ts.all (fun t=>P.readableRec t&&decide (t<P.types.size))=true→DataW.TrodAll enc P W 0 (fun _=>true) true ts vs ds ps→(∀x∈ps,x.block<W.heap.size)→DataW.TrodAll enc P W' 0 (fun b=>decide (b<W.heap.size)) true ts vs ds ps
  | [], _, _, _, _, h, _ => by
    obtain⟨rfl,rfl,rfl⟩:=trodAll_nil h;exact trodAll_mk0
  | t :: ts, _, _, _, ht, h, hp => by
    obtain⟨v,vs,d,ds,p,q,rfl,rfl,rfl,h1,h2⟩:=trodAll_cons h;simp only[List.all_cons,Bool.and_eq_true,decide_eq_true_eq] at ht;exact⟨p,q,Below.trod hl ht.1.1 ht.1.2 h1 hb (fun x hx=>hp x (List.mem_append_left _ hx)),carryAll hl hb (by simpa using ht.2) h2 (fun x hx=>hp x (List.mem_append_right _ hx)),rfl⟩
theorem law_post {H:Type} {enc:TypeId×Value→H} {P:Program} {f:Func} {s:ChangeSpec} {W W':World} {args:Array Value} {ds gs:List (DataW H)} {before:List MemPlace} {tb:TypeId} (hl:laidOutB P=true)
    (hW:DataW.Whole enc P f.params.toList s.vars false W args.toList ds gs before) (hvars:s.vars=[]) (hty:f.params.toList.all (fun t=>P.readableRec t&&decide (t<P.types.size))=true) (hres:f.resultTypes=#[tb]) (htb:P.underlying tb=some .bool)
    (hs:gs=[]→s.fn H ds={results:=[.lit (.bool true)],args:=ds}) (hb:Below W.heap.size W W'):s.post enc P f false true false false W args (.bool true) W':=by
  have hW':=hW;have hlt:∀x∈before,x.block<W.heap.size:=fun x hx=>by simpa using hW.lt x hx
  obtain⟨p,q,hA,hV,rfl,hfz,hnd⟩:=hW;rw[hvars] at hV;obtain⟨rfl,rfl⟩:=trodVars_none hV;have e:=hs rfl;refine⟨ds,[],p++[],[],p,[],hW',?_,?_,?_,hb.frame _,fun h=>by cases h⟩
  · rw [List.append_nil, e, hres]
    exact trodAll_mk1 (shut_bool htb true)
  · rw [List.append_nil, e]
    exact carryAll hl hb hty hA (fun x hx=>hlt x (List.mem_append_left _ hx))
  · rw [List.append_nil, e, hvars]
    exact rfl
theorem rdE_of {α:Type} {enc:α→List Value} {sz:Nat} {w:World} {a:Addr} (h0:∀x:α,∃u,(enc x)[0]?=some u) (len:Nat)
    (h:∀i,i<len→∃x:α,∀j u,(enc x)[j]?=some u→w.cell? (a.add (i*sz+j))=some u):∃l:List α,l.length=len∧RdE w (some a) sz enc l:=by
  have key:∀n,n≤len→∃l:List α,l.length=n∧∀k x,l[k]?=some x→∀j u,(enc x)[j]?=some u→w.cell? (a.add (k*sz+j))=some u:=by
    intro n;induction n with
    | zero=>exact fun _=>⟨[],rfl,by simp⟩
    | succ n ih =>
      intro hn;obtain⟨l,hl,hc⟩:=ih (by omega);obtain⟨x,hx⟩:=h n (by omega);refine⟨l++[x],by simp[hl],fun k y hy j u hu=>?_⟩
      by_cases hk:k<n
      · rw [List.getElem?_append_left (by omega)] at hy
        exact hc k y hy j u hu
      · have hkl := (List.getElem?_eq_some_iff.1 hy).1
        simp at hkl;obtain rfl:k=n:=by omega
        rw[List.getElem?_append_right (by omega),hl,Nat.sub_self] at hy;cases hy;exact hx j u hu
  obtain⟨l,hl,hc⟩:=key len (Nat.le_refl _);refine⟨l,hl,fun k x hx=>?_⟩;have hpos:0<l.length:=by have:=(List.getElem?_eq_some_iff.1 hx).1;omega
  obtain⟨u0,hu0⟩:=h0 l[0];have h1:=hc 0 l[0] (List.getElem?_eq_getElem hpos) 0 u0 hu0;obtain⟨b,o,s⟩:=a;have hs:s=none:=by
    cases s with
    | none=>rfl
    | some k =>
      simp only[Nat.zero_mul,Nat.add_zero,Addr.add,if_true,World.cell?] at h1
      split at h1<;>simp at h1
  subst hs;refine⟨b,o,rfl,fun j u hu=>?_⟩;have h2:=hc k x hx j u hu;rw[Addr.add_lit] at h2;rw[Nat.add_assoc];exact h2
section
variable {H:Type} {enc:TypeId×Value→H} {P:Program} {W:World} {base b0:Nat} {sp:Nat→Bool} {held:Bool} {t e:TypeId} {v:Value} {d:DataW H} {p:List MemPlace} {r:Reach}
end
end Go.Proofs.YtbedndijejpcaaaGreat
namespace Go.Proofs.YtbedndijejpcaaaGreat
open Go.ChangeShapes Go.WideShapes Go.ChangeAt Go.RowKit Go.Deep
def Bd (v:Value):Prop:=∀z,v=.int .i64 z→-9223372036854775808≤z∧z≤9223372036854775807
theorem leavesB_app:∀{ks ls:List Bool} {xs ys:List Value},leavesB ks xs=true→leavesB ls ys=true→leavesB (ks++ls) (xs++ys)=true
  | [],ls,[],ys,_,h=>by simpa using h
  | k :: ks, ls, v :: vs, ys, h1, h2 => by
    simp only[leavesB,Bool.and_eq_true] at h1;simp only[List.cons_append,leavesB,Bool.and_eq_true];exact⟨h1.1,leavesB_app h1.2 h2⟩
  | [],_,_::_,_,h,_=>by simp[leavesB] at h
  | _::_,_,[],_,h,_=>by simp[leavesB] at h
theorem cells_size {P:Program} {t:TypeId} {n:Nat} (h:(P.info? t).map (·.size)=some n):P.cellsOf t=n:=by
  obtain⟨i,hi,rfl⟩:=Option.map_eq_some_iff.1 h;simp[Program.cellsOf,hi]
theorem take_split {α:Type} (l:List α) (o a b:Nat):(l.drop o).take (a+b)=(l.drop o).take a++(l.drop (o+a)).take b:=by
  rw[List.take_add,List.drop_drop]
section
variable {H:Type} {enc:TypeId×Value→H} {P:Program} {W:World} {base:Nat} {sp:Nat→Bool} {held:Bool}
theorem trod_flatF (d n:Nat) (cs:List Value) (hrec:∀(t:TypeId) (ks:List Bool) (us:List Value) (x:DataW H×List MemPlace),leafK P d t=some ks→(P.info? t).map (·.size)=some ks.length→DataW.trod enc P W base sp held n t us=some x→leavesB ks us=true∧∀v∈us,Bd v):
    ∀ (fs : List Field) (o : Nat) (ks : List Bool), leafF (fun t => (P.info? t).map (·.size)) (leafK P d) o fs = some ks → (∀ f ∈ fs, ∃ x, DataW.trod enc P W base sp held n f.type ((cs.drop f.offset).take (P.cellsOf f.type)) = some x) →
      leavesB ks ((cs.drop o).take ks.length)=true∧∀v∈(cs.drop o).take ks.length,Bd v
  | [], o, ks, hk, _ => by
    simp only[leafF,Option.some.injEq] at hk;subst hk;simp[leavesB]
  | f :: fs, o, ks, hk, hx => by
    unfold leafF at hk;cases hf:leafK P d f.type with
    | none=>simp[hf] at hk
    | some k1 =>
      simp only[hf] at hk
      split at hk
      · rename_i hc
        obtain⟨hn,ho,hs⟩:=hc;obtain⟨k2,hk2,rfl⟩:=Option.map_eq_some_iff.1 hk;obtain⟨x,h1⟩:=hx f (by simp);rw[ho,cells_size hs] at h1;obtain⟨a1,a2⟩:=hrec _ _ _ _ hf hs h1;obtain⟨b1,b2⟩:=trod_flatF d n cs hrec fs (o+k1.length) k2 hk2 (fun g hg=>hx g (by simp[hg]));rw[List.length_append,take_split];refine⟨leavesB_app a1 b1,fun v hv=>?_⟩
        rcases List.mem_append.1 hv with h | h
        · exact a2 v h
        · exact b2 v h
      · cases hk
theorem trod_flat:∀(d:Nat) (t:TypeId) (ks:List Bool) (fuel:Nat) (cs:List Value) (x:DataW H×List MemPlace),leafK P d t=some ks→(P.info? t).map (·.size)=some ks.length→DataW.trod enc P W base sp held fuel t cs=some x→
    leavesB ks cs=true∧∀v∈cs,Bd v
  | 0,t,ks,_,_,_,hk,_,_=>by simp[leafK] at hk
  | d + 1, t, ks, fuel, cs, x, hk, hs, hx => by
    unfold leafK at hk;cases hu:P.underlying t with
    | none=>simp[hu] at hk
    | some k =>
      cases k<;>simp only[hu] at hk<;>try (cases hk;done)
      case bool=>
        cases hk;obtain⟨b,rfl,_⟩:=DataW.trod_bool hu hx;exact⟨rfl,fun v hv z hz=>by simp at hv;rw[hv] at hz;cases hz⟩
      case int q=>
        split at hk<;>cases hk
        rename_i hq;subst hq;obtain⟨z,rfl,_,hw⟩:=DataW.trod_int hu hx;refine⟨rfl,fun v hv y hy=>?_⟩;simp at hv;rw[hv] at hy;cases hy
        simpa [Lit.wf,IntKind.min,IntKind.max,IntKind.signed,IntKind.bits] using hw
      case struct fs=>
        split at hk
        · cases hk
        · obtain ⟨ys, n, rfl, _, hl, hyl, hf⟩ := DataW.trod_struct hu hx
          have h := trod_flatF d n cs (fun t ks us x h1 h2 h3 => trod_flat d t ks n us x h1 h2 h3) fs.toList 0 ks hk (fun f hf' => by
            obtain ⟨i, hi⟩ := List.getElem?_of_mem hf'
            have hi' : fs[i]? = some f := by simpa using hi
            have hlt := (Array.getElem?_eq_some_iff.1 hi').1
            have h1 := hf i f hi'
            rw [List.getElem?_eq_getElem (by omega)] at h1
            exact ⟨_, h1⟩)
          rw[cells_size hs] at hl;rw[List.drop_zero,List.take_of_length_le (by omega)] at h;exact h
      case array n el=>
        split at hk
        · rename_i k1 hk1
          split at hk
          · rename_i hsz
            cases hk;obtain⟨ys,m,rfl,_,hl,hyl,hf⟩:=DataW.trod_array hu hx;rw[cells_size hs] at hl;have key:∀(j i:Nat),i+j=n→leavesB (List.replicate j k1).flatten ((cs.drop (i*k1.length)).take (j*k1.length))=true∧∀v∈(cs.drop (i*k1.length)).take (j*k1.length),Bd v:=by
              intro j;induction j with
              | zero=>intro i _;simp[leavesB]
              | succ j ih =>
                intro i hij;have h1:=hf i (by omega);rw[List.getElem?_eq_getElem (by omega),cells_size hsz] at h1;obtain⟨a1,a2⟩:=trod_flat d el k1 m _ _ hk1 hsz h1;obtain⟨b1,b2⟩:=ih (i+1) (by omega);have e1:(j+1)*k1.length=k1.length+j*k1.length:=by rw[Nat.add_mul,Nat.one_mul,Nat.add_comm]
                have e2:i*k1.length+k1.length=(i+1)*k1.length:=by rw[Nat.add_mul,Nat.one_mul]
                rw[e1,take_split,e2,List.replicate_succ,List.flatten_cons];refine⟨leavesB_app a1 b1,fun v hv=>?_⟩
                rcases List.mem_append.1 hv with h | h
                · exact a2 v h
                · exact b2 v h
            have h:=key n 0 (by omega);have e:(List.replicate n k1).flatten.length=n*k1.length:=by simp
            rw[Nat.zero_mul,List.drop_zero,List.take_of_length_le (by omega)] at h;exact h
          · cases hk
        · cases hk
theorem open_flats {t e:TypeId} {ks:List Bool} {v:Value} {x:DataW H} {p:List MemPlace} {b0:Nat} {r:Reach} {d:Nat} (ht:P.underlying t=some (.slice e)) (hk:leafK P d e=some ks) (hs:(P.info? e).map (·.size)=some ks.length) (h0:0<ks.length)
    (hv:Value.okWide P W r b0 t v) (h:DataW.Trod enc P W base sp held t v x p):∃(A:Option Addr) (l:List (List Value)) (c:Nat),v=.slice A l.length c∧RdE W A ks.length (fun x=>x) l∧l.length≤c∧c≤9223372036854775807∧∀cs∈l,leavesB ks cs=true∧∀u∈cs,Bd u:=by
  obtain⟨A,len,cap,rfl⟩:=okWide_slice ht hv;obtain⟨fuel,hf⟩:=h
  rcases open_slice ht hf with ⟨hcs,_⟩ | ⟨a,len',cap',m,n,D,Pl,hcs,_,hl,hm,hmm,_,hi⟩
  · simp [Value.cells] at hcs
    obtain⟨rfl,rfl,rfl⟩:=hcs;exact⟨none,[],0,rfl,RdE.nil _ _ _ _,by simp,by omega,by simp⟩
  · simp [Value.cells] at hcs
    obtain⟨rfl,rfl,rfl⟩:=hcs;have hlm:len≤m:=by rw[hmm];split<;>omega
    let α:={cs:List Value // leavesB ks cs=true∧∀u∈cs,Bd u}
    obtain ⟨l, hll, hrd⟩ := rdE_of (α := α) (enc := fun x => x.1) (sz := ks.length) (w := W) (a := a) (fun x => by
      have := leavesB_len x.2.1
      exact ⟨_, List.getElem?_eq_getElem (by omega)⟩) len (fun i him => by
      obtain ⟨cs', hc, ht'⟩ := hi i (by omega)
      rw [cells_size hs] at hc
      obtain ⟨_, hcl, hat⟩ := World.cells?_some hc
      refine ⟨⟨cs', trod_flat d e ks n cs' _ hk hs ht'⟩, fun j u hu => ?_⟩
      have hj := (List.getElem?_eq_some_iff.1 hu).1
      have h1 := hat j (by simp only at hj; omega)
      rw [← Go.Deep.add_add, h1]
      exact hu)
    refine⟨some a,l.map (·.1),cap,by simp[hll],fun k y hy=>?_,by simp;omega,by unfold maxLen at hm;omega,fun cs hcs=>?_⟩
    · rw [List.getElem?_map] at hy
      cases hx:l[k]? with
      | none=>rw[hx] at hy;cases hy
      | some z =>
        rw[hx] at hy;cases hy;exact hrd k z hx
    · obtain ⟨z, _, rfl⟩ := List.mem_map.1 hcs
      exact z.2
end
theorem RdE.typed {α:Type} {ks:List Bool} {E:α→List Value} (hE:∀cs,leavesB ks cs=true→(∀u∈cs,Bd u)→∃x:α,E x=cs) {w:World} {A:Option Addr} {l:List (List Value)} (hl:∀cs∈l,leavesB ks cs=true∧∀u∈cs,Bd u) {sz:Nat} (h:RdE w A sz (fun x=>x) l):
    ∃m:List α,m.map E=l∧m.length=l.length∧RdE w A sz E m:=by
  have key:∀l:List (List Value),(∀cs∈l,leavesB ks cs=true∧∀u∈cs,Bd u)→∃m:List α,m.map E=l:=by
    intro l;induction l with
    | nil=>exact fun _=>⟨[],rfl⟩
    | cons c l ih =>
      intro hl;obtain⟨m,rfl⟩:=ih fun cs hcs=>hl cs (by simp[hcs]);obtain⟨x,rfl⟩:=hE c (hl c (by simp)).1 (hl c (by simp)).2;exact⟨x::m,rfl⟩
  obtain⟨m,rfl⟩:=key l hl;refine⟨m,rfl,by simp,fun k x hx=>?_⟩;exact h k (E x) (by rw[List.getElem?_map,hx];rfl)
theorem leavesI {cs:List Value} (h:leavesB [true] cs=true):∃z:Int,cs=[.int .i64 z]:=by
  match cs,h with
  | [v], h =>
    simp only[leavesB,Bool.and_true] at h;unfold leafB at h
    split at h<;>simp_all
  | [],h=>simp[leavesB] at h
  | _::_::_,h=>simp[leavesB] at h
theorem Ct.lawF {f:FuncId} {args:Array Value} {Fact:World→Prop} (h:Ct Tryz.prog f args [] Fact (X:=Unit) (fun _=>.bool true) (fun _=>True) (fun _=>[])) {W:World} (hF:Fact W):
    Calls Tryz.prog f args W fun e W'=>e=.returned (.bool true)∧Below W.heap.size W W':=by
  refine(h W (by simp) (by simp) hF).mono ?_
  rintro e W' ⟨_,rfl,_,hs⟩
  rw[foots_nil] at hs;exact⟨rfl,hs.below⟩
end Go.Proofs.YtbedndijejpcaaaGreat
namespace Go.Proofs.YtbedndijejpcaaaGreat
open Go.ChangeShapes Go.WideShapes Go.ChangeAt Go.RowKit Go.Deep
theorem leavesT {ks:List Bool} {cs:List Value} (h:leavesB (true::ks) cs=true):∃(z:Int) (vs:List Value),cs=.int .i64 z::vs∧leavesB ks vs=true:=by
  match cs,h with
  | v :: vs, h =>
    simp only[leavesB,Bool.and_eq_true] at h;obtain⟨z,hz⟩:=leavesI (cs:=[v]) (by simpa [leavesB] using h.1);cases hz;exact⟨z,vs,rfl,h.2⟩
  | [],h=>simp[leavesB] at h
theorem actOf (cs:List Value) (h:leavesB (true::true::true::true::leafS) cs=true) (_:∀u∈cs,Bd u):∃x:AC,encA x=cs:=by
  obtain⟨a,v1,rfl,h1⟩:=leavesT h;obtain⟨b,v2,rfl,h2⟩:=leavesT h1;obtain⟨c,v3,rfl,h3⟩:=leavesT h2;obtain⟨d,v4,rfl,h4⟩:=leavesT h3;exact⟨⟨⟨a,b,c,d,v4⟩,SOk.of_leaves h4⟩,rfl⟩
theorem open_acts {H:Type} {enc:TypeId×Value→H} {W:World} {base:Nat} {sp:Nat→Bool} {held:Bool} {v:Value} {x:DataW H} {p:List MemPlace} {b0:Nat} {r:Reach}
    (hv:Value.okWide Tryz.prog W r b0 22 v) (h:DataW.Trod enc Tryz.prog W base sp held 22 v x p):∃(A:Option Addr) (l:List AC) (c:Nat),v=.slice A l.length c∧RdE W A 59 encA l:=by
  obtain⟨A,l,c,rfl,hrd,_,_,h3⟩:=open_flats Tryz.underlying22 (show leafK Tryz.prog 10 99=some (true::true::true::true::leafS) by kernel_rfl) (by kernel_rfl) (by decide) hv h;obtain⟨m,_,e2,hm⟩:=RdE.typed (α:=AC) (E:=encA) actOf h3 hrd;exact⟨A,m,c,by rw[e2],hm⟩
section
variable {P:Program} {ρ:Env} {r:Option Nat} {dst:Option Tmp} {ty:TypeId} {pos:String} {af:Array Edge} {g:Option (Nat×Bool)} {t kt et:TypeId} {x:Operand} {w0:World} {M:Nat→Prop} {σ σ':List HI} {m:List (Int×Value)} {done:List Nat}
end
theorem new_rest (bb:Nat) {w0 w:World} {M:Nat→Prop} {F:List HI} {id up:Int} (h:St w0 M (.cl bb 102 (.int .i64 up::.slice none 0 0::zeroS)::F) w):St w0 M (restI [newE id bb up]::F) w:=by
  have h1:=(h.nilRow 3 1).perm (σ':=.cl bb 102 (.int .i64 up::.slice none 0 0::zeroS)::.row 3 1 none 0 0 []::F) (List.Perm.cons _ (List.perm_append_comm (l₂:=[HI.row 3 1 none 0 0 []])));exact St.pack (τ:=[newE id bb up].flatMap PE.items) h1
theorem new_ct:Ct Tryz.prog 49 #[] [] (fun _=>True) (X:=Nat×Nat×Nat) (fun p=>.pointer (some ⟨p.1,0,none⟩)) (fun _=>True) (fun p=>[treeI p.1 p.2.1 [newE 0 p.2.2 (-1)]]):=by
  refine Ct.intro Tryz.func49 rfl Tryz.ntmps49 (by simp) (fun w0 _=>?_);refine sqR ?_;refine sg (v:=.pointer none) rfl ?_;refine nl (oo ?_);refine sqR ?_;refine WPL.ef (x_makeMap (σ':=fun _=>[_]) (fun _=>rfl)) (fun mp1=>?_);refine vl (v_struct (us:=(.int .i64 (-1)::.slice none 0 0::zeroS)) (pl:=[(0,1),(1,1),(2,55)]) Tryz.underlying102 Tryz.zeroValue102 rfl (by kernel_rfl) rfl rfl (by kernel_rfl)) ?_;refine WPL.ef (x_boxA (us:=(.int .i64 (-1)::.slice none 0 0::zeroS)) (σ':=fun _=>[_,_]) rfl (fun _=>rfl)) (fun nb=>?_);refine WPL.ef0 (x_mapIns (m:=[]) (u:=.pointer (some ⟨nb,0,none⟩)) (σ':=[_,_]) Tryz.underlying105 Tryz.underlying3 rfl rfl rfl (i:=0) rfl rfl) (fun _=>?_);refine mv (v:=.map _) rfl ?_;refine vl (v_struct (us:=[.map _]) (pl:=[(0,1)]) Tryz.underlying107 Tryz.zeroValue107 rfl (by kernel_rfl) rfl rfl (by kernel_rfl)) ?_;refine WPL.ef (x_boxA (us:=[.map _]) (σ':=fun _=>[_,_,_]) rfl (fun _=>rfl)) (fun b6=>?_);refine sgP rfl ?_;refine nl (oo ?_);exact WP.ret1 Tryz.results49 (fun _ h=>h) (fun w hw=>⟨(b6,mp1,nb),rfl,trivial,St.shutT (((new_rest nb (id:=0) (hw.sel [1,2,0] (by decide)))).perm ((List.Perm.swap _ _ _).trans (List.Perm.cons _ (List.Perm.swap _ _ _))))⟩)
theorem newE_ok (bb:Nat):FoR [newE 0 bb (-1)]=newF zeroS∧LOk [newE 0 bb (-1)]:=by
  refine⟨?_,⟨fun e he=>?_,by simp⟩⟩
  · funext y
    unfold FoR newF
    by_cases h:y=0
    · subst h;rfl
    · simp[lookE,newE,h,Ne.symm h]
  · obtain rfl : e = _ := by simpa using he
    exact zeroS_ok
theorem noNil (b:Nat):¬foots [] b:=fun⟨i,h,_⟩=>by simp at h
def GrOK (l:List AC) (es:List PE) (bs:List RB):Prop:=l.length≤30∧FoR es=AF l∧LOk es∧absR bs=FoR es∧ROk bs
theorem grown_ct (A:Option Addr) (c:Nat) (l:List AC):Ct Tryz.prog 17 #[.slice A l.length c] [] (fun w=>RdE w A 59 encA l) (X:=Bool×Nat×Nat×List PE×Nat×Nat×Nat×List RB) (fun p=>.tuple #[.pointer (some ⟨p.2.1,0,none⟩),.pointer (some ⟨p.2.2.2.2.1,0,none⟩),.bool p.1])
    (fun p=>p.1=true→GrOK l p.2.2.2.1 p.2.2.2.2.2.2.2) (fun p=>[treeI p.2.1 p.2.2.1 p.2.2.2.1,refI p.2.2.2.2.1 p.2.2.2.2.2.1 p.2.2.2.2.2.2.1 p.2.2.2.2.2.2.2]):=by
  refine Ci fun w0 hz=>?_;refine gg ?_;refine eF (xC new_ct) fun⟨tp,mb,nb⟩ _=>?_;refine gg ?_;refine eF (xC rnew_ct) fun⟨rp,g0⟩ _=>?_;refine av ?_;refine nl (oo ?_);refine sq ?_;refine sqR ?_
  iterate 4 refine av ?_
  refine WPL.split 15 rfl (fun h15=>?_) (fun h15=>?_)
  ·iterate 2 refine sk ?_
   refine av ?_;refine nl (oo ?_);refine WP.condT rfl ?_;refine gg ?_;exact WP.ret3 Tryz.results17 (fun _ h=>h) (fun w hw=>by first | exact⟨(false,tp,mb,[newE 0 nb (-1)],rp,g0,1,[liveRB (-1)]),rfl,(fun h=>by cases h),hw.pk⟩ | exact⟨(true,tp,mb,[newE 0 nb (-1)],rp,g0,1,[liveRB (-1)]),rfl,(fun _=>⟨hl30,hFo,hk,hab,hkr⟩),hw.pk⟩)
  ·refine ag ?_;refine vg (v_eqNil Tryz.underlying24 rfl rfl) ?_;refine gg ?_;refine WP.condF rfl ?_;refine gg ?_;refine WP.loopK (X:=Nat×List PE×Nat×Nat×List RB) [0,5,6] (fun p=>[(7,.int .i64 (p.1:Int))]) (fun p w=>(p.1≤l.length∧FoR p.2.1=AF (l.take p.1)∧LOk p.2.1∧absR p.2.2.2.2=FoR p.2.1∧ROk p.2.2.2.2)∧St w0 (foots []) [treeI tp mb p.2.1,refI rp p.2.2.1 p.2.2.2.1 p.2.2.2.2] w) (fun p=>l.length - p.1) (0,[newE 0 nb (-1)],g0,1,[liveRB (-1)]) ⟨rfl,trivial⟩ (fun w hw=>⟨⟨Nat.zero_le _,(newE_ok nb).1,(newE_ok nb).2,rnew_ok.1.trans (newE_ok nb).1.symm,rnew_ok.2⟩,(hw.sel [0,1] (by decide))⟩) (fun p ρ0=>?_);obtain⟨k,es,g,bc,bs⟩:=p;dsimp only;refine WP.fact (fun⟨hkl,hFo,hk,hab,hkr⟩=>?_);refine gg ?_;refine WP.condP rfl (fun h24=>?_) (fun h24=>?_)
   ·obtain⟨x,hx⟩:∃x,l[k]?=some x:=⟨_,List.getElem?_eq_getElem (by omega)⟩;obtain⟨ab,ao,rfl,hc⟩:=hz k x hx;obtain⟨d,hF⟩:=AF_wf (l.take k);rw[←hFo] at hF;refine WP.skip (onto_of ?_);refine sq ?_;refine WP.block ?_;refine sq ?_;refine sqR ?_
    iterate 4 refine av ?_
    refine vl (v_loadA (cs:=x.1.sty) Tryz.isAgg42 Tryz.sizeOf42 rfl (fun w hw=>(hw.old_at hc (noNil _)).part 4 (by show List.take _ x.1.sty=_;exact List.take_of_length_le (Nat.le_refl _))) x.2.len) ?_;refine eF (xC (tame_ct x.1.sty x.2)) fun tb _=>?_;refine gg ?_;refine WP.cond rfl (fun h33=>?_) (fun h33=>?_)
    ·refine gg ?_;exact WP.ret3 Tryz.results17 (fun _ h=>h) (fun w hw=>by first | exact⟨(false,tp,mb,es,rp,g,bc,bs),rfl,(fun h=>by cases h),hw.pk⟩ | exact⟨(true,tp,mb,es,rp,g,bc,bs),rfl,(fun _=>⟨hl30,hFo,hk,hab,hkr⟩),hw.pk⟩)
    ·refine WP.skip (onto_of ?_);refine sqR ?_
     iterate 5 refine av ?_
     refine vl (v_loadA (cs:=encA x) Tryz.isAgg99 Tryz.sizeOf99 rfl (fun w hw=>hw.old_at hc (noNil _)) (encA_len x)) ?_;refine eF (xC (both_ct tp mb es hk hF rp g bc bs hkr hab x.1 x.2)) fun⟨es1,g1,bc1,bs1⟩ hf=>?_;obtain⟨f1,hk1,hab1,hkr1⟩:=hf;dsimp only at f1 hk1 hab1 hkr1;have hAF:FoR es1=AF (l.take (k+1)):=by rw[AF_snoc hx,←hFo];exact f1
     refine gg ?_;refine WP.condF rfl ?_;refine WP.skip (onto_of ?_);refine WP.region ?_
     iterate 3 refine av ?_
     exact nl fun w hw=>⟨rfl,(k+1,es1,g1,bc1,bs1),(by simp only;omega),⟨rfl,jS,jP,jP,trivial⟩,⟨⟨by simp only;omega,hAF,hk1,hab1,hkr1⟩,hw.pk⟩⟩
   ·obtain rfl:k=l.length:=by omega
    rw[List.take_of_length_le (Nat.le_refl _)] at hFo;obtain⟨d,hF⟩:=AF_wf l;rw[←hFo] at hF;have hFr:WF (absR bs) d:=by rw[hab];exact hF
    have hl30:l.length≤30:=by omega
    refine WP.exit (onto_of ?_);refine gg ?_;refine eF (xC (rinside_ct rp g bc bs hkr hFr 0)) fun⟨rA,rc⟩ _=>?_;refine gg ?_;refine WP.loopK (X:=Nat) [5,6,8] (fun j=>[(9,.int .i64 (j:Int))]) (fun j w=>j≤(sub (absR bs) 0).length∧St w0 (foots []) [treeI tp mb es,refI rp g bc bs,kidsI rA (sub (absR bs) 0).length rc (sub (absR bs) 0)] w) (fun j=>(sub (absR bs) 0).length - j) 0 ⟨rfl,trivial⟩ (fun w hw=>⟨Nat.zero_le _,(hw.sel [0,1,2] (by decide))⟩) (fun j ρ0=>?_);refine WP.fact (fun hjn=>?_);refine gg ?_;refine WP.condP rfl (fun h51=>?_) (fun h51=>?_)
    ·obtain⟨y,hy⟩:∃y,(sub (absR bs) 0)[j]?=some y:=⟨_,List.getElem?_eq_getElem (by omega)⟩;refine WP.holds (fun w hw=>hw.row_pos (i:=2) rfl (by omega)) (fun⟨ib,hA⟩=>?_);subst hA;have hll:=hFr.len_le 0;refine gg ?_;refine vl (vR 2 (by rw[List.getElem?_map,hy];rfl)) ?_;refine eF (xC (rdepth_ct rp g bc bs hkr hFr y)) fun _ _=>?_;refine gg ?_;refine WP.condP rfl (fun h60=>?_) (fun h60=>?_)
     ·refine gg ?_;exact WP.ret3 Tryz.results17 (fun _ h=>h) (fun w hw=>by first | exact⟨(false,tp,mb,es,rp,g,bc,bs),rfl,(fun h=>by cases h),hw.pk⟩ | exact⟨(true,tp,mb,es,rp,g,bc,bs),rfl,(fun _=>⟨hl30,hFo,hk,hab,hkr⟩),hw.pk⟩)
     ·refine WP.skip (onto_of ?_);refine WP.region ?_
      iterate 3 refine av ?_
      exact nl fun w hw=>⟨rfl,j+1,(by omega),⟨rfl,jP,jP,jS,trivial⟩,⟨by omega,hw.pk⟩⟩
    ·refine WP.exit (onto_of ?_);refine gg ?_;exact WP.ret3 Tryz.results17 (fun _ h=>h) (fun w hw=>by first | exact⟨(false,tp,mb,es,rp,g,bc,bs),rfl,(fun h=>by cases h),hw.pk⟩ | exact⟨(true,tp,mb,es,rp,g,bc,bs),rfl,(fun _=>⟨hl30,hFo,hk,hab,hkr⟩),hw.pk⟩)
theorem look_putM (k:Int) (v:Value) (k':Int):∀m:List (Int×Value),lookM (putM m k v) k'=if k=k' then some v else lookM m k'
  | []=>by simp[putM,lookM]
  | p :: m => by
    unfold putM
    split
    · rename_i e
      simp only[lookM]
      split
      · rfl
      · rename_i h
        rw[if_neg (by rw[e];exact h)]
    · rename_i e
      simp only[lookM];rw[look_putM k v k' m]
      split
      · rename_i h
        rw[if_neg (fun h2=>e (h.trans h2.symm))]
      · rfl
theorem len_putM (k:Int) (v:Value):∀m:List (Int×Value),lookM m k=none→(putM m k v).length=m.length+1
  | [],_=>rfl
  | p :: m, h => by
    unfold putM;simp only[lookM] at h
    split at h
    · cases h
    · rename_i e
      rw[if_neg e,List.length_cons,len_putM k v m h,List.length_cons]
theorem fold_put:∀(ps:List Frm) (m:List (Int×Value)),(ps.map Frm.id).Nodup→(∀f∈ps,lookM m f.id=none)→
    (ps.foldl (fun m f=>putM m f.id (rectV f)) m).length=m.length+ps.length∧(∀f∈ps,lookM (ps.foldl (fun m f=>putM m f.id (rectV f)) m) f.id=some (rectV f))∧∀k,(∀f∈ps,f.id≠k)→lookM (ps.foldl (fun m f=>putM m f.id (rectV f)) m) k=lookM m k
  | [],m,_,_=>⟨rfl,fun f hf=>by simp at hf,fun _ _=>rfl⟩
  | f :: ps, m, hn, hm => by
    rw[List.map_cons,List.nodup_cons] at hn;have hnf:∀g∈ps,g.id≠f.id:=fun g hg e=>hn.1 (by rw[←e];exact List.mem_map.2 ⟨g,hg,rfl⟩);obtain⟨h1,h2,h3⟩:=fold_put ps (putM m f.id (rectV f)) hn.2 fun g hg=>by
      rw[look_putM,if_neg (fun e=>hnf g hg e.symm)];exact hm g (by simp[hg])
    rw[List.foldl_cons];refine⟨?_,fun g hg=>?_,fun k hk=>?_⟩
    · rw[h1,len_putM _ _ _ (hm f (by simp)),List.length_cons];omega
    · rcases List.mem_cons.1 hg with rfl | hg
      · rw[h3 _ hnf,look_putM,if_pos rfl]
      · exact h2 g hg
    · rw[h3 k fun g hg=>hk g (by simp[hg]),look_putM,if_neg (hk f (by simp))]
def MapOf (m:List (Int×Value)) (l:List Frm):Prop:=m.length=l.length∧(∀f∈l,lookM m f.id=some (rectV f))∧∀k,(∀f∈l,f.id≠k)→lookM m k=none
theorem mapOf {ps l:List Frm} (hp:ps.Perm l) (hn:(l.map Frm.id).Nodup):MapOf (putAll ps) l:=by
  obtain⟨h1,h2,h3⟩:=fold_put ps [] ((hp.map Frm.id).nodup_iff.2 hn) fun f _=>rfl;refine⟨?_,fun f hf=>h2 f (hp.mem_iff.2 hf),fun k hk=>h3 k fun f hf=>hk f (hp.mem_iff.1 hf)⟩;have:=hp.length_eq;unfold putAll;simp only[List.length_nil] at h1;omega
theorem all_nodup {F:Forest (List Value)} {d:Int→Nat} (hF:WF F d) (hg:∀x,GS (stF F x)) (w h:Int):((allP F w h).map Frm.id).Nodup:=
  (all_ids hF hg w h).nodup_iff.2 (hF.order_nodup.sublist List.filter_sublist)
theorem leafRect:leafK Tryz.prog 10 52=some [true,true,true,true]:=by kernel_rfl
theorem leaf52:leafK Tryz.prog 10 52=some [true,true,true,true]:=leafRect
end Go.Proofs.YtbedndijejpcaaaGreat
