/- PaintSort PaintPic PaintSeq PaintAll PaintOrd -/
import Derived.Shelf.SlSortCmp.Whole1
import Derived.Test.YtbedndijejpcaaaGreatH26
set_option linter.unusedVariables false
set_option linter.unusedSimpArgs false
set_option linter.unusedSectionVars false
set_option maxRecDepth 100000
set_option maxHeartbeats 8000000
namespace Go.Proofs.YtbedndijejpcaaaGreat
open Go.Shelf Go.RowKit Go.Lib Go.Sort
def Vx:Go.Shelf.Ren:=⟨fun | 6=>128 | 15=>164 | 14=>163 | 28=>195 | 29=>196 | 20=>187 | 21=>188 | 22=>189 | 23=>190 | 24=>191 | 25=>192 | 26=>193 | 27=>194 | 46=>222 | 47=>223 | 48=>224 | 49=>225 | 50=>226 | 57=>237 | n=>n,fun | 22=>49 | 24=>3 | 25=>124 | 3=>3 | 39=>229 | 0=>0 | 53=>251 | 55=>253 | 4=>4 | 46=>244 | 45=>243 | 50=>248 | 5=>5 | 9=>9 | 66=>278 | 70=>282 | 76=>292 | 77=>136 | n=>n,fun n=>n⟩
theorem YK : SlLaysF.n6 Tryz.prog Vx := {
  mixed := by kernel_rfl,
  f6 := ⟨Tryz.f128.name, by decide, Tryz.func128.trans (congrArg some (by kernel_rfl))⟩,
  f14 := ⟨Tryz.f163.name, by decide, Tryz.func163.trans (congrArg some (by kernel_rfl))⟩,
  f15 := Tryz.func164.trans (congrArg some (by kernel_rfl)),
  f20 := ⟨Tryz.f187.name, by decide, Tryz.func187.trans (congrArg some (by kernel_rfl))⟩,
  f21 := ⟨Tryz.f188.name, by decide, Tryz.func188.trans (congrArg some (by kernel_rfl))⟩,
  f22 := ⟨Tryz.f189.name, by decide, Tryz.func189.trans (congrArg some (by kernel_rfl))⟩,
  f23 := ⟨Tryz.f190.name, by decide, Tryz.func190.trans (congrArg some (by kernel_rfl))⟩,
  f24 := ⟨Tryz.f191.name, by decide, Tryz.func191.trans (congrArg some (by kernel_rfl))⟩,
  f25 := ⟨Tryz.f192.name, by decide, Tryz.func192.trans (congrArg some (by kernel_rfl))⟩,
  f26 := ⟨Tryz.f193.name, by decide, Tryz.func193.trans (congrArg some (by kernel_rfl))⟩,
  f27 := ⟨Tryz.f194.name, by decide, Tryz.func194.trans (congrArg some (by kernel_rfl))⟩,
  f28 := Tryz.func195.trans (congrArg some (by kernel_rfl)),
  f29 := Tryz.func196.trans (congrArg some (by kernel_rfl)),
  f46 := ⟨Tryz.f222.name, by decide, Tryz.func222.trans (congrArg some (by kernel_rfl))⟩,
  f47 := Tryz.func223.trans (congrArg some (by kernel_rfl)),
  f48 := Tryz.func224.trans (congrArg some (by kernel_rfl)),
  f49 := ⟨Tryz.f225.name, by decide, Tryz.func225.trans (congrArg some (by kernel_rfl))⟩,
  f50 := ⟨Tryz.f226.name, by decide, Tryz.func226.trans (congrArg some (by kernel_rfl))⟩,
  f57 := ⟨Tryz.f237.name, by decide, Tryz.func237.trans (congrArg some (by kernel_rfl))⟩,
  t0 := Tryz.underlying0,
  a0 := Tryz.isAgg0,
  z0 := Tryz.sizeOf0,
  v0 := Tryz.zeroValue0,
  t3 := Tryz.underlying3,
  a3 := Tryz.isAgg3,
  z3 := Tryz.sizeOf3,
  v3 := Tryz.zeroValue3,
  t4 := Tryz.underlying4,
  a4 := Tryz.isAgg4,
  z4 := Tryz.sizeOf4,
  v4 := Tryz.zeroValue4,
  t5 := Tryz.underlying5,
  a5 := Tryz.isAgg5,
  z5 := Tryz.sizeOf5,
  v5 := Tryz.zeroValue5,
  t9 := Tryz.underlying9,
  a9 := Tryz.isAgg9,
  z9 := Tryz.sizeOf9,
  v9 := Tryz.zeroValue9,
  t22 := Tryz.underlying49,
  a22 := Tryz.isAgg49,
  z22 := Tryz.sizeOf49,
  v22 := Tryz.zeroValue49,
  a24 := Tryz.isAgg3,
  z24 := Tryz.sizeOf3,
  t25 := Tryz.underlying124,
  a25 := Tryz.isAgg124,
  z25 := Tryz.sizeOf124,
  v25 := Tryz.zeroValue124,
  t39 := Tryz.underlying229,
  a39 := Tryz.isAgg229,
  z39 := Tryz.sizeOf229,
  v39 := Tryz.zeroValue229,
  t45 := Tryz.underlying243,
  a45 := Tryz.isAgg243,
  z45 := Tryz.sizeOf243,
  v45 := Tryz.zeroValue243,
  t46 := Tryz.underlying244,
  a46 := Tryz.isAgg244,
  z46 := Tryz.sizeOf244,
  v46 := Tryz.zeroValue244,
  t50 := Tryz.underlying248,
  a50 := Tryz.isAgg248,
  z50 := Tryz.sizeOf248,
  v50 := Tryz.zeroValue248,
  t53 := Tryz.underlying251,
  a53 := Tryz.isAgg251,
  z53 := Tryz.sizeOf251,
  v53 := Tryz.zeroValue251,
  t55 := Tryz.underlying253,
  a55 := Tryz.isAgg253,
  z55 := Tryz.sizeOf253,
  v55 := Tryz.zeroValue253,
  t66 := Tryz.underlying278,
  a66 := Tryz.isAgg278,
  z66 := Tryz.sizeOf278,
  v66 := Tryz.zeroValue278,
  t70 := Tryz.underlying282,
  a70 := Tryz.isAgg282,
  z70 := Tryz.sizeOf282,
  v70 := Tryz.zeroValue282,
  t76 := Tryz.underlying292,
  a76 := Tryz.isAgg292,
  z76 := Tryz.sizeOf292,
  v76 := Tryz.zeroValue292,
  t77 := Tryz.underlying136,
  a77 := Tryz.isAgg136,
  z77 := Tryz.sizeOf136,
  v77 := Tryz.zeroValue136 }
theorem Q.St.grown {w w':World} (h:Q.St w (ay []) [] w'):∃q os,w'=grow (w.drewN q) os:=by
  refine⟨w'.drawn - w.drawn,w'.heap.extract w.heap.size w'.heap.size,?_⟩;have hh:w'.heap=w.heap++w'.heap.extract w.heap.size w'.heap.size:=by
    apply Array.ext_getElem?;intro k
    by_cases hk:k<w.heap.size
    · rw[Array.getElem?_append_left hk,h.old k hk (ax k)]
    · rw [Array.getElem?_append_right (by omega)]
      have hs:=h.size
      by_cases h2:k<w'.heap.size
      · rw [Array.getElem?_extract]
        rw[if_pos (by omega)]
        congr 1
        omega
      · rw[Array.getElem?_eq_none (by omega),Array.getElem?_eq_none (by simp;omega)]
  have hd:w'.drawn=w.drawn+(w'.drawn - w.drawn):=by have:=h.fwd;omega
  show w'={w with heap:=w.heap++_,drawn:=w.drawn+(w'.drawn - w.drawn)};rw[←hh,←hd,←h.os,←h.tape,←h.output]
abbrev Ix (L:List PN):={x:Int // 0≤x∧x<L.length}
abbrev rG (L:List PN):Ix L→Value:=fun a=>.int .i64 a.1
section
variable {L:List PN} [Inhabited (Ix L)] {w:World} {gb n:Nat} {d:Array (Ix L)} {os:Array Obj} {cur:Array Value} {t:TypeId}
theorem vo (k:Nat) (hk:k<w.heap.size) (hne:k≠gb):(sortWorld (rG L) w gb 0 n d os).heap[k]?=w.heap[k]?:=by
  unfold sortWorld;rw[heap_grow_old _ _ (by rw[size_putRow];exact hk)];show (w.heap.modify gb _)[k]?=_;rw[Array.getElem?_modify,if_neg (Ne.symm hne)]
theorem ET {b o:Nat} {v:Value} (hc:w.cell? ⟨b,o,none⟩=some v) (hne:b≠gb):(sortWorld (rG L) w gb 0 n d os).cell? ⟨b,o,none⟩=some v:=
  (World.cell?_of_block (vo b (lP hc) hne)).trans hc
theorem oe {b o:Nat} {us:List Value} (hc:aJ w b o us) (hne:b≠gb):aJ (sortWorld (rG L) w gb 0 n d os) b o us:=fun j u hj=>ET (hc j u hj) hne
theorem GP (hh:w.heap[gb]?=some (.cells cur t (0,0))):(sortWorld (rG L) w gb 0 n d os).heap[gb]?=some (.cells (putCells (rG L) 0 d cur) t (0,0)):=by
  have hlt:gb<w.heap.size:=(Array.getElem?_eq_some_iff.1 hh).1;unfold sortWorld;rw[heap_grow_old _ _ (by rw[size_putRow];exact hlt)];show (w.heap.modify gb _)[gb]?=_;rw[Array.getElem?_modify,if_pos rfl,hh];rfl
theorem Ir (hs:d.size≤cur.size):(putCells (rG L) 0 d cur).toList.take d.size=d.toList.map (rG L):=by
  apply List.ext_getElem?;intro k;rw[List.getElem?_take,List.getElem?_map]
  by_cases hk:k<d.size
  · rw [if_pos hk, Array.getElem?_toList, Array.getElem?_toList]
    unfold putCells;rw[Array.getElem?_mapIdx,Array.getElem?_eq_getElem (xs:=cur) (by omega),Array.getElem?_eq_getElem (xs:=d) hk,Option.map_some,if_pos ⟨Nat.zero_le _,by omega⟩,Nat.sub_zero,getElem!_pos d k hk,Option.map_some]
  · rw[if_neg hk,Array.getElem?_toList,Array.getElem?_eq_none (by omega)];rfl
end
theorem tV:∀{l m:List Int},l.Nodup→(∀x∈l,x∈m)→l.length≤m.length
  | [],_,_,_=>Nat.zero_le _
  | x :: l, m, hn, h => by
    rw[List.nodup_cons] at hn;have hx:=h x (by simp);have h1:=tV (l:=l) (m:=m.erase x) hn.2 fun y hy=>(List.mem_erase_of_ne (fun e=>hn.1 (by rw[←e];exact hy))).2 (h y (by simp[hy]));have h2:=List.length_erase_of_mem hx;have h3:=List.length_pos_of_mem hx;simp only[List.length_cons];omega
theorem D4 {L:List PN} {l:List Int} (hl:∀x∈l,0≤x∧x<L.length) (hn:l.Nodup):l.length≤L.length:=by
  have h1:=tV (l:=l) (m:=(List.range L.length).map fun i:Nat=>(i:Int)) hn fun x hx=>by
    have:=hl x hx;exact List.mem_map.2 ⟨x.toNat,List.mem_range.2 (by omega),by omega⟩
  simpa using h1
theorem Jz (gb cap:Nat) (A:Option Addr) (c:Nat) (L:List PN) (hL:L.length≤1000) (mb:Option Nat) (pb lb:Nat) (l:List Int) (hl:∀x∈l,0≤x∧x<L.length) (hn:l.Nodup) (h0:0<l.length):
    Ct Tryz.prog 128 #[.slice (some ⟨gb,0,none⟩) l.length cap,.func (.func 124) #[] #[.pointer (some ⟨pb,0,none⟩),.pointer (some ⟨lb,0,none⟩)]] [mn (some ⟨gb,0,none⟩) cap l]
      (fun w=>(T2 w A L∧aJ w pb 0 [.slice A L.length c,.map mb]∧aJ w lb 0 [.slice A L.length c])∧(∀b o,A=some ⟨b,o,none⟩→b≠gb)∧pb≠gb∧lb≠gb) (X:=Unit) (fun _=>.tuple #[]) (fun _=>True) (fun _=>[mn (some ⟨gb,0,none⟩) cap (DZ L l)]):=by
  intro w h1 _ ⟨⟨hz,hp,hlb⟩,hA,hpb,hlbn⟩;have hrow:w.ownsRow 0 3 1 (.slice (some ⟨gb,0,none⟩) l.length cap) l.length (l.map (Value.int .i64)):=h1 _ (List.mem_singleton_self _);obtain⟨hlen,h2⟩:=hrow
  rcases h2 with ⟨hv,_⟩ | ⟨g,cap',cur,hv,hb,hh,hnc,hm,hsz,htake⟩
  · cases hv
  injection hv with e1 e2 e3
  injection e1 with e1
  injection e1 with e1
  subst e1 e3;obtain⟨x0,hx0⟩:∃x0,x0∈l:=⟨l[0],List.getElem_mem h0⟩
  haveI:Inhabited (Ix L):=⟨⟨x0,hl x0 hx0⟩⟩
  let dl:List (Ix L):=l.attach.map fun x=>⟨x.1,hl x.1 x.2⟩
  have hdl:dl.map (·.1)=l:=by
    simp[dl,List.map_map,Function.comp_def]
  have hds:dl.toArray.size=l.length:=by simp[dl]
  have henc:dl.map (rG L)=l.map (Value.int .i64):=by
    have h:=congrArg (List.map (Value.int .i64)) hdl;rw[List.map_map] at h;exact h
  have hlt:gb<w.heap.size:=(Array.getElem?_eq_some_iff.1 hh).1;have hH:Holds (rG L) w gb 0 dl.toArray:=fun j hj=>by
    have hj':j<l.length:=by rw[←hds];exact hj
    refine⟨?_,by rw[Nat.zero_add];exact frozen_of_row w gb j cur _ hh⟩;rw[Nat.zero_add,cell_of_row w gb j cur _ (0,0) hh];have h3:=congrArg (·[j]?) htake;simp only[←henc,List.getElem?_map] at h3;rw[List.getElem?_take,if_pos (by omega),Array.getElem?_toList] at h3;rw[h3,List.getElem?_eq_getElem (by simpa using hj),getElem!_pos dl.toArray j hj];rfl
  have hcmp:CmpLays1 Tryz.prog 124 #[.pointer (some ⟨pb,0,none⟩),.pointer (some ⟨lb,0,none⟩)] (rG L) (fun a b=>D0 L a.1 b.1) gb 0 dl.toArray.size w:=fun m os dk _ x y=>by
    have hc := Q.cmp_ct A c L mb pb lb x.1 y.1 x.2.1 x.2.2 y.2.1 y.2.2 hL (sortWorld (rG L) w gb 0 m dk os) (by simp) List.Pairwise.nil ⟨fun k z hk => by
      obtain ⟨b, o, e, hc⟩ := hz k z hk
      exact ⟨b, o, e, oe hc (hA b o e)⟩, oe hp hpb, oe hlb hlbn⟩
    refine hc.mono ?_
    rintro e w' ⟨_,rfl,_,hs⟩
    exact⟨rfl,hs.grown⟩
  have hlt':∀a b:Ix L,ltOf (fun a b:Ix L=>D0 L a.1 b.1) a b=decide (p9 L a.1 b.1):=fun a b=>by
    unfold ltOf;exact decide_eq_decide.2 (Jb L a.1 b.1)
  have hO : SWO (ltOf (fun a b : Ix L => D0 L a.1 b.1)) := {
    irrefl := fun x => by rw [hlt']; simpa using CK x.1
    trans := fun x y z h1 h2 => by
      rw [hlt'] at *
      simp only [decide_eq_true_eq] at *
      exact nq h1 h2
    ntrans := fun x y z h1 h2 => by
      rw [hlt'] at *
      simp only [decide_eq_false_iff_not] at *
      intro h3
      rcases rY (L := L) x.1 y.1 with h | h | h
      · exact h1 h
      · rw [h] at h3; exact h2 h3
      · exact h2 (nq h h3) }
  have hcon:=Any.slices_SortFunc YK (rG L) (fun _=>rfl) (fun a b=>D0 L a.1 b.1) hO 124 #[.pointer (some ⟨pb,0,none⟩),.pointer (some ⟨lb,0,none⟩)] gb 0 cap dl.toArray w Tryz.call124 hcmp hH hlt (by have:=D4 hl hn;omega);rw[hds] at hcon
  change Calls Tryz.prog 128 _ _ _ at hcon
  refine hcon.mono ?_
  rintro e w' ⟨rfl,d',n,os,hperm,hsort,rfl⟩
  obtain⟨p1,_,p3⟩:=hperm;have hd's:d'.size=l.length:=by rw[p1,hds]
  have hpl:(d'.toList.map (·.1)).Perm l:=by
    have h4:(d'.extract 0 l.length).toList.Perm (dl.toArray.extract 0 l.length).toList:=p3;rw[show d'.extract 0 l.length=d' by rw[←hd's];simp,show dl.toArray.extract 0 l.length=dl.toArray by rw[←hds];simp] at h4;rw[←hdl];exact h4.map _
  have hres:d'.toList.map (·.1)=DZ L l:=by
    refine FQ hn hpl ?_;rw[List.pairwise_iff_getElem];intro i j hi hj hij;have hi':i<d'.size:=by simpa using hi
    have hj':j<d'.size:=by simpa using hj
    have h5:=hsort i j (Nat.zero_le _) hij (by omega);rw[hlt',getElem!_pos d' i hi',getElem!_pos d' j hj'] at h5;simp only[decide_eq_false_iff_not] at h5;rw[List.getElem_map,List.getElem_map,Array.getElem_toList,Array.getElem_toList]
    rcases rY (L:=L) d'[i].1 d'[j].1 with h | h | h
    · exact h
    · exfalso
      have h6:=(List.nodup_iff_pairwise_ne.1 (hpl.nodup_iff.2 hn));rw[List.pairwise_iff_getElem] at h6;exact h6 i j hi hj hij (by simpa using h)
    · exact absurd h h5
  refine⟨(),rfl,trivial,⟨rfl,rfl,rfl,by unfold sortWorld;rw[size_grow,size_putRow];exact Nat.le_add_right _ _,fun b hb hne=>vo b hb (fun e=>hne ⟨_,List.mem_singleton_self _,_,rfl,e⟩),?_,List.pairwise_singleton _ _,?_⟩⟩
  · intro i hi
    obtain rfl:i=_:=by simpa using hi
    have hl2:(DZ L l).length=l.length:=(iG l).length_eq;refine⟨by simp,.inr ⟨gb,cap,_,rfl,Nat.zero_le _,GP hh,by omega,hm,by unfold putCells;rw[Array.size_mapIdx];exact hsz,?_⟩⟩;rw[Nat.mul_one,hl2,←hd's,Ir (by omega),←hres,List.map_map];rfl
  · intro i hi b hb
    obtain rfl:i=_:=by simpa using hi
    exact .inr ⟨_,List.mem_singleton_self _,hb⟩
end Go.Proofs.YtbedndijejpcaaaGreat
namespace Go.Proofs.YtbedndijejpcaaaGreat
open Go.RowKit
structure KE where
  key:Int
  A:Option Addr
  c:Nat
  l:List Int
def KE.fA (e:KE):Int×Value:=(e.key,.slice e.A e.l.length e.c)
abbrev KE.row (e:KE):HI:=az e.A e.l.length e.c e.l
def cV:List KE→Int→Option KE
  | [],_=>none
  | e::es,k=>if e.key=k then some e else cV es k
def kf:List KE→KE→List KE
  | [],e=>[e]
  | a::es,e=>if a.key=e.key then e::es else a::kf es e
def rC:List KE→Int→List KE
  | [],_=>[]
  | a::es,k=>if a.key=k then es else a::rC es k
def dY (es:List KE) (k:Int):List Int:=match cV es k with | some e=>e.l | none=>[]
def Ft (es:List KE) (k:Int):Option Addr:=match cV es k with | some e=>e.A | none=>none
def KU (es:List KE) (k:Int):Nat:=match cV es k with | some e=>e.c | none=>0
abbrev j4 (es:List KE):HI:=cN (es.map KE.row)
abbrev GN (mb:Nat) (es:List KE):List HI:=aP mb (es.map KE.fA)::es.map KE.row
def ot (mb:Nat) (es:List KE):HI:=cN (GN mb es)
theorem wg:∀(es:List KE) (k:Int),(lookM (es.map KE.fA) k).getD (.slice none 0 0)=.slice (Ft es k) (dY es k).length (KU es k)
  | [],k=>rfl
  | e :: es, k => by
    have ih:=wg es k;unfold Ft dY KU at*;simp only[List.map_cons,lookM,cV,KE.fA]
    by_cases h:e.key=k
    · simp[h]
    · simp only[if_neg h];exact ih
theorem yq:∀(es:List KE) (e:KE),(kf es e).map KE.fA=putM (es.map KE.fA) e.key (.slice e.A e.l.length e.c)
  | [],e=>rfl
  | a :: es, e => by
    simp only[kf,List.map_cons,putM]
    by_cases h:a.key=e.key
    · rw[if_pos h,if_pos (show (KE.fA a).1=e.key from h)];rfl
    · rw[if_neg h,if_neg (show ¬(KE.fA a).1=e.key from h),List.map_cons,yq es e]
theorem vE:∀(es:List KE) (e:KE) (k:Int),cV (kf es e) k=if k=e.key then some e else cV es k
  | [], e, k => by
    by_cases h:k=e.key
    · simp[kf,cV,h]
    · simp[kf,cV,h,Ne.symm h]
  | a :: es, e, k => by
    unfold kf
    by_cases h:a.key=e.key
    · rw [if_pos h]
      by_cases h2:k=e.key
      · simp[cV,h2]
      · simp[cV,h2,Ne.symm h2,h]
    · rw [if_neg h]
      simp only[cV];rw[vE es e k]
      by_cases h2:k=e.key
      · subst h2;simp[h]
      · simp[h2]
theorem u4:∀(es:List KE) (e:KE),(kf es e).Perm (e::rC es e.key)
  | [],e=>List.Perm.refl _
  | a :: es, e => by
    unfold kf rC
    by_cases h:a.key=e.key
    · rw[if_pos h,if_pos h]
    · rw [if_neg h, if_neg h]
      exact(List.Perm.cons a (u4 es e)).trans (List.Perm.swap e a _)
theorem vt:∀{es:List KE} {k:Int} {e:KE},cV es k=some e→es.Perm (e::rC es k)
  | [],_,_,h=>by cases h
  | a :: es, k, e, h => by
    unfold cV at h;unfold rC
    by_cases hk:a.key=k
    · rw[if_pos hk] at h ⊢;cases h;exact List.Perm.refl _
    · rw [if_neg hk] at h ⊢
      exact(List.Perm.cons a (vt h)).trans (List.Perm.swap e a _)
theorem uW:∀{es:List KE} {k:Int},cV es k=none→rC es k=es
  | [],_,_=>rfl
  | a :: es, k, h => by
    unfold cV at h;unfold rC
    by_cases hk:a.key=k
    · rw[if_pos hk] at h;cases h
    · rw[if_neg hk] at h ⊢;rw[uW h]
theorem wv:∀(es:List KE) (e:KE),(es.map KE.key).Nodup→((kf es e).map KE.key).Nodup∧∀x,x∈(kf es e).map KE.key→x=e.key∨x∈es.map KE.key
  | [],e,_=>by simp[kf]
  | a :: es, e, h => by
    unfold kf;rw[List.map_cons,List.nodup_cons] at h
    by_cases hk:a.key=e.key
    · rw [if_pos hk, List.map_cons, List.nodup_cons]
      refine⟨⟨by rw[←hk];exact h.1,h.2⟩,fun x hx=>?_⟩
      rcases List.mem_cons.1 hx with h1 | h1
      · exact .inl h1
      · exact .inr (List.mem_cons_of_mem _ h1)
    · rw [if_neg hk, List.map_cons, List.nodup_cons]
      obtain⟨h1,h2⟩:=wv es e h.2;refine⟨⟨fun hm=>?_,h1⟩,fun x hx=>?_⟩
      · rcases h2 _ hm with h3 | h3
        · exact hk h3
        · exact h.1 h3
      · rcases List.mem_cons.1 hx with h3 | h3
        · exact .inr (by simp[h3])
        · rcases h2 x h3 with h4 | h4
          · exact .inl h4
          · exact .inr (List.mem_cons_of_mem _ h4)
theorem u3:∀{es:List KE} {e:KE},(es.map KE.key).Nodup→e∈es→cV es e.key=some e
  | a :: es, e, h, he => by
    rw[List.map_cons,List.nodup_cons] at h
    rcases List.mem_cons.1 he with rfl | he
    · simp[cV]
    · rw [cV, if_neg (fun h1 => h.1 (by rw [h1]; exact List.mem_map.2 ⟨e, he, rfl⟩))]
      exact u3 h.2 he
theorem so:∀{es:List KE} {k:Int} {e:KE},cV es k=some e→e∈es∧e.key=k
  | a :: es, k, e, h => by
    unfold cV at h
    by_cases hk:a.key=k
    · rw[if_pos hk] at h;cases h;exact⟨by simp,hk⟩
    · rw [if_neg hk] at h
      have:=so h;exact⟨List.mem_cons_of_mem _ this.1,this.2⟩
def jM (L:List PN) (e:KE):KE:=⟨e.key,e.A,e.c,DZ L e.l⟩
theorem E8 (L:List PN) (e:KE):(jM L e).fA=e.fA:=by
  show (e.key,Value.slice e.A (DZ L e.l).length e.c)=_;rw[(iG e.l).length_eq];rfl
def jG (L:List PN) (es:List KE) (done:List Nat):List KE:=es.mapIdx fun j e=>if j∈done then jM L e else e
theorem BU {L:List PN} {es:List KE} {done:List Nat} {j:Nat} {e:KE} (he:es[j]?=some e) (hj:j∉done):(jG L es done)[j]?=some e:=by
  unfold jG;rw[List.getElem?_mapIdx,he,Option.map_some,if_neg hj]
theorem yW {L:List PN} {es:List KE} {done:List Nat} {j:Nat} {e:KE} (he:es[j]?=some e):jG L es (done++[j])=(jG L es done).set j (jM L e):=by
  apply List.ext_getElem?;intro k;unfold jG;rw[List.getElem?_mapIdx,List.getElem?_set,List.getElem?_mapIdx,List.length_mapIdx]
  by_cases hk:j=k
  · subst hk
    rw[if_pos rfl,if_pos (List.getElem?_eq_some_iff.1 he).1,he,Option.map_some,if_pos (by simp)]
  · rw [if_neg hk]
    congr 1
    funext a
    have:(k∈done++[j])↔k∈done:=by simp[Ne.symm hk]
    simp only[this]
theorem AS {L:List PN} {es:List KE} {done:List Nat} (h:∀j<es.length,j∈done):jG L es done=es.map (jM L):=by
  apply List.ext_getElem?;intro k;unfold jG;rw[List.getElem?_mapIdx,List.getElem?_map]
  by_cases hk:k<es.length
  · rw[List.getElem?_eq_getElem hk,Option.map_some,Option.map_some,if_pos (h k hk)]
  · rw[List.getElem?_eq_none (by omega)];rfl
theorem r8 (L:List PN):∀(es:List KE) (k:Int),cV (es.map (jM L)) k=(cV es k).map (jM L)
  | [],_=>rfl
  | e :: es, k => by
    simp only[List.map_cons,cV]
    by_cases h:e.key=k
    · rw[if_pos (show (jM L e).key=k from h),if_pos h];rfl
    · rw[if_neg (show ¬(jM L e).key=k from h),if_neg h];exact r8 L es k
theorem I0 (L:List PN):DZ L []=[]:=List.Perm.eq_nil (iG [])
theorem Ei (L:List PN) (es:List KE) (k:Int):dY (es.map (jM L)) k=DZ L (dY es k):=by
  unfold dY;rw[r8];cases cV es k with
  | none=>exact(I0 L).symm
  | some e=>rfl
section
variable {w0 w:World} {M:Nat→Prop} {σ F:List HI} {i mb:Nat} {es:List KE}
theorem St.ad3 (h:St w0 M (j4 es::F) w) (k:Int):St w0 M (az (Ft es k) (dY es k).length (KU es k) (dY es k)::j4 (rC es k)::F) w:=by
  cases e:cV es k with
  | none =>
    rw[show Ft es k=none by simp[Ft,e],show dY es k=[] by simp[dY,e],show KU es k=0 by simp[KU,e],uW e];exact(h.bB 3 1).perm (List.perm_append_comm (l₂:=[HI.row 3 1 none 0 0 []]))
  | some a =>
    rw[show Ft es k=a.A by simp[Ft,e],show dY es k=a.l by simp[dY,e],show KU es k=a.c by simp[KU,e]];have h1:=h.unpack;have h2:St w0 M (((rC es k).map KE.row)++(a.row::F)) w:=by
      refine h1.perm ?_;exact(List.Perm.append_right F ((vt e).map KE.row)).trans List.perm_middle.symm
    exact h2.pack.perm (List.Perm.swap _ _ _)
theorem St.TQ (e:KE) (h:St w0 M (e.row::j4 (rC es e.key)::F) w):St w0 M (j4 (kf es e)::F) w:=by
  have h1:=(h.perm (List.Perm.swap _ _ _)).unpack;refine St.pack (h1.perm ?_);exact List.perm_middle.trans (List.Perm.append_right F ((u4 es e).map KE.row).symm)
theorem St.ad2 {j:Nat} {e:KE} (he:es[j]?=some e) (h:St w0 M (j4 es::F) w):St w0 M (e.row::j4 (es.eraseIdx j)::F) w:=by
  have h1:=h.unpack;have h2:St w0 M (((es.eraseIdx j).map KE.row)++(e.row::F)) w:=h1.perm ((List.Perm.append_right F ((jT he).map KE.row)).trans List.perm_middle.symm);exact h2.pack.perm (List.Perm.swap _ _ _)
theorem St.ad1 {j:Nat} {e':KE} (hj:j<es.length) (h:St w0 M (e'.row::j4 (es.eraseIdx j)::F) w):St w0 M (j4 (es.set j e')::F) w:=by
  have h1:=(h.perm (List.Perm.swap _ _ _)).unpack;refine St.pack (h1.perm ?_);exact List.perm_middle.trans (List.Perm.append_right F ((wD hj).map KE.row))
theorem St.ad8 (h:St w0 M (aP mb (es.map KE.fA)::j4 es::F) w):St w0 M (ot mb es::F) w:=by
  have h1:=(h.perm (List.Perm.swap _ _ _)).unpack;refine St.pack (τ:=GN mb es) (h1.perm ?_);exact List.perm_middle
theorem St.pic (h:St w0 M σ w) (hi:σ[i]?=some (ot mb es)):∀j∈GN mb es,j.holds w:=(h.all _ (List.mem_of_getElem? hi)).2.1
theorem St.TS (h:St w0 M σ w) (hi:σ[i]?=some (ot mb es)):sV mb (es.map KE.fA) w:=(h.pic hi (aP mb (es.map KE.fA)) (by simp[GN])).2
theorem St.K6 (h:St w0 M σ w) (hi:σ[i]?=some (ot mb es)) (k:Int):vd w (Ft es k) (dY es k):=by
  cases e:cV es k with
  | none =>
    rw[show dY es k=[] by simp[dY,e]];intro j y hy;simp at hy
  | some a =>
    rw[show Ft es k=a.A by simp[Ft,e],show dY es k=a.l by simp[dY,e]];have h1:a.row.holds w:=h.pic hi a.row (by simp only[GN,List.mem_cons,List.mem_map];exact .inr ⟨a,(so e).1,rfl⟩);have h2:St w (ay [a.row]) [a.row] w:=St.start (by simpa using h1) (List.pairwise_singleton _ _);exact h2.eO (i:=0) (f:=Value.int .i64) rfl
end
def T1 (o:Obj) (ao:Nat) (L:List PN):Prop:=∃cur t fr,o=.cells cur t fr∧∀i n,L[i]?=some n→∀j u,(tT n)[j]?=some u→cur[ao+i*3+j]?=some u
theorem Sb {w:World} {ab ao:Nat} {L:List PN} (h:T2 w (some ⟨ab,ao,none⟩) L) (hn:L≠[]):∃o,w.heap[ab]?=some o∧T1 o ao L:=by
  have hc:∀i n,L[i]?=some n→aJ w ab (ao+i*3) (tT n):=fun i n hi=>by
    obtain⟨b,o,e,hc⟩:=h i n hi;cases e;exact hc
  obtain⟨n0,hn0⟩:∃n0,L[0]?=some n0:=⟨_,List.getElem?_eq_getElem (List.length_pos_iff.2 hn)⟩;have h0:=hc 0 n0 hn0 0 _ rfl;unfold World.cell? at h0;cases e:w.heap[ab]? with
  | none=>rw[e] at h0;cases h0
  | some o =>
    cases o with
    | cells cur t fr =>
      refine⟨_,rfl,cur,t,fr,rfl,fun i n hi j u hu=>?_⟩;have h1:=hc i n hi j u hu;rw[cell_of_row w ab _ cur t fr e] at h1;exact h1
    | _=>rw[e] at h0;cases h0
theorem DX {w:World} {ab ao:Nat} {L:List PN} {o:Obj} (hh:w.heap[ab]?=some o) (h:T1 o ao L) {i:Nat} {n:PN} (hi:L[i]?=some n):aJ w ab (ao+i*3) (tT n):=fun j u hu=>by
  obtain⟨cur,t,fr,rfl,hc⟩:=h;rw[cell_of_row w ab _ cur t fr hh];exact hc i n hi j u hu
theorem St.ag9 {w0 w:World} {M:Nat→Prop} {σ:List HI} {i ab ao:Nat} {L:List PN} {o:Obj} (h:St w0 M σ w) (hi:σ[i]?=some (.ob ab o)) (ho:T1 o ao L) {k:Nat} {n:PN} (hk:L[k]?=some n):aJ w ab (ao+k*3) (tT n):=
  DX (h.all _ (List.mem_of_getElem? hi)) ho hk
theorem Ct.weaken {P:Program} {f:FuncId} {args:Array Value} {ab:Nat} {o:Obj} {pre:List HI} {X:Type} {v:X→Value} {facts:X→Prop} {post:X→List HI} (h:Ct P f args (.ob ab o::pre) (fun _=>True) v facts (fun x=>.ob ab o::post x)):
    Ct P f args pre (fun w=>w.heap[ab]?=some o∧¬ay pre ab) v facts post:=by
  intro w h1 h2 ⟨ho,hn⟩;refine(h w (fun i hi=>?_) (List.pairwise_cons.2 ⟨fun j hj b hb hjb=>?_,h2⟩) trivial).mono ?_
  · rcases List.mem_cons.1 hi with rfl | hi
    · exact ho
    · exact h1 i hi
  · obtain rfl : b = ab := hb
    exact hn ⟨j,hj,hjb⟩
  · rintro e w' ⟨x, rfl, hf, hs⟩
    refine⟨x,rfl,hf,hs.os,hs.tape,hs.output,hs.size,fun b hb hnb=>?_,fun i hi=>hs.all i (List.mem_cons_of_mem _ hi),(List.pairwise_cons.1 hs.disj).2,fun i hi b hb=>?_⟩
    · by_cases e : b = ab
      · subst e
        rw[ho];exact hs.all (.ob b o) (by simp)
      · refine hs.old b hb ?_
        rintro ⟨j,hj,hjb⟩
        rcases List.mem_cons.1 hj with rfl | hj
        · exact e hjb
        · exact hnb ⟨j,hj,hjb⟩
    · rcases hs.fresh i (List.mem_cons_of_mem _ hi) b hb with h3 | ⟨j, hj, hjb⟩
      · exact .inl h3
      · rcases List.mem_cons.1 hj with rfl | hj
        · exact absurd hb ((List.pairwise_cons.1 hs.disj).1 i hi b hjb)
        · exact .inr ⟨j,hj,hjb⟩

abbrev CF (b ab ao c n mb:Nat):HI:=.cl b 191 [.slice (some ⟨ab,ao,none⟩) n c,.map (some mb)]
theorem yG {P:Program} {S:World→Prop} {ρ:Env} {dst:Option Tmp} {ty:TypeId} {pos:String} {af:Array Edge} {g:Option (Nat×Bool)} {t kt et:TypeId} {x y:Operand} {q:IntKind} {b:Nat} {es:List KE} {k:Int} (ht:P.underlying t=some (.map kt et)) (hk:P.underlying kt=some (.int q)) (hz:∀w,(zeroValue et).run P w=.ok (.slice none 0 0) w) (hx:evo ρ x=.map (some b)) (hy:evo ρ y=.int .i64 k) (hm:∀w,S w→sV b (es.map KE.fA) w):
    cw P S ⟨dst,.lookup t x y false,ty,pos,af,g⟩ ρ (.slice (Ft es k) (dY es k).length (KU es k)):=by
  rw[←wg];exact fu ht hk hz hx hy hm
theorem GA (ab ao c n mb:Nat) (x:Int):Ct Tryz.prog 129 #[.agg #[.slice (some ⟨ab,ao,none⟩) n c,.map (some mb)],.int .i64 x] [] (fun _=>True) (X:=Nat×Nat) (fun p=>.func (.func 165) #[] #[.pointer (some ⟨p.1,0,none⟩),.pointer (some ⟨p.2,0,none⟩)]) (fun _=>True) (fun p=>[qi p.1 x,CF p.2 ab ao c n mb]):=by
  refine Ci fun w0 _=>?_;refine gg ?_;refine aj.ef xB fun b2=>?_;refine aj.ef (eN (u:=.int .i64 _) (σ':=fun _=>[_,_]) rfl (fun _=>rfl)) (fun b3=>?_);refine sg rfl ?_;refine bW ?_;refine vl (eW) ?_;refine sg rfl ?_;refine gg ?_;exact aT fun w hw=>⟨(b3,b2),rfl,trivial,hw.pk⟩
def kX (L:List PN) (kids:List Int) (i:Nat):Nat:=1+((kids.take i).flatMap (PT L)).length
theorem ng {L:List PN} {kids:List Int} {i:Nat} {kid:Int} (h:kids[i]?=some kid):kX L kids (i+1)=kX L kids i+(PT L kid).length:=by
  unfold kX;rw[df h,List.flatMap_append,List.length_append];simp;omega
theorem rX {L:List PN} {kids:List Int} {i k:Nat} {kid x id:Int} (h:kids[i]?=some kid) (hx:(PT L kid)[k]?=some x):(id::kids.flatMap (PT L))[kX L kids i+k]?=some x:=by
  have hk:=(List.getElem?_eq_some_iff.1 h).1;have e:kids=kids.take i++kid::kids.drop (i+1):=by
    have h1:=List.take_append_drop i kids;rw[List.drop_eq_getElem_cons hk,(List.getElem?_eq_some_iff.1 h).2] at h1;exact h1.symm
  have h2:kids.flatMap (PT L)=(kids.take i).flatMap (PT L)++(PT L kid++(kids.drop (i+1)).flatMap (PT L)):=by
    conv=>lhs;rw[e]
    rw[List.flatMap_append,List.flatMap_cons]
  have h3:kX L kids i+k=(((kids.take i).flatMap (PT L)).length+k)+1:=by unfold kX;omega
  rw[h3,List.getElem?_cons_succ,h2,List.getElem?_append_right (by omega),Nat.add_sub_cancel_left,List.getElem?_append_left (List.getElem?_eq_some_iff.1 hx).1];exact hx
theorem y0 (L:List PN) (id:Int) (kids:List Int):kX L kids kids.length=(id::kids.flatMap (PT L)).length:=by
  unfold kX;rw[List.take_of_length_le (Nat.le_refl _)];simp;omega
theorem HK (L:List PN) (a:Int):(ez L a).length≤L.length:=by
  rw[ez,(iG _).length_eq];exact Nat.le_trans (y2 a _) (by omega)
theorem y1 (ab ao c mb:Nat) (o:Obj) (L:List PN) (hP:PV L) (hL:L.length≤1000) (ho:T1 o ao L) (es:List KE) (hes:∀a,dY es a=ez L a) (x:Int) (n1 n2:Nat)
    (ih:∀y m1 m2,y∈ez L x→gM Tryz.prog 165 [] [.pointer (some ⟨m1,0,none⟩),.pointer (some ⟨m2,0,none⟩)] [.ob ab o,ot mb es,qi m1 y,CF m2 ab ao c L.length mb] xY (PT L y)):
    gM Tryz.prog 165 [] [.pointer (some ⟨n1,0,none⟩),.pointer (some ⟨n2,0,none⟩)] [.ob ab o,ot mb es,qi n1 x,CF n2 ab ao c L.length mb] xY (PT L x):=by
  intro l Z Y H J Inv hy z0 hz0;have hsub:PT L x=x::(ez L x).flatMap (PT L):=sX hP x;have hkl:=HK L x;refine Ci fun w0 _=>?_;refine gg ?_;refine aj.ef (eN (u:=_) (σ':=fun _=>[_,_,_,_,_,_]) rfl (fun _=>rfl)) (fun b3=>?_);refine cK ?_;refine vl (ai (u:=_) Tryz.isAgg44 rfl (fun w hw=>hw.aq (i:=5) rfl _ rfl)) ?_;refine gg ?_;refine aj.ef (iF (hy 0 x z0 (by rw[hsub];rfl) hz0) [0,1,2,3,4] [5] rfl (τ:=fun _=>[_,_,_,_,_,_]) (fun _=>rfl)) (fun o1=>?_);refine aj.fact (fun hf=>?_);refine gg ?_;refine WP.cond rfl (fun h10=>?_) (fun h10=>?_)
  ·obtain⟨y,rfl⟩:=jw h10;exact WP.IB Tryz.results165 (fun _ h=>h) (fun w hw=>⟨.inr (0,y),rfl,⟨fun z e=>(by cases e),fun p e=>(by cases e;rw[hsub];exact Nat.succ_pos _)⟩,(hw.sel [1,2,3,4,5] (by decide))⟩)
  ·obtain⟨zz,rfl⟩:=kL h10;refine cK ?_;refine vl (ai (u:=.map _) Tryz.isAgg189 rfl (fun w hw=>hw.aq (i:=4) rfl _ rfl)) ?_;refine av ?_;refine vl (yG (es:=es) (k:=x) Tryz.underlying189 Tryz.underlying3 Tryz.zeroValue49 rfl rfl (fun w hw=>hw.TS (i:=2) rfl)) ?_;refine gg ?_;refine WP.K7 (X:=Nat×Z×List Nat) [2,3,14,15,34] (fun p=>[(16,.int .i64 (p.1:Int))]) (fun p w=>(p.1≤(ez L x).length∧Inv (kX L (ez L x) p.1) p.2.1)∧St w0 (ay ([.ob ab o,ot mb es,qi n1 x,CF n2 ab ao c L.length mb]++[H 0 z0])) [j8 p.2.2,.ob ab o,ot mb es,qi n1 x,CF n2 ab ao c L.length mb,.cl b3 44 [.func (.yield l) #[] #[]],H (kX L (ez L x) p.1) p.2.1] w) (fun p=>p.2.2.map mark) (fun p=>(ez L x).length - p.1) (0,zz,[]) ⟨rfl,trivial⟩ rfl (fun w hw=>⟨⟨Nat.zero_le _,hf zz rfl⟩,St.DJ (hw.sel [1,2,3,4,0,5] (by decide))⟩) (fun p ρ0=>?_);obtain⟨i,z,Ds⟩:=p;dsimp only;refine WP.fact (fun⟨hile,hinv⟩=>?_);refine gg ?_;refine WP.aw rfl (fun h17=>?_) (fun h17=>?_)
   ·have hi:i<(ez L x).length:=by rw[hes] at h17;omega
    obtain⟨kid,hkid⟩:∃kid,(ez L x)[i]?=some kid:=⟨_,List.getElem?_eq_getElem hi⟩;have hmem:=List.mem_of_getElem? hkid;have hgt:=eb hP hmem;obtain⟨m,rfl⟩:∃m:Nat,kid=m:=⟨kid.toNat,by omega⟩;have hkid':(dY es x)[i]?=some (m:Int):=by rw[hes];exact hkid
    obtain⟨n,hn⟩:∃n,L[m]?=some n:=⟨_,List.getElem?_eq_getElem (by omega)⟩;refine WP.holds (p:=∃b o,Ft es x=some ⟨b,o,none⟩) (fun w hw=>by obtain⟨b,o,e1,_⟩:=(hw.K6 (i:=2) rfl x) i m hkid';exact⟨b,o,e1⟩) (fun⟨kb,ko,hka⟩=>?_);rw[hka];refine cR ?_;refine vl (ai (u:=.int .i64 _) Tryz.isAgg3 rfl (fun w hw=>by obtain⟨b1,o1,e1,hc⟩:=(hw.K6 (i:=2) rfl x) i m hkid';rw[hka] at e1;cases e1;exact hc)) ?_;refine JW ?_;refine vl (ai (u:=.bool _) Tryz.isAgg4 rfl (fun w hw=>(hw.ag9 (i:=1) rfl ho hn).one (j:=1) rfl (by omega))) ?_;refine gg ?_;refine WP.cond rfl (fun h26=>?_) (fun h26=>?_)
    ·have hptp:PT L (m:Int)=[(m:Int)]:=Aj hP (by omega) (by rw[Hs hn];simpa using h26);have hone:(PT L (m:Int)).length=1:=by rw[hptp];rfl
     refine bW ?_;refine vl (ai (u:=_) Tryz.isAgg44 rfl (fun w hw=>hw.aq (i:=5) rfl _ rfl)) ?_;refine gg ?_;refine aj.ef (iF (hy (kX L (ez L x) i) (m:Int) z (by rw[hsub];exact rX (k:=0) hkid (by rw[hptp];rfl)) hinv) [1,2,3,4,6] [0,5] rfl (τ:=fun _=>[_,_,_,_,_,_,_]) (fun _=>rfl)) (fun o1=>?_);refine aj.fact (fun hf=>?_);refine gg ?_;refine WP.cond rfl (fun h30=>?_) (fun h30=>?_)
     ·obtain⟨y,rfl⟩:=jw h30;have hlt:kX L (ez L x) i<(PT L x).length:=by rw[hsub];exact(List.getElem?_eq_some_iff.1 (rX (L:=L) (k:=0) (id:=x) hkid (by rw[hptp];rfl))).1
      exact WP.AE Ds (τ:=[.ob ab o,ot mb es,qi n1 x,CF n2 ab ao c L.length mb,J (kX L (ez L x) i) y]) (fun w hw=>St.uk (hw.sel [0,2,3,4,5,6] (by decide))) (fun _ h=>h) (fun w hw=>da.IG Tryz.results165 (.inl rfl) ⟨.inr (kX L (ez L x) i,y),rfl,⟨fun z e=>(by cases e),fun p e=>(by cases e;exact hlt)⟩,hw⟩)
     ·obtain⟨z2,rfl⟩:=kL h30;refine gg ?_;refine WP.exit (an ?_);refine cK ?_;exact nl fun w hw=>⟨(i+1,z2,Ds),(by simp only;omega),rfl,⟨rfl,rfl,rfl,jS,jI,rfl,trivial⟩,⟨⟨by simp only;omega,by simp only;rw[ng hkid,hone];exact hf z2 rfl⟩,by simp only;rw[ng hkid,hone];exact(hw.sel [0,2,3,4,5,1,6] (by decide))⟩⟩
    ·refine bW ?_;refine vl (au (cs:=[.slice _ _ _,.map _]) Tryz.isAgg191 Tryz.sizeOf191 rfl (fun w hw=>hw.aq (i:=4) rfl _ rfl)) ?_;refine gg ?_;refine eF (xC (GA ab ao c L.length mb (m:Int))) fun⟨m1,m2⟩ _=>?_;refine bW ?_;refine sl [1,2,7,8,6,3,4,5,0] ?_;refine WP.k9 (gf:=165) (first:=[]) (cap:=[.pointer (some ⟨m1,0,none⟩),.pointer (some ⟨m2,0,none⟩)]) rfl Tryz.call165 (ih (m:Int) m1 m2 hmem) (Z:=Z) (own:=fun k z=>[H (kX L (ez L x) i+k) z,qi n1 x,CF n2 ab ao c L.length mb,.cl b3 44 [.func (.yield l) #[] #[]],j8 Ds]) (Inv:=fun k z=>Inv (kX L (ez L x) i+k) z) z hinv (List.Perm.refl _) (fun _=>rfl) (by decide) (Y:=(Nat×Y)) (fun c _ y=>c=.ret∧y.1<(PT L x).length) (fun y=>[J y.1 y.2,qi n1 x,CF n2 ab ao c L.length mb,.cl b3 44 [.func (.yield l) #[] #[]],j8 Ds]) ?_ ?_ ?_
     ·intro lk l2 D2 k x2 z1 hx hz w1 M1;refine bW ?_;refine aj.nil (iL (i:=0) rfl ?_);refine bW ?_;refine vl (ai (u:=_) Tryz.isAgg44 rfl (fun w hw=>hw.aq (i:=10) rfl _ rfl)) ?_;refine gg ?_;refine aj.ef (iF (hy (kX L (ez L x) i+k) x2 z1 (by rw[hsub];exact rX hkid hx) hz) [3,4,8,9,7] [0,1,2,5,6,10,11] rfl (τ:=fun _=>[_,_,_,_,_,_,_,_,_,_,_,_]) (fun _=>rfl)) (fun o1=>?_);refine aj.fact (fun hf=>?_);refine gg ?_;refine WP.cond rfl (fun h38=>?_) (fun h38=>?_)
      ·obtain⟨y,rfl⟩:=jw h38;have hlt:kX L (ez L x) i+k<(PT L x).length:=by rw[hsub];exact(List.getElem?_eq_some_iff.1 (rX (id:=x) hkid hx)).1
       exact WP.ret (fun w hw=>fX.jump (i:=0) (.inl ⟨rfl,rfl⟩) rfl hw (fun w2 hw2=>.inr ⟨_,(kX L (ez L x) i+k,y),rfl,⟨rfl,hlt⟩,(hw2.sel [0,1,2,7,8,3,4,11,9,10,5,6] (by decide))⟩))
      ·obtain⟨z2,rfl⟩:=kL h38;exact WP.skip (fun w hw=>fX.normal (i:=0) rfl hw (fun w2 hw2=>.inl ⟨z2,rfl,(hf z2 rfl),(hw2.sel [0,1,2,7,8,3,4,11,9,10,5,6] (by decide))⟩))
     ·intro D z3 hz;refine sx (an ?_);refine cK ?_;exact nl fun w hw=>⟨(i+1,z3,D::Ds),(by simp only;omega),rfl,⟨rfl,rfl,rfl,jS,jI,rfl,trivial⟩,⟨⟨by simp only;omega,by simp only;rw[ng hkid];exact hz⟩,by simp only;rw[ng hkid];exact St.mark hw.pk⟩⟩
     ·intro D c k y hf hk2;obtain⟨rfl,hlt⟩:=hf;obtain⟨yk,yy⟩:=y;exact WP.AE (D::Ds) (τ:=[.ob ab o,ot mb es,qi n1 x,CF n2 ab ao c L.length mb,J yk yy]) (fun w hw=>St.uk (St.mark hw.pk)) (fun _ h=>h) (fun w hw=>da.IG Tryz.results165 (.inl rfl) ⟨.inr (yk,yy),rfl,⟨fun z e=>(by cases e),fun p e=>(by cases e;exact hlt)⟩,hw⟩)
   ·have hi:i=(ez L x).length:=by rw[hes] at h17;omega
    exact WP.exit fun w hw=>da.IC Ds (.inr rfl) (St.uk (hw.sel [0,1,2,3,4,6] (by decide))) (fun w hw=>da.IG Tryz.results165 (.inl rfl) ⟨.inl z,rfl,⟨fun z9 e9=>(by cases e9;rw[hsub,←y0 L,←hi];exact hinv),fun p e=>(by cases e)⟩,(by rw[show (PT L x).length=kX L (ez L x) i from by rw[hsub,←y0 L,←hi]];exact hw)⟩)
theorem yr (ab ao c mb:Nat) (o:Obj) (L:List PN) (hP:PV L) (hL:L.length≤1000) (ho:T1 o ao L) (es:List KE) (hes:∀a,dY es a=ez L a):∀(n:Nat) (x:Int) (n1 n2:Nat),L.length - x.toNat≤n→
    gM Tryz.prog 165 [] [.pointer (some ⟨n1,0,none⟩),.pointer (some ⟨n2,0,none⟩)] [.ob ab o,ot mb es,qi n1 x,CF n2 ab ao c L.length mb] xY (PT L x)
  | 0, x, n1, n2, hn => y1 ab ao c mb o L hP hL ho es hes x n1 n2 fun y m1 m2 hm => by
    have:=eb hP hm;omega
  | n + 1, x, n1, n2, hn => y1 ab ao c mb o L hP hL ho es hes x n1 n2 fun y m1 m2 hm => by
    have:=eb hP hm;exact yr ab ao c mb o L hP hL ho es hes n y m1 m2 (by omega)
theorem yP (ab ao c mb:Nat) (o:Obj) (L:List PN) (hP:PV L) (hL:L.length≤1000) (ho:T1 o ao L) (es:List KE) (hes:∀a,dY es a=ez L a) (x:Int) (n1 n2:Nat) (hlen:(PT L x).length≤1000):
    Ct Tryz.prog 61 #[.func (.func 165) #[] #[.pointer (some ⟨n1,0,none⟩),.pointer (some ⟨n2,0,none⟩)]] [ot mb es,qi n1 x,CF n2 ab ao c L.length mb] (fun w=>w.heap[ab]?=some o∧¬ay [ot mb es,qi n1 x,CF n2 ab ao c L.length mb] ab) (X:=Option Addr×Nat) (fun p=>.slice p.1 (PT L x).length p.2) (fun _=>True)
      (fun p=>[ot mb es,qi n1 x,CF n2 ab ao c L.length mb,az p.1 (PT L x).length p.2 (PT L x)]):=by
  have h:=r9 165 [.pointer (some ⟨n1,0,none⟩),.pointer (some ⟨n2,0,none⟩)] Tryz.call165 (cN [.ob ab o,ot mb es,qi n1 x,CF n2 ab ao c L.length mb]) (PT L x) (by omega) (yr ab ao c mb o L hP hL ho es hes _ x n1 n2 (Nat.le_refl _)).pack;refine Ct.weaken ?_;intro w h1 h2 h3;have st:=St.pack (F:=[]) (by simpa using St.start h1 h2);refine(h w st.all st.disj h3).mono ?_
  rintro e w' ⟨p,rfl,hf,hs⟩
  refine⟨p,rfl,hf,?_⟩;have hs':=hs.unpack;rw[gP] at hs';exact hs'
theorem x9:∀{es:List KE} {e x:KE},x∈kf es e→x=e∨x∈es
  | [],e,x,h=>by simpa [kf] using h
  | a :: es, e, x, h => by
    unfold kf at h
    split at h
    · rcases List.mem_cons.1 h with h | h
      · exact .inl h
      · exact .inr (List.mem_cons_of_mem _ h)
    · rcases List.mem_cons.1 h with h | h
      · exact .inr (by simp[h])
      · rcases x9 h with h | h
        · exact .inl h
        · exact .inr (List.mem_cons_of_mem _ h)
structure xI (L:List PN) (k:Nat) (es:List KE):Prop where
  lst:∀a,dY es a=qD L a k
  keys:(es.map KE.key).Nodup
  some:∀e∈es,e.l≠[]
theorem xI.nil (L:List PN):xI L 0 []:=⟨fun a=>rfl,by simp,by simp⟩
theorem xI.step {L:List PN} {k:Nat} {es:List KE} (h:xI L k es) {a:Int} (ha:gV L ((k:Int)+1)=a) (A:Option Addr) (c:Nat):xI L (k+1) (kf es ⟨a,A,c,dY es a++[(k:Int)+1]⟩):=by
  refine⟨fun b=>?_,(wv es _ h.keys).1,fun e he=>?_⟩
  · rw [uU]
    unfold dY;rw[vE]
    by_cases e:b=a
    · subst e
      rw[if_pos rfl,if_pos ha,←h.lst];rfl
    · rw [if_neg e, if_neg (fun h1 => e (h1.symm.trans ha)), List.append_nil, ← h.lst]
      rfl
  · rcases x9 he with rfl | he
    · simp
    · exact h.some e he
theorem xI.entry {L:List PN} {k:Nat} {es:List KE} (h:xI L k es) {e:KE} (he:e∈es):e.l=qD L e.key k:=by
  rw[←h.lst,dY,u3 h.keys he]
theorem Oi {l:List Nat} {n:Nat} (hn:l.Nodup) (h:∀j∈l,j<n):l.length≤n:=by
  have h1 := tV (l := l.map fun j : Nat => (j : Int)) (m := (List.range n).map fun j : Nat => (j : Int)) (List.Pairwise.map _ (fun a b (hab : a ≠ b) e => hab (by omega)) hn) (fun x hx => by
    obtain ⟨j, hj, rfl⟩ := List.mem_map.1 hx
    exact List.mem_map.2 ⟨j, List.mem_range.2 (h j hj), rfl⟩)
  simpa using h1
theorem BC (L:List PN) (es:List KE):jG L es []=es:=by
  apply List.ext_getElem?;intro k;unfold jG;rw[List.getElem?_mapIdx];cases es[k]?<;>simp
section
variable {w0 w:World} {M:Nat→Prop} {σ F:List HI} {mb:Nat} {es:List KE}
theorem St.putK {a v:Int} {A:Option Addr} {c:Nat} (h:St w0 M (.row 3 1 A ((dY es a).length+1) c ((dY es a).map (Value.int .i64)++[.int .i64 v])::j4 (rC es a)::aP mb (putM (es.map KE.fA) a (.slice A ((dY es a).length+1) c))::F) w):
    St w0 M (aP mb ((kf es ⟨a,A,c,dY es a++[v]⟩).map KE.fA)::j4 (kf es ⟨a,A,c,dY es a++[v]⟩)::F) w:=by
  rw[yq];have e1:(dY es a++[v]).length=(dY es a).length+1:=by simp
  have e2:KE.row ⟨a,A,c,dY es a++[v]⟩=.row 3 1 A ((dY es a).length+1) c ((dY es a).map (Value.int .i64)++[.int .i64 v]):=by
    show HI.row _ _ _ _ _ _=_;rw[e1,List.map_append];rfl
  have h2:St w0 M (KE.row ⟨a,A,c,dY es a++[v]⟩::j4 (rC es (KE.mk a A c (dY es a++[v])).key)::aP mb (putM (es.map KE.fA) a (.slice A ((dY es a).length+1) c))::F) w:=by rw[e2];exact h
  have h3:=St.TQ _ h2;show St w0 M (aP mb (putM (es.map KE.fA) a (.slice A (dY es a++[v]).length c))::_) w;rw[e1];exact h3.perm (List.Perm.swap _ _ _)
theorem St.apart {i j:Nat} {x y:HI} (h:St w0 M σ w) (hi:σ[i]?=some x) (hj:σ[j]?=some y) (hne:i≠j) {b:Nat} (hx:x.foot b):¬y.foot b:=by
  obtain⟨hp,rfl⟩:=List.getElem?_eq_some_iff.1 hi;obtain⟨hq,rfl⟩:=List.getElem?_eq_some_iff.1 hj;have hd:=List.pairwise_iff_getElem.1 h.disj
  rcases Nat.lt_or_gt_of_ne hne with hlt | hlt
  · exact hd i j hp hq hlt b hx
  · exact fun hy=>hd j i hq hp hlt b hy hx
theorem St.K3 {i j b gb n cap sz:Nat} {t t2:TypeId} {cs xs:List Value} (h:St w0 M σ w) (hi:σ[i]?=some (.cl b t cs)) (hj:σ[j]?=some (.row t2 sz (some ⟨gb,0,none⟩) n cap xs)) (hne:i≠j):b≠gb:=fun e=>h.apart hi hj hne (b:=b) rfl ⟨_,rfl,e⟩
theorem St.II (h:St w0 (ay []) σ w) {b:Nat} (hb:b<w0.heap.size):¬ay σ b:=fun⟨i,hi,hib⟩=>by
  rcases h.fresh i hi b hib with h1 | h1
  · omega
  · exact ax b h1
end
theorem Eg (A:Option Addr) (c:Nat) (L:List PN) (hL:L.length≤1000) (hcap:L.length≤c):Ct Tryz.prog 81 #[.slice A L.length c] [] (fun w=>T2 w A L) (X:=Option Addr×Nat) (fun p=>.slice p.1 (gS L).length p.2) (fun _=>True) (fun p=>[az p.1 (gS L).length p.2 (gS L)]):=by
  refine Ci fun w0 hz=>?_;refine gg ?_;refine aj.ef (eN (u:=.slice _ _ _) (σ':=fun _=>[_]) rfl (fun _=>rfl)) (fun b1=>?_);refine uw ?_;refine aj.split 12 rfl (fun h12=>?_) (fun h12=>?_)
  ·refine gg ?_;have hr:gS L=[]:=xg (.inl (List.eq_nil_of_length_eq_zero (by omega)));refine WP.aQ rfl ?_;refine gg ?_;exact aT fun w hw=>⟨(none,0),by rw[hr];rfl,trivial,by rw[hr];exact(hw.bB 3 1).sel [1] (by decide)⟩
  ·refine gg ?_;refine aj.kn (xC (Eb A c L hL) (hF:=fun w hw=>hw.rd hz ax)) (fun _=>?_);refine aj.fact (fun _=>?_);refine gg ?_;refine WP.cond rfl (fun h16=>?_) (fun h16=>?_)
   ·have hr:gS L=[]:=xg (.inr (by simpa using h16));refine gg ?_;exact aT fun w hw=>⟨(none,0),by rw[hr];rfl,trivial,by rw[hr];exact(hw.bB 3 1).sel [1] (by decide)⟩
   ·have hok:uv L=true:=by simpa using h16
    have hP:=wO hok;have hne:L≠[]:=fun e=>by rw[e] at h12;simp at h12
    have hpos:=List.length_pos_iff.2 hne;have hr:=Du hne hok;obtain⟨nd,ab,ao,hnd0,rfl,hc0⟩:=rU hz hpos;obtain⟨ob,hob0,hob⟩:=Sb hz hne;have hab:ab<w0.heap.size:=(Array.getElem?_eq_some_iff.1 hob0).1;refine gg ?_;refine aj.ef (eV (σ':=fun _=>[_,_]) (fun _=>rfl)) (fun mp18=>?_);refine vl (aV (us:=[.slice _ _ _,.map _]) (pl:=[(0,1),(1,1)]) Tryz.underlying191 Tryz.zeroValue191 rfl (by kernel_rfl) rfl rfl (by kernel_rfl)) ?_;refine aj.ef cg fun b3=>?_;refine aj.aX (xW rfl) fun _=>?_;refine nl (oo ?_)
    iterate 2 refine sq ?_
    skip
    refine WP.region ?_;refine av ?_;refine vl (cD (kh:=0) (l:=1) (h:=L.length) Tryz.underlying143 Tryz.sizeOf186 rfl ⟨rfl,rfl⟩ rfl hpos hcap) ?_;refine gg ?_;refine WP.bm (X:=Nat×List KE) [1,3,22] (fun p=>[(23,.int .i64 (p.1:Int))]) (fun p w=>(p.1≤L.length - 1∧xI L p.1 p.2)∧St w0 (ay []) [.cl b1 143 [.slice (some ⟨ab,ao,none⟩) L.length c],.cl b3 191 [.slice (some ⟨ab,ao,none⟩) L.length c,.map (some mp18)],aP mp18 (p.2.map KE.fA),j4 p.2] w) (fun p=>L.length - 1 - p.1) (0,[]) ⟨rfl,trivial⟩ (fun w hw=>⟨⟨Nat.zero_le _,xI.nil L⟩,(St.pack (τ:=[]) (hw.sel [0,2,1] (by decide))).sel [1,2,3,0] (by decide)⟩) (fun p ρ0=>?_);obtain⟨k,es⟩:=p;dsimp only;refine WP.fact (fun⟨hkl,hms⟩=>?_);refine gg ?_;refine WP.aw rfl (fun h24=>?_) (fun h24=>?_)
    ·refine gg ?_;refine eF (xC (G9 (some ⟨ab,ao,none⟩) c L hP ((k:Int)+1) (by omega) (by omega)) (hF:=fun w hw=>hw.rd hz ax)) fun _ _=>?_;refine bW ?_;refine WP.pre ?_ (fun w hw=>St.ad3 (hw.sel [3,0,1,2] (by decide)) (gV L ((k:Int)+1)));have hml:=y2 (L:=L) (gV L ((k:Int)+1)) k;rw[←hms.lst] at hml;refine WP.dj (some 11) [1,2,3,4] [(0,true),(1,true),(2,true),(3,true),(4,true),(5,true),(6,true),(7,true),(8,true),(9,false),(10,false),(11,false)] mixed (by kernel_rfl) (by decide) ?_;refine aB.take rfl (aS (o':=1) Tryz.underlying191 rfl Tryz.sizeOf189 rfl rfl) ?_ (fun _ h=>h.sel [1,2,3,4] (by decide));refine aB.take rfl (ai (u:=.map _) Tryz.isAgg189 rfl (fun w hw=>hw.aq (i:=2) rfl _ rfl)) ?_ (fun _ h=>h.sel [1,2,3,4] (by decide));refine bW ?_;refine aB.take rfl (ai (u:=.map _) Tryz.isAgg189 rfl (fun w hw=>hw.aq (i:=2) rfl _ rfl)) ?_ (fun _ h=>h.sel [1,2,3,4] (by decide));refine ad ?_;refine aB.take rfl (yG (es:=es) (k:=(gV L ((k:Int)+1))) Tryz.underlying189 Tryz.underlying3 Tryz.zeroValue49 rfl rfl (fun w hw=>hw.fC (i:=3) rfl)) ?_ (fun _ h=>h.sel [1,2,3,4] (by decide));refine gg ?_;refine aB.ef rfl (cu (us:=[.int .i64 _]) (σ':=fun _=>[_,_,_,_,_,_]) Tryz.underlying49 Tryz.sizeOf3 Tryz.zeroValue3 rfl rfl rfl (by decide) (by decide) (fun _=>rfl)) (fun _ _ _ h=>h.sel [1,2,3,4] (by decide)) (fun g39=>?_);refine aB.ef rfl (cm (sz:=1) (σ':=fun _=>[_,_,_,_,_,_]) Tryz.underlying49 cT rfl (by decide) rfl rfl (i:=0) rfl (fun w hw=>hw.fk (i:=5) rfl) rfl (by simp[Value.oneCell']) (by omega) (by omega) (fun _=>rfl)) (fun _ _ _ h=>h.sel [1,2,3,4] (by decide)) (fun⟨A40,c40⟩=>?_);refine aB.aX rfl (mK (m:=es.map KE.fA) (k:=(gV L ((k:Int)+1))) (u:=.slice A40 ((dY es (gV L ((k:Int)+1))).length+1) c40) (σ':=[_,_,_,_,_,_]) Tryz.underlying189 Tryz.underlying3 rfl rfl rfl (i:=4) rfl rfl) (fun h=>absurd rfl h) (fun _=>?_);refine bS ?_;exact nl fun w hw=>⟨rfl,(k+1,kf es ⟨(gV L ((k:Int)+1)),A40,c40,dY es (gV L ((k:Int)+1))++[(k:Int)+1]⟩),(by simp only;omega),⟨rfl,rfl,rfl,jI,trivial⟩,⟨⟨by simp only;omega,hms.step rfl A40 c40⟩,(St.putK (hw.sel [0,1,4,2,3] (by decide))).sel [2,3,0,1] (by decide)⟩⟩
    ·obtain rfl:k=L.length - 1:=by omega
     refine WP.exit (an ?_);refine gv ?_;refine vl (eW) ?_;refine sg rfl ?_;refine bS ?_;refine vl (ai (u:=.map _) Tryz.isAgg189 rfl (fun w hw=>hw.aq (i:=1) rfl _ rfl)) ?_;refine aj.ef (Kv (m:=(es.map KE.fA)) (σ'':=fun _=>[_,_,_,_]) Tryz.underlying189 rfl (i:=2) rfl (fun _=>rfl)) (fun q45=>?_);refine gg ?_;refine WP.bm (X:=List Nat×Nat) [3,6,45] (fun p=>[]) (fun p w=>(p.1.Nodup∧(∀j∈p.1,j<es.length)∧p.1.length+p.2=es.length)∧St w0 (ay []) [.cl b1 143 [.slice (some ⟨ab,ao,none⟩) L.length c],.cl b3 191 [.slice (some ⟨ab,ao,none⟩) L.length c,.map (some mp18)],yg mp18 q45 (es.map KE.fA) p.1,j4 (jG L es p.1)] w) (fun p=>p.2) ([],es.length) trivial (fun w hw=>⟨⟨by simp,by simp,by simp⟩,by rw[BC];exact(hw.sel [0,1,2,3] (by decide))⟩) (fun p ρ0=>?_);refine WP.fact (fun⟨hdn0,hdl0,hdk⟩=>?_);refine gg ?_;refine aj.ef (RW (m:=(es.map KE.fA)) (done:=p.1) (σ'':=fun _=>[_,_,_,_]) rfl (i:=2) rfl (fun _=>rfl)) (fun o=>?_);refine aj.fact (fun hnx=>?_);refine vl (FA (m:=(es.map KE.fA)) rfl) ?_;refine gg ?_;refine WP.cond rfl (fun h47=>?_) (fun h47=>?_)
     ·obtain⟨j,rfl⟩:∃j,o=some j:=Option.isSome_iff_exists.1 h47;have hj:j<es.length∧j∉p.1:=by have h:j<(es.map KE.fA).length∧j∉p.1:=hnx;simpa using h
      obtain⟨e,hpj⟩:∃e,es[j]?=some e:=⟨_,List.getElem?_eq_getElem hj.1⟩;have hpe:(es.map KE.fA)[j]?=some e.fA:=by rw[List.getElem?_map,hpj];rfl
      have hm:=List.mem_of_getElem? hpj;have hel0:=hms.entry hm;have hel1:=hms.some e hm;obtain⟨done,n⟩:=p;obtain⟨ek,eA,ec,el⟩:=e;dsimp only[AB] at*;have hel:0<el.length:=List.length_pos_iff.2 hel1;have hmem:∀x∈el,0≤x∧x<L.length:=fun x hx=>by rw[hel0] at hx;have:=tr.1 hx;omega
      have hnd:el.Nodup:=by rw[hel0];exact(qv _ _).imp fun h=>by omega
      have hdn:(done++[j]).Nodup:=by
        rw[List.nodup_append]
        exact ⟨hdn0, by simp, fun a ha b hb e => by obtain rfl : b = j := by simpa using hb
                                                    exact hj.2 (e ▸ ha)⟩
      have hdl:∀i∈done++[j],i<es.length:=fun i hi=>by
        rcases List.mem_append.1 hi with hi | hi
        · exact hdl0 i hi
        · obtain rfl : i = j := by simpa using hi
          exact hj.1
      have hn1:0<n:=by
        have h:=Oi hdn hdl;simp at h;omega
      refine cK ?_;refine vl (J7 (m:=(es.map KE.fA)) (done:=done) (j:=j) (p:=(ek,Value.slice eA el.length ec)) rfl (i:=2) rfl hpe) ?_;refine vl (bR (v:=.slice eA el.length ec) rfl rfl) ?_;refine bW ?_;refine WP.pre ?_ (fun w hw=>St.ad2 (BU hpj hj.2) (hw.sel [3,0,1,2] (by decide)));refine WP.holds (fun w hw=>hw.aM (i:=0) rfl hel) (fun⟨gb,hgb⟩=>?_);dsimp only at hgb;subst hgb;refine bW ?_;refine mv rfl ?_;refine aj.ef (ck Tryz.call128 (Jz gb ec (some ⟨ab,ao,none⟩) c L hL (some mp18) b3 b1 el (fun x hx=>hmem x hx) hnd hel) [0] [1,2,3,4] rfl (fun w hw=>⟨⟨hw.rd hz ax,hw.aq (i:=3) rfl 0 rfl,hw.aq (i:=2) rfl 0 rfl⟩,fun b o e=>by cases e;exact fun e2=>hw.II hab ⟨_,List.mem_of_getElem? (i:=0) rfl,_,rfl,e2⟩,hw.K3 (i:=3) (j:=0) rfl rfl (by decide),hw.K3 (i:=2) (j:=0) rfl rfl (by decide)⟩) (τ:=fun _=>[_,_,_,_,_]) (fun _=>rfl)) (fun _=>?_);refine aj.fact (fun _=>?_);exact nl fun w hw=>⟨rfl,(done++[j],n - 1),(by simp only;omega),⟨rfl,rfl,rfl,trivial⟩,⟨⟨hdn,hdl,by simp only[List.length_append,List.length_singleton];omega⟩,by dsimp only;rw[yW hpj];exact(St.ad1 (e':=jM L ⟨ek,some ⟨gb,0,none⟩,ec,el⟩) (by unfold jG;rw[List.length_mapIdx];exact hj.1) (hw.sel [4,0,1,2,3] (by decide))).sel [1,2,3,0] (by decide)⟩⟩
     ·have ho:o=none:=Option.isNone_iff_eq_none.1 (by simpa using h47);subst ho;have hall:∀j<es.length,j∈p.1:=by have h:∀j<(es.map KE.fA).length,j∈p.1:=hnx;simpa using h
      refine WP.exit (an ?_);refine sq ?_;refine WP.pre ?_ (fun w hw=>St.ad8 (mb:=mp18) (es:=es.map (jM L)) (by rw[show (es.map (jM L)).map KE.fA=es.map KE.fA by rw[List.map_map];exact List.map_congr_left (fun e _=>E8 L e)];have h:=St.TW (hw.sel [2,3,0,1] (by decide));rw[AS hall] at h;exact h.sel [0,1,2,3] (by decide)));have hes:∀a,dY (es.map (jM L)) a=ez L a:=fun a=>by rw[Ei,hms.lst];rfl
      have hpl:(PT L 0).length≤1000:=by rw[CQ hP hne];exact hL
      refine gv ?_;refine vl (au (cs:=[.slice _ _ _,.map _]) Tryz.isAgg191 Tryz.sizeOf191 rfl (fun w hw=>hw.aq (i:=2) rfl _ rfl)) ?_;refine aj.ef (ck Tryz.call129 (GA ab ao c L.length mp18 0) [] [0,1,2] rfl (fun w hw=>trivial) (τ:=fun _=>[_,_,_,_,_]) (fun _=>rfl)) (fun⟨m1,m2⟩=>?_);refine aj.fact (fun _=>?_);refine eF (xC (yP ab ao c mp18 ob L hP hL hob (es.map (jM L)) hes 0 m1 m2 hpl) (hF:=fun w hw=>⟨(hw.old ab hab (ax _)).trans hob0,by have h:=(hw.sel [0,3,4] (by decide)).II hab;exact h⟩)) fun⟨A55,c55⟩ _=>?_;refine gg ?_;exact aT fun w hw=>⟨(A55,c55),by rw[hr];rfl,trivial,by rw[hr];exact hw.pk⟩
end Go.Proofs.YtbedndijejpcaaaGreat
