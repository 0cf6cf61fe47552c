/- FlexRefSizes Num FixPure FlowNum -/
import Derived.Test.YtpgjbbaplpdaiaaGreatL13
set_option linter.unusedVariables false
set_option linter.unusedSimpArgs false
set_option linter.unusedSectionVars false
set_option maxRecDepth 100000
set_option maxHeartbeats 8000000
namespace Go.Proofs.YtpgjbbaplpdaiaaGreat
open Go.RowKit
theorem info4:(Tryz.prog.info? 4).map (fun i=>(i.zero,i.size,i.bytes))=some (some (.bool false),1,1):=by kernel_rfl
theorem info169:(Tryz.prog.info? 169).map (fun i=>(i.zero,i.size,i.bytes))=some (some (.agg #[.int .i64 0,.int .i64 0,.int .i64 0,.int .i64 0,.int .i64 0]),5,40):=by kernel_rfl
def fillD {α:Type} (d:α) (vs:List α) (k:Nat):List α:=(List.range vs.length).map fun j=>if j<k then vs.getD j d else d
theorem fillD_length {α:Type} (d:α) (vs:List α) (k:Nat):(fillD d vs k).length=vs.length:=by simp[fillD]
theorem fillD_zero {α:Type} (d:α) (vs:List α):fillD d vs 0=List.replicate vs.length d:=by
  apply List.ext_getElem?;intro i
  by_cases h:i<vs.length<;>simp[fillD,h]
theorem fillD_all {α:Type} (d:α) (vs:List α) (k:Nat) (hk:vs.length≤k):fillD d vs k=vs:=by
  apply List.ext_getElem?;intro i
  by_cases h:i<vs.length
  · simp[fillD,h,show i<k by omega]
  · simp[fillD,h]
theorem fillD_at {α:Type} (d:α) (vs:List α) (k i:Nat) {v:α} (h:vs[i]?=some v) (hi:i<k):(fillD d vs k)[i]?=some v:=by
  have hk:=(List.getElem?_eq_some_iff.1 h).1;have hv:vs[i]=v:=(List.getElem?_eq_some_iff.1 h).2;simp[fillD,hk,hv,hi]
theorem fillD_succ {α:Type} (d:α) (vs:List α) (k:Nat) {v:α} (h:vs[k]?=some v):(fillD d vs k).set k v=fillD d vs (k+1):=by
  have hk:=(List.getElem?_eq_some_iff.1 h).1;apply List.ext_getElem?;intro i
  by_cases hi:i=k
  · subst hi
    have hv:vs[i]=v:=(List.getElem?_eq_some_iff.1 h).2;simp[fillD,hk,hv]
  · rw [List.getElem?_set_ne (Ne.symm hi)]
    by_cases hl:i<vs.length
    · simp only [fillD, List.getElem?_map, List.getElem?_range hl, Option.map_some]
      congr 1
      by_cases h1:i<k<;>by_cases h2:i<k+1<;>simp[h1,h2]<;>omega
    · simp[fillD,hl]
abbrev ritI (A:Option Addr) (n c:Nat) (xs:List FItem):HI:=.row 169 5 A n c (xs.flatMap FItem.enc)
theorem ritI_snoc (A:Option Addr) (n c:Nat) (xs:List FItem) (x:FItem):ritI A n c (xs++[x])=.row 169 5 A n c (xs.flatMap FItem.enc++x.enc):=by simp[ritI]
abbrev outI (b n:Nat) (vs:List Int):HI:=.row 3 1 (some ⟨b,0,none⟩) n n (vs.map (Value.int .i64))
abbrev frI (b n:Nat) (vs:List Bool):HI:=.row 4 1 (some ⟨b,0,none⟩) n n (vs.map Value.bool)
abbrev natsI (A:Option Addr) (c:Nat) (l:List Nat):HI:=.row 3 1 A l.length c (l.map fun j:Nat=>Value.int .i64 (j:Int))
theorem outI_zero (b n:Nat):outI b n (List.replicate n 0)=.row 3 1 (some ⟨b,0,none⟩) n n (List.replicate n (.int .i64 0)):=by simp[outI]
theorem frI_zero (b n:Nat):frI b n (List.replicate n false)=.row 4 1 (some ⟨b,0,none⟩) n n (List.replicate n (.bool false)):=by simp[frI]
theorem natsI_snoc (A:Option Addr) (c:Nat) (l:List Nat) (x:Nat):natsI A c (l++[x])=.row 3 1 A (l.length+1) c ((l.map fun j:Nat=>Value.int .i64 (j:Int))++[.int .i64 (x:Int)]):=by simp[natsI]
theorem same_to {g:Bool} {room:Int} {es:List FE} {p:Nat}:∀{q:Nat},p≤q→kth es p=kth es q→wtd g room es p=wtd g room es q∧moreTo g room es p=moreTo g room es q∧upto (froze g room es) es p=upto (froze g room es) es q
  | 0, h, _ => by obtain rfl : p = 0 := by omega
                  exact⟨rfl,rfl,rfl⟩
  | q + 1, h, hk => by
    by_cases e:p=q+1
    · subst e;exact⟨rfl,rfl,rfl⟩
    · have h1 := kth_mono es (i := p) (j := q) (by omega)
      have h2:=kth_step es q;obtain⟨i1,i2,i3⟩:=same_to (g:=g) (room:=room) (es:=es) (p:=p) (q:=q) (by omega) (by omega);rw[i1,i2,i3];cases he:es[q]? with
      | none =>
        refine⟨by simp[wtd,he],by simp[moreTo,he],?_⟩;apply List.ext_getElem?;intro i;simp only[upto,List.getElem?_mapIdx];cases hi:es[i]? with
        | none=>rfl
        | some x =>
          have h3:=(List.getElem?_eq_some_iff.1 hi).1;have h4:=List.getElem?_eq_none_iff.1 he;simp[show i<q by omega,show i<q+1 by omega]
      | some x =>
        cases hf:x.fr with
        | true=>exact⟨(wtd_shut he hf).symm,(more_shut he hf).symm,(upto_skip _ _ _ he (by simp[froze,hf])).symm⟩
        | false=>have:=kth_open he hf;omega
theorem map_it (g:Bool) (room:Int) (es:List FE):(round g room es).map FE.it=es.map FE.it:=by
  apply List.ext_getElem?;intro i;simp only[round,List.getElem?_map,List.getElem?_mapIdx];cases es[i]? with
  | none=>rfl
  | some e=>simp only[Option.map_some];congr 1;unfold froze;split<;>rfl
theorem start_it (g:Bool) (l:List FItem):(l.map (start g)).map FE.it=l.map FItem.sound:=by simp[start,Function.comp_def]
theorem start_size (g:Bool) (l:List FItem):(l.map (start g)).map FE.size=l.map basic:=by simp[start,Function.comp_def]
theorem fit_sound (x:FItem):x.sound.fit x.sound.base=basic x:=sound_fit x _
theorem start_fr {g:Bool} {x:FItem} {c:Bool} (hc:c=true↔(g=true∧(x.sound.grow=0∨basic x<x.sound.base))∨(g=false∧(x.sound.shrink=0∨x.sound.base<basic x))):(start g x).fr=c:=by
  unfold start;rw[Bool.eq_iff_iff,hc];cases g<;>simp
theorem sg_t {g:Bool} (h:(!g)=false):sgnG g=1:=by simp[sgnG,show g=true by simpa using h]
theorem sg_f {g:Bool} (h:(!g)=true):sgnG g= -1:=by simp[sgnG,show g=false by simpa using h]
theorem froze_size {g:Bool} {room:Int} {es:List FE} {i:Nat} {e:FE} (hf:e.fr=false):(froze g room es i e).size=e.it.fit (want g room es i e):=by simp[froze,hf]
theorem froze_fr {g:Bool} {room:Int} {es:List FE} {i:Nat} {e:FE} {c:Bool} (hf:e.fr=false) (hc:c=judge (moreTo g room es es.length) (gap g room es i e)):(froze g room es i e).fr=c:=by simp[froze,hf,hc]
theorem set_map {α β:Type} (f:α→β) {l l':List α} {i:Nat} {a:α} {b:β} (h:l.set i a=l') (hb:f a=b):(l.map f).set i b=l'.map f:=by rw[←h,←hb,List.map_set]
theorem map_at {α β:Type} (f:α→β) {l:List α} {i:Nat} {a:α} {b:β} (h:l[i]?=some a) (hb:f a=b):(l.map f)[i]?=some b:=by rw[List.getElem?_map,h,←hb];rfl
theorem rsizes_ct (A:Option Addr) (c:Nat) (l:List FItem) (room:Int) (hl:l.length≤64):
    Ct Tryz.prog 126 #[.slice A l.length c,.int .i64 room] [] (fun w=>RdE w A 5 FItem.enc l) (X:=Option Addr×Nat) (fun p=>.slice p.1 l.length p.2) (fun _=>True)
      (fun p=>[.row 3 1 p.1 l.length p.2 ((sizes l room).map (Value.int .i64))]):=by
  refine Ci fun w0 hz=>?_;refine gg ?_;refine WP.condP rfl (fun h=>absurd h (by omega)) (fun h26=>?_);refine gg ?_;refine vl (vC (to_lot _ _)) ?_;refine gg ?_;refine WPL.ef (x_make1 (n:=l.length) (σ':=fun _=>[_]) Tryz.underlying55 int_info rfl rfl rfl rfl rfl (by omega) (by omega) (fun _=>rfl)) (fun g31=>?_);refine av ?_;refine nl (oo ?_);refine sqR ?_;refine av ?_;refine nl (oo ?_)
  iterate 2 refine sq ?_
  refine WP.pre ?_ (fun w hw=>(hw.nilRow 169 5).sel [1,0] (by decide));refine gg ?_;refine WP.loopK (X:=Nat×Option Addr×Nat) [0,1,6] (fun p=>[(5,.slice p.2.1 p.1 p.2.2),(7,.int .i64 (tot l p.1)),(8,.int .i64 (p.1:Int))]) (fun p w=>p.1≤l.length∧St w0 (foots []) [ritI p.2.1 p.1 p.2.2 ((l.take p.1).map FItem.sound),outI g31 l.length (fillD 0 (l.map basic) p.1)] w) (fun p=>l.length - p.1) (0,none,0) ⟨rfl,by rw[tot_zero];rfl,rfl,trivial⟩ (fun w hw=>⟨by omega,by rw[fillD_zero,List.length_map,outI_zero];exact hw⟩) (fun p ρ0=>?_);obtain⟨k,A1,c1⟩:=p;dsimp only;refine WP.fact (fun hk=>?_);refine gg ?_;refine WP.condP rfl (fun h35=>?_) (fun h35=>?_)
  ·have hk':k<l.length:=by omega
   obtain⟨x,hx⟩:∃x,l[k]?=some x:=⟨_,List.getElem?_eq_getElem hk'⟩;obtain⟨b,o,rfl,hc⟩:=hz k x hx;have hb1:=tot_bd l k;have hb2:=basic_bd x;have htl:(l.take k).length=k:=by simp;omega
   refine n8 ?_;refine vl (v_loadA (cs:=[.int .i64 _,.int .i64 _,.int .i64 _,.int .i64 _,.int .i64 _]) Tryz.isAgg169 Tryz.sizeOf169 rfl (fun w hw=>hw.old_at hc (not_foots_nil _))) ?_;refine eF (xC (rsound_ct x)) fun _ _=>?_;refine WPL.ef (xN (L5 rfl)) fun g44=>?_;refine WPL.ef (xP 0 2) fun⟨A45,c45⟩=>?_;refine av ?_;refine WPL.pre ?_ (fun w hw=>(hw.sel [0,1] (by decide)));have hxs:((l.take (k+1)).map FItem.sound)[k]?=some x.sound:=by rw[takeSnocF hx,List.map_append,List.getElem?_append_right (by simp;omega),List.length_map,htl,Nat.sub_self];rfl
   refine WPL.pre (S':=St w0 (foots []) [ritI A45 (k+1) c45 ((l.take (k+1)).map FItem.sound),outI g31 l.length (fillD 0 (l.map basic) k)]) ?_ (fun w hw=>by rw[takeSnocF hx,List.map_append,show [x].map FItem.sound=[x.sound] from rfl,ritI_snoc];exact hw);refine WPL.holds (fun w hw=>hw.row_pos (i:=0) rfl (by omega)) (fun⟨xb,hA⟩=>?_);subst hA;refine gg ?_;refine wP (some 13) [0,1] [pT 0,pT 1,pT 2,pT 3,pT 4,pT 5,pT 6,pT 7,pT 8,pT 9,pT 10,pF 11,pT 12,pF 13] ?_;refine n5 ?_;refine tE rfl (v_loadA (cs:=[.int .i64 _,.int .i64 _,.int .i64 _,.int .i64 _,.int .i64 _]) Tryz.isAgg169 Tryz.sizeOf169 rfl (fun w hw=>hw.row_at (i:=0) rfl _ (fun jj u hu=>by rw[Nat.zero_add];exact flat_at FItem.enc 5 (fun _=>rfl) _ k jj x.sound u hxs hu))) ?_;refine gg ?_;refine tD (vR 0 (flat_at FItem.enc 5 (fun _=>rfl) _ k 0 x.sound _ hxs rfl)) ?_;refine dG (xC (rfit_ct x.sound x.sound.base)) fun _ _=>?_;rw[fit_sound x];refine gg ?_;refine WPD.ef0 rfl (x_storeRow' (u:=.int .i64 _) (xs':=(fillD 0 (l.map basic) (k+1)).map (Value.int .i64)) (σ':=[_,_]) Tryz.sizeOf3 rfl rfl (i:=1) rfl (by simp[fillD_length];omega) (by rw[Nat.zero_add,Nat.mul_one];exact set_map _ (fillD_succ 0 _ k (map_at basic hx rfl)) rfl) rfl) (fun h=>absurd rfl h) (fun _=>?_);refine gg ?_;refine vl (vR 1 (map_at _ (fillD_at 0 (l.map basic) (k+1) k (map_at basic hx rfl) (by omega)) rfl)) ?_;refine av ?_;rw[←tot_succ l k x hx];refine n6 ?_;exact nl fun w hw=>⟨rfl,(k+1,_,c45),(by simp only;omega),⟨rfl,rfl,rfl,jS,jI,jS,trivial⟩,by simp only;omega,hw.pk⟩
  ·obtain rfl:k=l.length:=by omega
   rw[fillD_all 0 (l.map basic) l.length (by simp),List.take_length];refine WP.exit (onto_of ?_);refine n4 ?_;rw[show decide (tot l l.length<lot room)=grows l room from rfl];refine gg ?_;refine WPL.ef (x_make1 (n:=l.length) (σ':=fun _=>[_,_,_]) Tryz.underlying189 info4 rfl rfl rfl rfl rfl (by omega) (by omega) (fun _=>rfl)) (fun g70=>?_);refine gg ?_;refine WP.loopK (X:=Nat) [0,1,5,6,9,10] (fun k=>[(11,.int .i64 (k:Int))]) (fun k w=>k≤l.length∧St w0 (foots []) [ritI A1 l.length c1 (l.map FItem.sound),outI g31 l.length (l.map basic),frI g70 l.length (fillD false ((l.map (start (grows l room))).map FE.fr) k)] w) (fun k=>l.length - k) 0 ⟨rfl,trivial⟩ (fun w hw=>⟨by omega,by rw[fillD_zero,List.length_map,List.length_map,frI_zero];exact hw⟩) (fun k ρ0=>?_);refine WP.fact (fun hk=>?_);refine gg ?_;refine WP.condP rfl (fun h74=>?_) (fun h74=>?_)
   ·have hk':k<l.length:=by omega
    obtain⟨x,hx⟩:∃x,l[k]?=some x:=⟨_,List.getElem?_eq_getElem hk'⟩;have hxs:(l.map FItem.sound)[k]?=some x.sound:=map_at _ hx rfl;refine WP.holds (fun w hw=>hw.row_pos (i:=0) rfl (by omega)) (fun⟨xb,hA⟩=>?_);subst hA;refine gg ?_;refine WP.drawS (some 48) [(0,true),(1,true),(2,true),(3,true),(4,true),(5,true),(6,true),(7,true),(8,true),(9,true),(10,true),(11,true),(12,true),(13,true),(14,true),(15,true),(16,true),(17,true),(18,true),(19,true),(20,true),(21,true),(22,true),(23,true),(24,true),(25,true),(26,true),(27,true),(28,true),(29,true),(30,true),(31,true),(32,true),(33,true),(34,true),(35,true),(36,true),(37,true),(38,true),(39,true),(40,true),(41,true),(42,true),(43,true),(44,true),(45,true),(46,true),(47,true),(48,false)] mixed (by kernel_rfl) (by decide) (fun _ h=>h.drawn) ?_;refine n4 ?_;refine WPD.splitB 80 rfl (fun h80=>?_) (fun h80=>?_)
    case' _=>
     refine gg ?_;refine tD (vR 0 (flat_at FItem.enc 5 (fun _=>rfl) _ k 3 x.sound _ hxs rfl)) ?_;refine n2 ?_;refine WPD.split 87 rfl (fun h87=>?_) (fun h87=>?_)
     case' _=>
      refine dS ?_;refine dS ?_;refine dS ?_;refine dS ?_;refine dS ?_;refine dS ?_;refine dS ?_;refine dS ?_;refine dS ?_;refine dS ?_;refine n3 ?_;refine dS ?_;refine dS ?_;refine dS ?_;refine dS ?_
     rotate_left
     case' _=>
      refine gg ?_;refine tD (vR 0 (flat_at FItem.enc 5 (fun _=>rfl) _ k 0 x.sound _ hxs rfl)) ?_;refine gg ?_;refine tD (vR 1 (map_at _ (map_at basic hx rfl) rfl)) ?_;refine n4 ?_;refine WPD.split 100 rfl (fun h100=>?_) (fun h100=>?_)
      case' _=>
       refine dS ?_;refine dS ?_;refine dS ?_;refine dS ?_
      rotate_left
      case' _=>
       refine tE rfl (v_move (v:=.bool true) (congrArg Value.bool h80)) ?_;refine n2 ?_
     all_goals
      refine dS ?_;refine dS ?_;refine dS ?_;refine dS ?_;refine dS ?_;refine dS ?_;refine dS ?_;refine dS ?_;refine dS ?_;refine dS ?_;refine dS ?_;refine dS ?_;refine dS ?_;refine dS ?_;refine dS ?_;refine dS ?_;refine dS ?_;refine dS ?_
    rotate_left 3
    case' _=>
     refine dS ?_;refine dS ?_;refine dS ?_;refine dS ?_;refine dS ?_;refine dS ?_;refine dS ?_;refine dS ?_;refine dS ?_;refine dS ?_;refine dS ?_;refine dS ?_;refine dS ?_;refine dS ?_;refine dS ?_;refine dS ?_;refine dS ?_;refine dS ?_;refine n2 ?_;refine tE rfl (v_move (v:=.bool false) (congrArg Value.bool h80)) ?_;refine gg ?_;refine tD (vR 0 (flat_at FItem.enc 5 (fun _=>rfl) _ k 4 x.sound _ hxs rfl)) ?_;refine n2 ?_;refine WPD.split 110 rfl (fun h110=>?_) (fun h110=>?_)
     case' _=>
      refine dS ?_;refine dS ?_;refine dS ?_;refine dS ?_;refine dS ?_;refine dS ?_;refine dS ?_;refine dS ?_;refine dS ?_;refine dS ?_
     rotate_left
     case' _=>
      refine gg ?_;refine tD (vR 0 (flat_at FItem.enc 5 (fun _=>rfl) _ k 0 x.sound _ hxs rfl)) ?_;refine gg ?_;refine tD (vR 1 (map_at _ (map_at basic hx rfl) rfl)) ?_
    all_goals
     refine gg ?_;refine WPD.ef0 rfl (x_storeRow' (u:=.bool _) (xs':=(fillD false ((l.map (start (grows l room))).map FE.fr) (k+1)).map Value.bool) (σ':=[_,_,_]) Tryz.sizeOf4 rfl rfl (i:=2) rfl (by simp[fillD_length];omega) (by rw[Nat.zero_add,Nat.mul_one];exact set_map _ (fillD_succ false _ k (map_at FE.fr (map_at (start (grows l room)) hx rfl) (start_fr (by rw[h80];simp;omega)))) rfl) rfl) (fun h=>absurd rfl h) (fun _=>?_);refine n5 ?_;exact nl fun w hw=>⟨rfl,k+1,(by omega),⟨rfl,jS,jI,jS,jS,jB,jS,trivial⟩,by omega,hw⟩
   ·obtain rfl:k=l.length:=by omega
    rw[fillD_all false ((l.map (start (grows l room))).map FE.fr) l.length (by simp)];refine WP.exit (onto_of ?_);refine gg ?_;refine WP.loopK (X:=List FE) [0,1,5,6,9,10] (fun es=>[]) (fun es w=>(es.length=l.length∧oks es∧es.map FE.it=l.map FItem.sound∧(final (grows l room) (lot room) es).map FE.size=sizes l room)∧St w0 (foots []) [ritI A1 l.length c1 (l.map FItem.sound),outI g31 l.length (es.map FE.size),frI g70 l.length (es.map FE.fr)] w) (fun es=>kth es es.length) (l.map (start (grows l room))) trivial (fun w hw=>⟨⟨by simp,start_oks _ _,start_it _ _,rfl⟩,by rw[start_size];exact hw⟩) (fun es ρ0=>?_);refine WP.fact (fun⟨hlen,hok,hit,hfin⟩=>?_);refine WP.block ?_;refine sqR ?_
    iterate 2 refine av ?_
    refine nl (oo ?_);refine sqR ?_;refine av ?_;refine nl (oo ?_);refine sqR ?_;refine av ?_;refine nl (oo ?_)
    iterate 2 refine sq ?_
    refine WP.pre ?_ (fun w hw=>(hw.nilRow 3 1).nilRow 3 1);refine gg ?_;refine WP.loopK (X:=Nat×(Option Addr×Nat)×(Option Addr×Nat)) [0,1,5,6,9,10] (fun p=>[(12,.int .i64 ((lot room) - took es p.1)),(13,intsV p.2.1.1 p.2.1.2 (wts (grows l room) es p.1)),(14,.slice p.2.2.1 (ats es p.1).length p.2.2.2),(15,.int .i64 (p.1:Int))]) (fun p w=>p.1≤l.length∧St w0 (foots []) [ritI A1 l.length c1 (l.map FItem.sound),outI g31 l.length (es.map FE.size),frI g70 l.length (es.map FE.fr),intsI p.2.1.1 p.2.1.2 (wts (grows l room) es p.1),natsI p.2.2.1 p.2.2.2 (ats es p.1)] w) (fun p=>l.length - p.1) (0,(none,0),(none,0)) ⟨by rw[show (lot room) - took es (0,((none:Option Addr),0),((none:Option Addr),0)).1=(lot room) by simp[took]];rfl,rfl,rfl,rfl,trivial⟩ (fun w hw=>⟨by omega,hw⟩) (fun p ρ0=>?_);obtain⟨k,⟨wA,wc⟩,⟨aA,ac⟩⟩:=p;dsimp only;refine WP.fact (fun hk=>?_);refine gg ?_;refine WP.condP rfl (fun h129=>?_) (fun h129=>?_)
    ·have hk':k<es.length:=by omega
     obtain⟨e,he⟩:∃e,es[k]?=some e:=⟨_,List.getElem?_eq_getElem hk'⟩;have hxe:(l.map FItem.sound)[k]?=some e.it:=by rw[←hit,List.getElem?_map,he];rfl
     have hok1:=hok k e he;have hmb:=mul_bd hok1;have hob:=took_bd hok k;have hlb:=lot_bd room;have hwl:(wts (grows l room) es k).length≤k:=by rw[kth_wts];exact kth_le es _
     have hal:(ats es k).length≤k:=kth_le es k;unfold FE.ok at hok1;refine WP.holds (fun w hw=>hw.row_pos (i:=0) rfl (by omega)) (fun⟨xb,hA⟩=>?_);subst hA;refine n8 ?_;refine vl (v_load1 (u:=.bool e.fr) Tryz.isAgg4 rfl (fun w hw=>hw.row_at1 (i:=2) rfl (map_at Value.bool (map_at FE.fr he rfl) rfl) (by omega))) ?_;refine gg ?_;refine WP.cond rfl (fun h135=>?_) (fun h135=>?_)
     ·have hob:=took_bd hok k;refine gg ?_;refine vl (vR 1 (map_at _ (map_at FE.size he rfl) rfl)) ?_;refine av ?_;rw[show lot room - took es k - e.size=lot room - took es (k+1) by rw[took_shut he h135];omega];refine gg ?_;refine WP.exit (onto_of ?_);refine n4 ?_;exact nl fun w hw=>⟨rfl,(k+1,(wA,wc),(aA,ac)),(by simp only;omega),⟨rfl,(by rw[wts_shut he h135];rfl),(by rw[ats_shut he h135];rfl),rfl,rfl,rfl,rfl,rfl,rfl,rfl,trivial⟩,by simp only;omega,by simp only[wts_shut (g:=(grows l room)) he h135,ats_shut he h135];exact hw.pk⟩
     ·refine gg ?_;refine vl (vR 0 (flat_at FItem.enc 5 (fun _=>rfl) _ k 0 e.it _ hxe rfl)) ?_;refine av ?_;rw[show lot room - took es k - e.it.base=lot room - took es (k+1) by rw[took_open he h135];omega];refine gg ?_;refine WPL.ef (xN (L1 rfl)) fun g151=>?_;refine WPL.ef (xP 4 5) fun⟨A152,c152⟩=>?_;refine gg ?_;refine WP.cond rfl (fun h153=>?_) (fun h153=>?_)
      ·have hwt:e.it.grow=wt (grows l room) e:=by simp[wt,h153]
       refine gg ?_;refine vl (vR 0 (flat_at FItem.enc 5 (fun _=>rfl) _ k 3 e.it _ hxe rfl)) ?_;rw[hwt];refine WPL.ef (xN (L1 rfl)) fun g160=>?_;refine WPL.ef (xP 3 6) fun⟨A161,c161⟩=>?_;refine n6 ?_;exact nl fun w hw=>⟨rfl,(k+1,(A161,c161),(A152,c152)),(by simp only;omega),⟨rfl,(by rw[wts_open he h135,intsV_snoc];rfl),(by rw[ats_open he h135,List.length_append];rfl),rfl,rfl,rfl,rfl,rfl,rfl,rfl,trivial⟩,by simp only;omega,by simp only[wts_open (g:=(grows l room)) he h135,ats_open he h135,intsI_snoc,natsI_snoc];exact hw.pk⟩
      ·have hwt:e.it.shrink*e.it.base=wt (grows l room) e:=by simp[wt,h153]
       refine wP none [0,1,2,4,5] [pT 0,pT 1,pT 2,pT 3,pT 4,pT 5,pT 6,pT 7,pT 8,pT 9,pT 10,pT 11,pF 12,pF 13,pT 14] ?_;refine gg ?_;refine tD (vR 0 (flat_at FItem.enc 5 (fun _=>rfl) _ k 4 e.it _ hxe rfl)) ?_;refine gg ?_;refine tD (vR 0 (flat_at FItem.enc 5 (fun _=>rfl) _ k 0 e.it _ hxe rfl)) ?_;refine ad ?_;rw[hwt];refine dE (xN (L1 rfl)) fun g174=>?_;refine dE (xP 3 6) fun⟨A175,c175⟩=>?_;refine n6 ?_;exact nl fun w hw=>⟨rfl,(k+1,(A175,c175),(A152,c152)),(by simp only;omega),⟨rfl,(by rw[wts_open he h135,intsV_snoc];rfl),(by rw[ats_open he h135,List.length_append];rfl),rfl,rfl,rfl,rfl,rfl,rfl,rfl,trivial⟩,by simp only;omega,by simp only[wts_open (g:=(grows l room)) he h135,ats_open he h135,intsI_snoc,natsI_snoc];exact hw.pk⟩
    ·obtain rfl:k=es.length:=by omega
     refine WP.exit (onto_of ?_);refine gg ?_;refine WP.condP rfl (fun h178=>?_) (fun h178=>?_)
     ·have hk0:kth es es.length=0:=by unfold kth;omega
      rw[final_done hk0] at hfin;refine gg ?_;exact WP.ret1 Tryz.results126 (fun _ h=>h) (fun w hw=>⟨(some ⟨g31,0,none⟩,l.length),rfl,trivial,by have h:=(hw.sel [1] (by decide));rw[hfin] at h;exact h⟩)
     ·have hk0:kth es es.length≠0:=by unfold kth;omega
      have hob:=took_bd hok es.length;have hlb:=lot_bd room;have hsg:=sg_or (grows l room);have hmul:-9223372036854775808≤sgnG (grows l room)*(lot room - took es es.length)∧sgnG (grows l room)*(lot room - took es es.length)≤9223372036854775807:=by rcases hsg with ⟨_,h⟩ | ⟨_,h⟩<;>rw[h]<;>omega
      refine n4 ?_;refine WP.midK [0,1,5,6,9,10,12,13,14] (X:=Unit) (fun _=>[(16,.int .i64 (sgnG (grows l room)))]) (fun _=>St w0 (foots []) [ritI A1 l.length c1 (l.map FItem.sound),outI g31 l.length (es.map FE.size),frI g70 l.length (es.map FE.fr),intsI wA wc (wts (grows l room) es es.length),natsI aA ac (ats es es.length)]) ?_ (fun _ ρ0=>?_)
      ·refine gg ?_;refine WP.cond rfl (fun h181=>?_) (fun h181=>?_)
       ·refine n2 ?_;exact nl fun w hw=>⟨rfl,(),⟨by first | (rw[show sgnG (grows l room)= -1 from sg_f h181];rfl) | (rw[show sgnG (grows l room)=1 from sg_t h181];rfl),rfl,rfl,rfl,rfl,rfl,rfl,rfl,rfl,rfl,trivial⟩,hw⟩
       ·exact WP.skip fun w hw=>⟨rfl,(),⟨by first | (rw[show sgnG (grows l room)= -1 from sg_f h181];rfl) | (rw[show sgnG (grows l room)=1 from sg_t h181];rfl),rfl,rfl,rfl,rfl,rfl,rfl,rfl,rfl,rfl,trivial⟩,hw⟩
      ·refine n3 ?_;refine vl (v_mul rfl rfl hmul) ?_;rw[show sgnG (grows l room)*(lot room - took es es.length)=fre (grows l room) (lot room) es from rfl];refine gg ?_;refine eF (xC (rshare_ct wA wc (fre (grows l room) (lot room) es) (wts (grows l room) es es.length) (by rw[kth_wts];exact Nat.le_trans (kth_le es _) (by omega))) (hF:=fun w hw=>hw.rd_row1 (i:=3) rfl)) fun⟨P,pc⟩ _=>?_;refine av ?_;refine nl (oo ?_);refine sqR ?_;refine av ?_;refine nl (oo ?_);refine sqR ?_;refine av ?_;refine nl (oo ?_)
       iterate 2 refine sq ?_
       refine WP.pre ?_ (fun w hw=>((hw.sel [0,1,2,4,5] (by decide))).nilRow 3 1);refine gg ?_;refine WP.loopK (X:=Nat×Option Addr×Nat) [0,1,5,6,9,10,14,16,17] (fun p=>[(18,.int .i64 (moreTo (grows l room) (lot room) es p.1)),(19,intsV p.2.1 p.2.2 (wtd (grows l room) (lot room) es p.1)),(20,.int .i64 (kth es p.1:Nat))]) (fun p w=>p.1≤es.length∧St w0 (foots []) [ritI A1 l.length c1 (l.map FItem.sound),outI g31 l.length (es.map FE.size),frI g70 l.length (es.map FE.fr),natsI aA ac (ats es es.length),.row 3 1 P (wts (grows l room) es es.length).length pc ((parts (grows l room) (lot room) es).map (Value.int .i64)),intsI p.2.1 p.2.2 (wtd (grows l room) (lot room) es p.1)] w) (fun p=>es.length - p.1) (0,none,0) ⟨rfl,rfl,rfl,trivial⟩ (fun w hw=>⟨by omega,hw⟩) (fun p ρ0=>?_);obtain⟨q,vA,vc⟩:=p;dsimp only;refine WP.fact (fun hq=>?_);refine gg ?_;refine WP.condP rfl (fun h190=>?_) (fun h190=>?_)
       ·obtain⟨j,hj⟩:∃j,(ats es es.length)[kth es q]?=some j:=⟨_,List.getElem?_eq_getElem (by omega)⟩;obtain⟨e,he,hf,hkj,hjn⟩:=ats_find es _ hj;have hqj:q≤j:=by
          by_cases h:q≤j
          · exact h
          · have h1 := kth_mono es (i := j + 1) (j := q) (by omega)
            have h2:=kth_open he hf;omega
        obtain⟨hs1,hs2,hs3⟩:=same_to (g:=(grows l room)) (room:=(lot room)) hqj hkj.symm;rw[←hkj] at hj;have hxe:(l.map FItem.sound)[j]?=some e.it:=by rw[←hit,List.getElem?_map,he];rfl
        have hpg:=parts_get (g:=(grows l room)) (room:=(lot room)) he hf;have hwg:=wtd_get (g:=(grows l room)) (room:=(lot room)) he hf;have hpb:0≤(parts (grows l room) (lot room) es).getD (kth es j) 0∧(parts (grows l room) (lot room) es).getD (kth es j) 0≤67108864:=share_bd _ _ _;have hwb:=want_bd (g:=(grows l room)) (room:=(lot room)) hok he;have hgb:=gap_bd (g:=(grows l room)) (room:=(lot room)) hok he;have hmb:=more_bd (g:=(grows l room)) (room:=(lot room)) hok j;have hmn:=more_bd (g:=(grows l room)) (room:=(lot room)) hok es.length;have hwl:=kth_wtd (grows l room) (lot room) es;have hwj:=hwl j;have hkl:kth es j<(ats es es.length).length:=kth_lt he hf;have hkle:=kth_le es j;have hplen:(wts (grows l room) es es.length).length=(ats es es.length).length:=kth_wts _ _ _;have hsg:=sg_or (grows l room);have hok1:=hok j e he;unfold FE.ok at hok1;unfold gap at hgb;rw[hs1,hs2,←hkj];refine WP.holds (fun w hw=>hw.row_pos (i:=0) rfl (by omega)) (fun⟨xb,hA⟩=>?_);subst hA;refine WP.holds (fun w hw=>hw.row_pos (i:=3) rfl (by omega)) (fun⟨ab,hA⟩=>?_);subst hA;refine WP.holds (fun w hw=>hw.row_pos (i:=4) rfl (by omega)) (fun⟨pb,hA⟩=>?_);subst hA;have hmul2:-67108864≤sgnG (grows l room)*(parts (grows l room) (lot room) es).getD (kth es j) 0∧sgnG (grows l room)*(parts (grows l room) (lot room) es).getD (kth es j) 0≤67108864:=by rcases hsg with ⟨_,h⟩ | ⟨_,h⟩<;>rw[h]<;>omega
        refine gg ?_;refine WP.drawS none [(0,true),(1,true),(2,true),(3,true),(4,true),(5,true),(6,true),(7,true),(8,true),(9,true),(10,true),(11,true),(12,true),(13,true),(14,true),(15,true)] mixed (by kernel_rfl) (by decide) (fun _ h=>h.drawn) ?_;refine n3 ?_;refine tD (vX (kth es j)) ?_;refine tD (vR 3 (map_at _ hj rfl)) ?_;refine tD (vX j) ?_;refine gg ?_;refine tD (vR 0 (flat_at FItem.enc 5 (fun _=>rfl) _ j 0 e.it _ hxe rfl)) ?_;refine n3 ?_;refine tD (vX (kth es j)) ?_;refine tD (vR 4 (ints_at hpg)) ?_;refine n2 ?_;rw[show e.it.base+sgnG (grows l room)*(parts (grows l room) (lot room) es).getD (kth es j) 0=want (grows l room) (lot room) es j e from rfl];refine gg ?_;refine WPL.ef (xN (L1 rfl)) fun g210=>?_;refine WPL.ef (xP 5 6) fun⟨A211,c211⟩=>?_;refine n7 ?_;refine vl (vX (kth es j)) ?_;refine vl (vR 3 (map_at _ hj rfl)) ?_;refine vl (vX j) ?_;refine vl (v_loadA (cs:=[.int .i64 _,.int .i64 _,.int .i64 _,.int .i64 _,.int .i64 _]) Tryz.isAgg169 Tryz.sizeOf169 rfl (fun w hw=>hw.row_at (i:=0) rfl _ (fun jj u hu=>by rw[Nat.zero_add];exact flat_at FItem.enc 5 (fun _=>rfl) _ j jj e.it u hxe hu))) ?_;refine gg ?_;refine eF (xC (rfit_ct e.it (want (grows l room) (lot room) es j e))) fun _ _=>?_;refine n3 ?_;rw[show moreTo (grows l room) (lot room) es j+e.it.fit (want (grows l room) (lot room) es j e) - want (grows l room) (lot room) es j e=moreTo (grows l room) (lot room) es (j+1) by rw[more_open he hf];unfold gap;omega];refine n6 ?_;exact nl fun w hw=>⟨rfl,(j+1,A211,c211),(by simp only;omega),⟨rfl,(by rw[wtd_open he hf,intsV_snoc];rfl),(by rw[kth_open he hf];rfl),jS,jI,jS,jS,jB,jS,jS,jI,jS,trivial⟩,by simp only;omega,by simp only[wtd_open (g:=(grows l room)) (room:=(lot room)) he hf,intsI_snoc];exact hw.pk⟩
       ·have hkq:kth es q=kth es es.length:=by
          have:=kth_mono es hq;unfold kth at this ⊢;unfold kth at h190;omega
        rw[(same_to (g:=(grows l room)) (room:=(lot room)) hq hkq).1,(same_to (g:=(grows l room)) (room:=(lot room)) hq hkq).2.1];refine WP.exit (onto_of ?_);refine gg ?_;refine WP.loopK (X:=Nat) [0,1,5,6,9,10,14,18,19] (fun q=>[(22,.int .i64 (kth es q:Nat))]) (fun q w=>q≤es.length∧St w0 (foots []) [ritI A1 l.length c1 (l.map FItem.sound),outI g31 l.length ((upto (froze (grows l room) (lot room) es) es q).map FE.size),frI g70 l.length ((upto (froze (grows l room) (lot room) es) es q).map FE.fr),natsI aA ac (ats es es.length),intsI vA vc (wtd (grows l room) (lot room) es es.length)] w) (fun q=>es.length - q) 0 ⟨rfl,trivial⟩ (fun w hw=>⟨by omega,by rw[upto_zero];exact(hw.sel [0,1,2,3,5] (by decide))⟩) (fun q ρ0=>?_);refine WP.fact (fun hq=>?_);refine gg ?_;refine WP.condP rfl (fun h228=>?_) (fun h228=>?_)
        ·obtain⟨j,hj⟩:∃j,(ats es es.length)[kth es q]?=some j:=⟨_,List.getElem?_eq_getElem (by omega)⟩;obtain⟨e,he,hf,hkj,hjn⟩:=ats_find es _ hj;have hqj:q≤j:=by
           by_cases h:q≤j
           · exact h
           · have h1 := kth_mono es (i := j + 1) (j := q) (by omega)
             have h2:=kth_open he hf;omega
         obtain⟨hs1,hs2,hs3⟩:=same_to (g:=(grows l room)) (room:=(lot room)) hqj hkj.symm;rw[←hkj] at hj;have hxe:(l.map FItem.sound)[j]?=some e.it:=by rw[←hit,List.getElem?_map,he];rfl
         have hpg:=parts_get (g:=(grows l room)) (room:=(lot room)) he hf;have hwg:=wtd_get (g:=(grows l room)) (room:=(lot room)) he hf;have hpb:0≤(parts (grows l room) (lot room) es).getD (kth es j) 0∧(parts (grows l room) (lot room) es).getD (kth es j) 0≤67108864:=share_bd _ _ _;have hwb:=want_bd (g:=(grows l room)) (room:=(lot room)) hok he;have hgb:=gap_bd (g:=(grows l room)) (room:=(lot room)) hok he;have hmb:=more_bd (g:=(grows l room)) (room:=(lot room)) hok j;have hmn:=more_bd (g:=(grows l room)) (room:=(lot room)) hok es.length;have hwl:=kth_wtd (grows l room) (lot room) es;have hwj:=hwl j;have hkl:kth es j<(ats es es.length).length:=kth_lt he hf;have hkle:=kth_le es j;have hplen:(wts (grows l room) es es.length).length=(ats es es.length).length:=kth_wts _ _ _;have hsg:=sg_or (grows l room);have hok1:=hok j e he;unfold FE.ok at hok1;unfold gap at hgb;rw[hs3,←hkj];refine WP.holds (fun w hw=>hw.row_pos (i:=0) rfl (by omega)) (fun⟨xb,hA⟩=>?_);subst hA;refine WP.holds (fun w hw=>hw.row_pos (i:=3) rfl (by omega)) (fun⟨ab,hA⟩=>?_);subst hA;refine WP.holds (fun w hw=>hw.row_pos (i:=4) rfl (by rw[hwl];unfold kth;omega)) (fun⟨vb,hA⟩=>?_);subst hA;have hwn:=hwl es.length;have hul:(upto (froze (grows l room) (lot room) es) es j).length=es.length:=upto_length _ _ _;refine gg ?_;refine wP none [0,1,2,3,4] [pT 0,pT 1,pT 2,pT 3,pT 4,pT 5,pT 6,pT 7,pT 8,pT 9,pT 10,pF 11,pT 12] ?_;refine n3 ?_;refine tD (vX (kth es j)) ?_;refine tD (vR 3 (map_at _ hj rfl)) ?_;refine tD (vX j) ?_;refine tE rfl (v_loadA (cs:=[.int .i64 _,.int .i64 _,.int .i64 _,.int .i64 _,.int .i64 _]) Tryz.isAgg169 Tryz.sizeOf169 rfl (fun w hw=>hw.row_at (i:=0) rfl _ (fun jj u hu=>by rw[Nat.zero_add];exact flat_at FItem.enc 5 (fun _=>rfl) _ j jj e.it u hxe hu))) ?_;refine n2 ?_;refine tD (vX (kth es j)) ?_;refine tD (vR 4 (ints_at hwg)) ?_;refine dG (xC (rfit_ct e.it (want (grows l room) (lot room) es j e))) fun _ _=>?_;refine n6 ?_;refine vl (vX (kth es j)) ?_;refine vl (vR 3 (map_at _ hj rfl)) ?_;refine av ?_;refine vl (vX j) ?_;refine WPL.ef0 (x_storeRow' (u:=.int .i64 _) (xs':=((upto (froze (grows l room) (lot room) es) es (j+1)).map FE.size).map (Value.int .i64)) (σ':=[_,_,_,_,_]) Tryz.sizeOf3 rfl rfl (i:=1) rfl (by simp[upto_length];omega) (by rw[Nat.zero_add,Nat.mul_one];exact set_map _ (set_map FE.size (upto_succ (froze (grows l room) (lot room) es) es j he) (froze_size hf)) rfl) rfl) (fun _=>?_);refine gg ?_;refine WP.drawS (some 32) [(0,true),(1,true),(2,true),(3,true),(4,true),(5,true),(6,true),(7,true),(8,true),(9,true),(10,true),(11,true),(12,true),(13,true),(14,true),(15,true),(16,true),(17,true),(18,true),(19,true),(20,true),(21,true),(22,true),(23,true),(24,true),(25,true),(26,true),(27,true),(28,true),(29,true),(30,true),(31,true),(32,false)] mixed (by kernel_rfl) (by decide) (fun _ h=>h.drawn) ?_;refine n3 ?_;refine tD (vX (kth es j)) ?_;refine tD (vR 3 (map_at _ hj rfl)) ?_;refine n3 ?_;refine WPD.split 257 rfl (fun h257=>?_) (fun h257=>?_)
         case' _=>
          refine dS ?_;refine dS ?_;refine dS ?_;refine dS ?_;refine dS ?_;refine dS ?_;refine dS ?_;refine dS ?_;refine dS ?_;refine dS ?_;refine n2 ?_;refine dS ?_;refine dS ?_;refine dS ?_;refine dS ?_;refine dS ?_;refine dS ?_;refine dS ?_;refine dS ?_;refine dS ?_;refine dS ?_;refine ad ?_
         rotate_left
         case' _=>
          refine n3 ?_;refine WPD.split 260 rfl (fun h260=>?_) (fun h260=>?_)
          case' _=>
           refine n3 ?_;refine tD (vX (kth es j)) ?_;refine tD (vR 4 (ints_at hwg)) ?_;refine n4 ?_;refine WPD.split 269 rfl (fun h269=>?_) (fun h269=>?_)
           case' _=>
            refine dS ?_;refine dS ?_;refine dS ?_;refine dS ?_;refine dS ?_;refine dS ?_;refine dS ?_;refine dS ?_;refine dS ?_;refine dS ?_;refine ad ?_
           rotate_left
           case' _=>
            refine n3 ?_;refine WPD.split 272 rfl (fun h272=>?_) (fun h272=>?_)
            case' _=>
             refine n3 ?_;refine tD (vX (kth es j)) ?_;refine tD (vR 4 (ints_at hwg)) ?_;refine n3 ?_
            rotate_left
            case' _=>
             refine dS ?_;refine dS ?_;refine dS ?_;refine dS ?_;refine dS ?_;refine dS ?_;refine n2 ?_
          rotate_left 3
          case' _=>
           refine dS ?_;refine dS ?_;refine dS ?_;refine dS ?_;refine dS ?_;refine dS ?_;refine n6 ?_;refine WPD.split 272 rfl (fun h272=>?_) (fun h272=>?_)
           case' _=>
            refine n3 ?_;refine tD (vX (kth es j)) ?_;refine tD (vR 4 (ints_at hwg)) ?_;refine n3 ?_
           rotate_left
           case' _=>
            refine dS ?_;refine dS ?_;refine dS ?_;refine dS ?_;refine dS ?_;refine dS ?_;refine n2 ?_
         all_goals
          refine tD (vX j) ?_;refine WPD.ef0 rfl (x_storeRow' (u:=.bool _) (xs':=((upto (froze (grows l room) (lot room) es) es (j+1)).map FE.fr).map Value.bool) (σ':=[_,_,_,_,_]) Tryz.sizeOf4 rfl rfl (i:=2) rfl (by simp[upto_length];omega) (by rw[Nat.zero_add,Nat.mul_one];exact set_map _ (set_map FE.fr (upto_succ (froze (grows l room) (lot room) es) es j he) (froze_fr hf (judge_of (by unfold gap;simp;omega)))) rfl) rfl) (fun h=>absurd rfl h) (fun _=>?_);refine n5 ?_;exact nl fun w hw=>⟨rfl,j+1,(by omega),⟨(by rw[kth_open he hf];rfl),jS,jI,jS,jS,jB,jS,jS,jI,jS,trivial⟩,by omega,hw.pk⟩
        ·have hkq:kth es q=kth es es.length:=by
           have:=kth_mono es hq;unfold kth at this ⊢;unfold kth at h228;omega
         rw[(same_to (g:=(grows l room)) (room:=(lot room)) hq hkq).2.2,upto_all _ _ (Nat.le_refl _),show es.mapIdx (froze (grows l room) (lot room) es)=round (grows l room) (lot room) es from rfl];exact WP.exit fun w hw=>⟨rfl,round (grows l room) (lot room) es,(round_less hk0),⟨jS,jI,jS,jS,jB,jS,trivial⟩,⟨by rw[round_length];exact hlen,round_oks hok,by rw[map_it];exact hit,by rw[final_step hk0];exact hfin⟩,hw.pk⟩
section
variable {P:Program} {S:World→Prop} {ρ:Env} {dst:Option Tmp} {ty:TypeId} {pos:String} {af:Array Edge} {g:Option (Nat×Bool)} {t t2:TypeId} {x y:Operand} {q q':IntKind} {m n:Int}
theorem run_binQ (op:BinOp) (t2:TypeId) (hx:evo ρ x=.int q m) (hy:evo ρ y=.int q' n) (w:World) (v:Value) (h:(binOp op t (.int q m) (.int q' n)).run P w=.ok v w):
    (execOp (evo ρ) ⟨dst,.binOp op t x y t2,ty,pos,af,g⟩).run P w=.ok (.value v) w:=by
  have e:(eqGuard op t x y (.int q m) (.int q' n)).run P w=.ok () w:=by cases op<;>rfl
  simp[execOp,hx,hy,e,h,Result.andThen]
theorem v_quoT (hx:evo ρ x=.int .i64 m) (hy:evo ρ y=.int .i64 n) (h0:-9223372036854775808≤m∧m≤9223372036854775807) (h2:1≤n):OpV P S ⟨dst,.binOp .quo t x y t2,ty,pos,af,g⟩ ρ (.int .i64 (m.tdiv n)):=
  v_run fun w _ => run_binQ .quo t2 hx hy w _ (by
    have h3 : n ≠ 0 := by omega
    have h4 := IntWalk.i64_quo' m n ⟨h0.1, h0.2, h2⟩
    simp [binOp, Op.intDiv, h3, h4])
theorem v_shr1 (hx:evo ρ x=.int .i64 m) (hy:evo ρ y=.int q' 1):OpV P S ⟨dst,.binOp .shr t x y t2,ty,pos,af,g⟩ ρ (.int .i64 (m / 2)):=
  v_run fun w _ => run_binQ .shr t2 hx hy w _ (by
    have h1 : min (Int.toNat 1) IntKind.i64.bits = 1 := rfl
    have h2 : m.fdiv (2 ^ 1) = m / 2 := by rw [Int.fdiv_eq_ediv_of_nonneg _ (by decide)]; rfl
    simp [binOp, Op.shift, h1, h2]
    exact Int.fdiv_eq_ediv_of_nonneg _ (by decide))
theorem v_addU (hx:evo ρ x=.int .u64 m) (hy:evo ρ y=.int .u64 n) (h:0≤m+n∧m+n≤18446744073709551615):OpV P S ⟨dst,.binOp .add t x y t2,ty,pos,af,g⟩ ρ (.int .u64 (m+n)):=
  v_run fun w _=>run_binQ .add t2 hx hy w _ (by simp[binOp,Op.intArith,IntWalk.u64_in _ h])
theorem v_mulU (hx:evo ρ x=.int .u64 m) (hy:evo ρ y=.int .u64 n) (h:0≤m*n∧m*n≤18446744073709551615):OpV P S ⟨dst,.binOp .mul t x y t2,ty,pos,af,g⟩ ρ (.int .u64 (m*n)):=
  v_run fun w _=>run_binQ .mul t2 hx hy w _ (by simp[binOp,Op.intArith,IntWalk.u64_in _ h])
theorem wrap_u64 (z:Int):IntKind.u64.wrap z=z % 18446744073709551616:=by
  simp[IntKind.wrap,IntKind.bits,IntKind.signed]
theorem v_addUw (hx:evo ρ x=.int .u64 m) (hy:evo ρ y=.int .u64 n):OpV P S ⟨dst,.binOp .add t x y t2,ty,pos,af,g⟩ ρ (.int .u64 ((m+n) % 18446744073709551616)):=
  v_run fun w _=>run_binQ .add t2 hx hy w _ (by simp[binOp,Op.intArith,wrap_u64])
theorem v_lssU (hx:evo ρ x=.int .u64 m) (hy:evo ρ y=.int .u64 n):OpV P S ⟨dst,.binOp .lss t x y t2,ty,pos,af,g⟩ ρ (.bool (decide (m<n))):=v_run fun w _=>run_binQ .lss t2 hx hy w _ rfl
theorem v_gtrU (hx:evo ρ x=.int .u64 m) (hy:evo ρ y=.int .u64 n):OpV P S ⟨dst,.binOp .gtr t x y t2,ty,pos,af,g⟩ ρ (.bool (decide (n<m))):=v_run fun w _=>run_binQ .gtr t2 hx hy w _ rfl
theorem v_shrU (hx:evo ρ x=.int .u64 m) (hy:evo ρ y=.int q' 32):OpV P S ⟨dst,.binOp .shr t x y t2,ty,pos,af,g⟩ ρ (.int .u64 (m / 4294967296)):=
  v_run fun w _ => run_binQ .shr t2 hx hy w _ (by
    have h1 : min (Int.toNat 32) IntKind.u64.bits = 32 := rfl
    have h2 : m.fdiv (2 ^ 32) = m / 4294967296 := by rw [Int.fdiv_eq_ediv_of_nonneg _ (by decide)]; rfl
    simp only [binOp, Op.shift, h1, h2]
    rfl)
theorem v_shlU (hx:evo ρ x=.int .u64 m) (hy:evo ρ y=.int q' 32) (h:0≤m∧m*4294967296≤18446744073709551615):OpV P S ⟨dst,.binOp .shl t x y t2,ty,pos,af,g⟩ ρ (.int .u64 (m*4294967296)):=
  v_run fun w _ => run_binQ .shl t2 hx hy w _ (by
    have h1 : min (Int.toNat 32) IntKind.u64.bits = 32 := rfl
    have h2 := IntWalk.u64_in (m * 4294967296) (by omega)
    have h3 : (2 : Int) ^ 32 = 4294967296 := rfl
    simp only [binOp, Op.shift, h1, h3, h2]
    rfl)
theorem v_lowU (hx:evo ρ x=.int .u64 m) (hy:evo ρ y=.int .u64 4294967295) (h:0≤m∧m≤18446744073709551615):OpV P S ⟨dst,.binOp .and t x y t2,ty,pos,af,g⟩ ρ (.int .u64 (m % 4294967296)):=
  v_run fun w _ => run_binQ .and t2 hx hy w _ (by
    obtain ⟨k, rfl⟩ : ∃ k : Nat, m = k := ⟨m.toNat, by omega⟩
    have h1 : (BitVec.ofInt IntKind.u64.bits (k : Int) &&& BitVec.ofInt IntKind.u64.bits 4294967295).toNat = k % 4294967296 := by
      show (BitVec.ofInt 64 (k : Int) &&& BitVec.ofInt 64 ((4294967295 : Nat) : Int)).toNat = _
      rw [BitVec.ofInt_natCast, BitVec.ofInt_natCast, BitVec.toNat_and, BitVec.toNat_ofNat, BitVec.toNat_ofNat, Nat.mod_eq_of_lt (by omega : k < 2 ^ 64), Nat.mod_eq_of_lt (by decide : 4294967295 < 2 ^ 64)]
      exact Nat.and_two_pow_sub_one_eq_mod k 32
    have h2 : IntKind.u64.wrap ((k % 4294967296 : Nat) : Int) = (k : Int) % 4294967296 := by
      rw [IntWalk.u64_in _ (by omega)]; omega
    simp only [binOp, Op.intBits, h1, h2]
    rfl)
theorem v_idxA {e:TypeId} {N j k:Nat} {z:Int} {cs us:Array Value} (ht:P.underlying t=some (.array N e)) (ha:∀w,(isAgg e).run P w=.ok true w) (hz:∀w,(sizeOf e).run P w=.ok k w) (hx:evo ρ x=.agg cs) (hy:evo ρ y=.int .i64 z) (hj:z=(j:Int)) (hlt:j<N) (hu:cs.extract (j*k) (j*k+k)=us):
    OpV P S ⟨dst,.index t x y,ty,pos,af,g⟩ ρ (.agg us):=v_run fun w _=>by
  subst hj;have h1:((j:Int)<(N:Int)):=by omega
  simp[execOp,Instr.index,run_underlying ht,hx,hy,asIntOf,h1,hz,part,ha,hu];exact fun h=>absurd h (by omega)
theorem v_idx1 {e:TypeId} {N j:Nat} {z:Int} {cs:Array Value} {u:Value} (ht:P.underlying t=some (.array N e)) (ha:∀w,(isAgg e).run P w=.ok false w) (hz:∀w,(sizeOf e).run P w=.ok 1 w) (hx:evo ρ x=.agg cs) (hy:evo ρ y=.int .i64 z) (hj:z=(j:Int)) (hlt:j<N) (hu:cs[j]?=some u):
    OpV P S ⟨dst,.index t x y,ty,pos,af,g⟩ ρ u:=v_run fun w _=>by
  subst hj;have h1:((j:Int)<(N:Int)):=by omega
  simp[execOp,Instr.index,run_underlying ht,hx,hy,asIntOf,h1,hz,part,ha,hu];exact fun h=>absurd h (by omega)
theorem v_conv {src tgt:TypeId} {qs qd:IntKind} {m':Int} (hs:P.underlying src=some (.int qs)) (hd:P.underlying tgt=some (.int qd)) (hx:evo ρ x=.int q m) (hw:qd.wrap m=m'):OpV P S ⟨dst,.convert src tgt x,ty,pos,af,g⟩ ρ (.int qd m'):=v_run fun w _=>by
  subst hw;have h:(convert src tgt (.int q m)).run P w=.ok (.int qd (qd.wrap m)) w:=by simp[convert,run_underlying hs,run_underlying hd,Conv.intToInt,Result.andThen]
  simp[execOp,hx,h,Result.andThen]
end
end Go.Proofs.YtpgjbbaplpdaiaaGreat
namespace Go.Proofs.YtpgjbbaplpdaiaaGreat
def addI (a b:Int):Int:=cut (cut a+cut b)
def subI (a b:Int):Int:=cut (cut a - cut b)
def mulI (a b:Int):Int:=cut (cut a*cut b)
def divI (a b:Int):Int:=if b≤0 then 0 else cut a / cut b
def partI (a n:Int):Int:=cut (cut a*min (max n 0) 1000000 / 10000)
theorem cut_cut (n:Int):cut (cut n)=cut n:=cut_id (cut_bd n).1 (cut_bd n).2
theorem addI_bd (a b:Int):-1099511627776≤addI a b∧addI a b≤1099511627776:=cut_bd _
theorem subI_bd (a b:Int):-1099511627776≤subI a b∧subI a b≤1099511627776:=cut_bd _
theorem partI_bd (a n:Int):-1099511627776≤partI a n∧partI a n≤1099511627776:=cut_bd _
theorem ediv_bd {a b M:Int} (h:-M≤a∧a≤M) (hM:0≤M) (hb:0<b):-M≤a / b∧a / b≤M:=by
  have h1:a / b≤M:=by
    have h2:=Int.ediv_le_self b hM;exact Int.le_trans (Int.ediv_le_ediv hb h.2) h2
  refine⟨?_,h1⟩;refine Int.le_ediv_of_mul_le hb ?_;have:M*1≤M*b:=Int.mul_le_mul_of_nonneg_left (by omega) hM;rw[Int.neg_mul];omega
theorem divI_bd (a b:Int):-1099511627776≤divI a b∧divI a b≤1099511627776:=by
  unfold divI
  split
  · omega
  · exact ediv_bd (cut_bd a) (by omega) (by unfold cut;omega)
theorem cut_mul (a b:Int):cut (a*b)=if (a<0)↔(b<0) then min ((a.natAbs*b.natAbs:Nat):Int) 1099511627776 else -min ((a.natAbs*b.natAbs:Nat):Int) 1099511627776:=by
  have h1:((a.natAbs*b.natAbs:Nat):Int)=(a*b).natAbs:=by rw[Int.natAbs_mul]
  rw[h1]
  by_cases hs:(a<0)↔(b<0)
  · rw [if_pos hs]
    have:0≤a*b:=by
      by_cases ha:a<0
      · exact Int.mul_nonneg_of_nonpos_of_nonpos (by omega) (by have:=hs.1 ha;omega)
      · have hb : ¬ b < 0 := fun h => ha (hs.2 h)
        exact Int.mul_nonneg (by omega) (by omega)
    unfold cut;omega
  · rw [if_neg hs]
    have:a*b≤0:=by
      by_cases ha:a<0
      · have hb : ¬ b < 0 := fun h => hs ⟨fun _ => h, fun _ => ha⟩
        exact Int.mul_nonpos_of_nonpos_of_nonneg (by omega) (by omega)
      · have hb:b<0:=by
          by_cases h:b<0
          · exact h
          · exact absurd ⟨fun h2=>absurd h2 ha,fun h2=>absurd h2 h⟩ hs
        exact Int.mul_nonpos_of_nonneg_of_nonpos (by omega) (by omega)
    unfold cut;omega
theorem mulStep {M n a b:Int} (hn:0≤n∧n≤M) (ha:0≤a∧a≤M) (hb:0<b):min ((if b % 2=1 then min (n+a) M else n)+min (2*a) M*(b / 2)) M=min (n+a*b) M:=by
  have h1:=Int.mul_ediv_add_emod b 2;have h2:b % 2=0∨b % 2=1:=by omega
  generalize hq:b / 2=q at*
  have hq0:0≤q:=by omega
  have hab:a*b=2*(a*q)+a*(b % 2):=by
    conv=>lhs;rw[←h1]
    rw[Int.mul_add,←Int.mul_assoc,Int.mul_comm a 2,Int.mul_assoc]
  have hp:0≤a*q:=Int.mul_nonneg ha.1 hq0;have hMq:q≠0→M≤M*q:=fun hz=>by
    have:M*1≤M*q:=Int.mul_le_mul_of_nonneg_left (by omega) (by omega);omega
  have hpa:q≠0→a≤a*q:=fun hz=>by
    have:a*1≤a*q:=Int.mul_le_mul_of_nonneg_left (by omega) ha.1;omega
  have hz0:q=0→a*q=0∧M*q=0:=fun hz=>by rw[hz];simp
  have hm2:min (2*a) M*q=if 2*a≤M then 2*(a*q) else M*q:=by
    split
    · rw[Int.min_eq_left (by omega),Int.mul_assoc]
    · rw[Int.min_eq_right (by omega)]
  rw[hm2,hab]
  generalize a*q=p at*
  generalize M*q=t at*
  rcases h2 with h2 | h2
  · rw [if_neg (by omega), h2, Int.mul_zero]
    by_cases hz:q=0
    · omega
    · have := hMq hz
      have:=hpa hz
      split<;>omega
  · rw [if_pos h2, h2, Int.mul_one]
    by_cases hz:q=0
    · have := hz0 hz
      split<;>omega
    · have := hMq hz
      have:=hpa hz
      split<;>omega
theorem down_eq (a:Int) {b:Int} (hb:0<b):(if a<a.tdiv b*b then a.tdiv b - 1 else a.tdiv b)=a / b:=by
  have h1:=Int.tdiv_eq_ediv (a:=a) (b:=b);have h2:=Int.mul_ediv_add_emod a b;have h3:=Int.emod_nonneg a (by omega:b≠0);have h4:=Int.emod_lt_of_pos a hb;have h5:b.sign=1:=Int.sign_eq_one_of_pos hb
  by_cases h:0≤a∨b∣a
  · rw [if_pos h, Int.add_zero] at h1
    rw[h1,if_neg];have:a / b*b=b*(a / b):=Int.mul_comm _ _;omega
  · rw [if_neg h, h5] at h1
    have h6:a % b≠0:=fun e=>h (.inr (Int.dvd_of_emod_eq_zero e));rw[h1,if_pos]
    · omega
    · have : (a / b + 1) * b = b * (a / b) + b := by rw [Int.add_mul, Int.one_mul, Int.mul_comm]
      omega
theorem down_eq2 (a:Int) {b:Int} (hb:0<b):(if a.tmod b<0 then a.tdiv b - 1 else a.tdiv b)=a / b:=by
  have h1:=down_eq a hb;have h2:=Int.mul_tdiv_add_tmod a b;have h3:a.tdiv b*b=b*a.tdiv b:=Int.mul_comm _ _;rw[←h1]
  by_cases h:a.tmod b<0
  · rw[if_pos h,if_pos (by omega)]
  · rw[if_neg h,if_neg (by omega)]
theorem times_id (a b:Int):a*b=(a / 4294967296*(b / 4294967296))*18446744073709551616+(a % 4294967296*(b / 4294967296)+a / 4294967296*(b % 4294967296))*4294967296+a % 4294967296*(b % 4294967296):=by
  have h1:=Int.mul_ediv_add_emod a 4294967296;have h2:=Int.mul_ediv_add_emod b 4294967296
  generalize a / 4294967296=x at*
  generalize a % 4294967296=y at*
  generalize b / 4294967296=z at*
  generalize b % 4294967296=u at*
  subst h1;subst h2
  grind
end Go.Proofs.YtpgjbbaplpdaiaaGreat
namespace Go.Proofs.YtpgjbbaplpdaiaaGreat
def gI (l:List Int) (i:Nat):Int:=l.getD i 0
theorem gI_at {l:List Int} {i:Nat} {x:Int} (h:l[i]?=some x):gI l i=x:=by unfold gI;rw[List.getD_eq_getElem?_getD,h];rfl
def fixedL (k base:Int):Bool:=decide (k=1∨(k=2∧0≤base))
def ofL (k n base none:Int):Int:=if fixedL k base=false then cut none else if k=1 then cut n else partI base n
def limitL (n lk ln hk hn base:Int):Int:=max (clamp n (ofL lk ln base (-1099511627776)) (ofL hk hn base 1099511627776)) 0
theorem ofL_bd (k n base none:Int):-1099511627776≤ofL k n base none∧ofL k n base none≤1099511627776:=by
  unfold ofL
  split
  · exact cut_bd _
  · split
    · exact cut_bd _
    · exact partI_bd _ _
theorem limitL_bd (n lk ln hk hn base:Int):0≤limitL n lk ln hk hn base∧limitL n lk ln hk hn base≤1099511627776:=by
  have h1:=ofL_bd lk ln base (-1099511627776);have h2:=ofL_bd hk hn base 1099511627776;have h3:=cut_bd n;unfold limitL clamp;rw[cut_id h1.1 h1.2,cut_id h2.1 h2.2];omega
def hiP (l:List Int):Int:=l.foldl (fun m x=>max m (cut x)) 0
def loP (l:List Int):Int:=l.foldl (fun m x=>min m (cut x)) 0
def collP (l:List Int):Int:=hiP l+loP l
theorem foldMax_bd (l:List Int):∀m:Int,0≤m→m≤1099511627776→0≤l.foldl (fun m x=>max m (cut x)) m∧l.foldl (fun m x=>max m (cut x)) m≤1099511627776:=by
  induction l with
  | nil=>intro m h1 h2;exact⟨h1,h2⟩
  | cons x l ih =>
    intro m h1 h2;have:=cut_bd x;exact ih (max m (cut x)) (by omega) (by omega)
theorem foldMin_bd (l:List Int):∀m:Int,m≤0→-1099511627776≤m→l.foldl (fun m x=>min m (cut x)) m≤0∧-1099511627776≤l.foldl (fun m x=>min m (cut x)) m:=by
  induction l with
  | nil=>intro m h1 h2;exact⟨h1,h2⟩
  | cons x l ih =>
    intro m h1 h2;have:=cut_bd x;exact ih (min m (cut x)) (by omega) (by omega)
theorem hiP_bd (l:List Int):0≤hiP l∧hiP l≤1099511627776:=foldMax_bd l 0 (by omega) (by omega)
theorem loP_bd (l:List Int):loP l≤0∧-1099511627776≤loP l:=foldMin_bd l 0 (by omega) (by omega)
theorem collP_cut (l:List Int):addI (hiP l) (loP l)=collP l:=by
  have h1:=hiP_bd l;have h2:=loP_bd l;unfold addI collP;rw[cut_id (n:=hiP l) (by omega) (by omega),cut_id (n:=loP l) (by omega) (by omega),cut_id (by omega) (by omega)]
theorem collP_bd (l:List Int):-1099511627776≤collP l∧collP l≤1099511627776:=by
  have h1:=hiP_bd l;have h2:=loP_bd l;unfold collP;omega
theorem hiP_snoc {l:List Int} {k:Nat} {x:Int} (h:l[k]?=some x):hiP (l.take (k+1))=max (hiP (l.take k)) (cut x):=by
  unfold hiP;rw[List.take_add_one,h];simp
theorem loP_snoc {l:List Int} {k:Nat} {x:Int} (h:l[k]?=some x):loP (l.take (k+1))=min (loP (l.take k)) (cut x):=by
  unfold loP;rw[List.take_add_one,h];simp
def autoLeft (room size a b:Int):Int:=subI (subI (subI room size) a) b
def autoP (room size bk bn ek en base:Int):Int×Int:=
  let a:=ofL bk bn base 0
  let b:=ofL ek en base 0
  let left:=autoLeft room size a b
  if left≤0 then (a,b) else if fixedL bk base=false∧fixedL ek base=false then (left / 2,left - left / 2) else if fixedL bk base=false then (left,b) else if fixedL ek base=false then (a,left) else (a,b)
mutual
def stkAt (sizes tops bottoms:List Int):Nat→Int
  | 0=>0
  | k+1=>addI (stkStart sizes tops bottoms k) (gI sizes k)
def stkStart (sizes tops bottoms:List Int):Nat→Int
  | 0=>0
  | k+1=>addI (addI (stkStart sizes tops bottoms k) (gI sizes k)) (collP [gI bottoms k,gI tops (k+1)])
end
def stkStarts (sizes tops bottoms:List Int):List Int:=(List.range sizes.length).map (stkStart sizes tops bottoms)
def longK (l:List Int) (gap:Int):Nat→Int
  | 0=>0
  | k+1=>addI (if k=0 then longK l gap k else addI (longK l gap k) gap) (gI l k)
def longP (l:List Int) (gap:Int):Int:=longK l gap l.length
def kindJ (kind left n:Int):Int:=if (kind=4∨kind=5)∧left≤0 then 2 else if kind=3∧(left≤0∨n<2) then 0 else kind
def partJ (left k n:Int):Int:=divI (mulI left k) n
def beforeP (kind left n k:Int):Int:=
  if kindJ kind left n=1 then left else if kindJ kind left n=2 then divI left 2 else if kindJ kind left n=3 then partJ left k (n - 1) else if kindJ kind left n=4 then partJ left (2*k+1) (2*n) else if kindJ kind left n=5 then partJ left (k+1) (n+1) else 0
def jAt (kind left gap:Int) (l:List Int):Nat→Int
  | 0=>0
  | k+1=>addI (addI (if k=0 then jAt kind left gap l k else addI (jAt kind left gap l k) gap) (beforeP kind left l.length k - (if k=0 then 0 else beforeP kind left l.length ((k:Int) - 1)))) (gI l k)
def jStart (kind left gap:Int) (l:List Int) (k:Nat):Int:=addI (if k=0 then jAt kind left gap l k else addI (jAt kind left gap l k) gap) (beforeP kind left l.length k - (if k=0 then 0 else beforeP kind left l.length ((k:Int) - 1)))
def startsP (kind:Int) (l:List Int) (room gap:Int):List Int:=(List.range l.length).map (jStart kind (subI room (longP l gap)) gap l)
def acrossP (kind size room:Int):Int:=if kind=2 then divI (subI room size) 2 else if kind=3 then subI room size else 0
end Go.Proofs.YtpgjbbaplpdaiaaGreat
