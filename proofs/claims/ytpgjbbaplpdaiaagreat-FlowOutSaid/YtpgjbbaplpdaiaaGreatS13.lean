/- FlexSizes FlexRefSizes Num FixPure FlowNum Nums Lens FlowNum2 -/
import Derived.Test.YtpgjbbaplpdaiaaGreatS12
set_option linter.unusedVariables false
set_option linter.unusedSimpArgs false
set_option linter.unusedSectionVars false
set_option maxRecDepth 100000
set_option maxHeartbeats 8000000
namespace Go.Proofs.YtpgjbbaplpdaiaaGreat
open Go.RowKit
theorem info218:(Tryz.prog.info? 218).map (fun i=>(i.zero,i.size,i.bytes))=some (some (.agg #[.int .i64 0,.int .i64 0,.int .i64 0,.int .i64 0,.int .i64 0,.int .i64 0,.bool false]),7,56):=by kernel_rfl
def raw (x:FItem):FE:=⟨x.sound,basic x,false⟩
def begun0 (l:List FItem) (k:Nat):List FE:=(l.take k).map raw
theorem begun0_length (l:List FItem) (k:Nat) (h:k≤l.length):(begun0 l k).length=k:=by simp[begun0];omega
theorem begun0_succ (l:List FItem) (k:Nat) {x:FItem} (h:l[k]?=some x):begun0 l (k+1)=begun0 l k++[raw x]:=by simp[begun0,takeSnocF h]
theorem raw_fit (x:FItem):x.fit x.sound.base=basic x:=rfl
theorem entI_snoc (A:Option Addr) (n c:Nat) (es:List FE) (e:FE):entI A n c (es++[e])=.row 218 7 A n c (es.flatMap FE.enc++e.enc):=by simp[entI]
def frst (g:Bool) (_:Nat) (e:FE):FE:={e with fr:=if g then (decide (e.it.grow=0)||decide (e.it.base > e.size)) else (decide (e.it.shrink=0)||decide (e.it.base<e.size))}
theorem frst_all (g:Bool) (l:List FItem):upto (frst g) (begun0 l l.length) l.length=l.map (start g):=by
  rw[upto_all _ _ (by rw[begun0_length l _ (Nat.le_refl _)];omega)];apply List.ext_getElem?;intro i;simp only[begun0,List.getElem?_mapIdx,List.getElem?_map,List.take_length];cases l[i]? with
  | none=>rfl
  | some x=>rfl
theorem frst_cell {g:Bool} {e:FE} {c:Bool} {i:Nat} (hc:c=true↔(g=true∧(e.it.grow=0∨e.size<e.it.base))∨(g=false∧(e.it.shrink=0∨e.it.base<e.size))):e.enc.set 6 (.bool c)=(frst g i e).enc:=by
  have h2:(if g then (decide (e.it.grow=0)||decide (e.it.base > e.size)) else (decide (e.it.shrink=0)||decide (e.it.base<e.size)))=c:=by
    rw[Bool.eq_iff_iff,hc];cases g<;>simp
  simp[frst,h2]
theorem begin_ct (A:Option Addr) (c:Nat) (l:List FItem) (room:Int) (hl:l.length≤64):
    Ct Tryz.prog 186 #[.slice A l.length c,.int .i64 room] [] (fun w=>RdE w A 5 FItem.enc l) (X:=Nat×Option Addr×Nat) (fun p=>.pointer (some ⟨p.1,0,none⟩)) (fun _=>True)
      (fun p=>[tblI p.1 p.2.1 l.length p.2.2 (lot room) (grows l room),entI p.2.1 l.length p.2.2 (l.map (start (grows l room)))]):=by
  refine Ci fun w0 hz=>?_;refine gg ?_;refine vl (vC (clamp_eq (clamp_lot room) _)) ?_;refine vl (v_struct (us:=[.slice _ _ _,.int .i64 _,.bool _]) (pl:=[(0,1),(1,1),(2,1)]) Tryz.underlying216 Tryz.zeroValue216 rfl (by kernel_rfl) rfl rfl (by kernel_rfl)) ?_;refine WPL.ef xB fun b16=>?_;refine av ?_;refine nl (oo ?_);refine sq ?_;refine WP.pre ?_ (fun w hw=>hw.nilRow 218 7);refine gg ?_;refine WP.loopK (X:=Nat) [5,17,18] (fun k=>[(6,.int .i64 (tot l k)),(19,.int .i64 (k:Int))]) (fun k w=>k≤l.length∧∃p:Option Addr×Nat,St w0 (foots []) [tblI b16 p.1 k p.2 (lot room) false,entI p.1 k p.2 (begun0 l k)] w) (fun k=>l.length - k) 0 ⟨by rw[tot_zero];rfl,rfl,trivial⟩ (fun w hw=>⟨by omega,(none,0),hw⟩) (fun k ρ0=>?_);refine WP.fact (fun hk=>?_);refine WP.ex (fun⟨A1,c1⟩=>?_);dsimp only;refine gg ?_;refine WP.condP rfl (fun h20=>?_) (fun h20=>?_)
  ·have hk':k<l.length:=by omega
   obtain⟨x,hx⟩:∃x,l[k]?=some x:=⟨_,List.getElem?_eq_getElem hk'⟩;obtain⟨b,o,rfl,hc⟩:=hz k x hx;have hb1:=tot_bd l k;have hb2:=basic_bd x;have hbl:=begun0_length l k hk;refine WP.skip (onto_of ?_);refine sq ?_;refine WP.block ?_;refine sqR ?_;refine av ?_;refine vl (v_loadA (cs:=[.int .i64 _,.int .i64 _,.int .i64 _,.int .i64 _,.int .i64 _]) Tryz.isAgg195 Tryz.sizeOf195 rfl (fun w hw=>hw.old_at hc (not_foots_nil _))) ?_;refine WPL.ef xAl fun b8=>?_;refine WPL.ef0 (xW rfl) fun _=>?_;refine gg ?_;refine eF (xC (sound_ct x)) fun _ _=>?_;refine vl (v_struct (us:=[.int .i64 _,.int .i64 _,.int .i64 _,.int .i64 _,.int .i64 _,.int .i64 _,.bool _]) (pl:=[(0,5),(5,1),(6,1)]) Tryz.underlying218 Tryz.zeroValue218 rfl (by kernel_rfl) rfl rfl (by kernel_rfl)) ?_;refine WPL.ef xAl fun b9=>?_;refine WPL.ef0 (xW rfl) fun _=>?_;refine gg ?_;refine eF (xC (fit_ct x x.sound.base)) fun _ _=>?_;rw[raw_fit x];refine gg ?_;refine WPL.ef0 (xS rfl (isI rfl)) fun _=>?_;refine nl (oo ?_);refine sqR ?_
   iterate 5 refine av ?_
   rw[←tot_succ l k x hx];refine gg ?_;refine wP (some 10) [0,2,3] [pT 0,pT 1,pT 2,pT 3,pT 4,pT 5,pF 6,pF 7,pF 8,pT 9,pF 10] ?_;refine WPD.take rfl (v_move (v:=.pointer _) rfl) ?_ (fun _ h=>h.sel [0,2,3] (by decide));refine WPD.take rfl (v_move (v:=.pointer _) rfl) ?_ (fun _ h=>h.sel [0,2,3] (by decide));refine WPD.take rfl (v_nil rfl) ?_ (fun _ h=>h.sel [0,2,3] (by decide));refine WPD.take rfl (v_fieldL (o':=0) Tryz.underlying216 rfl Tryz.sizeOf214 rfl rfl) ?_ (fun _ h=>h.sel [0,2,3] (by decide));refine WPD.take rfl (v_load1 (u:=.slice _ _ _) Tryz.isAgg214 rfl (fun w hw=>hw.cl_at (i:=0) rfl _ rfl)) ?_ (fun _ h=>h.sel [0,2,3] (by decide));refine WPD.take rfl (v_loadA (cs:=[.int .i64 _,.int .i64 _,.int .i64 _,.int .i64 _,.int .i64 _,.int .i64 _,.bool _]) Tryz.isAgg218 Tryz.sizeOf218 rfl (fun w hw=>hw.cl_at (i:=2) rfl _ rfl)) ?_ (fun _ h=>h.sel [0,2,3] (by decide));refine WPD.ef rfl (x_buildSlice (us:=[.int .i64 _,.int .i64 _,.int .i64 _,.int .i64 _,.int .i64 _,.int .i64 _,.bool _]) (σ':=fun _=>[_,_,_,_,_]) Tryz.underlying214 Tryz.sizeOf218 Tryz.zeroValue218 rfl rfl rfl (by decide) (by decide) (fun _=>rfl)) (fun _ _ _ h=>h.sel [0,2,3] (by decide)) (fun g42=>?_);refine dE (xP 1 4) fun⟨A43,c43⟩=>?_;refine WPD.val rfl (v_nil rfl) (fun _ h=>h.sel [0,2,3] (by decide)) ?_;refine gg ?_;refine dE0 (xS rfl (isS rfl)) fun _=>?_;refine WPD.nil (onto_of ?_);refine WP.region ?_
   iterate 2 refine av ?_
   exact nl fun w hw=>⟨rfl,k+1,(by omega),⟨rfl,rfl,jP,jS,jI,trivial⟩,by omega,(A43,c43),by rw[begun0_succ l k hx,entI_snoc];exact hw.sel [0,1] (by decide)⟩
  ·obtain rfl:k=l.length:=by omega
   refine WP.exit (onto_of ?_);refine gg ?_;refine WPL.ef0 (xS rfl (isB rfl)) fun _=>?_;refine gg ?_;refine WP.loopK (X:=Nat) [5,60] (fun k=>[(61,.int .i64 (k:Int))]) (fun k w=>k≤l.length∧St w0 (foots []) [tblI b16 A1 l.length c1 (lot room) (grows l room),entI A1 l.length c1 (upto (frst (grows l room)) (begun0 l l.length) k)] w) (fun k=>l.length - k) 0 ⟨rfl,trivial⟩ (fun w hw=>⟨by omega,by rw[upto_zero];exact hw⟩) (fun k ρ0=>?_);refine WP.fact (fun hk=>?_);refine gg ?_;refine WP.condP rfl (fun h62=>?_) (fun h62=>?_)
   ·have hk':k<l.length:=by omega
    obtain⟨x,hx⟩:∃x,l[k]?=some x:=⟨_,List.getElem?_eq_getElem hk'⟩;obtain⟨e,he⟩:∃e,(begun0 l l.length)[k]?=some e:=⟨_,List.getElem?_eq_getElem (by rw[begun0_length l _ (Nat.le_refl _)];exact hk')⟩;have he1:=(upto_at (frst (grows l room)) (begun0 l l.length) k).trans he;refine WP.holds (fun w hw=>hw.row_pos (i:=1) rfl (by omega)) (fun⟨b,hA⟩=>?_);subst hA;refine gg ?_;refine WP.drawS none [(0,true),(1,true),(2,true),(3,true),(4,true),(5,true),(6,true),(7,true),(8,true),(9,true),(10,true)] mixed (by kernel_rfl) (by decide) (fun _ h=>h.drawn) ?_;refine gg ?_;refine tD (vR 1 (flat_at FE.enc 7 (fun _=>rfl) _ k 0 e _ he1 rfl)) ?_;refine gg ?_;refine tD (vR 1 (flat_at FE.enc 7 (fun _=>rfl) _ k 5 e _ he1 rfl)) ?_;refine gg ?_;refine WP.cond rfl (fun h84=>?_) (fun h84=>?_)
    case' _=>
     have hgf:grows l room=false:=by simpa using h84
     refine WP.drawS none [(0,true),(1,true),(2,true),(3,true),(4,true),(5,true),(6,true),(7,true),(8,true),(9,true),(10,true)] mixed (by kernel_rfl) (by decide) (fun _ h=>h.drawn) ?_;refine gg ?_;refine tD (vR 1 (flat_at FE.enc 7 (fun _=>rfl) _ k 0 e _ he1 rfl)) ?_;refine gg ?_;refine tD (vR 1 (flat_at FE.enc 7 (fun _=>rfl) _ k 5 e _ he1 rfl)) ?_
     iterate 2 refine ad ?_
     refine WPD.nil (onto_of ?_)
    rotate_left
    case' _=>
     have hgt:grows l room=true:=by simpa using h84
     refine WP.skip (onto_of ?_)
    all_goals
     refine WP.region ?_
     iterate 3 refine av ?_
     refine WPL.split 97 rfl (fun h97=>?_) (fun h97=>?_)
     ·refine gg ?_;refine WPL.ef0 (x_storeRow' (u:=.bool _) (xs':=(upto (frst (grows l room)) (begun0 l l.length) (k+1)).flatMap FE.enc) (σ':=[_,_]) Tryz.sizeOf4 rfl rfl (i:=1) rfl (by rw[flat_len,begun0_length l _ (Nat.le_refl _)];omega) (by rw[Nat.zero_add,flat_set FE.enc 7 (fun _=>rfl) _ k 6 e (frst (grows l room) k e) _ he1 (by decide) (frst_cell (by first | (rw[hgf];simp;omega) | (rw[hgf];simp[fct];omega) | (rw[hgt];simp;omega) | (rw[hgt];simp[fct];omega))),upto_succ _ _ _ he]) rfl) (fun _=>?_);refine nl (oo ?_);refine WP.region ?_
      iterate 2 refine av ?_
      exact nl fun w hw=>⟨rfl,k+1,(by omega),⟨rfl,jP,jI,trivial⟩,by omega,hw.pk⟩
     ·iterate 3 refine ag ?_
      refine vg (v_loadA (cs:=[.int .i64 _,.int .i64 _,.int .i64 _,.int .i64 _,.int .i64 _,.int .i64 _,.bool _]) Tryz.isAgg218 Tryz.sizeOf218 rfl (fun w hw=>hw.row_at (i:=1) rfl _ (fun j u hu=>by rw[Nat.zero_add];exact flat_at FE.enc 7 (fun _=>rfl) _ k j e u he1 hu))) ?_;refine WPL.efG (x_call Tryz.call197 (factor_ct b16 _ l.length c1 (lot room) (grows l room) e) [0] [1] rfl (fun w hw=>trivial) (τ:=fun _=>[_,_]) (fun _=>rfl)) (fun _=>?_);refine WPL.fact (fun _=>?_);refine gg ?_;refine WPL.ef0 (x_storeRow' (u:=.bool _) (xs':=(upto (frst (grows l room)) (begun0 l l.length) (k+1)).flatMap FE.enc) (σ':=[_,_]) Tryz.sizeOf4 rfl rfl (i:=0) rfl (by rw[flat_len,begun0_length l _ (Nat.le_refl _)];omega) (by rw[Nat.zero_add,flat_set FE.enc 7 (fun _=>rfl) _ k 6 e (frst (grows l room) k e) _ he1 (by decide) (frst_cell (by first | (rw[hgf];simp;omega) | (rw[hgf];simp[fct];omega) | (rw[hgt];simp;omega) | (rw[hgt];simp[fct];omega))),upto_succ _ _ _ he]) rfl) (fun _=>?_);refine nl (oo ?_);refine WP.region ?_
      iterate 2 refine av ?_
      exact nl fun w hw=>⟨rfl,k+1,(by omega),⟨rfl,jP,jI,trivial⟩,by omega,hw.pk⟩
   ·obtain rfl:k=l.length:=by omega
    refine WP.exit (onto_of ?_);refine gg ?_;exact WP.ret1 Tryz.results186 (fun _ h=>h) (fun w hw=>⟨(b16,A1,c1),rfl,trivial,by have h:=hw.sel [0,1] (by decide);rw[frst_all] at h;exact h⟩)
def fillTo (vs:List Int) (k:Nat):List Int:=(List.range vs.length).map fun j=>if j<k then vs.getD j 0 else 0
theorem fillTo_length (vs:List Int) (k:Nat):(fillTo vs k).length=vs.length:=by simp[fillTo]
theorem fillTo_zero (vs:List Int):fillTo vs 0=List.replicate vs.length 0:=by
  apply List.ext_getElem?;intro i
  by_cases h:i<vs.length<;>simp[fillTo,h]
theorem fillTo_all (vs:List Int):fillTo vs vs.length=vs:=by
  apply List.ext_getElem?;intro i
  by_cases h:i<vs.length
  · simp[fillTo,h]
  · simp[fillTo,h]
theorem fillTo_succ (vs:List Int) (k:Nat) {v:Int} (h:vs[k]?=some v):(fillTo vs k).set k v=fillTo vs (k+1):=by
  have hk:=(List.getElem?_eq_some_iff.1 h).1;apply List.ext_getElem?;intro i
  by_cases hi:i=k
  · subst hi
    have hv:vs[i]=v:=(List.getElem?_eq_some_iff.1 h).2;simp[fillTo,hk,hv]
  · rw [List.getElem?_set_ne (Ne.symm hi)]
    by_cases hl:i<vs.length
    · simp only [fillTo, List.getElem?_map, List.getElem?_range hl, Option.map_some]
      congr 1
      by_cases h1:i<k<;>by_cases h2:i<k+1<;>simp[h1,h2]<;>omega
    · simp[fillTo,hl]
structure Stand where
  t:Nat
  A:Option Addr
  cap:Nat
  es:List FE
theorem sizes_ct (A:Option Addr) (c:Nat) (l:List FItem) (room:Int) (hl:l.length≤64):
    Ct Tryz.prog 179 #[.slice A l.length c,.int .i64 room] [] (fun w=>RdE w A 5 FItem.enc l) (X:=Option Addr×Nat) (fun p=>.slice p.1 l.length p.2) (fun _=>True)
      (fun p=>[.row 3 1 p.1 l.length p.2 ((sizes l room).map (Value.int .i64))]):=by
  refine Ci fun w0 hz=>?_;refine sqR ?_;refine av ?_;refine nl (oo ?_);refine WP.scopeL (X:=Stand) 0 rfl [0] (fun x=>[(5,.pointer (some ⟨x.t,0,none⟩))]) (fun x w=>(x.es.length=l.length∧oks x.es∧(final (grows l room) (lot room) x.es).map FE.size=sizes l room)∧St w0 (foots []) [tblI x.t x.A x.es.length x.cap (lot room) (grows l room),entI x.A x.es.length x.cap x.es] w) (fun x=>kth x.es x.es.length) (fun hL=>?_) (fun x ρ0=>?_)
  ·refine gg ?_;refine WP.condP rfl (fun h=>absurd h (by omega)) (fun h11=>?_);refine gg ?_;refine eF (xC (begin_ct A c l room hl) (hF:=fun w hw=>hw.rd hz not_foots_nil)) fun⟨t,A1,c1⟩ _=>?_;refine av ?_;refine nl (oo ?_);exact hL ⟨t,A1,c1,l.map (start (grows l room))⟩ _ _ ⟨rfl,rfl,trivial⟩ (fun w hw=>⟨⟨by simp,start_oks _ _,rfl⟩,by simp only[List.length_map];exact hw⟩)
  ·obtain⟨xt,xA,xc,xes⟩:=x;dsimp only;refine WP.fact (fun⟨hlen,hok,hfin⟩=>?_);refine gg ?_;refine eF (xC (round_ct xt xA xc (lot room) (grows l room) xes hok (by omega) (lot_bd room))) fun _ _=>?_;refine gg ?_;refine WP.condP rfl (fun h16=>?_) (fun h16=>?_)
   ·have hkw:=kth_wts (grows l room) xes xes.length;exact WP.goto (fun w hw=>⟨rfl,rfl,⟨xt,xA,xc,round (grows l room) (lot room) xes⟩,(round_less (by omega)),⟨rfl,jS,trivial⟩,⟨⟨by rw[round_length];exact hlen,round_oks hok,by rw[final_step (by omega)];exact hfin⟩,by simp only[round_length];exact hw⟩⟩)
   ·have hkw:=kth_wts (grows l room) xes xes.length;have hk0:kth xes xes.length=0:=by omega
    rw[final_done hk0] at hfin;have hrd:round (grows l room) (lot room) xes=xes:=by
      apply List.ext_getElem?;intro i;simp only[round,List.getElem?_mapIdx];cases he:xes[i]? with
      | none=>rfl
      | some e =>
        cases hf:e.fr with
        | true=>simp[froze,hf]
        | false=>have:=kth_lt he hf;omega
    rw[hrd];have hsl:(sizes l room).length=l.length:=sizes_length l room;have hso:∀(k:Nat) (e:FE),xes[k]?=some e→(sizes l room)[k]?=some e.size:=fun k e he=>by rw[←hfin,List.getElem?_map,he];rfl
    refine gg ?_;refine WPL.ef (x_make1 (n:=l.length) (σ':=fun _=>[_,_,_]) Tryz.underlying55 int_info rfl rfl rfl rfl rfl (by omega) (by omega) (fun _=>rfl)) (fun g19=>?_);refine gg ?_;refine WP.loopK (X:=Nat) [6,23,24] (fun k=>[(25,.int .i64 (k:Int))]) (fun k w=>k≤l.length∧St w0 (foots []) [tblI xt xA xes.length xc (lot room) (grows l room),entI xA xes.length xc xes,.row 3 1 (some ⟨g19,0,none⟩) l.length l.length ((fillTo (sizes l room) k).map (Value.int .i64))] w) (fun k=>l.length - k) 0 ⟨rfl,trivial⟩ (fun w hw=>⟨by omega,by rw[fillTo_zero,hsl];simpa using hw⟩) (fun k ρ0=>?_);refine WP.fact (fun hk=>?_);refine gg ?_;refine WP.condP rfl (fun h26=>?_) (fun h26=>?_)
    ·have hk':k<xes.length:=by omega
     obtain⟨e,he⟩:∃e,xes[k]?=some e:=⟨_,List.getElem?_eq_getElem hk'⟩;have hse:=hso k e he;refine WP.holds (fun w hw=>hw.row_pos (i:=1) rfl (by omega)) (fun⟨b,hA⟩=>?_);subst hA;refine WP.skip (onto_of ?_);refine sq ?_;refine WP.block ?_;refine sqR ?_
     iterate 2 refine av ?_
     refine vl (v_loadA (cs:=[.int .i64 _,.int .i64 _,.int .i64 _,.int .i64 _,.int .i64 _,.int .i64 _,.bool _]) Tryz.isAgg218 Tryz.sizeOf218 rfl (fun w hw=>hw.row_at (i:=1) rfl _ (fun j u hu=>by rw[Nat.zero_add];exact flat_at FE.enc 7 (fun _=>rfl) xes k j e u he hu))) ?_;refine WPL.ef xAl fun b8=>?_;refine gg ?_;refine WPL.ef0 (xW rfl) fun _=>?_;refine gg ?_;refine WPL.ef0 (x_storeRow' (u:=.int .i64 _) (xs':=(fillTo (sizes l room) (k+1)).map (Value.int .i64)) (σ':=[_,_,_,_]) Tryz.sizeOf3 rfl rfl (i:=2) rfl (by simp[fillTo_length];omega) (by rw[←fillTo_succ _ k hse,List.map_set,Nat.zero_add,Nat.mul_one]) rfl) (fun _=>?_);refine nl (oo ?_);refine WP.region ?_
     iterate 2 refine av ?_
     exact nl fun w hw=>⟨rfl,k+1,(by omega),⟨rfl,jS,jS,jI,trivial⟩,by omega,hw.pk⟩
    ·have hkn:k=(sizes l room).length:=by omega
     refine WP.exit (onto_of ?_);refine gg ?_;exact WP.ret1 Tryz.results179 (fun _ h=>h) (fun w hw=>⟨(some ⟨g19,0,none⟩,l.length),rfl,trivial,by have h:=(hw.sel [2] (by decide));rw[hkn,fillTo_all] at h;exact h⟩)
end Go.Proofs.YtpgjbbaplpdaiaaGreat
namespace Go.Proofs.YtpgjbbaplpdaiaaGreat
open Go.RowKit
section
variable {P:Program} {S:World→Prop} {ρ:Env} {dst:Option Tmp} {ty:TypeId} {pos:String} {af:Array Edge} {g:Option (Nat×Bool)} {t t2:TypeId} {x y:Operand} {q q':IntKind} {m n:Int}
theorem run_binQ (op:BinOp) (t2:TypeId) (hx:evo ρ x=.int q m) (hy:evo ρ y=.int q' n) (w:World) (v:Value) (h:(binOp op t (.int q m) (.int q' n)).run P w=.ok v w):
    (execOp (evo ρ) ⟨dst,.binOp op t x y t2,ty,pos,af,g⟩).run P w=.ok (.value v) w:=by
  have e:(eqGuard op t x y (.int q m) (.int q' n)).run P w=.ok () w:=by cases op<;>rfl
  simp[execOp,hx,hy,e,h,Result.andThen]
theorem v_quoT (hx:evo ρ x=.int .i64 m) (hy:evo ρ y=.int .i64 n) (h0:-9223372036854775808≤m∧m≤9223372036854775807) (h2:1≤n):OpV P S ⟨dst,.binOp .quo t x y t2,ty,pos,af,g⟩ ρ (.int .i64 (m.tdiv n)):=
  v_run fun w _ => run_binQ .quo t2 hx hy w _ (by
    have h3 : n ≠ 0 := by omega
    have h4 := IntWalk.i64_quo' m n ⟨h0.1, h0.2, h2⟩
    simp [binOp, Op.intDiv, h3, h4])
theorem v_shr1 (hx:evo ρ x=.int .i64 m) (hy:evo ρ y=.int q' 1):OpV P S ⟨dst,.binOp .shr t x y t2,ty,pos,af,g⟩ ρ (.int .i64 (m / 2)):=
  v_run fun w _ => run_binQ .shr t2 hx hy w _ (by
    have h1 : min (Int.toNat 1) IntKind.i64.bits = 1 := rfl
    have h2 : m.fdiv (2 ^ 1) = m / 2 := by rw [Int.fdiv_eq_ediv_of_nonneg _ (by decide)]; rfl
    simp [binOp, Op.shift, h1, h2]
    exact Int.fdiv_eq_ediv_of_nonneg _ (by decide))
theorem v_addU (hx:evo ρ x=.int .u64 m) (hy:evo ρ y=.int .u64 n) (h:0≤m+n∧m+n≤18446744073709551615):OpV P S ⟨dst,.binOp .add t x y t2,ty,pos,af,g⟩ ρ (.int .u64 (m+n)):=
  v_run fun w _=>run_binQ .add t2 hx hy w _ (by simp[binOp,Op.intArith,IntWalk.u64_in _ h])
theorem v_mulU (hx:evo ρ x=.int .u64 m) (hy:evo ρ y=.int .u64 n) (h:0≤m*n∧m*n≤18446744073709551615):OpV P S ⟨dst,.binOp .mul t x y t2,ty,pos,af,g⟩ ρ (.int .u64 (m*n)):=
  v_run fun w _=>run_binQ .mul t2 hx hy w _ (by simp[binOp,Op.intArith,IntWalk.u64_in _ h])
theorem wrap_u64 (z:Int):IntKind.u64.wrap z=z % 18446744073709551616:=by
  simp[IntKind.wrap,IntKind.bits,IntKind.signed]
theorem v_addUw (hx:evo ρ x=.int .u64 m) (hy:evo ρ y=.int .u64 n):OpV P S ⟨dst,.binOp .add t x y t2,ty,pos,af,g⟩ ρ (.int .u64 ((m+n) % 18446744073709551616)):=
  v_run fun w _=>run_binQ .add t2 hx hy w _ (by simp[binOp,Op.intArith,wrap_u64])
theorem v_lssU (hx:evo ρ x=.int .u64 m) (hy:evo ρ y=.int .u64 n):OpV P S ⟨dst,.binOp .lss t x y t2,ty,pos,af,g⟩ ρ (.bool (decide (m<n))):=v_run fun w _=>run_binQ .lss t2 hx hy w _ rfl
theorem v_gtrU (hx:evo ρ x=.int .u64 m) (hy:evo ρ y=.int .u64 n):OpV P S ⟨dst,.binOp .gtr t x y t2,ty,pos,af,g⟩ ρ (.bool (decide (n<m))):=v_run fun w _=>run_binQ .gtr t2 hx hy w _ rfl
theorem v_shrU (hx:evo ρ x=.int .u64 m) (hy:evo ρ y=.int q' 32):OpV P S ⟨dst,.binOp .shr t x y t2,ty,pos,af,g⟩ ρ (.int .u64 (m / 4294967296)):=
  v_run fun w _ => run_binQ .shr t2 hx hy w _ (by
    have h1 : min (Int.toNat 32) IntKind.u64.bits = 32 := rfl
    have h2 : m.fdiv (2 ^ 32) = m / 4294967296 := by rw [Int.fdiv_eq_ediv_of_nonneg _ (by decide)]; rfl
    simp only [binOp, Op.shift, h1, h2]
    rfl)
theorem v_shlU (hx:evo ρ x=.int .u64 m) (hy:evo ρ y=.int q' 32) (h:0≤m∧m*4294967296≤18446744073709551615):OpV P S ⟨dst,.binOp .shl t x y t2,ty,pos,af,g⟩ ρ (.int .u64 (m*4294967296)):=
  v_run fun w _ => run_binQ .shl t2 hx hy w _ (by
    have h1 : min (Int.toNat 32) IntKind.u64.bits = 32 := rfl
    have h2 := IntWalk.u64_in (m * 4294967296) (by omega)
    have h3 : (2 : Int) ^ 32 = 4294967296 := rfl
    simp only [binOp, Op.shift, h1, h3, h2]
    rfl)
theorem v_lowU (hx:evo ρ x=.int .u64 m) (hy:evo ρ y=.int .u64 4294967295) (h:0≤m∧m≤18446744073709551615):OpV P S ⟨dst,.binOp .and t x y t2,ty,pos,af,g⟩ ρ (.int .u64 (m % 4294967296)):=
  v_run fun w _ => run_binQ .and t2 hx hy w _ (by
    obtain ⟨k, rfl⟩ : ∃ k : Nat, m = k := ⟨m.toNat, by omega⟩
    have h1 : (BitVec.ofInt IntKind.u64.bits (k : Int) &&& BitVec.ofInt IntKind.u64.bits 4294967295).toNat = k % 4294967296 := by
      show (BitVec.ofInt 64 (k : Int) &&& BitVec.ofInt 64 ((4294967295 : Nat) : Int)).toNat = _
      rw [BitVec.ofInt_natCast, BitVec.ofInt_natCast, BitVec.toNat_and, BitVec.toNat_ofNat, BitVec.toNat_ofNat, Nat.mod_eq_of_lt (by omega : k < 2 ^ 64), Nat.mod_eq_of_lt (by decide : 4294967295 < 2 ^ 64)]
      exact Nat.and_two_pow_sub_one_eq_mod k 32
    have h2 : IntKind.u64.wrap ((k % 4294967296 : Nat) : Int) = (k : Int) % 4294967296 := by
      rw [IntWalk.u64_in _ (by omega)]; omega
    simp only [binOp, Op.intBits, h1, h2]
    rfl)
theorem v_idxA {e:TypeId} {N j k:Nat} {z:Int} {cs us:Array Value} (ht:P.underlying t=some (.array N e)) (ha:∀w,(isAgg e).run P w=.ok true w) (hz:∀w,(sizeOf e).run P w=.ok k w) (hx:evo ρ x=.agg cs) (hy:evo ρ y=.int .i64 z) (hj:z=(j:Int)) (hlt:j<N) (hu:cs.extract (j*k) (j*k+k)=us):
    OpV P S ⟨dst,.index t x y,ty,pos,af,g⟩ ρ (.agg us):=v_run fun w _=>by
  subst hj;have h1:((j:Int)<(N:Int)):=by omega
  simp[execOp,Instr.index,run_underlying ht,hx,hy,asIntOf,h1,hz,part,ha,hu];exact fun h=>absurd h (by omega)
theorem v_idx1 {e:TypeId} {N j:Nat} {z:Int} {cs:Array Value} {u:Value} (ht:P.underlying t=some (.array N e)) (ha:∀w,(isAgg e).run P w=.ok false w) (hz:∀w,(sizeOf e).run P w=.ok 1 w) (hx:evo ρ x=.agg cs) (hy:evo ρ y=.int .i64 z) (hj:z=(j:Int)) (hlt:j<N) (hu:cs[j]?=some u):
    OpV P S ⟨dst,.index t x y,ty,pos,af,g⟩ ρ u:=v_run fun w _=>by
  subst hj;have h1:((j:Int)<(N:Int)):=by omega
  simp[execOp,Instr.index,run_underlying ht,hx,hy,asIntOf,h1,hz,part,ha,hu];exact fun h=>absurd h (by omega)
theorem v_conv {src tgt:TypeId} {qs qd:IntKind} {m':Int} (hs:P.underlying src=some (.int qs)) (hd:P.underlying tgt=some (.int qd)) (hx:evo ρ x=.int q m) (hw:qd.wrap m=m'):OpV P S ⟨dst,.convert src tgt x,ty,pos,af,g⟩ ρ (.int qd m'):=v_run fun w _=>by
  subst hw;have h:(convert src tgt (.int q m)).run P w=.ok (.int qd (qd.wrap m)) w:=by simp[convert,run_underlying hs,run_underlying hd,Conv.intToInt,Result.andThen]
  simp[execOp,hx,h,Result.andThen]
end
end Go.Proofs.YtpgjbbaplpdaiaaGreat
namespace Go.Proofs.YtpgjbbaplpdaiaaGreat
def addI (a b:Int):Int:=cut (cut a+cut b)
def subI (a b:Int):Int:=cut (cut a - cut b)
def mulI (a b:Int):Int:=cut (cut a*cut b)
def divI (a b:Int):Int:=if b≤0 then 0 else cut a / cut b
def partI (a n:Int):Int:=cut (cut a*min (max n 0) 1000000 / 10000)
theorem addI_bd (a b:Int):-1099511627776≤addI a b∧addI a b≤1099511627776:=cut_bd _
theorem subI_bd (a b:Int):-1099511627776≤subI a b∧subI a b≤1099511627776:=cut_bd _
theorem partI_bd (a n:Int):-1099511627776≤partI a n∧partI a n≤1099511627776:=cut_bd _
theorem ediv_bd {a b M:Int} (h:-M≤a∧a≤M) (hM:0≤M) (hb:0<b):-M≤a / b∧a / b≤M:=by
  have h1:a / b≤M:=by
    have h2:=Int.ediv_le_self b hM;exact Int.le_trans (Int.ediv_le_ediv hb h.2) h2
  refine⟨?_,h1⟩;refine Int.le_ediv_of_mul_le hb ?_;have:M*1≤M*b:=Int.mul_le_mul_of_nonneg_left (by omega) hM;rw[Int.neg_mul];omega
theorem divI_bd (a b:Int):-1099511627776≤divI a b∧divI a b≤1099511627776:=by
  unfold divI
  split
  · omega
  · exact ediv_bd (cut_bd a) (by omega) (by unfold cut;omega)
theorem cut_mul (a b:Int):cut (a*b)=if (a<0)↔(b<0) then min ((a.natAbs*b.natAbs:Nat):Int) 1099511627776 else -min ((a.natAbs*b.natAbs:Nat):Int) 1099511627776:=by
  have h1:((a.natAbs*b.natAbs:Nat):Int)=(a*b).natAbs:=by rw[Int.natAbs_mul]
  rw[h1]
  by_cases hs:(a<0)↔(b<0)
  · rw [if_pos hs]
    have:0≤a*b:=by
      by_cases ha:a<0
      · exact Int.mul_nonneg_of_nonpos_of_nonpos (by omega) (by have:=hs.1 ha;omega)
      · have hb : ¬ b < 0 := fun h => ha (hs.2 h)
        exact Int.mul_nonneg (by omega) (by omega)
    unfold cut;omega
  · rw [if_neg hs]
    have:a*b≤0:=by
      by_cases ha:a<0
      · have hb : ¬ b < 0 := fun h => hs ⟨fun _ => h, fun _ => ha⟩
        exact Int.mul_nonpos_of_nonpos_of_nonneg (by omega) (by omega)
      · have hb:b<0:=by
          by_cases h:b<0
          · exact h
          · exact absurd ⟨fun h2=>absurd h2 ha,fun h2=>absurd h2 h⟩ hs
        exact Int.mul_nonpos_of_nonneg_of_nonpos (by omega) (by omega)
    unfold cut;omega
theorem down_eq (a:Int) {b:Int} (hb:0<b):(if a<a.tdiv b*b then a.tdiv b - 1 else a.tdiv b)=a / b:=by
  have h1:=Int.tdiv_eq_ediv (a:=a) (b:=b);have h2:=Int.mul_ediv_add_emod a b;have h3:=Int.emod_nonneg a (by omega:b≠0);have h4:=Int.emod_lt_of_pos a hb;have h5:b.sign=1:=Int.sign_eq_one_of_pos hb
  by_cases h:0≤a∨b∣a
  · rw [if_pos h, Int.add_zero] at h1
    rw[h1,if_neg];have:a / b*b=b*(a / b):=Int.mul_comm _ _;omega
  · rw [if_neg h, h5] at h1
    have h6:a % b≠0:=fun e=>h (.inr (Int.dvd_of_emod_eq_zero e));rw[h1,if_pos]
    · omega
    · have : (a / b + 1) * b = b * (a / b) + b := by rw [Int.add_mul, Int.one_mul, Int.mul_comm]
      omega
theorem times_id (a b:Int):a*b=(a / 4294967296*(b / 4294967296))*18446744073709551616+(a % 4294967296*(b / 4294967296)+a / 4294967296*(b % 4294967296))*4294967296+a % 4294967296*(b % 4294967296):=by
  have h1:=Int.mul_ediv_add_emod a 4294967296;have h2:=Int.mul_ediv_add_emod b 4294967296
  generalize a / 4294967296=x at*
  generalize a % 4294967296=y at*
  generalize b / 4294967296=z at*
  generalize b % 4294967296=u at*
  subst h1;subst h2
  grind
end Go.Proofs.YtpgjbbaplpdaiaaGreat
namespace Go.Proofs.YtpgjbbaplpdaiaaGreat
def gI (l:List Int) (i:Nat):Int:=l.getD i 0
theorem gI_at {l:List Int} {i:Nat} {x:Int} (h:l[i]?=some x):gI l i=x:=by unfold gI;rw[List.getD_eq_getElem?_getD,h];rfl
def fixedL (k base:Int):Bool:=decide (k=1∨(k=2∧0≤base))
def ofL (k n base none:Int):Int:=if fixedL k base=false then cut none else if k=1 then cut n else partI base n
def limitL (n lk ln hk hn base:Int):Int:=max (clamp n (ofL lk ln base (-1099511627776)) (ofL hk hn base 1099511627776)) 0
theorem ofL_bd (k n base none:Int):-1099511627776≤ofL k n base none∧ofL k n base none≤1099511627776:=by
  unfold ofL
  split
  · exact cut_bd _
  · split
    · exact cut_bd _
    · exact partI_bd _ _
theorem limitL_bd (n lk ln hk hn base:Int):0≤limitL n lk ln hk hn base∧limitL n lk ln hk hn base≤1099511627776:=by
  have h1:=ofL_bd lk ln base (-1099511627776);have h2:=ofL_bd hk hn base 1099511627776;have h3:=cut_bd n;unfold limitL clamp;rw[cut_id h1.1 h1.2,cut_id h2.1 h2.2];omega
def hiP (l:List Int):Int:=l.foldl (fun m x=>max m (cut x)) 0
def loP (l:List Int):Int:=l.foldl (fun m x=>min m (cut x)) 0
def collP (l:List Int):Int:=hiP l+loP l
theorem foldMax_bd (l:List Int):∀m:Int,0≤m→m≤1099511627776→0≤l.foldl (fun m x=>max m (cut x)) m∧l.foldl (fun m x=>max m (cut x)) m≤1099511627776:=by
  induction l with
  | nil=>intro m h1 h2;exact⟨h1,h2⟩
  | cons x l ih =>
    intro m h1 h2;have:=cut_bd x;exact ih (max m (cut x)) (by omega) (by omega)
theorem foldMin_bd (l:List Int):∀m:Int,m≤0→-1099511627776≤m→l.foldl (fun m x=>min m (cut x)) m≤0∧-1099511627776≤l.foldl (fun m x=>min m (cut x)) m:=by
  induction l with
  | nil=>intro m h1 h2;exact⟨h1,h2⟩
  | cons x l ih =>
    intro m h1 h2;have:=cut_bd x;exact ih (min m (cut x)) (by omega) (by omega)
theorem hiP_bd (l:List Int):0≤hiP l∧hiP l≤1099511627776:=foldMax_bd l 0 (by omega) (by omega)
theorem loP_bd (l:List Int):loP l≤0∧-1099511627776≤loP l:=foldMin_bd l 0 (by omega) (by omega)
theorem collP_bd (l:List Int):-1099511627776≤collP l∧collP l≤1099511627776:=by
  have h1:=hiP_bd l;have h2:=loP_bd l;unfold collP;omega
theorem hiP_snoc {l:List Int} {k:Nat} {x:Int} (h:l[k]?=some x):hiP (l.take (k+1))=max (hiP (l.take k)) (cut x):=by
  unfold hiP;rw[List.take_add_one,h];simp
theorem loP_snoc {l:List Int} {k:Nat} {x:Int} (h:l[k]?=some x):loP (l.take (k+1))=min (loP (l.take k)) (cut x):=by
  unfold loP;rw[List.take_add_one,h];simp
def autoLeft (room size a b:Int):Int:=subI (subI (subI room size) a) b
def autoP (room size bk bn ek en base:Int):Int×Int:=
  let a:=ofL bk bn base 0
  let b:=ofL ek en base 0
  let left:=autoLeft room size a b
  if left≤0 then (a,b) else if fixedL bk base=false∧fixedL ek base=false then (left / 2,left - left / 2) else if fixedL bk base=false then (left,b) else if fixedL ek base=false then (a,left) else (a,b)
mutual
def stkAt (sizes tops bottoms:List Int):Nat→Int
  | 0=>0
  | k+1=>addI (stkStart sizes tops bottoms k) (gI sizes k)
def stkStart (sizes tops bottoms:List Int):Nat→Int
  | 0=>0
  | k+1=>addI (addI (stkStart sizes tops bottoms k) (gI sizes k)) (collP [gI bottoms k,gI tops (k+1)])
end
def stkStarts (sizes tops bottoms:List Int):List Int:=(List.range sizes.length).map (stkStart sizes tops bottoms)
def longK (l:List Int) (gap:Int):Nat→Int
  | 0=>0
  | k+1=>addI (if k=0 then longK l gap k else addI (longK l gap k) gap) (gI l k)
def longP (l:List Int) (gap:Int):Int:=longK l gap l.length
def kindJ (kind left n:Int):Int:=if (kind=4∨kind=5)∧left≤0 then 2 else if kind=3∧(left≤0∨n<2) then 0 else kind
def partJ (left k n:Int):Int:=divI (mulI left k) n
def beforeP (kind left n k:Int):Int:=
  if kindJ kind left n=1 then left else if kindJ kind left n=2 then divI left 2 else if kindJ kind left n=3 then partJ left k (n - 1) else if kindJ kind left n=4 then partJ left (2*k+1) (2*n) else if kindJ kind left n=5 then partJ left (k+1) (n+1) else 0
def jAt (kind left gap:Int) (l:List Int):Nat→Int
  | 0=>0
  | k+1=>addI (addI (if k=0 then jAt kind left gap l k else addI (jAt kind left gap l k) gap) (beforeP kind left l.length k - (if k=0 then 0 else beforeP kind left l.length ((k:Int) - 1)))) (gI l k)
def jStart (kind left gap:Int) (l:List Int) (k:Nat):Int:=addI (if k=0 then jAt kind left gap l k else addI (jAt kind left gap l k) gap) (beforeP kind left l.length k - (if k=0 then 0 else beforeP kind left l.length ((k:Int) - 1)))
def startsP (kind:Int) (l:List Int) (room gap:Int):List Int:=(List.range l.length).map (jStart kind (subI room (longP l gap)) gap l)
def acrossP (kind size room:Int):Int:=if kind=2 then divI (subI room size) 2 else if kind=3 then subI room size else 0
theorem add_any (a b:Int) (w:World):Calls Tryz.prog 174 #[.int .i64 a,.int .i64 b] w fun e w'=>e=.returned (.int .i64 (addI a b))∧w=w':=by
  have h1:=cut_bd a;have h2:=cut_bd b;refine enter_pure Tryz.func174 rfl Tryz.ntmps174 (by simp) ?_;refine gg ?_;refine vl (vC (cut_any _ _)) ?_;refine gg ?_;refine vl (vC (cut_any _ _)) ?_;refine gg ?_;refine vl (vC (cut_any _ _)) ?_;refine gg ?_;exact rt1 fun w hw=>⟨rfl,hw.symm⟩
theorem sub_any (a b:Int) (w:World):Calls Tryz.prog 172 #[.int .i64 a,.int .i64 b] w fun e w'=>e=.returned (.int .i64 (subI a b))∧w=w':=by
  have h1:=cut_bd a;have h2:=cut_bd b;refine enter_pure Tryz.func172 rfl Tryz.ntmps172 (by simp) ?_;refine gg ?_;refine vl (vC (cut_any _ _)) ?_;refine gg ?_;refine vl (vC (cut_any _ _)) ?_;refine gg ?_;refine vl (vC (cut_any _ _)) ?_;refine gg ?_;exact rt1 fun w hw=>⟨rfl,hw.symm⟩
theorem size_any (a:Int) (h:-1099511627776≤a∧a≤1099511627776) (w:World):Calls Tryz.prog 203 #[.int .i64 a] w fun e w'=>e=.returned (.int .u64 (a.natAbs:Int))∧w=w':=by
  refine enter_pure Tryz.func203 rfl Tryz.ntmps203 (by simp) ?_;refine sqR ?_;refine sg (v:=.int .u64 (0)) rfl ?_;refine gg ?_;refine WP.condP rfl (fun h4=>?_) (fun h4=>?_)
  ·have hr:(a.natAbs:Int)= -a:=by omega
   refine sqR ?_;refine av ?_;refine vl (v_neg rfl (by omega)) ?_;refine vl (v_conv (m':=-a) Tryz.underlying3 Tryz.underlying226 rfl (IntWalk.u64_in _ (by omega))) ?_;refine sg (v:=.int .u64 _) rfl ?_;refine gg ?_;exact rt1 fun w hw=>⟨by rw[hr];rfl,hw.symm⟩
  ·have hr:(a.natAbs:Int)=a:=by omega
   refine WP.skip (onto_of ?_);refine sqR ?_;refine av ?_;refine vl (v_conv (m':=a) Tryz.underlying3 Tryz.underlying226 rfl (IntWalk.u64_in _ (by omega))) ?_;refine sg (v:=.int .u64 _) rfl ?_;refine gg ?_;exact rt1 fun w hw=>⟨by rw[hr];rfl,hw.symm⟩
theorem times_any (a b:Int) (ha:0≤a∧a≤1099511627776) (hb:0≤b∧b≤1099511627776) (w:World):Calls Tryz.prog 202 #[.int .u64 a,.int .u64 b] w fun e w'=>e=.returned (.int .i64 (min (a*b) 1099511627776))∧w=w':=by
  have hid:=times_id a b;have hb1:0≤a / 4294967296∧a / 4294967296≤256:=by omega
  have hb2:0≤b / 4294967296∧b / 4294967296≤256:=by omega
  have hb3:0≤a % 4294967296∧a % 4294967296≤4294967295:=by omega
  have hb4:0≤b % 4294967296∧b % 4294967296≤4294967295:=by omega
  have h22:0≤a % 4294967296*(b / 4294967296)∧a % 4294967296*(b / 4294967296)≤18446744073709551615:=⟨Int.mul_nonneg hb3.1 hb2.1,Int.le_trans (Int.mul_le_mul hb3.2 hb2.2 hb2.1 (by decide)) (by decide)⟩;have h25:0≤a / 4294967296*(b % 4294967296)∧a / 4294967296*(b % 4294967296)≤18446744073709551615:=⟨Int.mul_nonneg hb1.1 hb4.1,Int.le_trans (Int.mul_le_mul hb1.2 hb4.2 hb4.1 (by decide)) (by decide)⟩;have h22':a % 4294967296*(b / 4294967296)≤1099511627776:=Int.le_trans (Int.mul_le_mul hb3.2 hb2.2 hb2.1 (by decide)) (by decide);have h25':a / 4294967296*(b % 4294967296)≤1099511627776:=Int.le_trans (Int.mul_le_mul hb1.2 hb4.2 hb4.1 (by decide)) (by decide);have h29:0≤a / 4294967296*(b / 4294967296)∧a / 4294967296*(b / 4294967296)≤18446744073709551615:=⟨Int.mul_nonneg hb1.1 hb2.1,Int.le_trans (Int.mul_le_mul hb1.2 hb2.2 hb2.1 (by decide)) (by decide)⟩;have h38:0≤a % 4294967296*(b % 4294967296)∧a % 4294967296*(b % 4294967296)≤18446744073709551615:=⟨Int.mul_nonneg hb3.1 hb4.1,Int.le_trans (Int.mul_le_mul hb3.2 hb4.2 hb4.1 (by decide)) (by decide)⟩;refine enter_pure Tryz.func202 rfl Tryz.ntmps202 (by simp) ?_;refine sqR ?_;refine av ?_;refine nl (oo ?_);refine sqR ?_;refine mv (v:=.int .u64 _) rfl ?_;refine vl (v_lowU rfl rfl (by omega)) ?_;refine mv (v:=.int .u64 _) rfl ?_;refine vl (v_shrU rfl rfl) ?_;refine sg (v:=.int .u64 _) rfl ?_;refine sg (v:=.int .u64 _) rfl ?_;refine nl (oo ?_);refine sqR ?_;refine mv (v:=.int .u64 _) rfl ?_;refine vl (v_lowU rfl rfl (by omega)) ?_;refine mv (v:=.int .u64 _) rfl ?_;refine vl (v_shrU rfl rfl) ?_;refine sg (v:=.int .u64 _) rfl ?_;refine sg (v:=.int .u64 _) rfl ?_;refine nl (oo ?_);refine sqR ?_;refine mv (v:=.int .u64 _) rfl ?_;refine mv (v:=.int .u64 _) rfl ?_;refine vl (v_mulU rfl rfl h22) ?_;refine mv (v:=.int .u64 _) rfl ?_;refine mv (v:=.int .u64 _) rfl ?_;refine vl (v_mulU rfl rfl h25) ?_;refine vl (v_addU rfl rfl (by omega)) ?_;refine sg (v:=.int .u64 _) rfl ?_;refine nl (oo ?_);refine sq ?_;refine sqR ?_;refine mv (v:=.int .u64 _) rfl ?_;refine mv (v:=.int .u64 _) rfl ?_;refine vl (v_mulU rfl rfl h29) ?_;refine vl (v_gtrU rfl rfl) ?_;refine av ?_;refine WPL.split 31 rfl (fun h31=>?_) (fun h31=>?_)
  ·refine gg ?_;have hr:min (a*b) 1099511627776=1099511627776:=by omega
   refine WP.condT rfl ?_;refine gg ?_;exact rt1 fun w hw=>⟨by rw[hr];rfl,hw.symm⟩
  ·refine vg (v_move (v:=.int .u64 _) rfl) ?_;refine vg (v_shrU rfl rfl) ?_;refine vg (v_gtrU rfl rfl) ?_;refine gg ?_;refine WP.condP rfl (fun h35=>?_) (fun h35=>?_)
   ·have hr:min (a*b) 1099511627776=1099511627776:=by omega
    refine gg ?_;exact rt1 fun w hw=>⟨by rw[hr];rfl,hw.symm⟩
   ·refine WP.skip (onto_of ?_);refine sqR ?_;refine mv (v:=.int .u64 _) rfl ?_;refine mv (v:=.int .u64 _) rfl ?_;refine vl (v_mulU rfl rfl h38) ?_;refine sg (v:=.int .u64 _) rfl ?_;refine nl (oo ?_);refine sqR ?_;refine mv (v:=.int .u64 _) rfl ?_;refine vl (v_shlU rfl rfl (by omega)) ?_;refine mv (v:=.int .u64 _) rfl ?_;refine vl (v_addUw rfl rfl) ?_;refine sg (v:=.int .u64 _) rfl ?_;refine nl (oo ?_);refine sq ?_;refine sqR ?_;refine mv (v:=.int .u64 _) rfl ?_;refine mv (v:=.int .u64 _) rfl ?_;refine vl (v_lssU rfl rfl) ?_;refine av ?_;refine WPL.split 46 rfl (fun h46=>?_) (fun h46=>?_)
    ·refine gg ?_;have hr:min (a*b) 1099511627776=1099511627776:=by omega
     refine WP.condT rfl ?_;refine gg ?_;exact rt1 fun w hw=>⟨by rw[hr];rfl,hw.symm⟩
    ·refine vg (v_move (v:=.int .u64 _) rfl) ?_;refine vg (v_gtrU rfl rfl) ?_;refine gg ?_;refine WP.condP rfl (fun h49=>?_) (fun h49=>?_)
     ·have hr:min (a*b) 1099511627776=1099511627776:=by omega
      refine gg ?_;exact rt1 fun w hw=>⟨by rw[hr];rfl,hw.symm⟩
     ·have hr:min (a*b) 1099511627776=a*b:=by omega
      refine WP.skip (onto_of ?_);refine sqR ?_;refine mv (v:=.int .u64 _) rfl ?_;refine vl (v_conv (m':=a*b) Tryz.underlying226 Tryz.underlying3 rfl (by rw[IntWalk.i64_in _ (by omega)];omega)) ?_;refine gg ?_;exact rt1 fun w hw=>⟨by rw[hr];rfl,hw.symm⟩
theorem mul_any (a b:Int) (w:World):Calls Tryz.prog 189 #[.int .i64 a,.int .i64 b] w fun e w'=>e=.returned (.int .i64 (mulI a b))∧w=w':=by
  have h1:=cut_bd a;have h2:=cut_bd b;have hm:0≤((cut a).natAbs:Int)*((cut b).natAbs:Int):=Int.mul_nonneg (by omega) (by omega);refine enter_pure Tryz.func189 rfl Tryz.ntmps189 (by simp) ?_;refine gg ?_;refine vl (vC (cut_any _ _)) ?_;refine gg ?_;refine vl (vC (cut_any _ _)) ?_;refine gg ?_;refine vl (vC (size_any _ (cut_bd a) _)) ?_;refine gg ?_;refine vl (vC (size_any _ (cut_bd b) _)) ?_;refine vl (vC (times_any ((cut a).natAbs:Int) ((cut b).natAbs:Int) (by omega) (by omega) _)) ?_;refine av ?_;refine nl (oo ?_);refine sq ?_;refine sqR ?_
  iterate 4 refine av ?_
  refine vl (v_neB Tryz.underlying4 rfl rfl) ?_;refine gg ?_;refine WP.cond rfl (fun h19=>?_) (fun h19=>?_)
  ·have hr:mulI a b= -min (((cut a).natAbs:Int)*((cut b).natAbs:Int)) 1099511627776:=by
     rw[mulI,cut_mul,if_neg (fun e=>by simp[e] at h19)];rw[Int.natCast_mul]
   refine sqR ?_;refine av ?_;refine vl (v_neg rfl (by omega)) ?_;refine gg ?_;exact rt1 fun w hw=>⟨by rw[hr];rfl,hw.symm⟩
  ·have hr:mulI a b=min (((cut a).natAbs:Int)*((cut b).natAbs:Int)) 1099511627776:=by
     rw[mulI,cut_mul,if_pos (by simpa using h19)];rw[Int.natCast_mul]
   refine gg ?_;exact rt1 fun w hw=>⟨by rw[hr];rfl,hw.symm⟩
theorem tdiv_bd {a b:Int} (ha:-1099511627776000000≤a∧a≤1099511627776000000) (hb:0<b):(-1099511627776000000≤a.tdiv b∧a.tdiv b≤1099511627776000000)∧(-1099511627776000000≤a.tdiv b*b∧a.tdiv b*b≤1099511627776000000):=by
  have h1:=Int.natAbs_tdiv_le_natAbs a b;have h2:=Int.mul_tdiv_add_tmod a b;have h3:a.tdiv b*b=b*a.tdiv b:=Int.mul_comm _ _;have h4:(0≤a→0≤a.tmod b)∧(a≤0→a.tmod b≤0):=⟨fun h=>Int.tmod_nonneg b h,fun h=>by have:=Int.tmod_nonneg (a:=-a) b (by omega);rw[Int.neg_tmod] at this;omega⟩
  have h5 : (0 ≤ a → 0 ≤ b * a.tdiv b) ∧ (a ≤ 0 → b * a.tdiv b ≤ 0) := ⟨fun h => Int.mul_nonneg (by omega) (Int.tdiv_nonneg h (by omega)), fun h => by
    have h6 := Int.tdiv_nonneg (a := -a) (b := b) (by omega) (by omega)
    rw [Int.neg_tdiv] at h6
    exact Int.mul_nonpos_of_nonneg_of_nonpos (by omega) (by omega)⟩
  rw[h3];omega
theorem down_any (a b:Int) (ha:-1099511627776000000≤a∧a≤1099511627776000000) (hb:0<b) (w:World):Calls Tryz.prog 77 #[.int .i64 a,.int .i64 b] w fun e w'=>e=.returned (.int .i64 (a / b))∧w=w':=by
  have hd:=down_eq a hb;have hq:=Int.mul_tdiv_add_tmod a b;have hl:=tdiv_bd ha hb;refine enter_pure Tryz.func77 rfl Tryz.ntmps77 (by simp) ?_;refine sqR ?_;refine av ?_;refine nl (oo ?_);refine sqR ?_
  iterate 2 refine av ?_
  refine vl (v_quoT rfl rfl (by omega) (by omega)) ?_;refine gg ?_;refine WP.condP rfl (fun h13=>?_) (fun h13=>?_)
  ·rw[if_pos h13] at hd;refine gg ?_;exact rt1 fun w hw=>⟨by rw[←hd];rfl,hw.symm⟩
  ·rw[if_neg h13] at hd;refine gg ?_;exact rt1 fun w hw=>⟨by rw[←hd];rfl,hw.symm⟩
theorem div_any (a b:Int) (w:World):Calls Tryz.prog 180 #[.int .i64 a,.int .i64 b] w fun e w'=>e=.returned (.int .i64 (divI a b))∧w=w':=by
  have h1:=cut_bd a;have h2:=cut_bd b;refine enter_pure Tryz.func180 rfl Tryz.ntmps180 (by simp) ?_;refine gg ?_;refine WP.condP rfl (fun h6=>?_) (fun h6=>?_)
  ·have hr:divI a b=0:=by rw[divI,if_pos h6]
   refine gg ?_;exact rt1 fun w hw=>⟨by rw[hr];rfl,hw.symm⟩
  ·have hr:divI a b=cut a / cut b:=by rw[divI,if_neg h6]
   refine gg ?_;refine vl (vC (cut_any _ _)) ?_;refine gg ?_;refine vl (vC (cut_any _ _)) ?_;refine vl (vC (down_any (cut a) (cut b) (by omega) (by unfold cut;omega) _)) ?_;refine gg ?_;exact rt1 fun w hw=>⟨by rw[hr];rfl,hw.symm⟩
theorem mul_bd1 {a m:Int} (ha:-1099511627776≤a∧a≤1099511627776) (hm:0≤m∧m≤1000000):-1099511627776000000≤a*m∧a*m≤1099511627776000000:=by
  have h1:a*m≤1099511627776*m:=Int.mul_le_mul_of_nonneg_right ha.2 hm.1;have h2:-1099511627776*m≤a*m:=Int.mul_le_mul_of_nonneg_right ha.1 hm.1;omega
theorem part_any (a n:Int) (w:World):Calls Tryz.prog 40 #[.int .i64 a,.int .i64 n] w fun e w'=>e=.returned (.int .i64 (partI a n))∧w=w':=by
  have h1:=cut_bd a;have h2:0≤min (max n 0) 1000000∧min (max n 0) 1000000≤1000000:=by omega
  have h3:=mul_bd1 h1 h2;refine enter_pure Tryz.func40 rfl Tryz.ntmps40 (by simp) ?_;refine gg ?_;refine vl (vC (cut_any _ _)) ?_;refine gg ?_;refine vl (vC (down_any (cut a*min (max n 0) 1000000) 10000 h3 (by decide) _)) ?_;refine vl (vC (cut_any _ _)) ?_;refine gg ?_;exact rt1 fun w hw=>⟨rfl,hw.symm⟩
theorem fixed_ct (k n base:Int):Ct Tryz.prog 18 #[.agg #[.int .i64 k,.int .i64 n],.int .i64 base] [] (fun _=>True) (X:=Unit) (fun _=>.bool (fixedL k base)) (fun _=>True) (fun _=>[]):=by
  refine Ci fun w0 _=>?_;refine gg ?_;refine WPL.ef xB fun b2=>?_;refine gg ?_;refine WP.condP rfl (fun h7=>?_) (fun h7=>?_)
  ·have hr:fixedL k base=true:=by unfold fixedL;first | exact decide_eq_true (by omega) | exact decide_eq_false (by omega)
   refine gg ?_;exact rt1 fun w hw=>⟨(),congrArg Value.bool (by rw[hr]),trivial,hw.pk⟩
  ·refine gg ?_;refine WP.condP rfl (fun h9=>?_) (fun h9=>?_)
   ·have hr:fixedL k base=decide (0≤base):=by unfold fixedL;exact decide_eq_decide.2 (by omega)
    refine gg ?_;exact rt1 fun w hw=>⟨(),congrArg Value.bool (by rw[hr]),trivial,hw.pk⟩
   ·have hr:fixedL k base=false:=by unfold fixedL;first | exact decide_eq_true (by omega) | exact decide_eq_false (by omega)
    refine gg ?_;exact rt1 fun w hw=>⟨(),congrArg Value.bool (by rw[hr]),trivial,hw.pk⟩
theorem lenof_ct (k n base d0:Int):Ct Tryz.prog 19 #[.agg #[.int .i64 k,.int .i64 n],.int .i64 base,.int .i64 d0] [] (fun _=>True) (X:=Unit) (fun _=>.int .i64 (ofL k n base d0)) (fun _=>True) (fun _=>[]):=by
  refine Ci fun w0 _=>?_;refine gg ?_;refine WPL.ef xB fun b3=>?_;refine gg ?_;refine eF (xC (fixed_ct k n base)) fun _ _=>?_;refine gg ?_;refine WP.cond rfl (fun h7=>?_) (fun h7=>?_)
  ·have hf:fixedL k base=false:=by simpa using h7
   have hr:ofL k n base d0=cut d0:=(by unfold ofL;rw[if_pos hf]);refine gg ?_;refine vl (vC (cut_any _ _)) ?_;refine gg ?_;exact rt1 fun w hw=>⟨(),congrArg (Value.int .i64) (by rw[hr]),trivial,hw.pk⟩
  ·refine gg ?_;refine WP.condP rfl (fun h14=>?_) (fun h14=>?_)
   ·have hr:ofL k n base d0=cut n:=by unfold ofL;rw[if_neg (by simp[show fixedL k base=true by simpa using h7]),if_pos h14]
    refine gg ?_;refine vl (vC (cut_any _ _)) ?_;refine gg ?_;exact rt1 fun w hw=>⟨(),congrArg (Value.int .i64) (by rw[hr]),trivial,hw.pk⟩
   ·have hr:ofL k n base d0=partI base n:=by unfold ofL;rw[if_neg (by simp[show fixedL k base=true by simpa using h7]),if_neg h14]
    refine gg ?_;refine vl (vC (part_any _ _ _)) ?_;refine gg ?_;exact rt1 fun w hw=>⟨(),congrArg (Value.int .i64) (by rw[hr]),trivial,hw.pk⟩
theorem limit1_ct (k n base d0:Int) (bb:Nat):Ct Tryz.prog 41 #[.agg #[.int .i64 k,.int .i64 n],.int .i64 d0,.pointer (some ⟨bb,0,none⟩)] [] (fun w=>CellsAt w bb 0 [.int .i64 base]) (X:=Unit) (fun _=>.int .i64 (ofL k n base d0)) (fun _=>True) (fun _=>[]):=by
  refine Ci fun w0 hb=>?_;refine gg ?_;refine WPL.ef xB fun b3=>?_;refine gg ?_;refine vl (vO hb) ?_;refine gg ?_;refine eF (xC (lenof_ct k n base d0)) fun _ _=>?_;refine gg ?_;exact rt1 fun w hw=>⟨(),rfl,trivial,hw.pk⟩
theorem limit_ct (n lk ln hk hn base:Int):Ct Tryz.prog 20 #[.int .i64 n,.agg #[.int .i64 lk,.int .i64 ln],.agg #[.int .i64 hk,.int .i64 hn],.int .i64 base] [] (fun _=>True) (X:=Unit) (fun _=>.int .i64 (limitL n lk ln hk hn base)) (fun _=>True) (fun _=>[]):=by
  refine Ci fun w0 _=>?_;refine gg ?_;refine WPL.ef xB fun b5=>?_;refine WPL.ef xB fun b6=>?_;refine WPL.ef (x_box1 (u:=.int .i64 _) (σ':=fun _=>[_,_,_]) rfl (fun _=>rfl)) (fun b7=>?_);refine av ?_;refine nl (oo ?_);refine sqR ?_;refine vl (v_func) ?_;refine sg rfl ?_;refine gg ?_;refine wP none [0,1,2] [pT 0,pT 1,pT 2,pT 4,pT 5,pF 3,pF 6,pT 7,pT 8,pT 9] ?_;refine WPD.take rfl (v_move (v:=.int .i64 _) rfl) ?_ (fun _ h=>h.sel [0,1,2] (by decide));refine WPD.take rfl (v_move rfl) ?_ (fun _ h=>h.sel [0,1,2] (by decide));refine WPD.take rfl (v_loadA (cs:=[.int .i64 _,.int .i64 _]) Tryz.isAgg27 Tryz.sizeOf27 rfl (fun w hw=>hw.cl_at (i:=0) rfl _ rfl)) ?_ (fun _ h=>h.sel [0,1,2] (by decide));refine WPD.take rfl (v_move rfl) ?_ (fun _ h=>h.sel [0,1,2] (by decide));refine WPD.take rfl (v_loadA (cs:=[.int .i64 _,.int .i64 _]) Tryz.isAgg27 Tryz.sizeOf27 rfl (fun w hw=>hw.cl_at (i:=1) rfl _ rfl)) ?_ (fun _ h=>h.sel [0,1,2] (by decide));refine WPD.ef rfl (x_callV Tryz.call41 (limit1_ct lk ln base (-1099511627776) b7) [] [0,1,2] rfl (fun w hw=>hw.cl_at (i:=2) rfl 0 rfl) (τ:=fun _=>[_,_,_]) (fun _=>rfl)) (fun _ _ _ h=>h.2.sel [0,1,2] (by decide)) (fun _=>?_);refine WPD.fact (fun _=>?_);refine dG (xV (limit1_ct hk hn base (1099511627776) b7) Tryz.call41 (hF:=fun w hw=>hw.cl_at (i:=2) rfl 0 rfl)) fun _ _=>?_;refine tD (vC (clamp_any _ _ _ _)) ?_;refine gg ?_;exact rt1 fun w hw=>⟨(),rfl,trivial,hw.pk⟩
theorem sides_ct (k0 n0 k1 n1 k2 n2 k3 n3 base:Int):Ct Tryz.prog 17 #[.agg #[.int .i64 k0,.int .i64 n0,.int .i64 k1,.int .i64 n1,.int .i64 k2,.int .i64 n2,.int .i64 k3,.int .i64 n3],.int .i64 base] [] (fun _=>True) (X:=Unit) (fun _=>.agg #[.int .i64 (ofL k0 n0 base 0),.int .i64 (ofL k1 n1 base 0),.int .i64 (ofL k2 n2 base 0),.int .i64 (ofL k3 n3 base 0)]) (fun _=>True) (fun _=>[]):=by
  refine Ci fun w0 _=>?_;refine gg ?_;refine WPL.ef xB fun b2=>?_;refine WPL.ef xAl fun b4=>?_;refine gg ?_;refine WPL.ef xAl fun b5=>?_;refine nl (oo ?_);refine sq ?_;refine sqR ?_;refine vl (v_loadA (cs:=[.int .i64 _,.int .i64 _,.int .i64 _,.int .i64 _,.int .i64 _,.int .i64 _,.int .i64 _,.int .i64 _]) Tryz.isAgg28 Tryz.sizeOf28 rfl (fun w hw=>hw.cl_at (i:=0) rfl _ rfl)) ?_;refine mv (v:=.int .i64 (0)) rfl ?_;refine gg ?_;refine WP.loopN 5 ?_;refine WPR.succ ?_;refine gg ?_;refine WP.condT rfl ?_;refine WP.skip (onto_of ?_);refine sq ?_;refine WP.block ?_;refine sqR ?_;refine av ?_;refine vl (v_idxA (j:=0) (us:=#[.int .i64 _,.int .i64 _]) Tryz.underlying28 Tryz.isAgg27 Tryz.sizeOf27 rfl rfl rfl (by decide) rfl) ?_;refine WPL.ef xAl fun b7=>?_;refine gg ?_;refine WPL.ef0 (xW rfl) fun _=>?_;refine gg ?_;refine eF (xC (lenof_ct _ _ base 0)) fun _ _=>?_;refine gg ?_;refine WPL.ef0 (xS rfl (isI rfl)) fun _=>?_;refine nl (oo ?_);refine WP.region ?_
  iterate 2 refine av ?_
  refine WPL.nil (rounds_of ?_);refine WPR.succ ?_;refine gg ?_;refine WP.condT rfl ?_;refine WP.skip (onto_of ?_);refine sq ?_;refine WP.block ?_;refine sqR ?_;refine av ?_;refine vl (v_idxA (j:=1) (us:=#[.int .i64 _,.int .i64 _]) Tryz.underlying28 Tryz.isAgg27 Tryz.sizeOf27 rfl rfl rfl (by decide) rfl) ?_;refine WPL.ef xAl fun b7=>?_;refine gg ?_;refine WPL.ef0 (xW rfl) fun _=>?_;refine gg ?_;refine eF (xC (lenof_ct _ _ base 0)) fun _ _=>?_;refine gg ?_;refine WPL.ef0 (xS rfl (isI rfl)) fun _=>?_;refine nl (oo ?_);refine WP.region ?_
  iterate 2 refine av ?_
  refine WPL.nil (rounds_of ?_);refine WPR.succ ?_;refine gg ?_;refine WP.condT rfl ?_;refine WP.skip (onto_of ?_);refine sq ?_;refine WP.block ?_;refine sqR ?_;refine av ?_;refine vl (v_idxA (j:=2) (us:=#[.int .i64 _,.int .i64 _]) Tryz.underlying28 Tryz.isAgg27 Tryz.sizeOf27 rfl rfl rfl (by decide) rfl) ?_;refine WPL.ef xAl fun b7=>?_;refine gg ?_;refine WPL.ef0 (xW rfl) fun _=>?_;refine gg ?_;refine eF (xC (lenof_ct _ _ base 0)) fun _ _=>?_;refine gg ?_;refine WPL.ef0 (xS rfl (isI rfl)) fun _=>?_;refine nl (oo ?_);refine WP.region ?_
  iterate 2 refine av ?_
  refine WPL.nil (rounds_of ?_);refine WPR.succ ?_;refine gg ?_;refine WP.condT rfl ?_;refine WP.skip (onto_of ?_);refine sq ?_;refine WP.block ?_;refine sqR ?_;refine av ?_;refine vl (v_idxA (j:=3) (us:=#[.int .i64 _,.int .i64 _]) Tryz.underlying28 Tryz.isAgg27 Tryz.sizeOf27 rfl rfl rfl (by decide) rfl) ?_;refine WPL.ef xAl fun b7=>?_;refine gg ?_;refine WPL.ef0 (xW rfl) fun _=>?_;refine gg ?_;refine eF (xC (lenof_ct _ _ base 0)) fun _ _=>?_;refine gg ?_;refine WPL.ef0 (xS rfl (isI rfl)) fun _=>?_;refine nl (oo ?_);refine WP.region ?_
  iterate 2 refine av ?_
  refine WPL.nil (rounds_of ?_);refine WPR.succ ?_;refine gg ?_;refine WP.condF rfl ?_;refine WP.exit (onto_of ?_);refine gg ?_;refine WPL.ef0 (xW rfl) fun _=>?_;refine gg ?_;exact rtC rfl fun w hw=>⟨(),rfl,trivial,hw.pk⟩
theorem ofL_none {k base:Int} (h:fixedL k base=true) (n a b:Int):ofL k n base a=ofL k n base b:=by
  unfold ofL;simp[h]
theorem ofL_free {k base:Int} (h:fixedL k base=false) (n a:Int):ofL k n base a=cut a:=by
  unfold ofL;simp[h]
end Go.Proofs.YtpgjbbaplpdaiaaGreat
namespace Go.Proofs.YtpgjbbaplpdaiaaGreat
theorem takeS {α:Type} {l:List α} {i:Nat} {e:α} (h:l[i]?=some e):l.take (i+1)=l.take i++[e]:=by
  rw[List.take_add_one,h];rfl
section
variable {room size bk bn ek en base:Int}
theorem auto_le (h:autoLeft room size (ofL bk bn base 0) (ofL ek en base 0)≤0):autoP room size bk bn ek en base=(ofL bk bn base 0,ofL ek en base 0):=by
  simp only[autoP];rw[if_pos h]
theorem auto_both (h:¬autoLeft room size (ofL bk bn base 0) (ofL ek en base 0)≤0) (h1:fixedL bk base=false) (h2:fixedL ek base=false):autoP room size bk bn ek en base=(autoLeft room size (ofL bk bn base 0) (ofL ek en base 0) / 2,autoLeft room size (ofL bk bn base 0) (ofL ek en base 0) - autoLeft room size (ofL bk bn base 0) (ofL ek en base 0) / 2):=by
  simp only[autoP];rw[if_neg h,if_pos ⟨h1,h2⟩]
theorem auto_first (h:¬autoLeft room size (ofL bk bn base 0) (ofL ek en base 0)≤0) (h1:fixedL bk base=false) (h2:fixedL ek base=true):autoP room size bk bn ek en base=(autoLeft room size (ofL bk bn base 0) (ofL ek en base 0),ofL ek en base 0):=by
  simp only[autoP];rw[if_neg h,if_neg (by simp[h2]),if_pos h1]
theorem auto_last (h:¬autoLeft room size (ofL bk bn base 0) (ofL ek en base 0)≤0) (h1:fixedL bk base=true) (h2:fixedL ek base=false):autoP room size bk bn ek en base=(ofL bk bn base 0,autoLeft room size (ofL bk bn base 0) (ofL ek en base 0)):=by
  simp only[autoP];rw[if_neg h,if_neg (by simp[h1]),if_neg (by simp[h1]),if_pos h2]
theorem auto_none (h1:fixedL bk base=true) (h2:fixedL ek base=true):autoP room size bk bn ek en base=(ofL bk bn base 0,ofL ek en base 0):=by
  simp only[autoP]
  split
  · rfl
  · rw[if_neg (by simp[h1]),if_neg (by simp[h1]),if_neg (by simp[h2])]
end
section
variable {sizes tops bottoms:List Int} {k:Nat} {x y z:Int}
theorem stk_len:(stkStarts sizes tops bottoms).length=sizes.length:=by simp[stkStarts]
theorem stk_get (h:k<sizes.length):(stkStarts sizes tops bottoms)[k]?=some (stkStart sizes tops bottoms k):=by
  simp[stkStarts,h]
theorem stk_take (h:k<sizes.length):(stkStarts sizes tops bottoms).take (k+1)=(stkStarts sizes tops bottoms).take k++[stkStart sizes tops bottoms k]:=takeS (stk_get h)
theorem stkAt_succ (hx:sizes[k]?=some x):addI (stkStart sizes tops bottoms k) x=stkAt sizes tops bottoms (k+1):=by rw[stkAt,gI_at hx]
theorem stkStart_succ (hy:bottoms[k]?=some y) (hz:tops[k+1]?=some z):addI (stkAt sizes tops bottoms (k+1)) (collP [y,z])=stkStart sizes tops bottoms (k+1):=by rw[stkAt,stkStart,gI_at hy,gI_at hz]
theorem stkStart_zero:stkAt sizes tops bottoms 0=stkStart sizes tops bottoms 0:=by rw[stkAt,stkStart]
theorem stkAt_bd (sizes tops bottoms:List Int) (k:Nat):-1099511627776≤stkAt sizes tops bottoms k∧stkAt sizes tops bottoms k≤1099511627776:=by
  cases k with
  | zero=>rw[stkAt];omega
  | succ k=>rw[stkAt];exact addI_bd _ _
theorem stkStart_bd (sizes tops bottoms:List Int) (k:Nat):-1099511627776≤stkStart sizes tops bottoms k∧stkStart sizes tops bottoms k≤1099511627776:=by
  cases k with
  | zero=>rw[stkStart];omega
  | succ k=>rw[stkStart];exact addI_bd _ _
end
theorem long_gap {l:List Int} {gap x:Int} {k:Nat} (h:k≠0) (hx:l[k]?=some x):addI (addI (longK l gap k) gap) x=longK l gap (k+1):=by rw[longK,if_neg h,gI_at hx]
theorem long_first {l:List Int} {gap x:Int} (hx:l[0]?=some x):addI (longK l gap 0) x=longK l gap (0+1):=by rw[longK.eq_2,if_pos rfl,gI_at hx]
theorem longK_bd (l:List Int) (gap:Int) (k:Nat):-1099511627776≤longK l gap k∧longK l gap k≤1099511627776:=by
  cases k with
  | zero=>rw[longK];omega
  | succ k=>rw[longK];exact addI_bd _ _
section
variable (l:List Int) (room gap:Int) (wrap:Bool)
def brkS:Nat→List (Nat×Nat)×Nat×Int
  | 0=>([],0,0)
  | i + 1 =>
    if i=(brkS i).2.1 then ((brkS i).1,(brkS i).2.1,cut (gI l i))
    else if i<(brkS i).2.1+64∧(wrap=false∨addI (addI (brkS i).2.2 gap) (gI l i)≤room) then ((brkS i).1,(brkS i).2.1,addI (addI (brkS i).2.2 gap) (gI l i))
    else ((brkS i).1++[((brkS i).2.1,i)],i,cut (gI l i))
def breaksP:List (Nat×Nat):=if (brkS l room gap wrap l.length).2.1<l.length then (brkS l room gap wrap l.length).1++[((brkS l room gap wrap l.length).2.1,l.length)] else (brkS l room gap wrap l.length).1
variable {l room gap wrap} {i f:Nat} {o:List (Nat×Nat)} {n x:Int}
theorem brk_same (h:brkS l room gap wrap i=(o,f,n)) (hx:l[i]?=some x) (he:i=f):brkS l room gap wrap (i+1)=(o,f,cut x):=by
  rw[brkS,h,gI_at hx];simp[he]
theorem brk_more (h:brkS l room gap wrap i=(o,f,n)) (hx:l[i]?=some x) (he:i≠f) (h1:i<f+64) (h2:wrap=false∨addI (addI n gap) x≤room):brkS l room gap wrap (i+1)=(o,f,addI (addI n gap) x):=by
  rw[brkS,h,gI_at hx];simp only;rw[if_neg he,if_pos ⟨h1,h2⟩]
theorem brk_next (h:brkS l room gap wrap i=(o,f,n)) (hx:l[i]?=some x) (he:i≠f) (h2:¬(i<f+64∧(wrap=false∨addI (addI n gap) x≤room))):brkS l room gap wrap (i+1)=(o++[(f,i)],i,cut x):=by
  rw[brkS,h,gI_at hx];simp only;rw[if_neg he,if_neg h2]
theorem brk_le:∀i,(brkS l room gap wrap i).2.1≤i
  | 0=>Nat.le_refl _
  | i + 1 => by
    have h:=brk_le i;rw[brkS]
    repeat' split
    all_goals simp only;omega
theorem brk_lt:∀i,(brkS l room gap wrap (i+1)).2.1≤i:=fun i=>by
  have h:=brk_le (l:=l) (room:=room) (gap:=gap) (wrap:=wrap) i;rw[brkS]
  repeat' split
  all_goals simp only;omega
theorem breaks_all (h:brkS l room gap wrap l.length=(o,f,n)) (hf:f<l.length):breaksP l room gap wrap=o++[(f,l.length)]:=by
  unfold breaksP;rw[h];simp[hf]
theorem brk_mono:∀(i:Nat) (m:Nat),m≤(brkS l room gap wrap i).1.length→∀j,i≤j→(brkS l room gap wrap j).1.take m=(brkS l room gap wrap i).1.take m∧(brkS l room gap wrap i).1.length≤(brkS l room gap wrap j).1.length:=by
  intro i m hm j hj;induction j with
  | zero => obtain rfl : i = 0 := by omega
            exact⟨rfl,Nat.le_refl _⟩
  | succ j ih =>
    by_cases e:i=j+1
    · subst e;exact⟨rfl,Nat.le_refl _⟩
    · obtain ⟨h1, h2⟩ := ih (by omega)
      rw[brkS]
      split
      · exact⟨h1,h2⟩
      · split
        · exact⟨h1,h2⟩
        · simp only
          refine⟨?_,by rw[List.length_append];omega⟩;rw[List.take_append_of_le_length (by omega)];exact h1
theorem breaks_get (h:brkS l room gap wrap (i+1)=(o++[(f,i)],i,n)) (hi:i<l.length):(breaksP l room gap wrap)[o.length]?=some (f,i):=by
  have h1:=brk_mono (l:=l) (room:=room) (gap:=gap) (wrap:=wrap) (i+1) (o.length+1) (by rw[h];simp) l.length (by omega);rw[h] at h1;simp only[List.length_append,List.length_singleton] at h1;have h2:(brkS l room gap wrap l.length).1[o.length]?=some (f,i):=by
    have h3:((brkS l room gap wrap l.length).1.take (o.length+1))[o.length]?=some (f,i):=by
      rw[h1.1,List.take_of_length_le (by simp),List.getElem?_append_right (Nat.le_refl _)];simp
    rw[List.getElem?_take,if_pos (by omega)] at h3;exact h3
  unfold breaksP
  split
  · rw[List.getElem?_append_left (List.getElem?_eq_some_iff.1 h2).1];exact h2
  · exact h2
theorem breaks_last (h:brkS l room gap wrap l.length=(o,f,n)) (hf:f<l.length):(breaksP l room gap wrap)[o.length]?=some (f,l.length)∧(breaksP l room gap wrap).length=o.length+1:=by
  rw[breaks_all h hf];constructor
  · rw[List.getElem?_append_right (Nat.le_refl _)];simp
  · simp
theorem brk_count:∀i,(brkS l room gap wrap i).1.length≤(brkS l room gap wrap i).2.1
  | 0=>Nat.le_refl _
  | i + 1 => by
    have h:=brk_count i;have h2:=brk_le (l:=l) (room:=room) (gap:=gap) (wrap:=wrap) i;rw[brkS]
    split
    · exact h
    · split
      · exact h
      · simp only[List.length_append,List.length_singleton];omega
theorem breaks_count:(breaksP l room gap wrap).length≤l.length:=by
  have h:=brk_count (l:=l) (room:=room) (gap:=gap) (wrap:=wrap) l.length;have h2:=brk_le (l:=l) (room:=room) (gap:=gap) (wrap:=wrap) l.length;unfold breaksP
  split
  · simp only[List.length_append,List.length_singleton];omega
  · omega
end
def encP2 (p:Nat×Nat):List Value:=[.int .i64 (p.1:Int),.int .i64 (p.2:Int)]
section
variable {kind left n:Int}
theorem beforeP_bd {k:Int} (h:-1099511627776≤left∧left≤1099511627776):-1099511627776≤beforeP kind left n k∧beforeP kind left n k≤1099511627776:=by
  unfold beforeP partJ
  repeat' split
  all_goals first | exact h | exact divI_bd _ _ | omega
theorem bef1 (k:Int) (h:kindJ kind left n=1):beforeP kind left n k=left:=by unfold beforeP;rw[if_pos h]
theorem bef2 (k:Int) (h:kindJ kind left n=2):beforeP kind left n k=divI left 2:=by unfold beforeP;rw[if_neg (by omega),if_pos h]
theorem bef3 (k:Int) (h:kindJ kind left n=3):beforeP kind left n k=partJ left k (n - 1):=by unfold beforeP;rw[if_neg (by omega),if_neg (by omega),if_pos h]
theorem bef4 (k:Int) (h:kindJ kind left n=4):beforeP kind left n k=partJ left (2*k+1) (2*n):=by unfold beforeP;rw[if_neg (by omega),if_neg (by omega),if_neg (by omega),if_pos h]
theorem bef5 (k:Int) (h:kindJ kind left n=5):beforeP kind left n k=partJ left (k+1) (n+1):=by unfold beforeP;rw[if_neg (by omega),if_neg (by omega),if_neg (by omega),if_neg (by omega),if_pos h]
theorem bef0 (k:Int) (h1:kindJ kind left n≠1) (h2:kindJ kind left n≠2) (h3:kindJ kind left n≠3) (h4:kindJ kind left n≠4) (h5:kindJ kind left n≠5):beforeP kind left n k=0:=by unfold beforeP;rw[if_neg h1,if_neg h2,if_neg h3,if_neg h4,if_neg h5]
end
section
variable {kind left gap:Int} {l:List Int} {k:Nat} {x:Int}
theorem starts_len (kind:Int) (l:List Int) (room gap:Int):(startsP kind l room gap).length=l.length:=by simp[startsP]
theorem jAt_succ (hx:l[k]?=some x):addI (jStart kind left gap l k) x=jAt kind left gap l (k+1):=by rw[jAt,gI_at hx];rfl
theorem starts_get {kind:Int} {l:List Int} {room gap:Int} {k:Nat} (h:k<l.length):(startsP kind l room gap)[k]?=some (jStart kind (subI room (longP l gap)) gap l k):=by simp[startsP,h]
theorem starts_take (kind:Int) (l:List Int) (room gap:Int) {k:Nat} (h:k<l.length):(startsP kind l room gap).take (k+1)=(startsP kind l room gap).take k++[jStart kind (subI room (longP l gap)) gap l k]:=takeS (by simp[startsP,h])
end
end Go.Proofs.YtpgjbbaplpdaiaaGreat
