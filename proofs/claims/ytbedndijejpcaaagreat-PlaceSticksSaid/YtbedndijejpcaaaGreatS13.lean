/- FlexRound FlexSizes FlexRefSizes Num FixPure FlowNum -/
import Derived.Test.YtbedndijejpcaaaGreatS12
set_option linter.unusedVariables false
set_option linter.unusedSimpArgs false
set_option linter.unusedSectionVars false
set_option maxRecDepth 100000
set_option maxHeartbeats 8000000
namespace Go.Proofs.YtbedndijejpcaaaGreat
open Go.RowKit
abbrev intsI (A:Option Addr) (c:Nat) (l:List Int):HI:=.row 3 1 A l.length c (l.map (Value.int .i64))
abbrev intsV (A:Option Addr) (c:Nat) (l:List Int):Value:=.slice A l.length c
theorem intsI_snoc (A:Option Addr) (c:Nat) (l:List Int) (x:Int):intsI A c (l++[x])=.row 3 1 A (l.length+1) c (l.map (Value.int .i64)++[.int .i64 x]):=by simp[intsI]
theorem intsV_snoc (A:Option Addr) (c:Nat) (l:List Int) (x:Int):intsV A c (l++[x])=.slice A (l.length+1) c:=by simp[intsV]
theorem weights_ct (t:Nat) (A:Option Addr) (cap:Nat) (room:Int) (g:Bool) (es:List FE) (hok:oks es) (hl:es.length≤64):
    Ct Tryz.prog 253 #[.pointer (some ⟨t,0,none⟩)] [tblI t A es.length cap room g,entI A es.length cap es] (fun _=>True) (X:=Option Addr×Nat) (fun p=>intsV p.1 p.2 (wts g es es.length)) (fun _=>True)
      (fun p=>[tblI t A es.length cap room g,entI A es.length cap es,intsI p.1 p.2 (wts g es es.length)]):=by
  refine Ci fun w0 _=>?_;refine gg ?_;refine WPL.ef (x_box1 (u:=.pointer _) (σ':=fun _=>[_,_,_]) rfl (fun _=>rfl)) (fun b1=>?_);refine gg ?_;refine WPL.ef xAl fun b3=>?_;refine nl (oo ?_);refine sq ?_;refine sqR ?_;refine av ?_;refine vl (v_func) ?_;refine nl (oo ?_);refine WP.block ?_;refine WP.pre ?_ (fun w hw=>hw.nilRow 3 1);refine WP.rangeFunc (gf:=256) (first:=[.pointer (some ⟨t,0,none⟩)]) (cap:=[]) rfl Tryz.call256 (X:=Option Addr×Nat) (Fin:=fun x=>True) (τ:=fun x=>[tblI t A es.length cap room g,entI A es.length cap es,.cl b1 296 [.pointer (some ⟨t,0,none⟩)],.cl b3 49 [intsV x.1 x.2 (wts g es es.length)],intsI x.1 x.2 (wts g es es.length)]) ?_ ?_
  ·intro kk l D hps has hbd hfr w hw
   refine (open_it (X := Nat × Option Addr × Nat) (fun _ => es) (fun x => [.cl b1 296 [.pointer (some ⟨t, 0, none⟩)], .cl b3 49 [intsV x.2.1 x.2.2 (wts g es x.1)], intsI x.2.1 x.2.2 (wts g es x.1), lp l kk .ready none, dfr D]) (fun j x => x.1 = j) hl (fun _ _ _ => rfl) ?_ (0, none, 0) rfl w hw ?_).mono (by
     rintro e w' ⟨hv, x, hx, h⟩
     have hx : x.1 = es.length := hx
     simp only [hx] at h
     exact ⟨hv, x.2, trivial, h⟩)
   · intro j x e hx he hf
     have he:es[j]?=some e:=he;subst hx;exact⟨(x.1+1,x.2),rfl,fun w hw=>by simp only[wts_shut (g:=g) he hf];exact hw⟩
   intro j x e b hx he hf hA;have he:es[j]?=some e:=he;subst hA hx;have ho:=hok _ _ he;have hwb:=wt_bd ho g;have hwl:(wts g es x.1).length≤x.1:=by rw[kth_wts];exact kth_le es _
   have hxl:=(List.getElem?_eq_some_iff.1 he).1;refine Yld.intro hps has hbd hfr (i:=5) rfl rfl (by decide) ?_;refine WP.region ?_;refine av ?_;refine WPL.nil (begun_of (i:=5) rfl ?_);refine gg ?_;refine WP.drawSel none [1,2,3,4,5,6] [(0,true),(1,true),(2,true),(3,true),(4,false),(5,true)] mixed (by kernel_rfl) (by decide) ?_;refine WPD.take rfl (v_load1 (u:=.pointer _) Tryz.isAgg296 rfl (fun w hw=>hw.cl_at (i:=1) rfl _ rfl)) ?_ (fun _ h=>h.sel [1,2,3,4,5,6] (by decide));refine WPD.take rfl (v_move (v:=.pointer _) rfl) ?_ (fun _ h=>h.sel [1,2,3,4,5,6] (by decide));refine WPD.take rfl (v_nil rfl) ?_ (fun _ h=>h.sel [1,2,3,4,5,6] (by decide));refine WPD.take rfl (v_loadA (cs:=[.int .i64 _,.int .i64 _,.int .i64 _,.int .i64 _,.int .i64 _,.int .i64 _,.bool _]) Tryz.isAgg302 Tryz.sizeOf302 rfl (fun w hw=>hw.row_at (i:=0) rfl _ (fun j u hu=>by rw[Nat.zero_add];exact flat_at FE.enc 7 (fun _=>rfl) es x.1 j e u he hu))) ?_ (fun _ h=>h.sel [1,2,3,4,5,6] (by decide));refine WPD.ef rfl (x_call Tryz.call252 (factor_ct t _ es.length cap room g e) [0] [1,2,3,4,5,6] rfl (fun w hw=>trivial) (τ:=fun _=>[_,_,_,_,_,_,_]) (fun _=>rfl)) (fun _ _ _ h=>h.2.sel [0,1,2,3,4,5] (by decide)) (fun _=>?_);refine WPD.fact (fun _=>?_);refine WPD.take rfl (v_assign (v:=.int .i64 _) rfl) ?_ (fun _ h=>h.sel [0,1,2,3,4,5] (by decide));refine gg ?_;refine WP.cond rfl (fun h18=>?_) (fun h18=>?_)
   case' _=>
    have hgf:g=false:=by simpa using h18
    have hm:fct g e*e.it.base=wt g e:=by simp[fct,wt,hgf]
    refine gg ?_;refine vl (vR 0 (flat_at FE.enc 7 (fun _=>rfl) es x.1 0 e _ he rfl)) ?_;refine vl (v_mul rfl rfl (by rw[hm];omega)) ?_;rw[hm]
   rotate_left
   case' _=>
    have hgt:g=true:=by simpa using h18
    rw[show fct g e=wt g e by simp[fct,wt,hgt]]
   all_goals
    refine gg ?_;refine WPL.ef (xN (L1 rfl)) fun g28=>?_;refine WPL.ef (xP 3 7) fun⟨A29,c29⟩=>?_;refine WPL.ef0 (xS rfl (isS rfl)) fun _=>?_
    exact nl fun w hw => RoundQ.normal (i := 5) rfl (hw.sel [6, 0, 1, 2, 3, 4, 5] (by decide)) (fun w' hw' => ⟨(x.1 + 1, A29, c29), rfl, rfl, by
      simp only [wts_open (g := g) he hf, intsI_snoc, intsV_snoc]
      exact hw'⟩)
  ·intro D x hx;refine id (onto_of ?_);refine gg ?_;exact WP.retM [D] (τ:=[_,_,_]) (fun w hw=>(hw.sel [0,1,4,5] (by decide))) (fun _ h=>h) (fun w hw=>RetQ.of1 Tryz.results253 (.inl rfl) ⟨x,rfl,trivial,hw⟩)
theorem upto_at {α:Type} (f:Nat→α→α) (l:List α) (i:Nat):(upto f l i)[i]?=l[i]?:=by
  simp only[upto,List.getElem?_mapIdx];cases l[i]? with
  | none=>rfl
  | some x=>simp
def frozz (g:Bool) (room:Int) (es:List FE) (i:Nat) (e:FE):FE:=if e.fr then e else {e with fr:=judge (moreTo g room es es.length) (e.size - want g room es i e)}
theorem frozz_all (g:Bool) (room:Int) (es:List FE):upto (frozz g room es) (upto (sized g room es) es es.length) es.length=round g room es:=by
  rw[upto_all _ _ (by rw[upto_length];omega),upto_all _ _ (by omega)];apply List.ext_getElem?;intro i;simp only[round,List.getElem?_mapIdx];cases es[i]? with
  | none=>rfl
  | some e =>
    simp only[Option.map_some]
    congr 1
    cases hf:e.fr with
    | true=>simp[sized,froze,frozz,hf]
    | false=>simp[sized,froze,frozz,hf,gap,want]
theorem ints_at {l:List Int} {k:Nat} {x:Int} (h:l[k]?=some x):(l.map (Value.int .i64))[k]?=some (.int .i64 x):=by rw[List.getElem?_map,h];rfl
theorem flat_len (l:List FE) (f:Nat→FE→FE) (i:Nat):((upto f l i).flatMap FE.enc).length=l.length*7:=by
  have h:∀l:List FE,(l.flatMap FE.enc).length=l.length*7:=fun l=>by
    induction l with
    | nil=>rfl
    | cons a l ih=>simp[ih];omega
  rw[h,upto_length]
theorem item_cell {e:FE} {j:Nat} {u:Value} (h:([.int .i64 e.it.base,.int .i64 e.it.low,.int .i64 e.it.high,.int .i64 e.it.grow,.int .i64 e.it.shrink]:List Value)[j]?=some u):e.enc[j]?=some u:=by
  have hj:=(List.getElem?_eq_some_iff.1 h).1
  match j,h with
  | 0,h=>exact h
  | 1,h=>exact h
  | 2,h=>exact h
  | 3,h=>exact h
  | 4,h=>exact h
  | j+5,h=>simp at h
theorem sized_at {g:Bool} {room:Int} {es:List FE} {i:Nat} {e:FE} (h:(upto (sized g room es) es es.length)[i]?=some e) (hf:e.fr=false):∃e0,es[i]?=some e0∧e0.fr=false∧e=sized g room es i e0:=by
  cases he:es[i]? with
  | none=>rw[List.getElem?_eq_none (by rw[upto_length];exact List.getElem?_eq_none_iff.1 he)] at h;cases h
  | some e0 =>
    rw[upto_get _ _ _ he,if_pos (List.getElem?_eq_some_iff.1 he).1] at h;cases h;refine⟨e0,rfl,?_,rfl⟩;cases h0:e0.fr with
    | true=>simp[sized,h0] at hf
    | false=>rfl
theorem sized_shut {g:Bool} {room:Int} {es:List FE} {i:Nat} {e:FE} (h:(upto (sized g room es) es es.length)[i]?=some e) (hf:e.fr=true):∃e0,es[i]?=some e0∧e0.fr=true:=by
  cases he:es[i]? with
  | none=>rw[List.getElem?_eq_none (by rw[upto_length];exact List.getElem?_eq_none_iff.1 he)] at h;cases h
  | some e0 =>
    rw[upto_get _ _ _ he,if_pos (List.getElem?_eq_some_iff.1 he).1] at h;cases h;refine⟨e0,rfl,?_⟩;cases h0:e0.fr with
    | true=>rfl
    | false=>simp[sized,h0] at hf
theorem judge_of {c:Bool} {m b:Int} (h:c=true↔(m=0∨(0<m∧0<b)∨(m<0∧b<0))):c=judge m b:=by
  have h2:judge m b=true↔(m=0∨(0<m∧0<b)∨(m<0∧b<0)):=by simp[judge,or_assoc]
  rw[Bool.eq_iff_iff,h,h2]
theorem sized_cell (g:Bool) (room:Int) (es:List FE) (i:Nat) (e:FE) (hf:e.fr=false):e.enc.set 5 (.int .i64 (e.it.fit (want g room es i e)))=(sized g room es i e).enc:=by simp[sized,hf]
theorem frozz_cell {g:Bool} {room:Int} {es:List FE} {i:Nat} {e:FE} {c:Bool} (hf:e.fr=false) (hc:c=judge (moreTo g room es es.length) (e.size - want g room es i e)):e.enc.set 6 (.bool c)=(frozz g room es i e).enc:=by simp[frozz,hf,hc]
theorem want_t {g:Bool} {room:Int} {es:List FE} {i:Nat} {e:FE} (h:g=true):e.it.base+(parts g room es).getD (kth es i) 0=want g room es i e:=by subst h;simp[want,sgnG]
theorem want_f {g:Bool} {room:Int} {es:List FE} {i:Nat} {e:FE} (h:g=false):e.it.base - (parts g room es).getD (kth es i) 0=want g room es i e:=by subst h;simp only[want,sgnG,Bool.false_eq_true,if_false];omega
theorem round_ct (t:Nat) (A:Option Addr) (cap:Nat) (room:Int) (g:Bool) (es:List FE) (hok:oks es) (hl:es.length≤64) (hr:0≤room∧room≤67108864):
    Ct Tryz.prog 242 #[.pointer (some ⟨t,0,none⟩)] [tblI t A es.length cap room g,entI A es.length cap es] (fun _=>True) (X:=Unit) (fun _=>.bool (decide ((0:Int)<(wts g es es.length).length))) (fun _=>True)
      (fun _=>[tblI t A es.length cap room g,entI A es.length cap (round g room es)]):=by
  refine Ci fun w0 _=>?_;refine gg ?_;refine WPL.ef (x_box1 (u:=.pointer _) (σ':=fun _=>[_,_,_]) rfl (fun _=>rfl)) (fun b1=>?_);refine gg ?_;refine eF (xC (weights_ct t A cap room g es hok hl)) fun⟨WA,wc⟩ _=>?_;refine gg ?_;refine eF (xC (free_ct t A cap room g es hok hl hr)) fun _ _=>?_;refine gg ?_;refine eF (xC (share_ct WA wc (fre g room es) (wts g es es.length) (by rw[kth_wts];exact Nat.le_trans (kth_le es _) hl)) (hF:=fun w hw=>hw.rd_row1 (i:=1) rfl)) fun⟨P,pc⟩ _=>?_;refine WPL.ef xAl fun b4=>?_;refine WPL.ef0 (xS rfl (isS rfl)) fun _=>?_;refine gg ?_;refine WPL.ef xAl fun b5=>?_;refine gg ?_;refine WPL.ef xAl fun b6=>?_;refine WPL.ef xAl fun b7=>?_;refine WPL.ef0 (xS rfl (isI rfl)) fun _=>?_;refine WPL.ef0 (xS rfl (isI rfl)) fun _=>?_;refine nl (oo ?_);refine sq ?_;refine sqR ?_;refine av ?_;refine vl (v_func) ?_;refine nl (oo ?_);refine WP.block ?_;refine WP.pre ?_ (fun w hw=>((hw.sel [2,3,0,5,4,6,7,8] (by decide))).nilRow 3 1);refine WP.rangeFunc (gf:=256) (first:=[.pointer (some ⟨t,0,none⟩)]) (cap:=[]) rfl Tryz.call256 (X:=Option Addr×Nat) (Fin:=fun x=>True) (τ:=fun x=>[tblI t A es.length cap room g,entI A es.length cap (upto (sized g room es) es es.length),.cl b1 296 [.pointer (some ⟨t,0,none⟩)],.cl b4 49 [.slice P (wts g es es.length).length pc],.row 3 1 P (wts g es es.length).length pc ((parts g room es).map (Value.int .i64)),.cl b5 49 [intsV x.1 x.2 (wtd g room es es.length)],.cl b6 3 [.int .i64 ((kth es es.length:Nat):Int)],.cl b7 3 [.int .i64 (moreTo g room es es.length)],intsI x.1 x.2 (wtd g room es es.length)]) ?_ ?_
  ·intro kk l D hps has hbd hfr w hw
   refine (open_it (X := Nat × Option Addr × Nat) (fun x => upto (sized g room es) es x.1) (fun x => [.cl b1 296 [.pointer (some ⟨t, 0, none⟩)], .cl b4 49 [.slice P (wts g es es.length).length pc], .row 3 1 P (wts g es es.length).length pc ((parts g room es).map (Value.int .i64)), .cl b5 49 [intsV x.2.1 x.2.2 (wtd g room es x.1)], .cl b6 3 [.int .i64 ((kth es x.1 : Nat) : Int)], .cl b7 3 [.int .i64 (moreTo g room es x.1)], intsI x.2.1 x.2.2 (wtd g room es x.1), lp l kk .ready none, dfr D]) (fun j x => x.1 = j) hl (fun _ _ _ => upto_length _ _ _) ?_ (0, none, 0) rfl w (by simp only [upto_zero]; exact hw) ?_).mono (by
     rintro e w' ⟨hv, x, hx, h⟩
     have hx : x.1 = es.length := hx
     simp only [hx] at h
     exact ⟨hv, x.2, trivial, h⟩)
   · intro j x e hx he hf
     subst hx;rw[upto_at] at he;exact⟨(x.1+1,x.2),rfl,fun w hw=>by simp only[wtd_shut (g:=g) (room:=room) he hf,kth_shut he hf,more_shut (g:=g) (room:=room) he hf,upto_skip (sized g room es) es x.1 he (by simp[sized,hf])];exact hw⟩
   intro j x e b hx he hf hA;subst hA hx;have he1:=he;rw[upto_at] at he;have ho:=hok _ _ he;have hwl:(wtd g room es x.1).length≤x.1:=by rw[kth_wtd];exact kth_le es _
   have hxl:=(List.getElem?_eq_some_iff.1 he).1;have hkl:=kth_lt he hf;have hkx:=kth_le es x.1;have hpl:=kth_wts g es es.length;have hpb:0≤(parts g room es).getD (kth es x.1) 0∧(parts g room es).getD (kth es x.1) 0≤67108864:=share_bd (fre g room es) (wts g es es.length) (kth es x.1);have hwb:=want_bd (g:=g) (room:=room) hok he;have hgb:=gap_bd (g:=g) (room:=room) hok he;have hmb:=more_bd (g:=g) (room:=room) hok x.1;have hpg:=parts_get (g:=g) (room:=room) he hf;unfold gap at hgb;have ho1:=ho;unfold FE.ok at ho1;refine Yld.intro hps has hbd hfr (i:=9) rfl rfl (by decide) ?_;refine WP.region ?_;refine av ?_;refine WPL.nil (begun_of (i:=9) rfl ?_);refine WP.holds (fun w hw=>hw.row_pos (i:=4) rfl (by omega)) (fun⟨pb,hP⟩=>?_);subst hP;refine gg ?_;refine WP.drawS none [(0,true),(1,true),(2,true),(3,true),(4,true),(5,true),(6,true),(7,true),(8,true),(9,true),(10,true)] mixed (by kernel_rfl) (by decide) (fun _ h=>h.drawn) ?_
   iterate 4 refine ad ?_
   refine WPD.take rfl (v_load1 (u:=.int .i64 _) Tryz.isAgg3 rfl (fun w hw=>hw.row_at1 (i:=1) rfl (flat_at FE.enc 7 (fun _=>rfl) _ x.1 0 e _ he1 rfl) (by omega))) ?_ (fun _ h=>h)
   iterate 2 refine ad ?_
   refine tD (vX (kth es x.1)) ?_;refine WPD.take rfl (v_load1 (u:=.int .i64 _) Tryz.isAgg3 rfl (fun w hw=>hw.row_at1 (i:=4) rfl (ints_at hpg) (by omega))) ?_ (fun _ h=>h);refine gg ?_;refine WP.cond rfl (fun h34=>?_) (fun h34=>?_)
   case' _=>
    have hm:=want_t (room:=room) (es:=es) (i:=x.1) (e:=e) h34;refine WP.drawS none [(0,true),(1,true),(2,true),(3,true),(4,true),(5,true),(6,true),(7,true),(8,true),(9,true),(10,true)] mixed (by kernel_rfl) (by decide) (fun _ h=>h.drawn) ?_
    iterate 4 refine ad ?_
    refine WPD.take rfl (v_load1 (u:=.int .i64 _) Tryz.isAgg3 rfl (fun w hw=>hw.row_at1 (i:=1) rfl (flat_at FE.enc 7 (fun _=>rfl) _ x.1 0 e _ he1 rfl) (by omega))) ?_ (fun _ h=>h)
    iterate 2 refine ad ?_
    refine tD (vX (kth es x.1)) ?_;refine WPD.take rfl (v_load1 (u:=.int .i64 _) Tryz.isAgg3 rfl (fun w hw=>hw.row_at1 (i:=4) rfl (ints_at hpg) (by omega))) ?_ (fun _ h=>h);refine ad ?_
   rotate_left
   case' _=>
    have hm:=want_f (room:=room) (es:=es) (i:=x.1) (e:=e) h34
   all_goals
    rw[hm];refine gg ?_;refine WPL.ef0 (x_store (u:=.int .i64 _) (σ':=[_,_,_,_,_,_,.cl _ _ [_],_,_,_,_]) Tryz.sizeOf3 rfl rfl (i:=6) rfl (Nat.lt_of_lt_of_le (Nat.lt_succ_self _) (Nat.le_of_ble_eq_true rfl)) rfl) (fun _=>?_);refine nl (oo ?_);refine sqR ?_
    iterate 4 refine av ?_
    refine vl (v_loadA (cs:=[.int .i64 _,.int .i64 _,.int .i64 _,.int .i64 _,.int .i64 _]) Tryz.isAgg264 Tryz.sizeOf264 rfl (fun w hw=>hw.row_at (i:=1) rfl _ (fun j u hu=>by rw[Nat.zero_add];exact flat_at FE.enc 7 (fun _=>rfl) _ x.1 j e u he1 (item_cell hu)))) ?_;refine gg ?_;refine eF (xC (fit_ct e.it (want g room es x.1 e))) fun _ _=>?_;refine gg ?_;refine WPL.ef0 (x_storeRow' (u:=.int .i64 _) (xs':=(upto (sized g room es) es (x.1+1)).flatMap FE.enc) (σ':=[_,_,_,_,_,_,_,_,_,_,_]) Tryz.sizeOf3 rfl rfl (i:=1) rfl (by rw[flat_len];omega) (by rw[Nat.zero_add,flat_set FE.enc 7 (fun _=>rfl) _ x.1 5 e (sized g room es x.1 e) _ he1 (by decide) (sized_cell g room es x.1 e hf),upto_succ _ _ _ he]) rfl) (fun _=>?_);refine gg ?_;refine WPL.ef (xN (L1 rfl)) fun g58=>?_;refine WPL.ef (xP 8 11) fun⟨A59,c59⟩=>?_;refine WPL.ef0 (xS rfl (isS rfl)) fun _=>?_;refine gg ?_;refine WP.drawS (some 8) [(0,true),(1,true),(2,true),(3,true),(4,true),(5,true),(6,true),(7,true),(8,false)] mixed (by kernel_rfl) (by decide) (fun _ h=>h.drawn) ?_;refine gg ?_;refine tD (vR 1 (flat_at FE.enc 7 (fun _=>rfl) _ x.1 5 (sized g room es x.1 e) (.int .i64 (e.it.fit (want g room es x.1 e))) (by rw[upto_get _ _ _ he,if_pos (by omega)]) (by simp[sized,hf]))) ?_;refine gg ?_;refine dE0 (xS rfl (isI rfl)) fun _=>?_
    exact WPD.nil fun w hw => RoundQ.normal (i := 9) rfl (hw.sel [0, 1, 2, 3, 4, 5, 6, 7, 8, 9, 10] (by decide)) (fun w' hw' => ⟨(x.1 + 1, A59, c59), rfl, rfl, by
      simp only [wtd_open (g := g) (room := room) he hf, kth_open he hf, more_open (g := g) (room := room) he hf, intsI_snoc, intsV_snoc]
      exact hw'⟩)
  ·intro D1 x hx;obtain⟨A2,c2⟩:=x;refine id (onto_of ?_);refine gg ?_;refine WPL.ef0 (xS rfl (isI rfl)) fun _=>?_;refine nl (oo ?_);refine sq ?_;refine sqR ?_;refine av ?_;refine vl (v_func) ?_;refine nl (oo ?_);refine WP.block ?_;refine sl [0,1,2,3,4,5,6,7,8,9] ?_;refine WP.rangeFunc (gf:=256) (first:=[.pointer (some ⟨t,0,none⟩)]) (cap:=[]) rfl Tryz.call256 (X:=Unit) (Fin:=fun x=>True) (τ:=fun x=>[tblI t A es.length cap room g,entI A es.length cap (upto (frozz g room es) (upto (sized g room es) es es.length) es.length),.cl b1 296 [.pointer (some ⟨t,0,none⟩)],.cl b4 49 [.slice P (wts g es es.length).length pc],.row 3 1 P (wts g es es.length).length pc ((parts g room es).map (Value.int .i64)),.cl b5 49 [intsV A2 c2 (wtd g room es es.length)],.cl b6 3 [.int .i64 ((kth es es.length:Nat):Int)],.cl b7 3 [.int .i64 (moreTo g room es es.length)],intsI A2 c2 (wtd g room es es.length),dfr D1]) ?_ ?_
   ·intro kk l D hps has hbd hfr w hw
    refine (open_it (X := Nat) (fun x => upto (frozz g room es) (upto (sized g room es) es es.length) x) (fun x => [.cl b1 296 [.pointer (some ⟨t, 0, none⟩)], .cl b4 49 [.slice P (wts g es es.length).length pc], .row 3 1 P (wts g es es.length).length pc ((parts g room es).map (Value.int .i64)), .cl b5 49 [intsV A2 c2 (wtd g room es es.length)], .cl b6 3 [.int .i64 ((kth es x : Nat) : Int)], .cl b7 3 [.int .i64 (moreTo g room es es.length)], intsI A2 c2 (wtd g room es es.length), dfr D1, lp l kk .ready none, dfr D]) (fun j x => x = j) hl (fun _ _ _ => by rw [upto_length, upto_length]) ?_ 0 rfl w (by simp only [upto_zero]; exact hw) ?_).mono (by
      rintro e w' ⟨hv, x, hx, h⟩
      have hx : x = es.length := hx
      subst hx
      exact ⟨hv, (), trivial, h⟩)
    · intro j x e hx he hf
      subst hx;rw[upto_at] at he;have he0:∃e0,es[x]?=some e0∧e0.fr=true:=sized_shut he hf;obtain⟨e0,he0,hf0⟩:=he0;exact⟨x+1,rfl,fun w hw=>by simp only[kth_shut he0 hf0,upto_skip (frozz g room es) _ x he (by simp[frozz,hf])];exact hw⟩
    intro j x e b hx he hf hA;subst hA hx;have he1:=he;rw[upto_at] at he;obtain⟨e0,he0,hf0,hes⟩:∃e0,es[x]?=some e0∧e0.fr=false∧e=sized g room es x e0:=sized_at he hf;have hxl:=(List.getElem?_eq_some_iff.1 he0).1;have hkl:=kth_lt he0 hf0;have hkx:=kth_le es x;have hwl:=kth_wtd g room es es.length;have hwg:=wtd_get (g:=g) (room:=room) he0 hf0;have hit:e.it=e0.it:=by rw[hes];simp[sized,hf0]
    have hwe:want g room es x e=want g room es x e0:=by simp[want,hit]
    have hsz:e.size=e0.it.fit (want g room es x e0):=by rw[hes];simp[sized,hf0]
    have hwb:=want_bd (g:=g) (room:=room) hok he0;have hgb:=gap_bd (g:=g) (room:=room) hok he0;have hmb:=more_bd (g:=g) (room:=room) hok es.length;unfold gap at hgb;rw[←hsz] at hgb;refine Yld.intro hps has hbd hfr (i:=10) rfl rfl (by decide) ?_;refine WP.region ?_;refine av ?_;refine WPL.nil (begun_of (i:=10) rfl ?_);refine WP.holds (fun w hw=>hw.row_pos (i:=8) rfl (by omega)) (fun⟨qb,hA2⟩=>?_);subst hA2;refine gg ?_;refine WP.drawS none [(0,true),(1,true),(2,true),(3,true),(4,true),(5,true),(6,true),(7,true),(8,true),(9,true)] mixed (by kernel_rfl) (by decide) (fun _ h=>h.drawn) ?_
    iterate 3 refine ad ?_
    refine WPD.take rfl (v_load1 (u:=.int .i64 _) Tryz.isAgg3 rfl (fun w hw=>hw.row_at1 (i:=1) rfl (flat_at FE.enc 7 (fun _=>rfl) _ x 5 e _ he1 rfl) (by omega))) ?_ (fun _ h=>h)
    iterate 2 refine ad ?_
    refine tD (vX (kth es x)) ?_;refine WPD.take rfl (v_load1 (u:=.int .i64 _) Tryz.isAgg3 rfl (fun w hw=>hw.row_at1 (i:=8) rfl (ints_at hwg) (by omega))) ?_ (fun _ h=>h);refine gg ?_;refine WPL.ef0 (x_store (u:=.int .i64 _) (σ':=[_,_,_,_,_,_,.cl _ _ [_],_,_,_,_,_]) Tryz.sizeOf3 rfl rfl (i:=6) rfl (Nat.lt_of_lt_of_le (Nat.lt_succ_self _) (Nat.le_of_ble_eq_true rfl)) rfl) (fun _=>?_);refine nl (oo ?_);refine WP.region ?_
    iterate 4 refine av ?_
    refine WPL.split 85 rfl (fun h85=>?_) (fun h85=>?_);rotate_left
    case' _=>
     iterate 3 refine ag ?_
     refine WPL.split 88 rfl (fun h88=>?_) (fun h88=>?_)
     case' _=>
      iterate 3 refine ag ?_
      iterate 2 refine av ?_
      refine WPL.split 93 rfl (fun h93=>?_) (fun h93=>?_);rotate_left
      case' _=>
       iterate 3 refine ag ?_
       refine WPL.split 96 rfl (fun h96=>?_) (fun h96=>?_);rotate_left
     rotate_left 3
     case' _=>
      iterate 2 refine sk ?_
      refine ag ?_
      iterate 2 refine av ?_
      iterate 3 refine ag ?_
      refine WPL.split 96 rfl (fun h96=>?_) (fun h96=>?_);rotate_left
    all_goals
     refine gg ?_;refine WPL.ef0 (x_storeRow' (u:=.bool _) (xs':=(upto (frozz g room es) (upto (sized g room es) es es.length) (x+1)).flatMap FE.enc) (σ':=[_,_,_,_,_,_,_,_,_,_,_,_]) Tryz.sizeOf4 rfl rfl (i:=1) rfl (by rw[flat_len,upto_length];omega) (by rw[Nat.zero_add,flat_set FE.enc 7 (fun _=>rfl) _ x 6 e (frozz g room es x e) _ he1 (by decide) (frozz_cell hf (judge_of (by rw[hwe];simp;omega))),upto_succ _ _ _ he]) rfl) (fun _=>?_)
     exact nl fun w hw => RoundQ.normal (i := 10) rfl (hw.sel [0, 1, 2, 3, 4, 5, 6, 7, 8, 9, 10, 11] (by decide)) (fun w' hw' => ⟨x + 1, rfl, rfl, by
       simp only [kth_open he0 hf0]
       exact hw'⟩)
   ·intro D2 x hx;refine id (onto_of ?_);refine gg ?_;exact WP.retM [D2,D1] (τ:=[_,_]) (fun w hw=>(hw.sel [0,1,10,9] (by decide))) (fun _ h=>h) (fun w hw=>RetQ.of1 Tryz.results242 (.inl rfl) ⟨(),rfl,trivial,by rw[←frozz_all];exact hw⟩)
theorem info302:(Tryz.prog.info? 302).map (fun i=>(i.zero,i.size,i.bytes))=some (some (.agg #[.int .i64 0,.int .i64 0,.int .i64 0,.int .i64 0,.int .i64 0,.int .i64 0,.bool false]),7,56):=by kernel_rfl
def raw (x:FItem):FE:=⟨x.sound,basic x,false⟩
def begun0 (l:List FItem) (k:Nat):List FE:=(l.take k).map raw
theorem begun0_length (l:List FItem) (k:Nat) (h:k≤l.length):(begun0 l k).length=k:=by simp[begun0];omega
theorem begun0_succ (l:List FItem) (k:Nat) {x:FItem} (h:l[k]?=some x):begun0 l (k+1)=begun0 l k++[raw x]:=by simp[begun0,takeSnocF h]
theorem raw_fit (x:FItem):x.fit x.sound.base=basic x:=rfl
theorem entI_snoc (A:Option Addr) (n c:Nat) (es:List FE) (e:FE):entI A n c (es++[e])=.row 302 7 A n c (es.flatMap FE.enc++e.enc):=by simp[entI]
def frst (g:Bool) (_:Nat) (e:FE):FE:={e with fr:=if g then (decide (e.it.grow=0)||decide (e.it.base > e.size)) else (decide (e.it.shrink=0)||decide (e.it.base<e.size))}
theorem frst_all (g:Bool) (l:List FItem):upto (frst g) (begun0 l l.length) l.length=l.map (start g):=by
  rw[upto_all _ _ (by rw[begun0_length l _ (Nat.le_refl _)];omega)];apply List.ext_getElem?;intro i;simp only[begun0,List.getElem?_mapIdx,List.getElem?_map,List.take_length];cases l[i]? with
  | none=>rfl
  | some x=>rfl
theorem frst_cell {g:Bool} {e:FE} {c:Bool} {i:Nat} (hc:c=true↔(g=true∧(e.it.grow=0∨e.size<e.it.base))∨(g=false∧(e.it.shrink=0∨e.it.base<e.size))):e.enc.set 6 (.bool c)=(frst g i e).enc:=by
  have h2:(if g then (decide (e.it.grow=0)||decide (e.it.base > e.size)) else (decide (e.it.shrink=0)||decide (e.it.base<e.size)))=c:=by
    rw[Bool.eq_iff_iff,hc];cases g<;>simp
  simp[frst,h2]
theorem begin_ct (A:Option Addr) (c:Nat) (l:List FItem) (room:Int) (hl:l.length≤64):
    Ct Tryz.prog 241 #[.slice A l.length c,.int .i64 room] [] (fun w=>RdE w A 5 FItem.enc l) (X:=Nat×Option Addr×Nat) (fun p=>.pointer (some ⟨p.1,0,none⟩)) (fun _=>True)
      (fun p=>[tblI p.1 p.2.1 l.length p.2.2 (lot room) (grows l room),entI p.2.1 l.length p.2.2 (l.map (start (grows l room)))]):=by
  refine Ci fun w0 hz=>?_;refine gg ?_;refine vl (vC (clamp_eq (clamp_lot room) _)) ?_;refine vl (v_struct (us:=[.slice _ _ _,.int .i64 _,.bool _]) (pl:=[(0,1),(1,1),(2,1)]) Tryz.underlying300 Tryz.zeroValue300 rfl (by kernel_rfl) rfl rfl (by kernel_rfl)) ?_;refine WPL.ef xB fun b16=>?_;refine av ?_;refine nl (oo ?_);refine sq ?_;refine WP.pre ?_ (fun w hw=>hw.nilRow 302 7);refine gg ?_;refine WP.loopK (X:=Nat) [5,17,18] (fun k=>[(6,.int .i64 (tot l k)),(19,.int .i64 (k:Int))]) (fun k w=>k≤l.length∧∃p:Option Addr×Nat,St w0 (foots []) [tblI b16 p.1 k p.2 (lot room) false,entI p.1 k p.2 (begun0 l k)] w) (fun k=>l.length - k) 0 ⟨by rw[tot_zero];rfl,rfl,trivial⟩ (fun w hw=>⟨by omega,(none,0),hw⟩) (fun k ρ0=>?_);refine WP.fact (fun hk=>?_);refine WP.ex (fun⟨A1,c1⟩=>?_);dsimp only;refine gg ?_;refine WP.condP rfl (fun h20=>?_) (fun h20=>?_)
  ·have hk':k<l.length:=by omega
   obtain⟨x,hx⟩:∃x,l[k]?=some x:=⟨_,List.getElem?_eq_getElem hk'⟩;obtain⟨b,o,rfl,hc⟩:=hz k x hx;have hb1:=tot_bd l k;have hb2:=basic_bd x;have hbl:=begun0_length l k hk;refine WP.skip (onto_of ?_);refine sq ?_;refine WP.block ?_;refine sqR ?_;refine av ?_;refine vl (v_loadA (cs:=[.int .i64 _,.int .i64 _,.int .i64 _,.int .i64 _,.int .i64 _]) Tryz.isAgg264 Tryz.sizeOf264 rfl (fun w hw=>hw.old_at hc (not_foots_nil _))) ?_;refine WPL.ef xAl fun b8=>?_;refine WPL.ef0 (xW rfl) fun _=>?_;refine gg ?_;refine eF (xC (sound_ct x)) fun _ _=>?_;refine vl (v_struct (us:=[.int .i64 _,.int .i64 _,.int .i64 _,.int .i64 _,.int .i64 _,.int .i64 _,.bool _]) (pl:=[(0,5),(5,1),(6,1)]) Tryz.underlying302 Tryz.zeroValue302 rfl (by kernel_rfl) rfl rfl (by kernel_rfl)) ?_;refine WPL.ef xAl fun b9=>?_;refine WPL.ef0 (xW rfl) fun _=>?_;refine gg ?_;refine eF (xC (fit_ct x x.sound.base)) fun _ _=>?_;rw[raw_fit x];refine gg ?_;refine WPL.ef0 (xS rfl (isI rfl)) fun _=>?_;refine nl (oo ?_);refine sqR ?_
   iterate 5 refine av ?_
   rw[←tot_succ l k x hx];refine gg ?_;refine wP (some 10) [0,2,3] [pT 0,pT 1,pT 2,pT 3,pT 4,pT 5,pF 6,pF 7,pF 8,pT 9,pF 10] ?_;refine WPD.take rfl (v_move (v:=.pointer _) rfl) ?_ (fun _ h=>h.sel [0,2,3] (by decide));refine WPD.take rfl (v_move (v:=.pointer _) rfl) ?_ (fun _ h=>h.sel [0,2,3] (by decide));refine WPD.take rfl (v_nil rfl) ?_ (fun _ h=>h.sel [0,2,3] (by decide));refine WPD.take rfl (v_fieldL (o':=0) Tryz.underlying300 rfl Tryz.sizeOf298 rfl rfl) ?_ (fun _ h=>h.sel [0,2,3] (by decide));refine WPD.take rfl (v_load1 (u:=.slice _ _ _) Tryz.isAgg298 rfl (fun w hw=>hw.cl_at (i:=0) rfl _ rfl)) ?_ (fun _ h=>h.sel [0,2,3] (by decide));refine WPD.take rfl (v_loadA (cs:=[.int .i64 _,.int .i64 _,.int .i64 _,.int .i64 _,.int .i64 _,.int .i64 _,.bool _]) Tryz.isAgg302 Tryz.sizeOf302 rfl (fun w hw=>hw.cl_at (i:=2) rfl _ rfl)) ?_ (fun _ h=>h.sel [0,2,3] (by decide));refine WPD.ef rfl (x_buildSlice (us:=[.int .i64 _,.int .i64 _,.int .i64 _,.int .i64 _,.int .i64 _,.int .i64 _,.bool _]) (σ':=fun _=>[_,_,_,_,_]) Tryz.underlying298 Tryz.sizeOf302 Tryz.zeroValue302 rfl rfl rfl (by decide) (by decide) (fun _=>rfl)) (fun _ _ _ h=>h.sel [0,2,3] (by decide)) (fun g42=>?_);refine dE (xP 1 4) fun⟨A43,c43⟩=>?_;refine WPD.val rfl (v_nil rfl) (fun _ h=>h.sel [0,2,3] (by decide)) ?_;refine gg ?_;refine dE0 (xS rfl (isS rfl)) fun _=>?_;refine WPD.nil (onto_of ?_);refine WP.region ?_
   iterate 2 refine av ?_
   exact nl fun w hw=>⟨rfl,k+1,(by omega),⟨rfl,rfl,jP,jS,jI,trivial⟩,by omega,(A43,c43),by rw[begun0_succ l k hx,entI_snoc];exact hw.sel [0,1] (by decide)⟩
  ·obtain rfl:k=l.length:=by omega
   refine WP.exit (onto_of ?_);refine gg ?_;refine WPL.ef0 (xS rfl (isB rfl)) fun _=>?_;refine gg ?_;refine WP.loopK (X:=Nat) [5,60] (fun k=>[(61,.int .i64 (k:Int))]) (fun k w=>k≤l.length∧St w0 (foots []) [tblI b16 A1 l.length c1 (lot room) (grows l room),entI A1 l.length c1 (upto (frst (grows l room)) (begun0 l l.length) k)] w) (fun k=>l.length - k) 0 ⟨rfl,trivial⟩ (fun w hw=>⟨by omega,by rw[upto_zero];exact hw⟩) (fun k ρ0=>?_);refine WP.fact (fun hk=>?_);refine gg ?_;refine WP.condP rfl (fun h62=>?_) (fun h62=>?_)
   ·have hk':k<l.length:=by omega
    obtain⟨x,hx⟩:∃x,l[k]?=some x:=⟨_,List.getElem?_eq_getElem hk'⟩;obtain⟨e,he⟩:∃e,(begun0 l l.length)[k]?=some e:=⟨_,List.getElem?_eq_getElem (by rw[begun0_length l _ (Nat.le_refl _)];exact hk')⟩;have he1:=(upto_at (frst (grows l room)) (begun0 l l.length) k).trans he;refine WP.holds (fun w hw=>hw.row_pos (i:=1) rfl (by omega)) (fun⟨b,hA⟩=>?_);subst hA;refine gg ?_;refine WP.drawS none [(0,true),(1,true),(2,true),(3,true),(4,true),(5,true),(6,true),(7,true),(8,true),(9,true),(10,true)] mixed (by kernel_rfl) (by decide) (fun _ h=>h.drawn) ?_;refine gg ?_;refine tD (vR 1 (flat_at FE.enc 7 (fun _=>rfl) _ k 0 e _ he1 rfl)) ?_;refine gg ?_;refine tD (vR 1 (flat_at FE.enc 7 (fun _=>rfl) _ k 5 e _ he1 rfl)) ?_;refine gg ?_;refine WP.cond rfl (fun h84=>?_) (fun h84=>?_)
    case' _=>
     have hgf:grows l room=false:=by simpa using h84
     refine WP.drawS none [(0,true),(1,true),(2,true),(3,true),(4,true),(5,true),(6,true),(7,true),(8,true),(9,true),(10,true)] mixed (by kernel_rfl) (by decide) (fun _ h=>h.drawn) ?_;refine gg ?_;refine tD (vR 1 (flat_at FE.enc 7 (fun _=>rfl) _ k 0 e _ he1 rfl)) ?_;refine gg ?_;refine tD (vR 1 (flat_at FE.enc 7 (fun _=>rfl) _ k 5 e _ he1 rfl)) ?_
     iterate 2 refine ad ?_
     refine WPD.nil (onto_of ?_)
    rotate_left
    case' _=>
     have hgt:grows l room=true:=by simpa using h84
     refine WP.skip (onto_of ?_)
    all_goals
     refine WP.region ?_
     iterate 3 refine av ?_
     refine WPL.split 97 rfl (fun h97=>?_) (fun h97=>?_)
     ·refine gg ?_;refine WPL.ef0 (x_storeRow' (u:=.bool _) (xs':=(upto (frst (grows l room)) (begun0 l l.length) (k+1)).flatMap FE.enc) (σ':=[_,_]) Tryz.sizeOf4 rfl rfl (i:=1) rfl (by rw[flat_len,begun0_length l _ (Nat.le_refl _)];omega) (by rw[Nat.zero_add,flat_set FE.enc 7 (fun _=>rfl) _ k 6 e (frst (grows l room) k e) _ he1 (by decide) (frst_cell (by first | (rw[hgf];simp;omega) | (rw[hgf];simp[fct];omega) | (rw[hgt];simp;omega) | (rw[hgt];simp[fct];omega))),upto_succ _ _ _ he]) rfl) (fun _=>?_);refine nl (oo ?_);refine WP.region ?_
      iterate 2 refine av ?_
      exact nl fun w hw=>⟨rfl,k+1,(by omega),⟨rfl,jP,jI,trivial⟩,by omega,hw.pk⟩
     ·iterate 3 refine ag ?_
      refine vg (v_loadA (cs:=[.int .i64 _,.int .i64 _,.int .i64 _,.int .i64 _,.int .i64 _,.int .i64 _,.bool _]) Tryz.isAgg302 Tryz.sizeOf302 rfl (fun w hw=>hw.row_at (i:=1) rfl _ (fun j u hu=>by rw[Nat.zero_add];exact flat_at FE.enc 7 (fun _=>rfl) _ k j e u he1 hu))) ?_;refine WPL.efG (x_call Tryz.call252 (factor_ct b16 _ l.length c1 (lot room) (grows l room) e) [0] [1] rfl (fun w hw=>trivial) (τ:=fun _=>[_,_]) (fun _=>rfl)) (fun _=>?_);refine WPL.fact (fun _=>?_);refine gg ?_;refine WPL.ef0 (x_storeRow' (u:=.bool _) (xs':=(upto (frst (grows l room)) (begun0 l l.length) (k+1)).flatMap FE.enc) (σ':=[_,_]) Tryz.sizeOf4 rfl rfl (i:=0) rfl (by rw[flat_len,begun0_length l _ (Nat.le_refl _)];omega) (by rw[Nat.zero_add,flat_set FE.enc 7 (fun _=>rfl) _ k 6 e (frst (grows l room) k e) _ he1 (by decide) (frst_cell (by first | (rw[hgf];simp;omega) | (rw[hgf];simp[fct];omega) | (rw[hgt];simp;omega) | (rw[hgt];simp[fct];omega))),upto_succ _ _ _ he]) rfl) (fun _=>?_);refine nl (oo ?_);refine WP.region ?_
      iterate 2 refine av ?_
      exact nl fun w hw=>⟨rfl,k+1,(by omega),⟨rfl,jP,jI,trivial⟩,by omega,hw.pk⟩
   ·obtain rfl:k=l.length:=by omega
    refine WP.exit (onto_of ?_);refine gg ?_;exact WP.ret1 Tryz.results241 (fun _ h=>h) (fun w hw=>⟨(b16,A1,c1),rfl,trivial,by have h:=hw.sel [0,1] (by decide);rw[frst_all] at h;exact h⟩)
def fillTo (vs:List Int) (k:Nat):List Int:=(List.range vs.length).map fun j=>if j<k then vs.getD j 0 else 0
theorem fillTo_length (vs:List Int) (k:Nat):(fillTo vs k).length=vs.length:=by simp[fillTo]
theorem fillTo_zero (vs:List Int):fillTo vs 0=List.replicate vs.length 0:=by
  apply List.ext_getElem?;intro i
  by_cases h:i<vs.length<;>simp[fillTo,h]
theorem fillTo_all (vs:List Int):fillTo vs vs.length=vs:=by
  apply List.ext_getElem?;intro i
  by_cases h:i<vs.length
  · simp[fillTo,h]
  · simp[fillTo,h]
theorem fillTo_succ (vs:List Int) (k:Nat) {v:Int} (h:vs[k]?=some v):(fillTo vs k).set k v=fillTo vs (k+1):=by
  have hk:=(List.getElem?_eq_some_iff.1 h).1;apply List.ext_getElem?;intro i
  by_cases hi:i=k
  · subst hi
    have hv:vs[i]=v:=(List.getElem?_eq_some_iff.1 h).2;simp[fillTo,hk,hv]
  · rw [List.getElem?_set_ne (Ne.symm hi)]
    by_cases hl:i<vs.length
    · simp only [fillTo, List.getElem?_map, List.getElem?_range hl, Option.map_some]
      congr 1
      by_cases h1:i<k<;>by_cases h2:i<k+1<;>simp[h1,h2]<;>omega
    · simp[fillTo,hl]
structure Stand where
  t:Nat
  A:Option Addr
  cap:Nat
  es:List FE
theorem sizes_ct (A:Option Addr) (c:Nat) (l:List FItem) (room:Int) (hl:l.length≤64):
    Ct Tryz.prog 233 #[.slice A l.length c,.int .i64 room] [] (fun w=>RdE w A 5 FItem.enc l) (X:=Option Addr×Nat) (fun p=>.slice p.1 l.length p.2) (fun _=>True)
      (fun p=>[.row 3 1 p.1 l.length p.2 ((sizes l room).map (Value.int .i64))]):=by
  refine Ci fun w0 hz=>?_;refine sqR ?_;refine av ?_;refine nl (oo ?_);refine WP.scopeL (X:=Stand) 0 rfl [0] (fun x=>[(5,.pointer (some ⟨x.t,0,none⟩))]) (fun x w=>(x.es.length=l.length∧oks x.es∧(final (grows l room) (lot room) x.es).map FE.size=sizes l room)∧St w0 (foots []) [tblI x.t x.A x.es.length x.cap (lot room) (grows l room),entI x.A x.es.length x.cap x.es] w) (fun x=>kth x.es x.es.length) (fun hL=>?_) (fun x ρ0=>?_)
  ·refine gg ?_;refine WP.condP rfl (fun h=>absurd h (by omega)) (fun h11=>?_);refine gg ?_;refine eF (xC (begin_ct A c l room hl) (hF:=fun w hw=>hw.rd hz not_foots_nil)) fun⟨t,A1,c1⟩ _=>?_;refine av ?_;refine nl (oo ?_);exact hL ⟨t,A1,c1,l.map (start (grows l room))⟩ _ _ ⟨rfl,rfl,trivial⟩ (fun w hw=>⟨⟨by simp,start_oks _ _,rfl⟩,by simp only[List.length_map];exact hw⟩)
  ·obtain⟨xt,xA,xc,xes⟩:=x;dsimp only;refine WP.fact (fun⟨hlen,hok,hfin⟩=>?_);refine gg ?_;refine eF (xC (round_ct xt xA xc (lot room) (grows l room) xes hok (by omega) (lot_bd room))) fun _ _=>?_;refine gg ?_;refine WP.condP rfl (fun h16=>?_) (fun h16=>?_)
   ·have hkw:=kth_wts (grows l room) xes xes.length;exact WP.goto (fun w hw=>⟨rfl,rfl,⟨xt,xA,xc,round (grows l room) (lot room) xes⟩,(round_less (by omega)),⟨rfl,jS,trivial⟩,⟨⟨by rw[round_length];exact hlen,round_oks hok,by rw[final_step (by omega)];exact hfin⟩,by simp only[round_length];exact hw⟩⟩)
   ·have hkw:=kth_wts (grows l room) xes xes.length;have hk0:kth xes xes.length=0:=by omega
    rw[final_done hk0] at hfin;have hrd:round (grows l room) (lot room) xes=xes:=by
      apply List.ext_getElem?;intro i;simp only[round,List.getElem?_mapIdx];cases he:xes[i]? with
      | none=>rfl
      | some e =>
        cases hf:e.fr with
        | true=>simp[froze,hf]
        | false=>have:=kth_lt he hf;omega
    rw[hrd];have hsl:(sizes l room).length=l.length:=sizes_length l room;have hso:∀(k:Nat) (e:FE),xes[k]?=some e→(sizes l room)[k]?=some e.size:=fun k e he=>by rw[←hfin,List.getElem?_map,he];rfl
    refine gg ?_;refine WPL.ef (x_make1 (n:=l.length) (σ':=fun _=>[_,_,_]) Tryz.underlying49 int_info rfl rfl rfl rfl rfl (by omega) (by omega) (fun _=>rfl)) (fun g19=>?_);refine gg ?_;refine WP.loopK (X:=Nat) [6,23,24] (fun k=>[(25,.int .i64 (k:Int))]) (fun k w=>k≤l.length∧St w0 (foots []) [tblI xt xA xes.length xc (lot room) (grows l room),entI xA xes.length xc xes,.row 3 1 (some ⟨g19,0,none⟩) l.length l.length ((fillTo (sizes l room) k).map (Value.int .i64))] w) (fun k=>l.length - k) 0 ⟨rfl,trivial⟩ (fun w hw=>⟨by omega,by rw[fillTo_zero,hsl];simpa using hw⟩) (fun k ρ0=>?_);refine WP.fact (fun hk=>?_);refine gg ?_;refine WP.condP rfl (fun h26=>?_) (fun h26=>?_)
    ·have hk':k<xes.length:=by omega
     obtain⟨e,he⟩:∃e,xes[k]?=some e:=⟨_,List.getElem?_eq_getElem hk'⟩;have hse:=hso k e he;refine WP.holds (fun w hw=>hw.row_pos (i:=1) rfl (by omega)) (fun⟨b,hA⟩=>?_);subst hA;refine WP.skip (onto_of ?_);refine sq ?_;refine WP.block ?_;refine sqR ?_
     iterate 2 refine av ?_
     refine vl (v_loadA (cs:=[.int .i64 _,.int .i64 _,.int .i64 _,.int .i64 _,.int .i64 _,.int .i64 _,.bool _]) Tryz.isAgg302 Tryz.sizeOf302 rfl (fun w hw=>hw.row_at (i:=1) rfl _ (fun j u hu=>by rw[Nat.zero_add];exact flat_at FE.enc 7 (fun _=>rfl) xes k j e u he hu))) ?_;refine WPL.ef xAl fun b8=>?_;refine gg ?_;refine WPL.ef0 (xW rfl) fun _=>?_;refine gg ?_;refine WPL.ef0 (x_storeRow' (u:=.int .i64 _) (xs':=(fillTo (sizes l room) (k+1)).map (Value.int .i64)) (σ':=[_,_,_,_]) Tryz.sizeOf3 rfl rfl (i:=2) rfl (by simp[fillTo_length];omega) (by rw[←fillTo_succ _ k hse,List.map_set,Nat.zero_add,Nat.mul_one]) rfl) (fun _=>?_);refine nl (oo ?_);refine WP.region ?_
     iterate 2 refine av ?_
     exact nl fun w hw=>⟨rfl,k+1,(by omega),⟨rfl,jS,jS,jI,trivial⟩,by omega,hw.pk⟩
    ·have hkn:k=(sizes l room).length:=by omega
     refine WP.exit (onto_of ?_);refine gg ?_;exact WP.ret1 Tryz.results233 (fun _ h=>h) (fun w hw=>⟨(some ⟨g19,0,none⟩,l.length),rfl,trivial,by have h:=(hw.sel [2] (by decide));rw[hkn,fillTo_all] at h;exact h⟩)
end Go.Proofs.YtbedndijejpcaaaGreat
namespace Go.Proofs.YtbedndijejpcaaaGreat
open Go.RowKit
section
variable {P:Program} {S:World→Prop} {ρ:Env} {dst:Option Tmp} {ty:TypeId} {pos:String} {af:Array Edge} {g:Option (Nat×Bool)} {t t2:TypeId} {x y:Operand} {q q':IntKind} {m n:Int}
theorem run_binQ (op:BinOp) (t2:TypeId) (hx:evo ρ x=.int q m) (hy:evo ρ y=.int q' n) (w:World) (v:Value) (h:(binOp op t (.int q m) (.int q' n)).run P w=.ok v w):
    (execOp (evo ρ) ⟨dst,.binOp op t x y t2,ty,pos,af,g⟩).run P w=.ok (.value v) w:=by
  have e:(eqGuard op t x y (.int q m) (.int q' n)).run P w=.ok () w:=by cases op<;>rfl
  simp[execOp,hx,hy,e,h,Result.andThen]
theorem v_quoT (hx:evo ρ x=.int .i64 m) (hy:evo ρ y=.int .i64 n) (h0:-9223372036854775808≤m∧m≤9223372036854775807) (h2:1≤n):OpV P S ⟨dst,.binOp .quo t x y t2,ty,pos,af,g⟩ ρ (.int .i64 (m.tdiv n)):=
  v_run fun w _ => run_binQ .quo t2 hx hy w _ (by
    have h3 : n ≠ 0 := by omega
    have h4 := IntWalk.i64_quo' m n ⟨h0.1, h0.2, h2⟩
    simp [binOp, Op.intDiv, h3, h4])
theorem v_shr1 (hx:evo ρ x=.int .i64 m) (hy:evo ρ y=.int q' 1):OpV P S ⟨dst,.binOp .shr t x y t2,ty,pos,af,g⟩ ρ (.int .i64 (m / 2)):=
  v_run fun w _ => run_binQ .shr t2 hx hy w _ (by
    have h1 : min (Int.toNat 1) IntKind.i64.bits = 1 := rfl
    have h2 : m.fdiv (2 ^ 1) = m / 2 := by rw [Int.fdiv_eq_ediv_of_nonneg _ (by decide)]; rfl
    simp [binOp, Op.shift, h1, h2]
    exact Int.fdiv_eq_ediv_of_nonneg _ (by decide))
theorem v_addU (hx:evo ρ x=.int .u64 m) (hy:evo ρ y=.int .u64 n) (h:0≤m+n∧m+n≤18446744073709551615):OpV P S ⟨dst,.binOp .add t x y t2,ty,pos,af,g⟩ ρ (.int .u64 (m+n)):=
  v_run fun w _=>run_binQ .add t2 hx hy w _ (by simp[binOp,Op.intArith,IntWalk.u64_in _ h])
theorem v_mulU (hx:evo ρ x=.int .u64 m) (hy:evo ρ y=.int .u64 n) (h:0≤m*n∧m*n≤18446744073709551615):OpV P S ⟨dst,.binOp .mul t x y t2,ty,pos,af,g⟩ ρ (.int .u64 (m*n)):=
  v_run fun w _=>run_binQ .mul t2 hx hy w _ (by simp[binOp,Op.intArith,IntWalk.u64_in _ h])
theorem wrap_u64 (z:Int):IntKind.u64.wrap z=z % 18446744073709551616:=by
  simp[IntKind.wrap,IntKind.bits,IntKind.signed]
theorem v_addUw (hx:evo ρ x=.int .u64 m) (hy:evo ρ y=.int .u64 n):OpV P S ⟨dst,.binOp .add t x y t2,ty,pos,af,g⟩ ρ (.int .u64 ((m+n) % 18446744073709551616)):=
  v_run fun w _=>run_binQ .add t2 hx hy w _ (by simp[binOp,Op.intArith,wrap_u64])
theorem v_lssU (hx:evo ρ x=.int .u64 m) (hy:evo ρ y=.int .u64 n):OpV P S ⟨dst,.binOp .lss t x y t2,ty,pos,af,g⟩ ρ (.bool (decide (m<n))):=v_run fun w _=>run_binQ .lss t2 hx hy w _ rfl
theorem v_gtrU (hx:evo ρ x=.int .u64 m) (hy:evo ρ y=.int .u64 n):OpV P S ⟨dst,.binOp .gtr t x y t2,ty,pos,af,g⟩ ρ (.bool (decide (n<m))):=v_run fun w _=>run_binQ .gtr t2 hx hy w _ rfl
theorem v_shrU (hx:evo ρ x=.int .u64 m) (hy:evo ρ y=.int q' 32):OpV P S ⟨dst,.binOp .shr t x y t2,ty,pos,af,g⟩ ρ (.int .u64 (m / 4294967296)):=
  v_run fun w _ => run_binQ .shr t2 hx hy w _ (by
    have h1 : min (Int.toNat 32) IntKind.u64.bits = 32 := rfl
    have h2 : m.fdiv (2 ^ 32) = m / 4294967296 := by rw [Int.fdiv_eq_ediv_of_nonneg _ (by decide)]; rfl
    simp only [binOp, Op.shift, h1, h2]
    rfl)
theorem v_shlU (hx:evo ρ x=.int .u64 m) (hy:evo ρ y=.int q' 32) (h:0≤m∧m*4294967296≤18446744073709551615):OpV P S ⟨dst,.binOp .shl t x y t2,ty,pos,af,g⟩ ρ (.int .u64 (m*4294967296)):=
  v_run fun w _ => run_binQ .shl t2 hx hy w _ (by
    have h1 : min (Int.toNat 32) IntKind.u64.bits = 32 := rfl
    have h2 := IntWalk.u64_in (m * 4294967296) (by omega)
    have h3 : (2 : Int) ^ 32 = 4294967296 := rfl
    simp only [binOp, Op.shift, h1, h3, h2]
    rfl)
theorem v_lowU (hx:evo ρ x=.int .u64 m) (hy:evo ρ y=.int .u64 4294967295) (h:0≤m∧m≤18446744073709551615):OpV P S ⟨dst,.binOp .and t x y t2,ty,pos,af,g⟩ ρ (.int .u64 (m % 4294967296)):=
  v_run fun w _ => run_binQ .and t2 hx hy w _ (by
    obtain ⟨k, rfl⟩ : ∃ k : Nat, m = k := ⟨m.toNat, by omega⟩
    have h1 : (BitVec.ofInt IntKind.u64.bits (k : Int) &&& BitVec.ofInt IntKind.u64.bits 4294967295).toNat = k % 4294967296 := by
      show (BitVec.ofInt 64 (k : Int) &&& BitVec.ofInt 64 ((4294967295 : Nat) : Int)).toNat = _
      rw [BitVec.ofInt_natCast, BitVec.ofInt_natCast, BitVec.toNat_and, BitVec.toNat_ofNat, BitVec.toNat_ofNat, Nat.mod_eq_of_lt (by omega : k < 2 ^ 64), Nat.mod_eq_of_lt (by decide : 4294967295 < 2 ^ 64)]
      exact Nat.and_two_pow_sub_one_eq_mod k 32
    have h2 : IntKind.u64.wrap ((k % 4294967296 : Nat) : Int) = (k : Int) % 4294967296 := by
      rw [IntWalk.u64_in _ (by omega)]; omega
    simp only [binOp, Op.intBits, h1, h2]
    rfl)
theorem v_idxA {e:TypeId} {N j k:Nat} {z:Int} {cs us:Array Value} (ht:P.underlying t=some (.array N e)) (ha:∀w,(isAgg e).run P w=.ok true w) (hz:∀w,(sizeOf e).run P w=.ok k w) (hx:evo ρ x=.agg cs) (hy:evo ρ y=.int .i64 z) (hj:z=(j:Int)) (hlt:j<N) (hu:cs.extract (j*k) (j*k+k)=us):
    OpV P S ⟨dst,.index t x y,ty,pos,af,g⟩ ρ (.agg us):=v_run fun w _=>by
  subst hj;have h1:((j:Int)<(N:Int)):=by omega
  simp[execOp,Instr.index,run_underlying ht,hx,hy,asIntOf,h1,hz,part,ha,hu];exact fun h=>absurd h (by omega)
theorem v_idx1 {e:TypeId} {N j:Nat} {z:Int} {cs:Array Value} {u:Value} (ht:P.underlying t=some (.array N e)) (ha:∀w,(isAgg e).run P w=.ok false w) (hz:∀w,(sizeOf e).run P w=.ok 1 w) (hx:evo ρ x=.agg cs) (hy:evo ρ y=.int .i64 z) (hj:z=(j:Int)) (hlt:j<N) (hu:cs[j]?=some u):
    OpV P S ⟨dst,.index t x y,ty,pos,af,g⟩ ρ u:=v_run fun w _=>by
  subst hj;have h1:((j:Int)<(N:Int)):=by omega
  simp[execOp,Instr.index,run_underlying ht,hx,hy,asIntOf,h1,hz,part,ha,hu];exact fun h=>absurd h (by omega)
theorem v_conv {src tgt:TypeId} {qs qd:IntKind} {m':Int} (hs:P.underlying src=some (.int qs)) (hd:P.underlying tgt=some (.int qd)) (hx:evo ρ x=.int q m) (hw:qd.wrap m=m'):OpV P S ⟨dst,.convert src tgt x,ty,pos,af,g⟩ ρ (.int qd m'):=v_run fun w _=>by
  subst hw;have h:(convert src tgt (.int q m)).run P w=.ok (.int qd (qd.wrap m)) w:=by simp[convert,run_underlying hs,run_underlying hd,Conv.intToInt,Result.andThen]
  simp[execOp,hx,h,Result.andThen]
end
end Go.Proofs.YtbedndijejpcaaaGreat
namespace Go.Proofs.YtbedndijejpcaaaGreat
def addI (a b:Int):Int:=cut (cut a+cut b)
def subI (a b:Int):Int:=cut (cut a - cut b)
def mulI (a b:Int):Int:=cut (cut a*cut b)
def divI (a b:Int):Int:=if b≤0 then 0 else cut a / cut b
def partI (a n:Int):Int:=cut (cut a*min (max n 0) 1000000 / 10000)
theorem cut_cut (n:Int):cut (cut n)=cut n:=cut_id (cut_bd n).1 (cut_bd n).2
theorem addI_bd (a b:Int):-1099511627776≤addI a b∧addI a b≤1099511627776:=cut_bd _
theorem subI_bd (a b:Int):-1099511627776≤subI a b∧subI a b≤1099511627776:=cut_bd _
theorem partI_bd (a n:Int):-1099511627776≤partI a n∧partI a n≤1099511627776:=cut_bd _
theorem ediv_bd {a b M:Int} (h:-M≤a∧a≤M) (hM:0≤M) (hb:0<b):-M≤a / b∧a / b≤M:=by
  have h1:a / b≤M:=by
    have h2:=Int.ediv_le_self b hM;exact Int.le_trans (Int.ediv_le_ediv hb h.2) h2
  refine⟨?_,h1⟩;refine Int.le_ediv_of_mul_le hb ?_;have:M*1≤M*b:=Int.mul_le_mul_of_nonneg_left (by omega) hM;rw[Int.neg_mul];omega
theorem divI_bd (a b:Int):-1099511627776≤divI a b∧divI a b≤1099511627776:=by
  unfold divI
  split
  · omega
  · exact ediv_bd (cut_bd a) (by omega) (by unfold cut;omega)
theorem cut_mul (a b:Int):cut (a*b)=if (a<0)↔(b<0) then min ((a.natAbs*b.natAbs:Nat):Int) 1099511627776 else -min ((a.natAbs*b.natAbs:Nat):Int) 1099511627776:=by
  have h1:((a.natAbs*b.natAbs:Nat):Int)=(a*b).natAbs:=by rw[Int.natAbs_mul]
  rw[h1]
  by_cases hs:(a<0)↔(b<0)
  · rw [if_pos hs]
    have:0≤a*b:=by
      by_cases ha:a<0
      · exact Int.mul_nonneg_of_nonpos_of_nonpos (by omega) (by have:=hs.1 ha;omega)
      · have hb : ¬ b < 0 := fun h => ha (hs.2 h)
        exact Int.mul_nonneg (by omega) (by omega)
    unfold cut;omega
  · rw [if_neg hs]
    have:a*b≤0:=by
      by_cases ha:a<0
      · have hb : ¬ b < 0 := fun h => hs ⟨fun _ => h, fun _ => ha⟩
        exact Int.mul_nonpos_of_nonpos_of_nonneg (by omega) (by omega)
      · have hb:b<0:=by
          by_cases h:b<0
          · exact h
          · exact absurd ⟨fun h2=>absurd h2 ha,fun h2=>absurd h2 h⟩ hs
        exact Int.mul_nonpos_of_nonneg_of_nonpos (by omega) (by omega)
    unfold cut;omega
theorem down_eq (a:Int) {b:Int} (hb:0<b):(if a<a.tdiv b*b then a.tdiv b - 1 else a.tdiv b)=a / b:=by
  have h1:=Int.tdiv_eq_ediv (a:=a) (b:=b);have h2:=Int.mul_ediv_add_emod a b;have h3:=Int.emod_nonneg a (by omega:b≠0);have h4:=Int.emod_lt_of_pos a hb;have h5:b.sign=1:=Int.sign_eq_one_of_pos hb
  by_cases h:0≤a∨b∣a
  · rw [if_pos h, Int.add_zero] at h1
    rw[h1,if_neg];have:a / b*b=b*(a / b):=Int.mul_comm _ _;omega
  · rw [if_neg h, h5] at h1
    have h6:a % b≠0:=fun e=>h (.inr (Int.dvd_of_emod_eq_zero e));rw[h1,if_pos]
    · omega
    · have : (a / b + 1) * b = b * (a / b) + b := by rw [Int.add_mul, Int.one_mul, Int.mul_comm]
      omega
theorem times_id (a b:Int):a*b=(a / 4294967296*(b / 4294967296))*18446744073709551616+(a % 4294967296*(b / 4294967296)+a / 4294967296*(b % 4294967296))*4294967296+a % 4294967296*(b % 4294967296):=by
  have h1:=Int.mul_ediv_add_emod a 4294967296;have h2:=Int.mul_ediv_add_emod b 4294967296
  generalize a / 4294967296=x at*
  generalize a % 4294967296=y at*
  generalize b / 4294967296=z at*
  generalize b % 4294967296=u at*
  subst h1;subst h2
  grind
end Go.Proofs.YtbedndijejpcaaaGreat
namespace Go.Proofs.YtbedndijejpcaaaGreat
def gI (l:List Int) (i:Nat):Int:=l.getD i 0
theorem gI_at {l:List Int} {i:Nat} {x:Int} (h:l[i]?=some x):gI l i=x:=by unfold gI;rw[List.getD_eq_getElem?_getD,h];rfl
def fixedL (k base:Int):Bool:=decide (k=1∨(k=2∧0≤base))
def ofL (k n base none:Int):Int:=if fixedL k base=false then cut none else if k=1 then cut n else partI base n
def limitL (n lk ln hk hn base:Int):Int:=max (clamp n (ofL lk ln base (-1099511627776)) (ofL hk hn base 1099511627776)) 0
theorem ofL_bd (k n base none:Int):-1099511627776≤ofL k n base none∧ofL k n base none≤1099511627776:=by
  unfold ofL
  split
  · exact cut_bd _
  · split
    · exact cut_bd _
    · exact partI_bd _ _
theorem limitL_bd (n lk ln hk hn base:Int):0≤limitL n lk ln hk hn base∧limitL n lk ln hk hn base≤1099511627776:=by
  have h1:=ofL_bd lk ln base (-1099511627776);have h2:=ofL_bd hk hn base 1099511627776;have h3:=cut_bd n;unfold limitL clamp;rw[cut_id h1.1 h1.2,cut_id h2.1 h2.2];omega
def hiP (l:List Int):Int:=l.foldl (fun m x=>max m (cut x)) 0
def loP (l:List Int):Int:=l.foldl (fun m x=>min m (cut x)) 0
def collP (l:List Int):Int:=hiP l+loP l
theorem foldMax_bd (l:List Int):∀m:Int,0≤m→m≤1099511627776→0≤l.foldl (fun m x=>max m (cut x)) m∧l.foldl (fun m x=>max m (cut x)) m≤1099511627776:=by
  induction l with
  | nil=>intro m h1 h2;exact⟨h1,h2⟩
  | cons x l ih =>
    intro m h1 h2;have:=cut_bd x;exact ih (max m (cut x)) (by omega) (by omega)
theorem foldMin_bd (l:List Int):∀m:Int,m≤0→-1099511627776≤m→l.foldl (fun m x=>min m (cut x)) m≤0∧-1099511627776≤l.foldl (fun m x=>min m (cut x)) m:=by
  induction l with
  | nil=>intro m h1 h2;exact⟨h1,h2⟩
  | cons x l ih =>
    intro m h1 h2;have:=cut_bd x;exact ih (min m (cut x)) (by omega) (by omega)
theorem hiP_bd (l:List Int):0≤hiP l∧hiP l≤1099511627776:=foldMax_bd l 0 (by omega) (by omega)
theorem loP_bd (l:List Int):loP l≤0∧-1099511627776≤loP l:=foldMin_bd l 0 (by omega) (by omega)
theorem collP_bd (l:List Int):-1099511627776≤collP l∧collP l≤1099511627776:=by
  have h1:=hiP_bd l;have h2:=loP_bd l;unfold collP;omega
theorem hiP_snoc {l:List Int} {k:Nat} {x:Int} (h:l[k]?=some x):hiP (l.take (k+1))=max (hiP (l.take k)) (cut x):=by
  unfold hiP;rw[List.take_add_one,h];simp
theorem loP_snoc {l:List Int} {k:Nat} {x:Int} (h:l[k]?=some x):loP (l.take (k+1))=min (loP (l.take k)) (cut x):=by
  unfold loP;rw[List.take_add_one,h];simp
def autoLeft (room size a b:Int):Int:=subI (subI (subI room size) a) b
def autoP (room size bk bn ek en base:Int):Int×Int:=
  let a:=ofL bk bn base 0
  let b:=ofL ek en base 0
  let left:=autoLeft room size a b
  if left≤0 then (a,b) else if fixedL bk base=false∧fixedL ek base=false then (left / 2,left - left / 2) else if fixedL bk base=false then (left,b) else if fixedL ek base=false then (a,left) else (a,b)
mutual
def stkAt (sizes tops bottoms:List Int):Nat→Int
  | 0=>0
  | k+1=>addI (stkStart sizes tops bottoms k) (gI sizes k)
def stkStart (sizes tops bottoms:List Int):Nat→Int
  | 0=>0
  | k+1=>addI (addI (stkStart sizes tops bottoms k) (gI sizes k)) (collP [gI bottoms k,gI tops (k+1)])
end
def stkStarts (sizes tops bottoms:List Int):List Int:=(List.range sizes.length).map (stkStart sizes tops bottoms)
def longK (l:List Int) (gap:Int):Nat→Int
  | 0=>0
  | k+1=>addI (if k=0 then longK l gap k else addI (longK l gap k) gap) (gI l k)
def longP (l:List Int) (gap:Int):Int:=longK l gap l.length
def kindJ (kind left n:Int):Int:=if (kind=4∨kind=5)∧left≤0 then 2 else if kind=3∧(left≤0∨n<2) then 0 else kind
def partJ (left k n:Int):Int:=divI (mulI left k) n
def beforeP (kind left n k:Int):Int:=
  if kindJ kind left n=1 then left else if kindJ kind left n=2 then divI left 2 else if kindJ kind left n=3 then partJ left k (n - 1) else if kindJ kind left n=4 then partJ left (2*k+1) (2*n) else if kindJ kind left n=5 then partJ left (k+1) (n+1) else 0
def jAt (kind left gap:Int) (l:List Int):Nat→Int
  | 0=>0
  | k+1=>addI (addI (if k=0 then jAt kind left gap l k else addI (jAt kind left gap l k) gap) (beforeP kind left l.length k - (if k=0 then 0 else beforeP kind left l.length ((k:Int) - 1)))) (gI l k)
def jStart (kind left gap:Int) (l:List Int) (k:Nat):Int:=addI (if k=0 then jAt kind left gap l k else addI (jAt kind left gap l k) gap) (beforeP kind left l.length k - (if k=0 then 0 else beforeP kind left l.length ((k:Int) - 1)))
def startsP (kind:Int) (l:List Int) (room gap:Int):List Int:=(List.range l.length).map (jStart kind (subI room (longP l gap)) gap l)
def acrossP (kind size room:Int):Int:=if kind=2 then divI (subI room size) 2 else if kind=3 then subI room size else 0
end Go.Proofs.YtbedndijejpcaaaGreat
