/- FlexRound FlexSizes -/
import Derived.Test.YtpgjbbaplpdaiaaGreatL12
set_option linter.unusedVariables false
set_option linter.unusedSimpArgs false
set_option linter.unusedSectionVars false
set_option maxRecDepth 100000
set_option maxHeartbeats 8000000
namespace Go.Proofs.YtpgjbbaplpdaiaaGreat
open Go.RowKit
abbrev intsI (A:Option Addr) (c:Nat) (l:List Int):HI:=.row 3 1 A l.length c (l.map (Value.int .i64))
abbrev intsV (A:Option Addr) (c:Nat) (l:List Int):Value:=.slice A l.length c
theorem intsI_snoc (A:Option Addr) (c:Nat) (l:List Int) (x:Int):intsI A c (l++[x])=.row 3 1 A (l.length+1) c (l.map (Value.int .i64)++[.int .i64 x]):=by simp[intsI]
theorem intsV_snoc (A:Option Addr) (c:Nat) (l:List Int) (x:Int):intsV A c (l++[x])=.slice A (l.length+1) c:=by simp[intsV]
theorem weights_ct (t:Nat) (A:Option Addr) (cap:Nat) (room:Int) (g:Bool) (es:List FE) (hok:oks es) (hl:es.length≤64):
    Ct Tryz.prog 198 #[.pointer (some ⟨t,0,none⟩)] [tblI t A es.length cap room g,entI A es.length cap es] (fun _=>True) (X:=Option Addr×Nat) (fun p=>intsV p.1 p.2 (wts g es es.length)) (fun _=>True)
      (fun p=>[tblI t A es.length cap room g,entI A es.length cap es,intsI p.1 p.2 (wts g es es.length)]):=by
  refine Ci fun w0 _=>?_;refine gg ?_;refine WPL.ef (x_box1 (u:=.pointer _) (σ':=fun _=>[_,_,_]) rfl (fun _=>rfl)) (fun b1=>?_);refine gg ?_;refine WPL.ef xAl fun b3=>?_;refine n4 ?_;refine vl (v_func) ?_;refine n2 ?_;refine WP.pre ?_ (fun w hw=>hw.nilRow 3 1);refine WP.rangeFunc (gf:=201) (first:=[.pointer (some ⟨t,0,none⟩)]) (cap:=[]) rfl Tryz.call201 (X:=Option Addr×Nat) (Fin:=fun x=>True) (τ:=fun x=>[tblI t A es.length cap room g,entI A es.length cap es,.cl b1 212 [.pointer (some ⟨t,0,none⟩)],.cl b3 55 [intsV x.1 x.2 (wts g es es.length)],intsI x.1 x.2 (wts g es es.length)]) ?_ ?_
  ·intro kk l D hps has hbd hfr w hw
   refine (open_it (X := Nat × Option Addr × Nat) (fun _ => es) (fun x => [.cl b1 212 [.pointer (some ⟨t, 0, none⟩)], .cl b3 55 [intsV x.2.1 x.2.2 (wts g es x.1)], intsI x.2.1 x.2.2 (wts g es x.1), lp l kk .ready none, dfr D]) (fun j x => x.1 = j) hl (fun _ _ _ => rfl) ?_ (0, none, 0) rfl w hw ?_).mono (by
     rintro e w' ⟨hv, x, hx, h⟩
     have hx : x.1 = es.length := hx
     simp only [hx] at h
     exact ⟨hv, x.2, trivial, h⟩)
   · intro j x e hx he hf
     have he:es[j]?=some e:=he;subst hx;exact⟨(x.1+1,x.2),rfl,fun w hw=>by simp only[wts_shut (g:=g) he hf];exact hw⟩
   intro j x e b hx he hf hA;have he:es[j]?=some e:=he;subst hA hx;have ho:=hok _ _ he;have hwb:=wt_bd ho g;have hwl:(wts g es x.1).length≤x.1:=by rw[kth_wts];exact kth_le es _
   have hxl:=(List.getElem?_eq_some_iff.1 he).1;refine Yld.intro hps has hbd hfr (i:=5) rfl rfl (by decide) ?_;refine n2 ?_;refine WPL.nil (begun_of (i:=5) rfl ?_);refine gg ?_;refine WP.drawSel none [1,2,3,4,5,6] [(0,true),(1,true),(2,true),(3,true),(4,false),(5,true)] mixed (by kernel_rfl) (by decide) ?_;refine WPD.take rfl (v_load1 (u:=.pointer _) Tryz.isAgg212 rfl (fun w hw=>hw.cl_at (i:=1) rfl _ rfl)) ?_ (fun _ h=>h.sel [1,2,3,4,5,6] (by decide));refine WPD.take rfl (v_move (v:=.pointer _) rfl) ?_ (fun _ h=>h.sel [1,2,3,4,5,6] (by decide));refine WPD.take rfl (v_nil rfl) ?_ (fun _ h=>h.sel [1,2,3,4,5,6] (by decide));refine WPD.take rfl (v_loadA (cs:=[.int .i64 _,.int .i64 _,.int .i64 _,.int .i64 _,.int .i64 _,.int .i64 _,.bool _]) Tryz.isAgg218 Tryz.sizeOf218 rfl (fun w hw=>hw.row_at (i:=0) rfl _ (fun j u hu=>by rw[Nat.zero_add];exact flat_at FE.enc 7 (fun _=>rfl) es x.1 j e u he hu))) ?_ (fun _ h=>h.sel [1,2,3,4,5,6] (by decide));refine WPD.ef rfl (x_call Tryz.call197 (factor_ct t _ es.length cap room g e) [0] [1,2,3,4,5,6] rfl (fun w hw=>trivial) (τ:=fun _=>[_,_,_,_,_,_,_]) (fun _=>rfl)) (fun _ _ _ h=>h.2.sel [0,1,2,3,4,5] (by decide)) (fun _=>?_);refine WPD.fact (fun _=>?_);refine WPD.take rfl (v_assign (v:=.int .i64 _) rfl) ?_ (fun _ h=>h.sel [0,1,2,3,4,5] (by decide));refine gg ?_;refine WP.cond rfl (fun h18=>?_) (fun h18=>?_)
   case' _=>
    have hgf:g=false:=by simpa using h18
    have hm:fct g e*e.it.base=wt g e:=by simp[fct,wt,hgf]
    refine gg ?_;refine vl (vR 0 (flat_at FE.enc 7 (fun _=>rfl) es x.1 0 e _ he rfl)) ?_;refine vl (v_mul rfl rfl (by rw[hm];omega)) ?_;rw[hm]
   rotate_left
   case' _=>
    have hgt:g=true:=by simpa using h18
    rw[show fct g e=wt g e by simp[fct,wt,hgt]]
   all_goals
    refine gg ?_;refine WPL.ef (xN (L1 rfl)) fun g28=>?_;refine WPL.ef (xP 3 7) fun⟨A29,c29⟩=>?_;refine WPL.ef0 (xS rfl (isS rfl)) fun _=>?_
    exact nl fun w hw => RoundQ.normal (i := 5) rfl (hw.sel [6, 0, 1, 2, 3, 4, 5] (by decide)) (fun w' hw' => ⟨(x.1 + 1, A29, c29), rfl, rfl, by
      simp only [wts_open (g := g) he hf, intsI_snoc, intsV_snoc]
      exact hw'⟩)
  ·intro D x hx;refine id (onto_of ?_);refine gg ?_;exact WP.retM [D] (τ:=[_,_,_]) (fun w hw=>(hw.sel [0,1,4,5] (by decide))) (fun _ h=>h) (fun w hw=>RetQ.of1 Tryz.results198 (.inl rfl) ⟨x,rfl,trivial,hw⟩)
theorem upto_at {α:Type} (f:Nat→α→α) (l:List α) (i:Nat):(upto f l i)[i]?=l[i]?:=by
  simp only[upto,List.getElem?_mapIdx];cases l[i]? with
  | none=>rfl
  | some x=>simp
def frozz (g:Bool) (room:Int) (es:List FE) (i:Nat) (e:FE):FE:=if e.fr then e else {e with fr:=judge (moreTo g room es es.length) (e.size - want g room es i e)}
theorem frozz_all (g:Bool) (room:Int) (es:List FE):upto (frozz g room es) (upto (sized g room es) es es.length) es.length=round g room es:=by
  rw[upto_all _ _ (by rw[upto_length];omega),upto_all _ _ (by omega)];apply List.ext_getElem?;intro i;simp only[round,List.getElem?_mapIdx];cases es[i]? with
  | none=>rfl
  | some e =>
    simp only[Option.map_some]
    congr 1
    cases hf:e.fr with
    | true=>simp[sized,froze,frozz,hf]
    | false=>simp[sized,froze,frozz,hf,gap,want]
theorem ints_at {l:List Int} {k:Nat} {x:Int} (h:l[k]?=some x):(l.map (Value.int .i64))[k]?=some (.int .i64 x):=by rw[List.getElem?_map,h];rfl
theorem flat_len (l:List FE) (f:Nat→FE→FE) (i:Nat):((upto f l i).flatMap FE.enc).length=l.length*7:=by
  have h:∀l:List FE,(l.flatMap FE.enc).length=l.length*7:=fun l=>by
    induction l with
    | nil=>rfl
    | cons a l ih=>simp[ih];omega
  rw[h,upto_length]
theorem item_cell {e:FE} {j:Nat} {u:Value} (h:([.int .i64 e.it.base,.int .i64 e.it.low,.int .i64 e.it.high,.int .i64 e.it.grow,.int .i64 e.it.shrink]:List Value)[j]?=some u):e.enc[j]?=some u:=by
  have hj:=(List.getElem?_eq_some_iff.1 h).1
  match j,h with
  | 0,h=>exact h
  | 1,h=>exact h
  | 2,h=>exact h
  | 3,h=>exact h
  | 4,h=>exact h
  | j+5,h=>simp at h
theorem sized_at {g:Bool} {room:Int} {es:List FE} {i:Nat} {e:FE} (h:(upto (sized g room es) es es.length)[i]?=some e) (hf:e.fr=false):∃e0,es[i]?=some e0∧e0.fr=false∧e=sized g room es i e0:=by
  cases he:es[i]? with
  | none=>rw[List.getElem?_eq_none (by rw[upto_length];exact List.getElem?_eq_none_iff.1 he)] at h;cases h
  | some e0 =>
    rw[upto_get _ _ _ he,if_pos (List.getElem?_eq_some_iff.1 he).1] at h;cases h;refine⟨e0,rfl,?_,rfl⟩;cases h0:e0.fr with
    | true=>simp[sized,h0] at hf
    | false=>rfl
theorem sized_shut {g:Bool} {room:Int} {es:List FE} {i:Nat} {e:FE} (h:(upto (sized g room es) es es.length)[i]?=some e) (hf:e.fr=true):∃e0,es[i]?=some e0∧e0.fr=true:=by
  cases he:es[i]? with
  | none=>rw[List.getElem?_eq_none (by rw[upto_length];exact List.getElem?_eq_none_iff.1 he)] at h;cases h
  | some e0 =>
    rw[upto_get _ _ _ he,if_pos (List.getElem?_eq_some_iff.1 he).1] at h;cases h;refine⟨e0,rfl,?_⟩;cases h0:e0.fr with
    | true=>rfl
    | false=>simp[sized,h0] at hf
theorem judge_of {c:Bool} {m b:Int} (h:c=true↔(m=0∨(0<m∧0<b)∨(m<0∧b<0))):c=judge m b:=by
  have h2:judge m b=true↔(m=0∨(0<m∧0<b)∨(m<0∧b<0)):=by simp[judge,or_assoc]
  rw[Bool.eq_iff_iff,h,h2]
theorem sized_cell (g:Bool) (room:Int) (es:List FE) (i:Nat) (e:FE) (hf:e.fr=false):e.enc.set 5 (.int .i64 (e.it.fit (want g room es i e)))=(sized g room es i e).enc:=by simp[sized,hf]
theorem frozz_cell {g:Bool} {room:Int} {es:List FE} {i:Nat} {e:FE} {c:Bool} (hf:e.fr=false) (hc:c=judge (moreTo g room es es.length) (e.size - want g room es i e)):e.enc.set 6 (.bool c)=(frozz g room es i e).enc:=by simp[frozz,hf,hc]
theorem want_t {g:Bool} {room:Int} {es:List FE} {i:Nat} {e:FE} (h:g=true):e.it.base+(parts g room es).getD (kth es i) 0=want g room es i e:=by subst h;simp[want,sgnG]
theorem want_f {g:Bool} {room:Int} {es:List FE} {i:Nat} {e:FE} (h:g=false):e.it.base - (parts g room es).getD (kth es i) 0=want g room es i e:=by subst h;simp only[want,sgnG,Bool.false_eq_true,if_false];omega
theorem round_ct (t:Nat) (A:Option Addr) (cap:Nat) (room:Int) (g:Bool) (es:List FE) (hok:oks es) (hl:es.length≤64) (hr:0≤room∧room≤67108864):
    Ct Tryz.prog 187 #[.pointer (some ⟨t,0,none⟩)] [tblI t A es.length cap room g,entI A es.length cap es] (fun _=>True) (X:=Unit) (fun _=>.bool (decide ((0:Int)<(wts g es es.length).length))) (fun _=>True)
      (fun _=>[tblI t A es.length cap room g,entI A es.length cap (round g room es)]):=by
  refine Ci fun w0 _=>?_;refine gg ?_;refine WPL.ef (x_box1 (u:=.pointer _) (σ':=fun _=>[_,_,_]) rfl (fun _=>rfl)) (fun b1=>?_);refine gg ?_;refine eF (xC (weights_ct t A cap room g es hok hl)) fun⟨WA,wc⟩ _=>?_;refine gg ?_;refine eF (xC (free_ct t A cap room g es hok hl hr)) fun _ _=>?_;refine gg ?_;refine eF (xC (share_ct WA wc (fre g room es) (wts g es es.length) (by rw[kth_wts];exact Nat.le_trans (kth_le es _) hl)) (hF:=fun w hw=>hw.rd_row1 (i:=1) rfl)) fun⟨P,pc⟩ _=>?_;refine WPL.ef xAl fun b4=>?_;refine WPL.ef0 (xS rfl (isS rfl)) fun _=>?_;refine gg ?_;refine WPL.ef xAl fun b5=>?_;refine gg ?_;refine WPL.ef xAl fun b6=>?_;refine WPL.ef xAl fun b7=>?_;refine WPL.ef0 (xS rfl (isI rfl)) fun _=>?_;refine WPL.ef0 (xS rfl (isI rfl)) fun _=>?_;refine n4 ?_;refine vl (v_func) ?_;refine n2 ?_;refine WP.pre ?_ (fun w hw=>((hw.sel [2,3,0,5,4,6,7,8] (by decide))).nilRow 3 1);refine WP.rangeFunc (gf:=201) (first:=[.pointer (some ⟨t,0,none⟩)]) (cap:=[]) rfl Tryz.call201 (X:=Option Addr×Nat) (Fin:=fun x=>True) (τ:=fun x=>[tblI t A es.length cap room g,entI A es.length cap (upto (sized g room es) es es.length),.cl b1 212 [.pointer (some ⟨t,0,none⟩)],.cl b4 55 [.slice P (wts g es es.length).length pc],.row 3 1 P (wts g es es.length).length pc ((parts g room es).map (Value.int .i64)),.cl b5 55 [intsV x.1 x.2 (wtd g room es es.length)],.cl b6 3 [.int .i64 ((kth es es.length:Nat):Int)],.cl b7 3 [.int .i64 (moreTo g room es es.length)],intsI x.1 x.2 (wtd g room es es.length)]) ?_ ?_
  ·intro kk l D hps has hbd hfr w hw
   refine (open_it (X := Nat × Option Addr × Nat) (fun x => upto (sized g room es) es x.1) (fun x => [.cl b1 212 [.pointer (some ⟨t, 0, none⟩)], .cl b4 55 [.slice P (wts g es es.length).length pc], .row 3 1 P (wts g es es.length).length pc ((parts g room es).map (Value.int .i64)), .cl b5 55 [intsV x.2.1 x.2.2 (wtd g room es x.1)], .cl b6 3 [.int .i64 ((kth es x.1 : Nat) : Int)], .cl b7 3 [.int .i64 (moreTo g room es x.1)], intsI x.2.1 x.2.2 (wtd g room es x.1), lp l kk .ready none, dfr D]) (fun j x => x.1 = j) hl (fun _ _ _ => upto_length _ _ _) ?_ (0, none, 0) rfl w (by simp only [upto_zero]; exact hw) ?_).mono (by
     rintro e w' ⟨hv, x, hx, h⟩
     have hx : x.1 = es.length := hx
     simp only [hx] at h
     exact ⟨hv, x.2, trivial, h⟩)
   · intro j x e hx he hf
     subst hx;rw[upto_at] at he;exact⟨(x.1+1,x.2),rfl,fun w hw=>by simp only[wtd_shut (g:=g) (room:=room) he hf,kth_shut he hf,more_shut (g:=g) (room:=room) he hf,upto_skip (sized g room es) es x.1 he (by simp[sized,hf])];exact hw⟩
   intro j x e b hx he hf hA;subst hA hx;have he1:=he;rw[upto_at] at he;have ho:=hok _ _ he;have hwl:(wtd g room es x.1).length≤x.1:=by rw[kth_wtd];exact kth_le es _
   have hxl:=(List.getElem?_eq_some_iff.1 he).1;have hkl:=kth_lt he hf;have hkx:=kth_le es x.1;have hpl:=kth_wts g es es.length;have hpb:0≤(parts g room es).getD (kth es x.1) 0∧(parts g room es).getD (kth es x.1) 0≤67108864:=share_bd (fre g room es) (wts g es es.length) (kth es x.1);have hwb:=want_bd (g:=g) (room:=room) hok he;have hgb:=gap_bd (g:=g) (room:=room) hok he;have hmb:=more_bd (g:=g) (room:=room) hok x.1;have hpg:=parts_get (g:=g) (room:=room) he hf;unfold gap at hgb;have ho1:=ho;unfold FE.ok at ho1;refine Yld.intro hps has hbd hfr (i:=9) rfl rfl (by decide) ?_;refine n2 ?_;refine WPL.nil (begun_of (i:=9) rfl ?_);refine WP.holds (fun w hw=>hw.row_pos (i:=4) rfl (by omega)) (fun⟨pb,hP⟩=>?_);subst hP;refine gg ?_;refine WP.drawS none [(0,true),(1,true),(2,true),(3,true),(4,true),(5,true),(6,true),(7,true),(8,true),(9,true),(10,true)] mixed (by kernel_rfl) (by decide) (fun _ h=>h.drawn) ?_;refine n4 ?_;refine WPD.take rfl (v_load1 (u:=.int .i64 _) Tryz.isAgg3 rfl (fun w hw=>hw.row_at1 (i:=1) rfl (flat_at FE.enc 7 (fun _=>rfl) _ x.1 0 e _ he1 rfl) (by omega))) ?_ (fun _ h=>h);refine n2 ?_;refine tD (vX (kth es x.1)) ?_;refine WPD.take rfl (v_load1 (u:=.int .i64 _) Tryz.isAgg3 rfl (fun w hw=>hw.row_at1 (i:=4) rfl (ints_at hpg) (by omega))) ?_ (fun _ h=>h);refine gg ?_;refine WP.cond rfl (fun h34=>?_) (fun h34=>?_)
   case' _=>
    have hm:=want_t (room:=room) (es:=es) (i:=x.1) (e:=e) h34;refine WP.drawS none [(0,true),(1,true),(2,true),(3,true),(4,true),(5,true),(6,true),(7,true),(8,true),(9,true),(10,true)] mixed (by kernel_rfl) (by decide) (fun _ h=>h.drawn) ?_;refine n4 ?_;refine WPD.take rfl (v_load1 (u:=.int .i64 _) Tryz.isAgg3 rfl (fun w hw=>hw.row_at1 (i:=1) rfl (flat_at FE.enc 7 (fun _=>rfl) _ x.1 0 e _ he1 rfl) (by omega))) ?_ (fun _ h=>h);refine n2 ?_;refine tD (vX (kth es x.1)) ?_;refine WPD.take rfl (v_load1 (u:=.int .i64 _) Tryz.isAgg3 rfl (fun w hw=>hw.row_at1 (i:=4) rfl (ints_at hpg) (by omega))) ?_ (fun _ h=>h);refine ad ?_
   rotate_left
   case' _=>
    have hm:=want_f (room:=room) (es:=es) (i:=x.1) (e:=e) h34
   all_goals
    rw[hm];refine gg ?_;refine WPL.ef0 (x_store (u:=.int .i64 _) (σ':=[_,_,_,_,_,_,.cl _ _ [_],_,_,_,_]) Tryz.sizeOf3 rfl rfl (i:=6) rfl (Nat.lt_of_lt_of_le (Nat.lt_succ_self _) (Nat.le_of_ble_eq_true rfl)) rfl) (fun _=>?_);refine n6 ?_;refine vl (v_loadA (cs:=[.int .i64 _,.int .i64 _,.int .i64 _,.int .i64 _,.int .i64 _]) Tryz.isAgg195 Tryz.sizeOf195 rfl (fun w hw=>hw.row_at (i:=1) rfl _ (fun j u hu=>by rw[Nat.zero_add];exact flat_at FE.enc 7 (fun _=>rfl) _ x.1 j e u he1 (item_cell hu)))) ?_;refine gg ?_;refine eF (xC (fit_ct e.it (want g room es x.1 e))) fun _ _=>?_;refine gg ?_;refine WPL.ef0 (x_storeRow' (u:=.int .i64 _) (xs':=(upto (sized g room es) es (x.1+1)).flatMap FE.enc) (σ':=[_,_,_,_,_,_,_,_,_,_,_]) Tryz.sizeOf3 rfl rfl (i:=1) rfl (by rw[flat_len];omega) (by rw[Nat.zero_add,flat_set FE.enc 7 (fun _=>rfl) _ x.1 5 e (sized g room es x.1 e) _ he1 (by decide) (sized_cell g room es x.1 e hf),upto_succ _ _ _ he]) rfl) (fun _=>?_);refine gg ?_;refine WPL.ef (xN (L1 rfl)) fun g58=>?_;refine WPL.ef (xP 8 11) fun⟨A59,c59⟩=>?_;refine WPL.ef0 (xS rfl (isS rfl)) fun _=>?_;refine gg ?_;refine WP.drawS (some 8) [(0,true),(1,true),(2,true),(3,true),(4,true),(5,true),(6,true),(7,true),(8,false)] mixed (by kernel_rfl) (by decide) (fun _ h=>h.drawn) ?_;refine gg ?_;refine tD (vR 1 (flat_at FE.enc 7 (fun _=>rfl) _ x.1 5 (sized g room es x.1 e) (.int .i64 (e.it.fit (want g room es x.1 e))) (by rw[upto_get _ _ _ he,if_pos (by omega)]) (by simp[sized,hf]))) ?_;refine gg ?_;refine dE0 (xS rfl (isI rfl)) fun _=>?_
    exact WPD.nil fun w hw => RoundQ.normal (i := 9) rfl (hw.sel [0, 1, 2, 3, 4, 5, 6, 7, 8, 9, 10] (by decide)) (fun w' hw' => ⟨(x.1 + 1, A59, c59), rfl, rfl, by
      simp only [wtd_open (g := g) (room := room) he hf, kth_open he hf, more_open (g := g) (room := room) he hf, intsI_snoc, intsV_snoc]
      exact hw'⟩)
  ·intro D1 x hx;obtain⟨A2,c2⟩:=x;refine id (onto_of ?_);refine gg ?_;refine WPL.ef0 (xS rfl (isI rfl)) fun _=>?_;refine n4 ?_;refine vl (v_func) ?_;refine n2 ?_;refine sl [0,1,2,3,4,5,6,7,8,9] ?_;refine WP.rangeFunc (gf:=201) (first:=[.pointer (some ⟨t,0,none⟩)]) (cap:=[]) rfl Tryz.call201 (X:=Unit) (Fin:=fun x=>True) (τ:=fun x=>[tblI t A es.length cap room g,entI A es.length cap (upto (frozz g room es) (upto (sized g room es) es es.length) es.length),.cl b1 212 [.pointer (some ⟨t,0,none⟩)],.cl b4 55 [.slice P (wts g es es.length).length pc],.row 3 1 P (wts g es es.length).length pc ((parts g room es).map (Value.int .i64)),.cl b5 55 [intsV A2 c2 (wtd g room es es.length)],.cl b6 3 [.int .i64 ((kth es es.length:Nat):Int)],.cl b7 3 [.int .i64 (moreTo g room es es.length)],intsI A2 c2 (wtd g room es es.length),dfr D1]) ?_ ?_
   ·intro kk l D hps has hbd hfr w hw
    refine (open_it (X := Nat) (fun x => upto (frozz g room es) (upto (sized g room es) es es.length) x) (fun x => [.cl b1 212 [.pointer (some ⟨t, 0, none⟩)], .cl b4 55 [.slice P (wts g es es.length).length pc], .row 3 1 P (wts g es es.length).length pc ((parts g room es).map (Value.int .i64)), .cl b5 55 [intsV A2 c2 (wtd g room es es.length)], .cl b6 3 [.int .i64 ((kth es x : Nat) : Int)], .cl b7 3 [.int .i64 (moreTo g room es es.length)], intsI A2 c2 (wtd g room es es.length), dfr D1, lp l kk .ready none, dfr D]) (fun j x => x = j) hl (fun _ _ _ => by rw [upto_length, upto_length]) ?_ 0 rfl w (by simp only [upto_zero]; exact hw) ?_).mono (by
      rintro e w' ⟨hv, x, hx, h⟩
      have hx : x = es.length := hx
      subst hx
      exact ⟨hv, (), trivial, h⟩)
    · intro j x e hx he hf
      subst hx;rw[upto_at] at he;have he0:∃e0,es[x]?=some e0∧e0.fr=true:=sized_shut he hf;obtain⟨e0,he0,hf0⟩:=he0;exact⟨x+1,rfl,fun w hw=>by simp only[kth_shut he0 hf0,upto_skip (frozz g room es) _ x he (by simp[frozz,hf])];exact hw⟩
    intro j x e b hx he hf hA;subst hA hx;have he1:=he;rw[upto_at] at he;obtain⟨e0,he0,hf0,hes⟩:∃e0,es[x]?=some e0∧e0.fr=false∧e=sized g room es x e0:=sized_at he hf;have hxl:=(List.getElem?_eq_some_iff.1 he0).1;have hkl:=kth_lt he0 hf0;have hkx:=kth_le es x;have hwl:=kth_wtd g room es es.length;have hwg:=wtd_get (g:=g) (room:=room) he0 hf0;have hit:e.it=e0.it:=by rw[hes];simp[sized,hf0]
    have hwe:want g room es x e=want g room es x e0:=by simp[want,hit]
    have hsz:e.size=e0.it.fit (want g room es x e0):=by rw[hes];simp[sized,hf0]
    have hwb:=want_bd (g:=g) (room:=room) hok he0;have hgb:=gap_bd (g:=g) (room:=room) hok he0;have hmb:=more_bd (g:=g) (room:=room) hok es.length;unfold gap at hgb;rw[←hsz] at hgb;refine Yld.intro hps has hbd hfr (i:=10) rfl rfl (by decide) ?_;refine n2 ?_;refine WPL.nil (begun_of (i:=10) rfl ?_);refine WP.holds (fun w hw=>hw.row_pos (i:=8) rfl (by omega)) (fun⟨qb,hA2⟩=>?_);subst hA2;refine gg ?_;refine WP.drawS none [(0,true),(1,true),(2,true),(3,true),(4,true),(5,true),(6,true),(7,true),(8,true),(9,true)] mixed (by kernel_rfl) (by decide) (fun _ h=>h.drawn) ?_;refine n3 ?_;refine WPD.take rfl (v_load1 (u:=.int .i64 _) Tryz.isAgg3 rfl (fun w hw=>hw.row_at1 (i:=1) rfl (flat_at FE.enc 7 (fun _=>rfl) _ x 5 e _ he1 rfl) (by omega))) ?_ (fun _ h=>h);refine n2 ?_;refine tD (vX (kth es x)) ?_;refine WPD.take rfl (v_load1 (u:=.int .i64 _) Tryz.isAgg3 rfl (fun w hw=>hw.row_at1 (i:=8) rfl (ints_at hwg) (by omega))) ?_ (fun _ h=>h);refine gg ?_;refine WPL.ef0 (x_store (u:=.int .i64 _) (σ':=[_,_,_,_,_,_,.cl _ _ [_],_,_,_,_,_]) Tryz.sizeOf3 rfl rfl (i:=6) rfl (Nat.lt_of_lt_of_le (Nat.lt_succ_self _) (Nat.le_of_ble_eq_true rfl)) rfl) (fun _=>?_);refine n6 ?_;refine WPL.split 85 rfl (fun h85=>?_) (fun h85=>?_);rotate_left
    case' _=>
     refine n3 ?_;refine WPL.split 88 rfl (fun h88=>?_) (fun h88=>?_)
     case' _=>
      refine n5 ?_;refine WPL.split 93 rfl (fun h93=>?_) (fun h93=>?_);rotate_left
      case' _=>
       refine n3 ?_;refine WPL.split 96 rfl (fun h96=>?_) (fun h96=>?_);rotate_left
     rotate_left 3
     case' _=>
      refine n8 ?_;refine WPL.split 96 rfl (fun h96=>?_) (fun h96=>?_);rotate_left
    all_goals
     refine gg ?_;refine WPL.ef0 (x_storeRow' (u:=.bool _) (xs':=(upto (frozz g room es) (upto (sized g room es) es es.length) (x+1)).flatMap FE.enc) (σ':=[_,_,_,_,_,_,_,_,_,_,_,_]) Tryz.sizeOf4 rfl rfl (i:=1) rfl (by rw[flat_len,upto_length];omega) (by rw[Nat.zero_add,flat_set FE.enc 7 (fun _=>rfl) _ x 6 e (frozz g room es x e) _ he1 (by decide) (frozz_cell hf (judge_of (by rw[hwe];simp;omega))),upto_succ _ _ _ he]) rfl) (fun _=>?_)
     exact nl fun w hw => RoundQ.normal (i := 10) rfl (hw.sel [0, 1, 2, 3, 4, 5, 6, 7, 8, 9, 10, 11] (by decide)) (fun w' hw' => ⟨x + 1, rfl, rfl, by
       simp only [kth_open he0 hf0]
       exact hw'⟩)
   ·intro D2 x hx;refine id (onto_of ?_);refine gg ?_;exact WP.retM [D2,D1] (τ:=[_,_]) (fun w hw=>(hw.sel [0,1,10,9] (by decide))) (fun _ h=>h) (fun w hw=>RetQ.of1 Tryz.results187 (.inl rfl) ⟨(),rfl,trivial,by rw[←frozz_all];exact hw⟩)
theorem info218:(Tryz.prog.info? 218).map (fun i=>(i.zero,i.size,i.bytes))=some (some (.agg #[.int .i64 0,.int .i64 0,.int .i64 0,.int .i64 0,.int .i64 0,.int .i64 0,.bool false]),7,56):=by kernel_rfl
def raw (x:FItem):FE:=⟨x.sound,basic x,false⟩
def begun0 (l:List FItem) (k:Nat):List FE:=(l.take k).map raw
theorem begun0_length (l:List FItem) (k:Nat) (h:k≤l.length):(begun0 l k).length=k:=by simp[begun0];omega
theorem begun0_succ (l:List FItem) (k:Nat) {x:FItem} (h:l[k]?=some x):begun0 l (k+1)=begun0 l k++[raw x]:=by simp[begun0,takeSnocF h]
theorem raw_fit (x:FItem):x.fit x.sound.base=basic x:=rfl
theorem entI_snoc (A:Option Addr) (n c:Nat) (es:List FE) (e:FE):entI A n c (es++[e])=.row 218 7 A n c (es.flatMap FE.enc++e.enc):=by simp[entI]
def frst (g:Bool) (_:Nat) (e:FE):FE:={e with fr:=if g then (decide (e.it.grow=0)||decide (e.it.base > e.size)) else (decide (e.it.shrink=0)||decide (e.it.base<e.size))}
theorem frst_all (g:Bool) (l:List FItem):upto (frst g) (begun0 l l.length) l.length=l.map (start g):=by
  rw[upto_all _ _ (by rw[begun0_length l _ (Nat.le_refl _)];omega)];apply List.ext_getElem?;intro i;simp only[begun0,List.getElem?_mapIdx,List.getElem?_map,List.take_length];cases l[i]? with
  | none=>rfl
  | some x=>rfl
theorem frst_cell {g:Bool} {e:FE} {c:Bool} {i:Nat} (hc:c=true↔(g=true∧(e.it.grow=0∨e.size<e.it.base))∨(g=false∧(e.it.shrink=0∨e.it.base<e.size))):e.enc.set 6 (.bool c)=(frst g i e).enc:=by
  have h2:(if g then (decide (e.it.grow=0)||decide (e.it.base > e.size)) else (decide (e.it.shrink=0)||decide (e.it.base<e.size)))=c:=by
    rw[Bool.eq_iff_iff,hc];cases g<;>simp
  simp[frst,h2]
theorem begin_ct (A:Option Addr) (c:Nat) (l:List FItem) (room:Int) (hl:l.length≤64):
    Ct Tryz.prog 186 #[.slice A l.length c,.int .i64 room] [] (fun w=>RdE w A 5 FItem.enc l) (X:=Nat×Option Addr×Nat) (fun p=>.pointer (some ⟨p.1,0,none⟩)) (fun _=>True)
      (fun p=>[tblI p.1 p.2.1 l.length p.2.2 (lot room) (grows l room),entI p.2.1 l.length p.2.2 (l.map (start (grows l room)))]):=by
  refine Ci fun w0 hz=>?_;refine gg ?_;refine vl (vC (clamp_eq (clamp_lot room) _)) ?_;refine vl (v_struct (us:=[.slice _ _ _,.int .i64 _,.bool _]) (pl:=[(0,1),(1,1),(2,1)]) Tryz.underlying216 Tryz.zeroValue216 rfl (by kernel_rfl) rfl rfl (by kernel_rfl)) ?_;refine WPL.ef xB fun b16=>?_;refine av ?_;refine nl (oo ?_);refine sq ?_;refine WP.pre ?_ (fun w hw=>hw.nilRow 218 7);refine gg ?_;refine WP.loopK (X:=Nat) [5,17,18] (fun k=>[(6,.int .i64 (tot l k)),(19,.int .i64 (k:Int))]) (fun k w=>k≤l.length∧∃p:Option Addr×Nat,St w0 (foots []) [tblI b16 p.1 k p.2 (lot room) false,entI p.1 k p.2 (begun0 l k)] w) (fun k=>l.length - k) 0 ⟨by rw[tot_zero];rfl,rfl,trivial⟩ (fun w hw=>⟨by omega,(none,0),hw⟩) (fun k ρ0=>?_);refine WP.fact (fun hk=>?_);refine WP.ex (fun⟨A1,c1⟩=>?_);dsimp only;refine gg ?_;refine WP.condP rfl (fun h20=>?_) (fun h20=>?_)
  ·have hk':k<l.length:=by omega
   obtain⟨x,hx⟩:∃x,l[k]?=some x:=⟨_,List.getElem?_eq_getElem hk'⟩;obtain⟨b,o,rfl,hc⟩:=hz k x hx;have hb1:=tot_bd l k;have hb2:=basic_bd x;have hbl:=begun0_length l k hk;refine n5 ?_;refine vl (v_loadA (cs:=[.int .i64 _,.int .i64 _,.int .i64 _,.int .i64 _,.int .i64 _]) Tryz.isAgg195 Tryz.sizeOf195 rfl (fun w hw=>hw.old_at hc (not_foots_nil _))) ?_;refine WPL.ef xAl fun b8=>?_;refine WPL.ef0 (xW rfl) fun _=>?_;refine gg ?_;refine eF (xC (sound_ct x)) fun _ _=>?_;refine vl (v_struct (us:=[.int .i64 _,.int .i64 _,.int .i64 _,.int .i64 _,.int .i64 _,.int .i64 _,.bool _]) (pl:=[(0,5),(5,1),(6,1)]) Tryz.underlying218 Tryz.zeroValue218 rfl (by kernel_rfl) rfl rfl (by kernel_rfl)) ?_;refine WPL.ef xAl fun b9=>?_;refine WPL.ef0 (xW rfl) fun _=>?_;refine gg ?_;refine eF (xC (fit_ct x x.sound.base)) fun _ _=>?_;rw[raw_fit x];refine gg ?_;refine WPL.ef0 (xS rfl (isI rfl)) fun _=>?_;refine n7 ?_;rw[←tot_succ l k x hx];refine gg ?_;refine wP (some 10) [0,2,3] [pT 0,pT 1,pT 2,pT 3,pT 4,pT 5,pF 6,pF 7,pF 8,pT 9,pF 10] ?_;refine WPD.take rfl (v_move (v:=.pointer _) rfl) ?_ (fun _ h=>h.sel [0,2,3] (by decide));refine WPD.take rfl (v_move (v:=.pointer _) rfl) ?_ (fun _ h=>h.sel [0,2,3] (by decide));refine WPD.take rfl (v_nil rfl) ?_ (fun _ h=>h.sel [0,2,3] (by decide));refine WPD.take rfl (v_fieldL (o':=0) Tryz.underlying216 rfl Tryz.sizeOf214 rfl rfl) ?_ (fun _ h=>h.sel [0,2,3] (by decide));refine WPD.take rfl (v_load1 (u:=.slice _ _ _) Tryz.isAgg214 rfl (fun w hw=>hw.cl_at (i:=0) rfl _ rfl)) ?_ (fun _ h=>h.sel [0,2,3] (by decide));refine WPD.take rfl (v_loadA (cs:=[.int .i64 _,.int .i64 _,.int .i64 _,.int .i64 _,.int .i64 _,.int .i64 _,.bool _]) Tryz.isAgg218 Tryz.sizeOf218 rfl (fun w hw=>hw.cl_at (i:=2) rfl _ rfl)) ?_ (fun _ h=>h.sel [0,2,3] (by decide));refine WPD.ef rfl (x_buildSlice (us:=[.int .i64 _,.int .i64 _,.int .i64 _,.int .i64 _,.int .i64 _,.int .i64 _,.bool _]) (σ':=fun _=>[_,_,_,_,_]) Tryz.underlying214 Tryz.sizeOf218 Tryz.zeroValue218 rfl rfl rfl (by decide) (by decide) (fun _=>rfl)) (fun _ _ _ h=>h.sel [0,2,3] (by decide)) (fun g42=>?_);refine dE (xP 1 4) fun⟨A43,c43⟩=>?_;refine WPD.val rfl (v_nil rfl) (fun _ h=>h.sel [0,2,3] (by decide)) ?_;refine gg ?_;refine dE0 (xS rfl (isS rfl)) fun _=>?_;refine n4 ?_;exact nl fun w hw=>⟨rfl,k+1,(by omega),⟨rfl,rfl,jP,jS,jI,trivial⟩,by omega,(A43,c43),by rw[begun0_succ l k hx,entI_snoc];exact hw.sel [0,1] (by decide)⟩
  ·obtain rfl:k=l.length:=by omega
   refine WP.exit (onto_of ?_);refine gg ?_;refine WPL.ef0 (xS rfl (isB rfl)) fun _=>?_;refine gg ?_;refine WP.loopK (X:=Nat) [5,60] (fun k=>[(61,.int .i64 (k:Int))]) (fun k w=>k≤l.length∧St w0 (foots []) [tblI b16 A1 l.length c1 (lot room) (grows l room),entI A1 l.length c1 (upto (frst (grows l room)) (begun0 l l.length) k)] w) (fun k=>l.length - k) 0 ⟨rfl,trivial⟩ (fun w hw=>⟨by omega,by rw[upto_zero];exact hw⟩) (fun k ρ0=>?_);refine WP.fact (fun hk=>?_);refine gg ?_;refine WP.condP rfl (fun h62=>?_) (fun h62=>?_)
   ·have hk':k<l.length:=by omega
    obtain⟨x,hx⟩:∃x,l[k]?=some x:=⟨_,List.getElem?_eq_getElem hk'⟩;obtain⟨e,he⟩:∃e,(begun0 l l.length)[k]?=some e:=⟨_,List.getElem?_eq_getElem (by rw[begun0_length l _ (Nat.le_refl _)];exact hk')⟩;have he1:=(upto_at (frst (grows l room)) (begun0 l l.length) k).trans he;refine WP.holds (fun w hw=>hw.row_pos (i:=1) rfl (by omega)) (fun⟨b,hA⟩=>?_);subst hA;refine gg ?_;refine WP.drawS none [(0,true),(1,true),(2,true),(3,true),(4,true),(5,true),(6,true),(7,true),(8,true),(9,true),(10,true)] mixed (by kernel_rfl) (by decide) (fun _ h=>h.drawn) ?_;refine gg ?_;refine tD (vR 1 (flat_at FE.enc 7 (fun _=>rfl) _ k 0 e _ he1 rfl)) ?_;refine gg ?_;refine tD (vR 1 (flat_at FE.enc 7 (fun _=>rfl) _ k 5 e _ he1 rfl)) ?_;refine gg ?_;refine WP.cond rfl (fun h84=>?_) (fun h84=>?_)
    case' _=>
     have hgf:grows l room=false:=by simpa using h84
     refine WP.drawS none [(0,true),(1,true),(2,true),(3,true),(4,true),(5,true),(6,true),(7,true),(8,true),(9,true),(10,true)] mixed (by kernel_rfl) (by decide) (fun _ h=>h.drawn) ?_;refine gg ?_;refine tD (vR 1 (flat_at FE.enc 7 (fun _=>rfl) _ k 0 e _ he1 rfl)) ?_;refine gg ?_;refine tD (vR 1 (flat_at FE.enc 7 (fun _=>rfl) _ k 5 e _ he1 rfl)) ?_;refine n7 ?_
    rotate_left
    case' _=>
     have hgt:grows l room=true:=by simpa using h84
     refine n5 ?_
    all_goals
     refine WPL.split 97 rfl (fun h97=>?_) (fun h97=>?_)
     ·refine gg ?_;refine WPL.ef0 (x_storeRow' (u:=.bool _) (xs':=(upto (frst (grows l room)) (begun0 l l.length) (k+1)).flatMap FE.enc) (σ':=[_,_]) Tryz.sizeOf4 rfl rfl (i:=1) rfl (by rw[flat_len,begun0_length l _ (Nat.le_refl _)];omega) (by rw[Nat.zero_add,flat_set FE.enc 7 (fun _=>rfl) _ k 6 e (frst (grows l room) k e) _ he1 (by decide) (frst_cell (by first | (rw[hgf];simp;omega) | (rw[hgf];simp[fct];omega) | (rw[hgt];simp;omega) | (rw[hgt];simp[fct];omega))),upto_succ _ _ _ he]) rfl) (fun _=>?_);refine n4 ?_;exact nl fun w hw=>⟨rfl,k+1,(by omega),⟨rfl,jP,jI,trivial⟩,by omega,hw.pk⟩
     ·refine n3 ?_;refine vg (v_loadA (cs:=[.int .i64 _,.int .i64 _,.int .i64 _,.int .i64 _,.int .i64 _,.int .i64 _,.bool _]) Tryz.isAgg218 Tryz.sizeOf218 rfl (fun w hw=>hw.row_at (i:=1) rfl _ (fun j u hu=>by rw[Nat.zero_add];exact flat_at FE.enc 7 (fun _=>rfl) _ k j e u he1 hu))) ?_;refine WPL.efG (x_call Tryz.call197 (factor_ct b16 _ l.length c1 (lot room) (grows l room) e) [0] [1] rfl (fun w hw=>trivial) (τ:=fun _=>[_,_]) (fun _=>rfl)) (fun _=>?_);refine WPL.fact (fun _=>?_);refine gg ?_;refine WPL.ef0 (x_storeRow' (u:=.bool _) (xs':=(upto (frst (grows l room)) (begun0 l l.length) (k+1)).flatMap FE.enc) (σ':=[_,_]) Tryz.sizeOf4 rfl rfl (i:=0) rfl (by rw[flat_len,begun0_length l _ (Nat.le_refl _)];omega) (by rw[Nat.zero_add,flat_set FE.enc 7 (fun _=>rfl) _ k 6 e (frst (grows l room) k e) _ he1 (by decide) (frst_cell (by first | (rw[hgf];simp;omega) | (rw[hgf];simp[fct];omega) | (rw[hgt];simp;omega) | (rw[hgt];simp[fct];omega))),upto_succ _ _ _ he]) rfl) (fun _=>?_);refine n4 ?_;exact nl fun w hw=>⟨rfl,k+1,(by omega),⟨rfl,jP,jI,trivial⟩,by omega,hw.pk⟩
   ·obtain rfl:k=l.length:=by omega
    refine WP.exit (onto_of ?_);refine gg ?_;exact WP.ret1 Tryz.results186 (fun _ h=>h) (fun w hw=>⟨(b16,A1,c1),rfl,trivial,by have h:=hw.sel [0,1] (by decide);rw[frst_all] at h;exact h⟩)
def fillTo (vs:List Int) (k:Nat):List Int:=(List.range vs.length).map fun j=>if j<k then vs.getD j 0 else 0
theorem fillTo_length (vs:List Int) (k:Nat):(fillTo vs k).length=vs.length:=by simp[fillTo]
theorem fillTo_zero (vs:List Int):fillTo vs 0=List.replicate vs.length 0:=by
  apply List.ext_getElem?;intro i
  by_cases h:i<vs.length<;>simp[fillTo,h]
theorem fillTo_all (vs:List Int):fillTo vs vs.length=vs:=by
  apply List.ext_getElem?;intro i
  by_cases h:i<vs.length
  · simp[fillTo,h]
  · simp[fillTo,h]
theorem fillTo_succ (vs:List Int) (k:Nat) {v:Int} (h:vs[k]?=some v):(fillTo vs k).set k v=fillTo vs (k+1):=by
  have hk:=(List.getElem?_eq_some_iff.1 h).1;apply List.ext_getElem?;intro i
  by_cases hi:i=k
  · subst hi
    have hv:vs[i]=v:=(List.getElem?_eq_some_iff.1 h).2;simp[fillTo,hk,hv]
  · rw [List.getElem?_set_ne (Ne.symm hi)]
    by_cases hl:i<vs.length
    · simp only [fillTo, List.getElem?_map, List.getElem?_range hl, Option.map_some]
      congr 1
      by_cases h1:i<k<;>by_cases h2:i<k+1<;>simp[h1,h2]<;>omega
    · simp[fillTo,hl]
structure Stand where
  t:Nat
  A:Option Addr
  cap:Nat
  es:List FE
theorem sizes_ct (A:Option Addr) (c:Nat) (l:List FItem) (room:Int) (hl:l.length≤64):
    Ct Tryz.prog 179 #[.slice A l.length c,.int .i64 room] [] (fun w=>RdE w A 5 FItem.enc l) (X:=Option Addr×Nat) (fun p=>.slice p.1 l.length p.2) (fun _=>True)
      (fun p=>[.row 3 1 p.1 l.length p.2 ((sizes l room).map (Value.int .i64))]):=by
  refine Ci fun w0 hz=>?_;refine n3 ?_;refine WP.scopeL (X:=Stand) 0 rfl [0] (fun x=>[(5,.pointer (some ⟨x.t,0,none⟩))]) (fun x w=>(x.es.length=l.length∧oks x.es∧(final (grows l room) (lot room) x.es).map FE.size=sizes l room)∧St w0 (foots []) [tblI x.t x.A x.es.length x.cap (lot room) (grows l room),entI x.A x.es.length x.cap x.es] w) (fun x=>kth x.es x.es.length) (fun hL=>?_) (fun x ρ0=>?_)
  ·refine gg ?_;refine WP.condP rfl (fun h=>absurd h (by omega)) (fun h11=>?_);refine gg ?_;refine eF (xC (begin_ct A c l room hl) (hF:=fun w hw=>hw.rd hz not_foots_nil)) fun⟨t,A1,c1⟩ _=>?_;refine n2 ?_;exact hL ⟨t,A1,c1,l.map (start (grows l room))⟩ _ _ ⟨rfl,rfl,trivial⟩ (fun w hw=>⟨⟨by simp,start_oks _ _,rfl⟩,by simp only[List.length_map];exact hw⟩)
  ·obtain⟨xt,xA,xc,xes⟩:=x;dsimp only;refine WP.fact (fun⟨hlen,hok,hfin⟩=>?_);refine gg ?_;refine eF (xC (round_ct xt xA xc (lot room) (grows l room) xes hok (by omega) (lot_bd room))) fun _ _=>?_;refine gg ?_;refine WP.condP rfl (fun h16=>?_) (fun h16=>?_)
   ·have hkw:=kth_wts (grows l room) xes xes.length;exact WP.goto (fun w hw=>⟨rfl,rfl,⟨xt,xA,xc,round (grows l room) (lot room) xes⟩,(round_less (by omega)),⟨rfl,jS,trivial⟩,⟨⟨by rw[round_length];exact hlen,round_oks hok,by rw[final_step (by omega)];exact hfin⟩,by simp only[round_length];exact hw⟩⟩)
   ·have hkw:=kth_wts (grows l room) xes xes.length;have hk0:kth xes xes.length=0:=by omega
    rw[final_done hk0] at hfin;have hrd:round (grows l room) (lot room) xes=xes:=by
      apply List.ext_getElem?;intro i;simp only[round,List.getElem?_mapIdx];cases he:xes[i]? with
      | none=>rfl
      | some e =>
        cases hf:e.fr with
        | true=>simp[froze,hf]
        | false=>have:=kth_lt he hf;omega
    rw[hrd];have hsl:(sizes l room).length=l.length:=sizes_length l room;have hso:∀(k:Nat) (e:FE),xes[k]?=some e→(sizes l room)[k]?=some e.size:=fun k e he=>by rw[←hfin,List.getElem?_map,he];rfl
    refine gg ?_;refine WPL.ef (x_make1 (n:=l.length) (σ':=fun _=>[_,_,_]) Tryz.underlying55 int_info rfl rfl rfl rfl rfl (by omega) (by omega) (fun _=>rfl)) (fun g19=>?_);refine gg ?_;refine WP.loopK (X:=Nat) [6,23,24] (fun k=>[(25,.int .i64 (k:Int))]) (fun k w=>k≤l.length∧St w0 (foots []) [tblI xt xA xes.length xc (lot room) (grows l room),entI xA xes.length xc xes,.row 3 1 (some ⟨g19,0,none⟩) l.length l.length ((fillTo (sizes l room) k).map (Value.int .i64))] w) (fun k=>l.length - k) 0 ⟨rfl,trivial⟩ (fun w hw=>⟨by omega,by rw[fillTo_zero,hsl];simpa using hw⟩) (fun k ρ0=>?_);refine WP.fact (fun hk=>?_);refine gg ?_;refine WP.condP rfl (fun h26=>?_) (fun h26=>?_)
    ·have hk':k<xes.length:=by omega
     obtain⟨e,he⟩:∃e,xes[k]?=some e:=⟨_,List.getElem?_eq_getElem hk'⟩;have hse:=hso k e he;refine WP.holds (fun w hw=>hw.row_pos (i:=1) rfl (by omega)) (fun⟨b,hA⟩=>?_);subst hA;refine n6 ?_;refine vl (v_loadA (cs:=[.int .i64 _,.int .i64 _,.int .i64 _,.int .i64 _,.int .i64 _,.int .i64 _,.bool _]) Tryz.isAgg218 Tryz.sizeOf218 rfl (fun w hw=>hw.row_at (i:=1) rfl _ (fun j u hu=>by rw[Nat.zero_add];exact flat_at FE.enc 7 (fun _=>rfl) xes k j e u he hu))) ?_;refine WPL.ef xAl fun b8=>?_;refine gg ?_;refine WPL.ef0 (xW rfl) fun _=>?_;refine gg ?_;refine WPL.ef0 (x_storeRow' (u:=.int .i64 _) (xs':=(fillTo (sizes l room) (k+1)).map (Value.int .i64)) (σ':=[_,_,_,_]) Tryz.sizeOf3 rfl rfl (i:=2) rfl (by simp[fillTo_length];omega) (by rw[←fillTo_succ _ k hse,List.map_set,Nat.zero_add,Nat.mul_one]) rfl) (fun _=>?_);refine n4 ?_;exact nl fun w hw=>⟨rfl,k+1,(by omega),⟨rfl,jS,jS,jI,trivial⟩,by omega,hw.pk⟩
    ·have hkn:k=(sizes l room).length:=by omega
     refine WP.exit (onto_of ?_);refine gg ?_;exact WP.ret1 Tryz.results179 (fun _ h=>h) (fun w hw=>⟨(some ⟨g19,0,none⟩,l.length),rfl,trivial,by have h:=(hw.sel [2] (by decide));rw[hkn,fillTo_all] at h;exact h⟩)
end Go.Proofs.YtpgjbbaplpdaiaaGreat
