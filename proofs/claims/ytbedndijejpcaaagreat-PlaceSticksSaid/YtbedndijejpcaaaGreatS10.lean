/- TreeMut TreeAdd TreeMov TreeFact RefMut RefFact -/
import Derived.Test.YtbedndijejpcaaaGreatS9
set_option linter.unusedVariables false
set_option linter.unusedSimpArgs false
set_option linter.unusedSectionVars false
set_option maxRecDepth 100000
set_option maxHeartbeats 8000000
namespace Go.Proofs.YtbedndijejpcaaaGreat
open Go.RowKit
theorem ptr_some {es:List PE} {x:Int} {e:PE} (h:lookE es x=some e):ptrE es x=some ⟨e.bb,0,none⟩:=by simp[ptrE,h]
def cutE (pe:PE) (id:Int):PE:=⟨pe.id,pe.bb,pe.A,pe.c,pe.up,cutK pe.kids id,pe.sty⟩
theorem St.shutK {w0 w:World} {M:Nat→Prop} {tp mb:Nat} {es:List PE} {F:List HI} {e:PE} {x:Int} (hl:lookE es x=some e) {A:Option Addr} {n c:Nat} {up:Int} {l:List Int} {sty:List Value} (hn:n=l.length)
    (h:St w0 M (.cl e.bb 102 (.int .i64 up::.slice A n c::sty)::kidsI A n c l::.cl tp 107 [.map (some mb)]::mapI mb (es.map PE.ent)::restI (delE es x)::F) w):St w0 M (treeI tp mb (setE es ⟨e.id,e.bb,A,c,up,l,sty⟩)::F) w:=by
  subst hn;have hi:=(lookE_mem hl).2;subst hi;exact St.shutB (e':=⟨e.id,e.bb,A,c,up,l,sty⟩) hl rfl h
theorem WF.kids_len {es:List PE} {d:Int→Nat} (hF:WF (FoR es) d) {x:Int} {e:PE} (h:lookE es x=some e):e.kids.length≤4096:=hF.kids_le (FoR_some h)
theorem cut_ct (tp mb:Nat) (es:List PE) (hk:LOk es) (id:Int) {e pe:PE} (he:lookE es id=some e) (hp:lookE es e.up=some pe) (hm:id∈pe.kids) (hn:pe.kids.Nodup) (hl:pe.kids.length≤5000):
    Ct Tryz.prog 134 #[.pointer (some ⟨tp,0,none⟩),.int .i64 id] [treeI tp mb es] (fun _=>True) (X:=Unit) (fun _=>.tuple #[]) (fun _=>True) (fun _=>[treeI tp mb (setE es (cutE pe id))]):=by
  obtain⟨k,hk1,_,hk3⟩:=idxI_mem hm;have hkl:=(List.getElem?_eq_some_iff.1 hk1).1;have hup:ptrE es (upF (FoR es) id)=some ⟨pe.bb,0,none⟩:=by rw[up_some (FoR_some he)];exact ptr_some hp
  have hpid:pe.id=e.up:=(lookE_mem hp).2;have hlen:(cutK pe.kids id).length=pe.kids.length - 1:=by have:=cutK_len hn hm;omega
  refine Ci fun w0 _=>?_;refine gg ?_;refine wP none [0] [pT 0,pT 1,pT 2,pT 3,pT 4,pT 5,pF 6,pT 7,pT 8] ?_
  iterate 3 refine ad ?_
  refine tE rfl (v_load1 (u:=.map _) Tryz.isAgg105 rfl (fun w hw=>hw.treeRoot (i:=0) rfl)) ?_;refine gg ?_;refine dG (xC (up_ct tp mb es hk id)) fun _ _=>?_;refine tE rfl (v_lookT (es:=es) (i:=0) rfl Tryz.underlying105 Tryz.underlying3 Tryz.zeroValue104 rfl rfl) ?_;refine ad ?_;refine WPD.nil (onto_of ?_);refine sq ?_;refine WP.pre ?_ (fun w hw=>St.openB hp (hw.sel [0] (by decide)));rw[hup];refine gg ?_;refine WPL.ef (x_call Tryz.call167 (index_ct pe.A pe.c pe.kids id (by omega)) [1] [0,2,3,4] rfl (fun w hw=>trivial) (τ:=fun _=>[_,_,_,_,_]) (fun _=>rfl)) (fun _=>?_);refine WPL.fact (fun _=>?_);refine av ?_;refine nl (oo ?_);rw[hk3];refine gg ?_;refine eF (xC (delete_ct pe.A pe.c pe.kids k hkl hl)) fun _ _=>?_;refine gg ?_;refine WPL.ef0 (x_store (u:=.slice _ _ _) (σ':=[_,_,_,_,_]) Tryz.sizeOf49 rfl rfl (i:=0) rfl (Nat.lt_of_lt_of_le (Nat.lt_succ_self _) (Nat.le_of_ble_eq_true rfl)) rfl) (fun _=>?_);exact nl fun w hw=>RetQ.of0 Tryz.results134 (.inr rfl) ⟨(),rfl,trivial,St.shutK (l:=cutK pe.kids id) hp hlen.symm (by rw[←erase_cut hn hk1];exact(hw.sel [0,4,1,2,3] (by decide)))⟩
def depN (F:Forest (List Value)) (l:List Int):Int:=l.foldl (fun n x=>max n (depthF F x)) 0
theorem depN_snoc (F:Forest (List Value)) {l:List Int} {k:Nat} {x:Int} (h:l[k]?=some x):depN F (l.take (k+1))=max (depN F (l.take k)) (depthF F x):=by
  rw[take_snoc h];simp[depN]
theorem deep_ct (tp mb:Nat) (es:List PE) (hk:LOk es) {d:Int→Nat} (hF:WF (FoR es) d) (id:Int):
    Ct Tryz.prog 137 #[.pointer (some ⟨tp,0,none⟩),.int .i64 id] [treeI tp mb es] (fun _=>True) (X:=Unit) (fun _=>.int .i64 (deepF (FoR es) id)) (fun _=>True) (fun _=>[treeI tp mb es]):=by
  refine Ci fun w0 _=>?_;refine gg ?_;refine WPL.ef (x_box1 (u:=.pointer _) (σ':=fun _=>[_,_]) rfl (fun _=>rfl)) (fun b2=>?_);refine gg ?_;refine WPL.ef xAl fun b5=>?_;refine WPL.ef0 (xS rfl (isI rfl)) fun _=>?_;refine gg ?_;refine eF (xC (inside_ct tp id)) fun⟨m2,m3⟩ _=>?_;refine nl (oo ?_);refine WP.block ?_;refine sl [0,3,4,2,1] ?_;refine WP.rangeIter (gf:=112) (first:=[]) (cap:=[.pointer (some ⟨m2,0,none⟩),.pointer (some ⟨m3,0,none⟩)]) rfl Tryz.call112 (inside_iter tp mb es hk hF 64 id m2 m3 (by omega)) (Z:=Unit) (own:=fun k _=>[.cl b5 3 [.int .i64 (depN (FoR es) ((sub (FoR es) id).take k))],.cl b2 24 [.pointer (some ⟨tp,0,none⟩)]]) (Inv:=fun _ _=>True) () trivial (List.Perm.refl _) (fun _=>rfl) (by decide) (Y:=Unit) (fun _ _ _=>False) (fun _=>[]) ?_ ?_ ?_
  ·intro lk l2 D2 k x _z hx hz w1 M1;refine WP.region ?_;refine av ?_;refine WPL.nil (begun_of (i:=0) rfl ?_);refine gg ?_;refine WP.drawSel (some 5) [0,1,2,3,4,5,6,7] [(0,true),(1,true),(2,true),(3,false),(4,true),(5,false)] mixed (by kernel_rfl) (by decide) ?_
   iterate 3 refine ad ?_
   refine WPD.ef rfl (x_call Tryz.call84 (depth_ct tp mb es hk hF x) [3] [0,1,2,4,5,6,7] rfl (fun w hw=>trivial) (τ:=fun _=>[_,_,_,_,_,_,_,_]) (fun _=>rfl)) (fun _ _ _ h=>h.2.sel [0,1,2,7,3,4,5,6] (by decide)) (fun _=>?_);refine WPD.fact (fun _=>?_);refine WPD.take rfl (v_max rfl rfl) ?_ (fun _ h=>h.sel [0,1,2,7,3,4,5,6] (by decide));refine WPD.ef0 rfl (x_store (u:=.int .i64 _) (σ':=[_,_,_,_,_,.cl _ _ [_],_,_]) Tryz.sizeOf3 rfl rfl (i:=5) rfl (Nat.lt_of_lt_of_le (Nat.lt_succ_self _) (Nat.le_of_ble_eq_true rfl)) rfl) (fun h=>absurd rfl h) (fun _=>?_);exact WPD.nil (fun w hw=>RoundQ.normal (i:=0) rfl hw (fun w2 hw2=>.inl ⟨(),rfl,trivial,by dsimp only;rw[depN_snoc (FoR es) hx];exact(hw2.sel [0,1,2,7,3,4,5,6] (by decide))⟩))
  ·intro D _z hz;rw[List.take_of_length_le (Nat.le_refl (sub (FoR es) id).length)];refine fin_id (onto_of ?_);refine gg ?_;exact WP.retM [D] (τ:=[treeI tp mb es]) (fun w hw=>(hw.sel [0,5] (by decide))) (fun _ h=>h) (fun w hw=>RetQ.of1 Tryz.results137 (.inl rfl) ⟨(),rfl,trivial,hw⟩)
  ·intro D c k y hf;exact hf.elim
theorem v_lookO {P:Program} {w0:World} {M:Nat→Prop} {σ:List HI} {ρ:Env} {dst:Option Tmp} {ty:TypeId} {pos:String} {af:Array Edge} {g:Option (Nat×Bool)} {x y:Operand} {t kt et:TypeId} {i mb:Nat} {es:List PE} {k:Int} {q:IntKind} {e:PE} (hl:lookE es k=some e) (hi:σ[i]?=some (mapI mb (es.map PE.ent))) (ht:P.underlying t=some (.map kt et)) (hk:P.underlying kt=some (.int q)) (hz:∀w,(zeroValue et).run P w=.ok (.pointer none) w) (hx:evo ρ x=.map (some mb)) (hy:evo ρ y=.int .i64 k):
    OpV P (St w0 M σ) ⟨dst,.lookup t x y false,ty,pos,af,g⟩ ρ (.pointer (some ⟨e.bb,0,none⟩)):=by
  have h:=v_lookup (P:=P) (S:=St w0 M σ) (dst:=dst) (ty:=ty) (pos:=pos) (af:=af) (g:=g) (m:=es.map PE.ent) ht hk hz hx hy (fun w hw=>hw.mapAt hi)
  rwa [look_ptr,ptr_some hl] at h
theorem setL_box (a b:Value) (s s':List Value) (h:s'.length=s.length):setL (a::b::s) 2 s'=a::b::s':=by
  rw[setL_eq _ _ _ (by simp only[List.length_cons];omega)];simp[h];omega
theorem FoR_sty {es:List PE} {x:Int} {e:PE} (h:lookE es x=some e) {bb:Nat} {A:Option Addr} {c:Nat} {sty:List Value}:FoR (setE es ⟨e.id,bb,A,c,e.up,e.kids,sty⟩)=setG (FoR es) x sty:=by
  have hi:=(lookE_mem h).2
  funext y
  rw[FoR_set (e:=e) (by show lookE es e.id=some e;rw[hi];exact h),setG,FoR_some h,hi];rfl
theorem set_ct (tp mb:Nat) (es:List PE) (hk:LOk es) (id:Int) (sty:List Value) (hs:SOk sty):
    Ct Tryz.prog 20 #[.pointer (some ⟨tp,0,none⟩),.int .i64 id,.agg sty.toArray] [treeI tp mb es] (fun _=>True) (X:=List PE) (fun _=>.int .i64 (setR validB (FoR es) id sty).2) (fun es'=>FoR es'=(setR validB (FoR es) id sty).1∧LOk es') (fun es'=>[treeI tp mb es']):=by
  refine Ci fun w0 _=>?_;refine gg ?_;refine WPL.ef (xB (us:=sty)) fun b5=>?_;refine gg ?_;refine eF (xC (has_ct tp mb es id)) fun _ _=>?_;refine gg ?_;refine WP.cond rfl (fun h7=>?_) (fun h7=>?_)
  ·have hr:setR validB (FoR es) id sty=(FoR es,2):=by simp only[Bool.not_eq_true'] at h7;simp[setR,h7]
   refine gg ?_;exact rt1 fun w hw=>⟨es,congrArg (Value.int .i64) (by rw[hr]),⟨by rw[hr],hk⟩,hw.pk⟩
  ·refine gg ?_;refine vl (vW hs.len) ?_;refine eF (xC (valid_ct sty hs)) fun _ _=>?_;refine gg ?_;refine WP.cond rfl (fun h12=>?_) (fun h12=>?_)
   ·have hr:setR validB (FoR es) id sty=(FoR es,1):=by simp only[Bool.not_eq_true',Bool.not_eq_false'] at h7 h12;simp[setR,h7,h12]
    refine gg ?_;exact rt1 fun w hw=>⟨es,congrArg (Value.int .i64) (by rw[hr]),⟨by rw[hr],hk⟩,hw.pk⟩
   ·simp only[Bool.not_eq_false'] at h7 h12;have hr:setR validB (FoR es) id sty=(setG (FoR es) id sty,0):=by simp[setR,h7,h12]
    obtain⟨e,he⟩:=look_of h7;have hes:=(hk.sty e (lookE_mem he).1).len;refine WP.skip (onto_of ?_);refine sq ?_;refine WP.pre ?_ (fun w hw=>St.openB he (hw.sel [1,0] (by decide)));refine WP.drawS (some 9) [(0,true),(1,true),(2,true),(3,true),(4,true),(5,true),(6,true),(7,false),(8,true),(9,false)] mixed (by kernel_rfl) (by decide) (fun _ h=>h.drawn) ?_
    iterate 3 refine ad ?_
    refine tE rfl (v_load1 (u:=.map _) Tryz.isAgg105 rfl (fun w hw=>hw.cl_at (i:=2) rfl _ rfl)) ?_;refine ad ?_;refine tE rfl (v_lookO (es:=es) he (i:=3) rfl Tryz.underlying105 Tryz.underlying3 Tryz.zeroValue104 rfl rfl) ?_;refine WPD.take rfl (v_loadA (cs:=sty) Tryz.isAgg42 Tryz.sizeOf42 rfl (fun w hw=>hw.cl_at (i:=5) rfl 0 (whole _)) hs.len) ?_ (fun _ h=>h);refine WPD.val rfl (v_nil rfl) (fun _ h=>h) ?_;refine gg ?_;refine WPD.ef0 rfl (x_storeA (us:=sty) (σ':=[.cl _ _ _,_,_,_,_,_]) Tryz.sizeOf42 rfl rfl (i:=0) rfl (by show 2+sty.length≤e.sty.length+1+1;rw[hs.len,hes];decide) (by rw[PE.cells,setL_box _ _ _ _ (by rw[hs.len,hes])];rfl) hs.one hs.len) (fun h=>absurd rfl h) (fun _=>?_);refine gg ?_;exact rt1 fun w hw=>⟨setE es ⟨e.id,e.bb,e.A,e.c,e.up,e.kids,sty⟩,congrArg (Value.int .i64) (by rw[hr]),⟨by rw[hr];exact FoR_sty he,hk.set (e:=e) (by show lookE es e.id=some e;rw[(lookE_mem he).2];exact he) hs⟩,St.shutK he rfl hw.pk⟩
theorem mem_ids {es:List PE} {x:Int}:x∈es.map PE.id↔hasF (FoR es) x=true:=by
  unfold hasF FoR;constructor
  · intro h
    obtain⟨e,he,rfl⟩:=List.mem_map.1 h;cases hl:lookE es e.id with
    | some _=>rfl
    | none =>
      have:∀es:List PE,e∈es→lookE es e.id≠none:=by
        intro es;induction es with
        | nil=>intro h;cases h
        | cons a es ih =>
          intro h;unfold lookE
          split
          · simp
          · rename_i hn
            rcases List.mem_cons.1 h with rfl | h
            · exact absurd rfl hn
            · exact ih h
      exact absurd hl (this es he)
  · intro h
    cases hl:lookE es x with
    | none=>rw[hl] at h;cases h
    | some e=>exact List.mem_map.2 ⟨e,(lookE_mem hl).1,(lookE_mem hl).2⟩
theorem len_es {es:List PE} (hk:LOk es) {d:Int→Nat} (hF:WF (FoR es) d):lenF (FoR es)=es.length:=by
  have h1:=nodup_len (l:=es.map PE.id) (m:=order (FoR es)) hk.nodup (fun x hx=>hF.mem_order.2 (mem_ids.1 hx));have h2:=nodup_len (l:=order (FoR es)) (m:=es.map PE.id) hF.order_nodup (fun x hx=>mem_ids.2 (hF.mem_order.1 hx));rw[List.length_map] at h1 h2;unfold lenF;omega
theorem St.treeBoxK {w0 w:World} {M:Nat→Prop} {σ:List HI} {i tp mb:Nat} {es:List PE} (h:St w0 M σ w) (hi:σ[i]?=some (treeI tp mb es)) {e:PE} {x:Int} (he:lookE es x=some e):CellsAt w e.bb 1 [.slice e.A e.kids.length e.c]:=
  cells_of_cl (h.tree hi (.cl e.bb 102 e.cells) (List.mem_cons_of_mem _ (List.mem_cons_of_mem _ (List.mem_flatMap.2 ⟨e,(lookE_mem he).1,by simp[PE.items]⟩)))) 1 rfl
def newE (id:Int) (bb:Nat) (up:Int):PE:=⟨id,bb,none,0,up,[],zeroS⟩
theorem St.shutAdd {w0 w:World} {M:Nat→Prop} {tp mb:Nat} {es:List PE} {F:List HI} {id up:Int} {bb:Nat} (hn:lookE es id=none)
    (h:St w0 M (.cl tp 107 [.map (some mb)]::mapI mb (putM (es.map PE.ent) id (.pointer (some ⟨bb,0,none⟩)))::restI es::.cl bb 102 (.int .i64 up::.slice none 0 0::zeroS)::F) w):St w0 M (treeI tp mb (es++[newE id bb up])::F) w:=by
  have h1:=h.nilRow 3 1;rw[put_new es id _ hn] at h1;have h2:St w0 M (.cl (newE id bb up).bb 102 (newE id bb up).cells::kidsI (newE id bb up).A (newE id bb up).kids.length (newE id bb up).c (newE id bb up).kids::restI es::(.cl tp 107 [.map (some mb)]::mapI mb ((es++[newE id bb up]).map PE.ent)::F)) w:=by
    refine h1.perm ?_;rw[List.map_append];refine List.Perm.trans ?_ (List.Perm.swap _ _ _);refine(List.perm_append_comm (l₂:=[HI.row 3 1 none 0 0 []])).trans (List.Perm.cons _ ?_);refine List.Perm.trans (List.Perm.cons _ ((List.Perm.cons _ (List.Perm.swap _ _ _)).trans (List.Perm.swap _ _ _))) ?_;refine(List.Perm.swap _ _ _).trans (List.Perm.cons _ ?_);exact(List.Perm.cons _ (List.Perm.swap _ _ _)).trans (List.Perm.swap _ _ _)
  have h3:=St.shutR (es':=es++[newE id bb up]) (List.perm_append_comm (l₂:=[newE id bb up])) h2;exact St.shutT (h3.perm ((List.Perm.swap _ _ _).trans (List.Perm.cons _ (List.Perm.swap _ _ _))))
theorem LOk.app {es:List PE} (h:LOk es) {id up:Int} {bb:Nat} (hn:lookE es id=none):LOk (es++[newE id bb up]):=by
  refine⟨fun e he=>?_,?_⟩
  · rcases List.mem_append.1 he with he | he
    · exact h.sty e he
    · obtain rfl : e = _ := by simpa using he
      exact zeroS_ok
  · rw [List.map_append, List.nodup_append]
    refine⟨h.nodup,by simp,fun a ha b hb e=>?_⟩;obtain rfl:b=id:=by simpa [newE] using hb
    subst e;have:=mem_ids.1 ha;rw[hasF,FoR,hn] at this;cases this
theorem look_old {es:List PE} {x:Int} {e:PE} (h:lookE es x=some e) (n:PE):lookE (es++[n]) x=some e:=by rw[look_app,h]
theorem FoR_add {es:List PE} {up id:Int} {e:PE} (h:lookE es up=some e) (hn:lookE es id=none) {bb bb2:Nat} {A:Option Addr} {c k:Nat}:FoR (setE (es++[newE id bb2 up]) ⟨e.id,bb,A,c,e.up,insAt e.kids k id,e.sty⟩)=addG (FoR es) up k id zeroS:=by
  have hi:=(lookE_mem h).2
  funext y
  rw[FoR_set (e:=e) (by show lookE _ e.id=some e;rw[hi];exact look_old h _),addG,FoR_some h,hi]
  split
  · rfl
  · unfold FoR
    rw[look_app]
    by_cases hy:y=id
    · subst hy;rw[hn];simp[newE]
    · rw [if_neg hy]
      cases lookE es y with
      | some a=>rfl
      | none=>simp[newE,Ne.symm hy]
theorem add_ct (tp mb:Nat) (es:List PE) (hk:LOk es) {d:Int→Nat} (hF:WF (FoR es) d) (up at_:Int):
    Ct Tryz.prog 50 #[.pointer (some ⟨tp,0,none⟩),.int .i64 up,.int .i64 at_] [treeI tp mb es] (fun _=>True) (X:=List PE) (fun _=>.tuple #[.int .i64 (addR zeroS (FoR es) up at_).2.1,.int .i64 (addR zeroS (FoR es) up at_).2.2]) (fun es'=>FoR es'=(addR zeroS (FoR es) up at_).1∧LOk es') (fun es'=>[treeI tp mb es']):=by
  have hlen:=len_es hk hF;refine Ci fun w0 _=>?_;refine sqR ?_
  iterate 2 refine av ?_
  refine nl (oo ?_);refine sqR ?_
  iterate 3 refine av ?_
  refine vl (v_load1 (u:=.map _) Tryz.isAgg105 rfl (fun w hw=>hw.treeRoot (i:=0) rfl)) ?_;refine av ?_;refine vl (v_lookT (es:=es) (i:=0) rfl Tryz.underlying105 Tryz.underlying3 Tryz.zeroValue104 rfl rfl) ?_;refine av ?_;refine nl (oo ?_);refine sq ?_;refine WP.block ?_;refine sqR ?_;refine av ?_;refine vl (v_eqNil Tryz.underlying104 rfl rfl) ?_;refine gg ?_;refine WP.cond rfl (fun h16=>?_) (fun h16=>?_)
  ·have hr:addR zeroS (FoR es) up at_=(FoR es,-1,2):=by
     have hn:hasF (FoR es) up=false:=by rw[←ptr_has];cases h:ptrE es up with | none=>rfl | some a=>rw[h] at h16;cases h16
     simp[addR,hn]
   refine gg ?_;exact rt2 fun w hw=>⟨es,by rw[hr];rfl,⟨by rw[hr],hk⟩,hw.pk⟩
  ·obtain⟨e,he⟩:=look_of (es:=es) (x:=up) (by rw[←ptr_has];cases h:ptrE es up with | none=>rw[h] at h16;cases h16 | some a=>rfl);rw[ptr_some he];have hup:hasF (FoR es) up=true:=has_some (FoR_some he);have hke:kidsF (FoR es) up=e.kids:=kids_some (FoR_some he);refine sqR ?_
   iterate 3 refine av ?_
   refine WPL.split 22 rfl (fun h22=>?_) (fun h22=>?_)
   ·refine gg ?_;have hr:addR zeroS (FoR es) up at_=(FoR es,-1,1):=by simp[addR,hup,h22]
    refine WP.condT rfl ?_;refine gg ?_;exact rt2 fun w hw=>⟨es,by rw[hr];rfl,⟨by rw[hr],hk⟩,hw.pk⟩
   ·iterate 4 refine ag ?_
    refine vg (v_load1 (u:=.slice _ _ _) Tryz.isAgg49 rfl (fun w hw=>hw.treeBoxK (i:=0) rfl he)) ?_;refine gg ?_;refine WP.condP rfl (fun h19=>?_) (fun h19=>?_)
    ·have hr:addR zeroS (FoR es) up at_=(FoR es,-1,1):=by simp[addR,hup,hke];omega
     refine gg ?_;exact rt2 fun w hw=>⟨es,by rw[hr];rfl,⟨by rw[hr],hk⟩,hw.pk⟩
    ·refine gg ?_;refine eF (xC (len_ct tp mb es)) fun _ _=>?_;refine gg ?_;refine WP.condP rfl (fun h31=>?_) (fun h31=>?_)
     ·have hr:addR zeroS (FoR es) up at_=(FoR es,-1,4):=by rw[addR,if_neg (by simp[hup]),if_neg (by rw[hke];omega),if_pos (by rw[hlen];omega)]
      refine gg ?_;exact rt2 fun w hw=>⟨es,by rw[hr];rfl,⟨by rw[hr],hk⟩,hw.pk⟩
     ·refine gg ?_;refine eF (xC (depth_ct tp mb es hk hF up)) fun _ _=>?_;refine gg ?_;refine WP.condP rfl (fun h35=>?_) (fun h35=>?_)
      ·have hr:addR zeroS (FoR es) up at_=(FoR es,-1,5):=by rw[addR,if_neg (by simp[hup]),if_neg (by rw[hke];omega),if_neg (by rw[hlen];omega),if_pos (by omega)]
       refine gg ?_;exact rt2 fun w hw=>⟨es,by rw[hr];rfl,⟨by rw[hr],hk⟩,hw.pk⟩
      ·have hr:addR zeroS (FoR es) up at_=(addG (FoR es) up at_.toNat (least (FoR es)) zeroS,least (FoR es),0):=by rw[addR,if_neg (by simp[hup]),if_neg (by rw[hke];omega),if_neg (by rw[hlen];omega),if_neg (by omega)]
       have hno:lookE es (least (FoR es))=none:=look_none hF.least_ok.2.2.1;obtain⟨k,rfl⟩:∃k:Nat,at_=k:=⟨at_.toNat,by omega⟩;rw[Int.toNat_natCast] at hr;have hkl:k≤e.kids.length:=by omega
       refine gg ?_;refine eF (xC (least_ct tp mb es hF)) fun _ _=>?_;refine av ?_;refine nl (oo ?_);refine sq ?_;refine WP.pre ?_ (fun w hw=>St.openT (hw.sel [0] (by decide)));refine WP.region ?_
       iterate 3 refine av ?_
       refine vl (v_load1 (u:=.map _) Tryz.isAgg105 rfl (fun w hw=>hw.cl_at (i:=0) rfl _ rfl)) ?_
       iterate 2 refine av ?_
       refine vl (v_struct (us:=(.int .i64 up::.slice none 0 0::zeroS)) (pl:=[(0,1),(1,1),(2,55)]) Tryz.underlying102 Tryz.zeroValue102 rfl (by kernel_rfl) rfl rfl (by kernel_rfl)) ?_;refine WPL.ef (x_boxA (us:=(.int .i64 up::.slice none 0 0::zeroS)) (σ':=fun _=>[_,_,_,_]) rfl (fun _=>rfl)) (fun nb=>?_);refine WPL.ef0 (x_mapPut (m:=es.map PE.ent) (u:=.pointer (some ⟨nb,0,none⟩)) (σ':=[_,_,_,_]) Tryz.underlying105 Tryz.underlying3 rfl rfl rfl (i:=1) rfl rfl) (fun _=>?_);refine nl (oo ?_);refine sq ?_;refine WP.pre ?_ (fun w hw=>St.openB (look_old he (newE (least (FoR es)) nb up)) (St.shutAdd hno (hw.sel [0,1,2,3] (by decide))));refine gg ?_;refine WPL.ef (x_buildSlice (us:=[.int .i64 _]) (σ':=fun _=>[_,_,_,_,_,_]) Tryz.underlying49 Tryz.sizeOf3 Tryz.zeroValue3 rfl rfl rfl (by decide) (by decide) (fun _=>rfl)) (fun g57=>?_);refine WPL.ef (x_call Tryz.call86 (insert_ct e.A e.c e.kids k hkl g57 (least (FoR es)) (by have:=hF.kids_len he;omega)) [1,5] [0,2,3,4] rfl (fun w hw=>trivial) (τ:=fun _=>[_,_,_,_,_]) (fun _=>rfl)) (fun⟨A58,c58⟩=>?_);refine WPL.fact (fun _=>?_);refine gg ?_;refine WPL.ef0 (x_store (u:=.slice _ _ _) (σ':=[_,_,_,_,_]) Tryz.sizeOf49 rfl rfl (i:=0) rfl (Nat.lt_of_lt_of_le (Nat.lt_succ_self _) (Nat.le_of_ble_eq_true rfl)) rfl) (fun _=>?_);refine gg ?_;exact WP.ret2 Tryz.results50 (fun _ h=>h) (fun w hw=>⟨setE (es++[newE (least (FoR es)) nb up]) ⟨e.id,e.bb,A58,c58,e.up,insAt e.kids k (least (FoR es)),e.sty⟩,by rw[hr];rfl,⟨by rw[hr];exact FoR_add he hno,(hk.app hno).set (e:=e) (by show lookE _ e.id=some e;rw[(lookE_mem he).2];exact look_old he _) (hk.sty e (lookE_mem he).1)⟩,St.shutK (look_old he _) (insAt_len hkl).symm (hw.sel [0,4,1,2,3] (by decide))⟩)
theorem del_none:∀{es:List PE} {x:Int},lookE es x=none→delE es x=es
  | [],_,_=>rfl
  | a :: es, x, h => by
    unfold lookE at h;unfold delE
    split at h
    · cases h
    · rename_i hi;rw[if_neg hi,del_none h]
theorem St.shutDel {w0 w:World} {M:Nat→Prop} {tp mb:Nat} {es:List PE} {F:List HI} {x:Int} (h:St w0 M (.cl tp 107 [.map (some mb)]::mapI mb (delM (es.map PE.ent) x)::restI es::F) w):St w0 M (treeI tp mb (delE es x)::F) w:=by
  rw[←ent_del] at h;refine St.shutT ?_;cases hl:lookE es x with
  | none=>rw[del_none hl] at h ⊢;exact h
  | some e =>
    have h1:=St.openR hl (h.perm (σ':=restI es::.cl tp 107 [.map (some mb)]::mapI mb ((delE es x).map PE.ent)::F) ((List.Perm.cons _ (List.Perm.swap _ _ _)).trans (List.Perm.swap _ _ _)));have h2:=h1.sub (σ':=restI (delE es x)::.cl tp 107 [.map (some mb)]::mapI mb ((delE es x).map PE.ent)::F) ((List.sublist_cons_self _ _).trans (List.sublist_cons_self _ _));exact h2.perm ((List.Perm.swap _ _ _).trans (List.Perm.cons _ (List.Perm.swap _ _ _)))
def delL (es:List PE) (l:List Int):List PE:=l.foldl delE es
theorem delL_snoc (es:List PE) {l:List Int} {k:Nat} {x:Int} (h:l[k]?=some x):delL es (l.take (k+1))=delE (delL es (l.take k)) x:=by
  rw[take_snoc h];simp[delL]
theorem delL_look:∀(l:List Int) {es:List PE} (_:LOk es) (y:Int),LOk (delL es l)∧lookE (delL es l) y=if y∈l then none else lookE es y
  | [],_,h,y=>⟨h,by simp[delL]⟩
  | x :: l, es, h, y => by
    obtain⟨h1,h2⟩:=delL_look l (h.del x) y;refine⟨h1,?_⟩;show lookE (delL (delE es x) l) y=_;rw[h2,look_del h.nodup]
    by_cases hx:y=x<;>by_cases hy:y∈l<;>simp[hx,hy]
theorem look_cut {es:List PE} {up:Int} {pe:PE} (hp:lookE es up=some pe) (id y:Int):lookE (setE es (cutE pe id)) y=if y=up then some (cutE pe id) else lookE es y:=by
  have hi:=(lookE_mem hp).2;rw[look_set (e:=pe) (e':=cutE pe id) (by show lookE es pe.id=some pe;rw[hi];exact hp)];show (if y=pe.id then _ else _)=_;rw[hi]
theorem LOk.cut {es:List PE} (hk:LOk es) {up:Int} {pe:PE} (hp:lookE es up=some pe) (id:Int):LOk (setE es (cutE pe id)):=by
  have hi:=(lookE_mem hp).2;exact hk.set (e:=pe) (e':=cutE pe id) (by show lookE es pe.id=some pe;rw[hi];exact hp) (hk.sty pe (lookE_mem hp).1)
theorem LOk.put {es:List PE} (hk:LOk es) {x:Int} {e:PE} (hl:lookE es x=some e) {bb c:Nat} {A:Option Addr} {up:Int} {l:List Int}:LOk (setE es ⟨e.id,bb,A,c,up,l,e.sty⟩):=
  hk.set (e:=e) (by show lookE es e.id=some e;rw[(lookE_mem hl).2];exact hl) (hk.sty e (lookE_mem hl).1)
theorem WF.parent {es:List PE} {d:Int→Nat} (hF:WF (FoR es) d) {id:Int} {e:PE} (he:lookE es id=some e) (h0:id≠0):∃pe,lookE es e.up=some pe∧id∈pe.kids∧pe.kids.Nodup∧id≠e.up:=by
  obtain⟨u,h1,h2⟩:=hF.par id _ (FoR_some he) h0;obtain⟨pe,hp⟩:=look_of (has_some h1);have h3:=FoR_some hp;rw[h1] at h3;cases h3;refine⟨pe,hp,h2,hF.nodup _ _ h1,fun e1=>?_⟩;have:=hF.rank id _ (FoR_some he) h0;rw[←show id=(⟨e.up,e.kids,e.sty⟩:TBox (List Value)).up from e1] at this;omega
theorem FoR_rem {es:List PE} (hk:LOk es) {id:Int} {e pe:PE} (he:lookE es id=some e) (hp:lookE es e.up=some pe):FoR (delL (setE es (cutE pe id)) (sub (FoR es) id))=remG (FoR es) id:=by
  funext y
  unfold remG;rw[FoR,(delL_look _ (hk.cut hp id) y).2]
  split
  · rfl
  · rw [look_cut hp, up_some (FoR_some he)]
    show Option.map _ (if y=e.up then _ else _)=Option.map (fun b=>if y=e.up then _ else b) _
    by_cases hy:y=e.up
    · subst hy;rw[if_pos rfl,FoR_some hp];simp[cutE]
    · rw[if_neg hy];simp only[if_neg hy,FoR];cases lookE es y<;>rfl
theorem FoR_mov {es:List PE} {id up:Int} {e pe u b:PE} (he:lookE es id=some e) (hp:lookE es e.up=some pe) (hu:lookE es up=some u) (h1:id≠up) (h2:id≠e.up) (hb:lookE (setE es (cutE pe id)) up=some b) {A:Option Addr} {c k:Nat}:
    lookE (setE (setE es (cutE pe id)) ⟨b.id,b.bb,A,c,b.up,insAt b.kids k id,b.sty⟩) id=some e∧FoR (setE (setE (setE es (cutE pe id)) ⟨b.id,b.bb,A,c,b.up,insAt b.kids k id,b.sty⟩) ⟨e.id,e.bb,e.A,e.c,up,e.kids,e.sty⟩)=movG (FoR es) id up k:=by
  have hbi:=(lookE_mem hb).2;have hei:=(lookE_mem he).2;have hl2:∀y,lookE (setE (setE es (cutE pe id)) ⟨b.id,b.bb,A,c,b.up,insAt b.kids k id,b.sty⟩) y=if y=up then some ⟨b.id,b.bb,A,c,b.up,insAt b.kids k id,b.sty⟩ else lookE (setE es (cutE pe id)) y:=fun y=>by
    rw[look_set (e:=b) (by show lookE _ b.id=_;rw[hbi];exact hb)];show (if y=b.id then _ else _)=_;rw[hbi]
  have hid:lookE (setE (setE es (cutE pe id)) ⟨b.id,b.bb,A,c,b.up,insAt b.kids k id,b.sty⟩) id=some e:=by rw[hl2,if_neg h1,look_cut hp,if_neg h2,he]
  refine⟨hid,?_⟩
  funext y
  rw[FoR_set (e:=e) (by show lookE _ e.id=_;rw[hei];exact hid)];show (if y=e.id then _ else _)=_;rw[hei];unfold movG;rw[up_some (FoR_some he)];show (if y=id then _ else FoR _ y)=Option.map (fun c:TBox (List Value)=>(⟨if y=id then up else c.up,if y=up then insAt (if y=e.up then cutK c.kids id else c.kids) k id else if y=e.up then cutK c.kids id else c.kids,c.sty⟩:TBox (List Value))) _
  by_cases hy:y=id
  · rw [if_pos hy, hy, FoR_some he]
    simp[h1,h2]
  · rw [if_neg hy, FoR, hl2]
    by_cases hyu:y=up
    · subst hyu
      rw[FoR_some hu];rw[look_cut hp] at hb
      by_cases hye:y=e.up
      · rw [if_pos hye] at hb
        obtain rfl:cutE pe id=b:=Option.some.inj hb;rw[←hye,hu] at hp;cases hp;simp[hye,cutE];intro h;exact absurd h.symm h2
      · rw [if_neg hye, hu] at hb; cases hb
        simp[hye,hy]
    · rw [if_neg hyu, look_cut hp]
      by_cases hye:y=e.up
      · rw [if_pos hye, hye, FoR_some hp]
        rw[hye] at hyu hy;simp[hyu,hy,cutE]
      · rw [if_neg hye]
        simp only[hyu,hye,hy,FoR,if_false];cases lookE es y<;>rfl
theorem depth_bd (F:Forest (List Value)) (x:Int):-1≤depthF F x∧depthF F x≤63:=by
  have:=chain_le F 64 x;unfold depthF;omega
theorem deep_bd (F:Forest (List Value)) (x:Int):0≤deepF F x∧deepF F x≤63:=⟨(foldl_max_ge (depthF F) (sub F x) 0).1,foldl_max_le (depthF F) 63 (sub F x) 0 (by omega) fun y _=>(depth_bd F y).2⟩
theorem remove_ct (tp mb:Nat) (es:List PE) (hk:LOk es) {d:Int→Nat} (hF:WF (FoR es) d) (id:Int):
    Ct Tryz.prog 88 #[.pointer (some ⟨tp,0,none⟩),.int .i64 id] [treeI tp mb es] (fun _=>True) (X:=List PE) (fun _=>.tuple #[.int .i64 (remR (FoR es) id).2.1,.int .i64 (remR (FoR es) id).2.2]) (fun es'=>FoR es'=(remR (FoR es) id).1∧LOk es') (fun es'=>[treeI tp mb es']):=by
  have hsl:=hF.len_le id;refine Ci fun w0 _=>?_;refine gg ?_;refine eF (xC (has_ct tp mb es id)) fun _ _=>?_;refine gg ?_;refine WP.cond rfl (fun h9=>?_) (fun h9=>?_)
  ·have hr:remR (FoR es) id=(FoR es,0,2):=by simp only[Bool.not_eq_true'] at h9;simp[remR,h9]
   refine gg ?_;exact rt2 fun w hw=>⟨es,by rw[hr];rfl,⟨by rw[hr],hk⟩,hw.pk⟩
  ·refine gg ?_;refine WP.condP rfl (fun h14=>?_) (fun h14=>?_)
   ·have hr:remR (FoR es) id=(FoR es,0,1):=by simp only[Bool.not_eq_false'] at h9;rw[remR,if_neg (by simp[h9]),if_pos h14]
    refine gg ?_;exact rt2 fun w hw=>⟨es,by rw[hr];rfl,⟨by rw[hr],hk⟩,hw.pk⟩
   ·simp only[Bool.not_eq_false'] at h9;have hr:remR (FoR es) id=(remG (FoR es) id,((sub (FoR es) id).length:Int),0):=by simp[remR,h9,h14]
    obtain⟨e,he⟩:=look_of h9;obtain⟨pe,hp,hm,hn,_⟩:=hF.parent he h14;refine gg ?_;refine eF (xC (inside_ct tp id)) fun⟨m2,m3⟩ _=>?_;refine eF (xC (collectT_ct tp mb es hk hF id m2 m3)) fun⟨cA,cc⟩ _=>?_;refine gg ?_;refine eF (xC (cut_ct tp mb es hk id he hp hm hn (by have:=hF.kids_len hp;omega))) fun _ _=>?_;refine gg ?_;refine WP.loopK (X:=Nat) [0,6,24,25] (fun k=>[(26,.int .i64 (k:Int))]) (fun k w=>k≤(sub (FoR es) id).length∧St w0 (foots [treeI tp mb es]) [treeI tp mb (delL (setE es (cutE pe id)) ((sub (FoR es) id).take k)),kidsI cA (sub (FoR es) id).length cc (sub (FoR es) id)] w) (fun k=>(sub (FoR es) id).length - k) 0 ⟨rfl,trivial⟩ (fun w hw=>⟨Nat.zero_le _,(hw.sel [3,2] (by decide))⟩) (fun k ρ0=>?_);refine WP.fact (fun hk2=>?_);refine gg ?_;refine WP.condP rfl (fun h27=>?_) (fun h27=>?_)
    ·obtain⟨x,hx⟩:∃x,(sub (FoR es) id)[k]?=some x:=⟨_,List.getElem?_eq_getElem (by omega)⟩;refine WP.holds (fun w hw=>hw.row_pos (i:=1) rfl (by omega)) (fun⟨rb,hA⟩=>?_);subst hA;refine WP.skip (onto_of ?_);refine sq ?_;refine WP.block ?_;refine sqR ?_;refine vl (vX k) ?_;refine vl (vR 1 (by rw[List.getElem?_map,hx];rfl)) ?_;refine av ?_;refine nl (oo ?_);refine WP.pre ?_ (fun w hw=>St.openT (hw.sel [0,1] (by decide)));refine WP.region ?_
     iterate 3 refine av ?_
     refine vl (v_load1 (u:=.map _) Tryz.isAgg105 rfl (fun w hw=>hw.cl_at (i:=0) rfl _ rfl)) ?_;refine gg ?_;refine WPL.ef0 (x_mapDel (m:=(delL (setE es (cutE pe id)) ((sub (FoR es) id).take k)).map PE.ent) (k:=x) (σ':=[_,_,_,_]) Tryz.underlying105 Tryz.underlying3 rfl rfl (i:=1) rfl rfl) (fun _=>?_);refine nl (oo ?_);refine WP.region ?_
     iterate 2 refine av ?_
     exact nl fun w hw=>⟨rfl,k+1,(by omega),⟨rfl,jP,jS,jS,jI,trivial⟩,⟨by omega,by rw[delL_snoc _ hx];exact St.shutDel hw.pk⟩⟩
    ·have hkk:k=(sub (FoR es) id).length:=by omega
     refine WP.exit (onto_of ?_);refine gg ?_;exact WP.ret2 Tryz.results88 (fun _ h=>h) (fun w hw=>⟨delL (setE es (cutE pe id)) (sub (FoR es) id),by rw[hr];rfl,⟨by rw[hr];exact FoR_rem hk he hp,(delL_look _ (hk.cut hp id) 0).1⟩,by have h:=(hw.sel [0] (by decide));rw[hkk,List.take_of_length_le (Nat.le_refl _)] at h;exact h⟩)
theorem move_ct (tp mb:Nat) (es:List PE) (hk:LOk es) {d:Int→Nat} (hF:WF (FoR es) d) (id up at_:Int):
    Ct Tryz.prog 90 #[.pointer (some ⟨tp,0,none⟩),.int .i64 id,.int .i64 up,.int .i64 at_] [treeI tp mb es] (fun _=>True) (X:=List PE) (fun _=>.int .i64 (movR (FoR es) id up at_).2) (fun es'=>FoR es'=(movR (FoR es) id up at_).1∧LOk es') (fun es'=>[treeI tp mb es']):=by
  have hsl:=hF.len_le id;refine Ci fun w0 _=>?_;refine gg ?_;refine eF (xC (has_ct tp mb es id)) fun _ _=>?_
  iterate 2 refine av ?_
  refine WPL.splitB 15 rfl (fun h15=>?_) (fun h15=>?_)
  ·refine gg ?_;have hr:movR (FoR es) id up at_=(FoR es,2):=by simp only[Bool.not_eq_true'] at h15;simp[movR,h15]
   refine WP.condT rfl ?_;refine gg ?_;exact rt1 fun w hw=>⟨es,congrArg (Value.int .i64) (by rw[hr]),⟨by rw[hr],hk⟩,hw.pk⟩
  ·refine gg ?_;refine WPL.efG (xC (has_ct tp mb es up)) (fun _=>?_);refine WPL.fact (fun _=>?_);refine gg ?_;refine WP.cond rfl (fun h20=>?_) (fun h20=>?_)
   ·have hr:movR (FoR es) id up at_=(FoR es,2):=by simp only[Bool.not_eq_true'] at h20;simp[movR,h20]
    refine gg ?_;exact rt1 fun w hw=>⟨es,congrArg (Value.int .i64) (by rw[hr]),⟨by rw[hr],hk⟩,hw.pk⟩
   ·simp only[Bool.not_eq_false'] at h15 h20;have hid:=h15;have hup:=h20;obtain⟨e,he⟩:=look_of hid;obtain⟨u,hu⟩:=look_of hup;have hke:kidsF (FoR es) up=u.kids:=kids_some (FoR_some hu);have hkb:(kidsF (FoR es) up).length≤4096:=by rw[hke];exact hF.kids_len hu
    have hb1:=depth_bd (FoR es) id;have hb2:=depth_bd (FoR es) up;have hb3:=deep_bd (FoR es) id;refine gg ?_;refine eF (xC (of_ct tp mb es hk up)) fun _ _=>?_;refine vl (v_part (u:=.slice _ _ _) Tryz.underlying102 rfl Tryz.isAgg49 rfl rfl) ?_
    iterate 2 refine av ?_
    refine nl (oo ?_);refine WP.midS [0,1,2,3] [(9,.int .i64 (mostF (FoR es) id up))] ?_ (fun ρ0=>?_)
    ·refine gg ?_;refine eF (xC (up_ct tp mb es hk id)) fun _ _=>?_;refine gg ?_;refine WP.condP rfl (fun h30=>?_) (fun h30=>?_)
     ·refine WP.region ?_
      iterate 3 refine av ?_
      exact nl fun w hw=>⟨rfl,⟨(congrArg (Value.int .i64) (by unfold mostF;split<;>omega)),jP,jI,jI,jI,trivial⟩,hw⟩
     ·exact WP.skip fun w hw=>⟨rfl,⟨(congrArg (Value.int .i64) (by unfold mostF;split<;>omega)),jP,jI,jI,jI,trivial⟩,hw⟩
    ·refine gg ?_;refine WP.condP rfl (fun h33=>?_) (fun h33=>?_)
     ·have hr:movR (FoR es) id up at_=(FoR es,1):=by rw[movR,if_neg (by simp[hid,hup]),if_pos h33]
      refine gg ?_;exact rt1 fun w hw=>⟨es,congrArg (Value.int .i64) (by rw[hr]),⟨by rw[hr],hk⟩,hw.pk⟩
     ·refine gg ?_;refine eF (xC (inside_ct tp id)) fun⟨m2,m3⟩ _=>?_;refine eF (xC (collectT_ct tp mb es hk hF id m2 m3)) fun⟨cA,cc⟩ _=>?_;refine gg ?_;refine eF (xC (contains_ct cA cc (sub (FoR es) id) up (by omega))) fun _ _=>?_;refine gg ?_;refine WP.condP rfl (fun h36=>?_) (fun h36=>?_)
      ·have hr:movR (FoR es) id up at_=(FoR es,3):=by rw[movR,if_neg (by simp[hid,hup]),if_neg h33,if_pos h36]
       refine gg ?_;exact rt1 fun w hw=>⟨es,congrArg (Value.int .i64) (by rw[hr]),⟨by rw[hr],hk⟩,hw.pk⟩
      ·refine sqR ?_
       iterate 3 refine av ?_
       refine WPL.split 46 rfl (fun h46=>?_) (fun h46=>?_)
       ·refine gg ?_;have hr:movR (FoR es) id up at_=(FoR es,1):=by rw[movR,if_neg (by simp[hid,hup]),if_neg h33,if_neg h36,if_pos (by omega)]
        refine WP.condT rfl ?_;refine gg ?_;exact rt1 fun w hw=>⟨es,congrArg (Value.int .i64) (by rw[hr]),⟨by rw[hr],hk⟩,hw.pk⟩
       ·refine gg ?_;refine WP.condP rfl (fun h43=>?_) (fun h43=>?_)
        ·have hr:movR (FoR es) id up at_=(FoR es,1):=by rw[movR,if_neg (by simp[hid,hup]),if_neg h33,if_neg h36,if_pos (by omega)]
         refine gg ?_;exact rt1 fun w hw=>⟨es,congrArg (Value.int .i64) (by rw[hr]),⟨by rw[hr],hk⟩,hw.pk⟩
        ·refine gg ?_;refine eF (xC (depth_ct tp mb es hk hF up)) fun _ _=>?_;refine gg ?_;refine eF (xC (deep_ct tp mb es hk hF id)) fun _ _=>?_;refine gg ?_;refine eF (xC (depth_ct tp mb es hk hF id)) fun _ _=>?_;refine gg ?_;refine WP.condP rfl (fun h51=>?_) (fun h51=>?_)
         ·have hr:movR (FoR es) id up at_=(FoR es,5):=by rw[movR,if_neg (by simp[hid,hup]),if_neg h33,if_neg h36,if_neg (by omega),if_pos (by omega)]
          refine gg ?_;exact rt1 fun w hw=>⟨es,congrArg (Value.int .i64) (by rw[hr]),⟨by rw[hr],hk⟩,hw.pk⟩
         ·have hr:movR (FoR es) id up at_=(movG (FoR es) id up at_.toNat,0):=by rw[movR,if_neg (by simp[hid,hup]),if_neg h33,if_neg h36,if_neg (by omega),if_neg (by omega)]
          obtain⟨pe,hp,hm,hn,hie⟩:=hF.parent he h33;have hiu:id≠up:=fun e1=>h36 (by rw[←e1];exact hF.mem_sub.2 (Anc.refl hid));obtain⟨k,rfl⟩:∃k:Nat,at_=k:=⟨at_.toNat,by omega⟩;rw[Int.toNat_natCast] at hr;obtain⟨b,hb,hbl⟩:∃b,lookE (setE es (cutE pe id)) up=some b∧(b.kids.length:Int)=mostF (FoR es) id up:=by
            rw[look_cut hp,mostF,hke,up_some (FoR_some he)]
            by_cases h:up=e.up
            · rw [if_pos h, if_pos h.symm]
              rw[←h,hu] at hp;cases hp;have:=cutK_len hn hm;exact⟨_,rfl,by show ((cutK u.kids id).length:Int)=_;omega⟩
            · rw [if_neg h, if_neg (fun e => h e.symm), hu]
              exact⟨_,rfl,by show _=_ - (0:Int);omega⟩
          have hkl:k≤b.kids.length:=by omega
          have hbk:b.kids.length≤4096:=by
            have h1:=hF.kids_len hu;rw[mostF,hke] at hbl
            split at hbl<;>omega
          refine gg ?_;refine eF (xC (cut_ct tp mb es hk id he hp hm hn (by have:=hF.kids_len hp;omega))) fun _ _=>?_;refine nl (oo ?_);refine sqR ?_
          iterate 3 refine av ?_
          refine vl (v_load1 (u:=.map _) Tryz.isAgg105 rfl (fun w hw=>hw.treeRoot (i:=3) rfl)) ?_;refine av ?_;refine vl (v_lookT (es:=(setE es (cutE pe id))) (i:=3) rfl Tryz.underlying105 Tryz.underlying3 Tryz.zeroValue104 rfl rfl) ?_;refine av ?_;refine nl (oo ?_);refine sq ?_;refine WP.pre ?_ (fun w hw=>St.openB hb (hw.sel [3,0,1,2] (by decide)));rw[ptr_some hb];refine gg ?_;refine WPL.ef (x_buildSlice (us:=[.int .i64 _]) (σ':=fun _=>[_,_,_,_,_,_,_,_,_]) Tryz.underlying49 Tryz.sizeOf3 Tryz.zeroValue3 rfl rfl rfl (by decide) (by decide) (fun _=>rfl)) (fun g81=>?_);refine WPL.ef (x_call Tryz.call86 (insert_ct b.A b.c b.kids k hkl g81 id (by omega)) [1,8] [0,2,3,4,5,6,7] rfl (fun w hw=>trivial) (τ:=fun _=>[_,_,_,_,_,_,_,_]) (fun _=>rfl)) (fun⟨A82,c82⟩=>?_);refine WPL.fact (fun _=>?_);refine gg ?_;refine WPL.ef0 (x_store (u:=.slice _ _ _) (σ':=[_,_,_,_,_,_,_,_]) Tryz.sizeOf49 rfl rfl (i:=0) rfl (Nat.lt_of_lt_of_le (Nat.lt_succ_self _) (Nat.le_of_ble_eq_true rfl)) rfl) (fun _=>?_);refine nl (oo ?_);refine sq ?_;refine WP.pre ?_ (fun w hw=>St.openB (FoR_mov he hp hu hiu hie hb (k:=k)).1 (St.shutK hb (insAt_len hkl).symm (hw.sel [0,7,1,2,3] (by decide))));refine WP.region ?_
          iterate 3 refine av ?_
          refine vl (v_load1 (u:=.map _) Tryz.isAgg105 rfl (fun w hw=>hw.cl_at (i:=2) rfl _ rfl)) ?_;refine av ?_;refine vl (v_lookO (es:=_) (FoR_mov he hp hu hiu hie hb).1 (i:=3) rfl Tryz.underlying105 Tryz.underlying3 Tryz.zeroValue104 rfl rfl) ?_;refine gg ?_;refine WPL.ef0 (x_store (u:=.int .i64 _) (σ':=[_,_,_,_,_]) Tryz.sizeOf3 rfl rfl (i:=0) rfl (Nat.lt_of_lt_of_le (Nat.lt_succ_self _) (Nat.le_of_ble_eq_true rfl)) rfl) (fun _=>?_);refine gg ?_;exact WP.ret1 Tryz.results90 (fun _ h=>h) (fun w hw=>⟨setE (setE (setE es (cutE pe id)) ⟨b.id,b.bb,A82,c82,b.up,insAt b.kids k id,b.sty⟩) ⟨e.id,e.bb,e.A,e.c,up,e.kids,e.sty⟩,congrArg (Value.int .i64) (by rw[hr]),⟨by rw[hr];exact(FoR_mov he hp hu hiu hie hb).2,((hk.cut hp id).put hb).put (FoR_mov he hp hu hiu hie hb).1⟩,St.shutK (FoR_mov he hp hu hiu hie hb).1 rfl (hw.sel [0,1,2,3,4] (by decide))⟩)
end Go.Proofs.YtbedndijejpcaaaGreat
namespace Go.Proofs.YtbedndijejpcaaaGreat
section
variable {S:Type} {F:Forest S} {d:Int→Nat}
theorem flat_before (g:Int→List Int) (x:Int) (P:Int→Int):∀(ks:List Int),(∀c∈ks,P c=x)→(∀c∈ks,∀i y,(g c)[i]?=some y→y≠c→P y∈(g c).take i)→∀j y,(ks.flatMap g)[j]?=some y→P y=x∨P y∈(ks.flatMap g).take j
  | [],_,_,j,y,h=>by simp at h
  | c :: ks, hp, hg, j, y, h => by
    rw[List.flatMap_cons] at h ⊢
    by_cases hj:j<(g c).length
    · rw [List.getElem?_append_left hj] at h
      by_cases hy:y=c
      · left;rw[hy];exact hp c (by simp)
      · right
        have h1:=hg c (by simp) j y h hy;rw[List.take_append_of_le_length (by omega)];exact h1
    · rw [List.getElem?_append_right (by omega)] at h
      rcases flat_before g x P ks (fun c hc=>hp c (by simp[hc])) (fun c hc=>hg c (by simp[hc])) _ y h with h1 | h1
      · exact .inl h1
      · right
        rw[List.take_append,List.mem_append];exact .inr h1
theorem WF.inside_before (h:WF F d):∀(n:Nat) (x:Int) (i:Nat) (y:Int),(insideF F n x)[i]?=some y→y≠x→upF F y∈(insideF F n x).take i
  | 0,x,i,y,hi,_=>by simp[insideF] at hi
  | n + 1, x, i, y, hi, hy => by
    cases hx:F x with
    | none=>rw[inside_none (n+1) hx] at hi;simp at hi
    | some b =>
      rw[inside_some n hx] at hi ⊢;cases i with
      | zero=>simp at hi;exact absurd hi.symm hy
      | succ j =>
        rw[List.getElem?_cons_succ] at hi;rw[List.take_succ_cons]
        rcases flat_before (insideF F n) x (upF F) b.kids (fun c hc=>by obtain⟨_,e,he,hu⟩:=h.kid x b hx c hc;rw[up_some he];exact hu) (fun c _ i y=>h.inside_before n c i y) j y hi with h1 | h1
        · rw[h1];simp
        · exact List.mem_cons_of_mem _ h1
theorem WF.before (h:WF F d) {i:Nat} {y:Int} (hi:(order F)[i]?=some y) (h0:y≠0):upF F y∈(order F).take i:=h.inside_before 64 0 i y hi h0
theorem WF.order_head (h:WF F d):(order F)[0]?=some 0:=by
  obtain⟨b,hb,_⟩:=h.root;unfold order;rw[h.sub_eq hb];rfl
theorem WF.up_has (h:WF F d) {y:Int} (hy:hasF F y=true) (h0:y≠0):hasF F (upF F y)=true∧y∈kidsF F (upF F y)∧(kidsF F (upF F y)).Nodup∧d y=d (upF F y)+1:=by
  obtain⟨b,hb⟩:=some_has hy;obtain⟨u,hu,hm⟩:=h.par y b hb h0;rw[up_some hb,kids_some hu];exact⟨has_some hu,hm,h.nodup _ u hu,h.rank y b hb h0⟩
theorem WF.not_kid (h:WF F d) {id y:Int} {b:TBox S} (hy:F y=some b) (hne:y≠upF F id):id∉b.kids:=fun hm=>by
  obtain⟨_,c,hc,hu⟩:=h.kid y b hy id hm;rw[up_some hc] at hne;exact hne hu.symm
end
section
variable {w0 w:World} {M:Nat→Prop} {σ F:List HI} {i rp g bc n:Nat} {bs:List RB}
theorem St.rowAt (h:St w0 M σ w) (hi:σ[i]?=some (.row 152 58 (some ⟨g,0,none⟩) n bc (cellsB bs))) (hk:ROk bs) {j:Nat} {b:RB} (hb:bs[j]?=some b) (o:Nat) {us:List Value} (hu:(b.cells.drop o).take us.length=us):CellsAt w g (0+j*58+o) us:=by
  refine h.row_at hi _ fun k u hj=>?_;rw[show 0+j*58+o+k=j*58+(o+k) by omega];refine cellsB_get hk hb ?_;have h3:=congrArg (·[k]?) hu;simp only[hj] at h3;rw[List.getElem?_take] at h3
  split at h3
  · rw[List.getElem?_drop] at h3;exact h3
  · cases h3
theorem St.rowsAt (h:St w0 M σ w) (hi:σ[i]?=some (rowsI bs)) {j:Nat} {b:RB} (hb:bs[j]?=some b):RdI w b.A b.kids∧b.kids.length≤b.c∧Src w b.A b.kids.length (b.kids.map (Value.int .i64)):=
  kids_rd ((h.all _ (List.mem_of_getElem? hi)).2.1 b.row (List.mem_map.2 ⟨b,List.mem_of_getElem? hb,rfl⟩))
theorem St.shutSet {j:Nat} {b':RB} (h:St w0 M (.cl rp 155 [.slice (some ⟨g,0,none⟩) bs.length bc]::.row 152 58 (some ⟨g,0,none⟩) bs.length bc (cellsB (bs.set j b'))::rowsI (bs.set j b')::F) w):St w0 M (refI rp g bc (bs.set j b')::F) w:=by
  refine St.shutF ?_;rw[List.length_set];exact h
theorem rows_same {j:Nat} {b b':RB} (hb:bs[j]?=some b) (e:b'.row=b.row):rowsI (bs.set j b')=rowsI bs:=by
  unfold rowsI
  congr 1
  apply List.ext_getElem?;intro k;rw[List.getElem?_map,List.getElem?_map,List.getElem?_set]
  split
  · rename_i h
    subst h;rw[if_pos (List.getElem?_eq_some_iff.1 hb).1,hb];simp[e]
  · rfl
end
theorem setL_tail (a b c:Value) (s s':List Value) (h:s'.length=s.length):setL (a::b::c::s) 3 s'=a::b::c::s':=by
  rw[setL_eq _ _ _ (by simp only[List.length_cons];omega)];simp[h];omega
theorem absR_sty {bs:List RB} {i:Nat} {b:RB} (hb:bs[i]?=some b) (hl:b.live=true) {s:List Value}:absR (bs.set i ⟨b.live,b.up,b.A,b.c,b.kids,s⟩)=setG (absR bs) i s:=by
  funext y
  rw[absR_set (List.getElem?_eq_some_iff.1 hb).1,setG,absR_at hb hl,hl];rfl
theorem rset_ct (rp g bc:Nat) (bs:List RB) (hk:ROk bs) (x:Int) (sty:List Value) (hs:SOk sty):
    Ct Tryz.prog 92 #[.pointer (some ⟨rp,0,none⟩),.int .i64 x,.agg sty.toArray] [refI rp g bc bs] (fun _=>True) (X:=List RB) (fun _=>.int .i64 (setR validB (absR bs) x sty).2) (fun bs'=>absR bs'=(setR validB (absR bs) x sty).1∧ROk bs') (fun bs'=>[refI rp g bc bs']):=by
  refine Ci fun w0 _=>?_;refine gg ?_;refine WPL.ef (xB (us:=sty)) fun b5=>?_;refine gg ?_;refine eF (xC (rhas_ct rp g bc bs hk x)) fun _ _=>?_;refine gg ?_;refine WP.cond rfl (fun h11=>?_) (fun h11=>?_)
  ·simp only[Bool.not_eq_true',Bool.not_eq_false'] at h11;have hr:setR validB (absR bs) x sty=(absR bs,2):=by simp[setR,h11]
   refine gg ?_;exact rt1 fun w hw=>⟨bs,congrArg (Value.int .i64) (by rw[hr]),⟨by rw[hr],hk⟩,hw.pk⟩
  ·refine gg ?_;refine vl (vW hs.len) ?_;refine eF (xC (rvalid_ct sty hs)) fun _ _=>?_;refine gg ?_;refine WP.cond rfl (fun h15=>?_) (fun h15=>?_)
   ·simp only[Bool.not_eq_true',Bool.not_eq_false'] at h11 h15;have hr:setR validB (absR bs) x sty=(absR bs,1):=by simp[setR,h11,h15]
    refine gg ?_;exact rt1 fun w hw=>⟨bs,congrArg (Value.int .i64) (by rw[hr]),⟨by rw[hr],hk⟩,hw.pk⟩
   ·simp only[Bool.not_eq_true',Bool.not_eq_false'] at h11 h15;have hr:setR validB (absR bs) x sty=(setG (absR bs) x sty,0):=by simp[setR,h11,h15]
    obtain⟨i,b,rfl,hb,hl⟩:=absR_has h11;have hib:=(List.getElem?_eq_some_iff.1 hb).1;refine WP.skip (onto_of ?_);refine sq ?_;refine WP.pre ?_ (fun w hw=>St.openF (hw.sel [1,0] (by decide)));refine WP.drawS (some 8) [(0,true),(1,true),(2,true),(3,true),(4,true),(5,true),(6,false),(7,true),(8,false)] mixed (by kernel_rfl) (by decide) (fun _ h=>h.drawn) ?_
    iterate 5 refine ad ?_
    refine WPD.take rfl (v_loadA (cs:=sty) Tryz.isAgg42 Tryz.sizeOf42 rfl (fun w hw=>hw.cl_at (i:=3) rfl 0 (whole _)) hs.len) ?_ (fun _ h=>h);refine WPD.val rfl (v_index (j:=i) Tryz.underlying153 Tryz.sizeOf152 rfl rfl rfl (by omega)) (fun _ h=>h) ?_;refine gg ?_;refine WPD.ef0 rfl (x_storeRowA (us:=sty) (o:=0+i*58+3) (σ':=[_,_,_,_]) Tryz.sizeOf42 rfl rfl (i:=1) rfl (by rw[cellsB_len hk,hs.len];omega) (by rw[show 0+i*58+3=i*58+3 by omega,cellsB_set hk hb (b':=(⟨b.live,b.up,b.A,b.c,b.kids,sty⟩:RB)) (by rw[hs.len];decide) (setL_tail _ _ _ _ _ (by rw[hs.len,(hk.get hb).len]))];rfl) hs.one hs.len) (fun h=>absurd rfl h) (fun _=>?_);refine gg ?_;exact rt1 fun w hw=>⟨bs.set i (⟨b.live,b.up,b.A,b.c,b.kids,sty⟩:RB),congrArg (Value.int .i64) (by rw[hr]),⟨by rw[hr];exact absR_sty hb hl,hk.set i hs⟩,St.shutSet (by rw[rows_same (b':=(⟨b.live,b.up,b.A,b.c,b.kids,sty⟩:RB)) hb rfl];exact hw.pk)⟩
def zapL (bs:List RB) (l:List Int):List RB:=l.foldl (fun bs x=>bs.set x.toNat zeroRB) bs
theorem zapL_snoc (bs:List RB) {l:List Int} {k:Nat} {x:Int} (h:l[k]?=some x):zapL bs (l.take (k+1))=(zapL bs (l.take k)).set x.toNat zeroRB:=by
  rw[take_snoc h];simp[zapL]
theorem zapL_ok:∀(l:List Int) {bs:List RB},ROk bs→(∀x∈l,0≤x∧x<bs.length)→ROk (zapL bs l)∧(zapL bs l).length=bs.length∧∀y,absR (zapL bs l) y=if y∈l then none else absR bs y
  | [],bs,h,_=>⟨h,rfl,fun y=>by simp[zapL]⟩
  | x :: l, bs, h, hr => by
    have hx:=hr x (by simp);obtain⟨h1,h2,h3⟩:=zapL_ok l (bs:=bs.set x.toNat zeroRB) (h.set _ zeroS_ok) (fun y hy=>by rw[List.length_set];exact hr y (by simp[hy]));refine⟨h1,by rw[show zapL bs (x::l)=zapL (bs.set x.toNat zeroRB) l from rfl,h2,List.length_set],fun y=>?_⟩;rw[show zapL bs (x::l)=zapL (bs.set x.toNat zeroRB) l from rfl,h3,absR_set (by omega),show ((x.toNat:Nat):Int)=x by omega]
    by_cases e1:y∈l<;>by_cases e2:y=x<;>simp[e1,e2,zeroRB]
theorem absR_some {bs:List RB} {x:Int} {t:TBox (List Value)} (h:absR bs x=some t):∃(i:Nat) (b:RB),x=i∧bs[i]?=some b∧b.live=true∧t=⟨b.up,b.kids,b.sty⟩:=by
  obtain⟨i,b,rfl,hb,hl⟩:=absR_has (has_some h);rw[absR_at hb hl] at h;exact⟨i,b,rfl,hb,hl,(Option.some.inj h).symm⟩
theorem WF.rparent {bs:List RB} {d:Int→Nat} (hF:WF (absR bs) d) {i:Nat} {b:RB} (hb:bs[i]?=some b) (hl:b.live=true) (h0:(i:Int)≠0):∃(u:Nat) (p:RB),b.up=u∧bs[u]?=some p∧p.live=true∧(i:Int)∈p.kids∧p.kids.Nodup∧u≠i:=by
  have hbb:=absR_at hb hl;obtain⟨t,h1,h2⟩:=hF.par i _ hbb h0;obtain⟨u,p,hu,hp,hpl,rfl⟩:=absR_some h1;refine⟨u,p,hu,hp,hpl,h2,hF.nodup _ _ h1,fun e=>?_⟩;have h3:d i=d b.up+1:=hF.rank i _ hbb h0;have hu2:b.up=u:=hu;rw[hu2,e] at h3;omega
def cutB (p:RB) (A:Option Addr) (c:Nat) (x:Int):RB:=⟨p.live,p.up,A,c,cutK p.kids x,p.sty⟩
theorem absR_cut {bs:List RB} {u:Nat} {p:RB} (hp:bs[u]?=some p) (hl:p.live=true) (A:Option Addr) (c:Nat) (x y:Int):absR (bs.set u (cutB p A c x)) y=if y=u then some ⟨p.up,cutK p.kids x,p.sty⟩ else absR bs y:=by
  rw[absR_set (List.getElem?_eq_some_iff.1 hp).1];simp[cutB,hl]
theorem absR_rem {bs:List RB} (hk:ROk bs) {i u:Nat} {b p:RB} (hb:bs[i]?=some b) (hl:b.live=true) (hu:b.up=u) (hp:bs[u]?=some p) (hpl:p.live=true) (A:Option Addr) (c:Nat):absR (zapL (bs.set u (cutB p A c i)) (sub (absR bs) i))=remG (absR bs) i:=by
  have hrange:∀x∈sub (absR bs) i,0≤x∧x<(bs.set u (cutB p A c i)).length:=fun x hx=>by
    obtain⟨j,c,rfl,hj,_⟩:=absR_has (sub_has hx);have:=(List.getElem?_eq_some_iff.1 hj).1;rw[List.length_set];omega
  funext y
  rw[(zapL_ok _ (hk.set u (b':=cutB p A c i) (show SOk p.sty from hk.get hp)) hrange).2.2,remG]
  split
  · rfl
  · rw [absR_cut hp hpl, up_some (absR_at hb hl)]
    show _=Option.map (fun t=>if y=b.up then _ else t) _;rw[hu]
    by_cases hy:y=u
    · subst hy;rw[if_pos rfl,absR_at hp hpl];simp
    · rw[if_neg hy];simp only[if_neg hy];cases absR bs y<;>rfl
theorem rremove_ct (rp g bc:Nat) (bs:List RB) (hk:ROk bs) {d:Int→Nat} (hF:WF (absR bs) d) (x:Int):
    Ct Tryz.prog 89 #[.pointer (some ⟨rp,0,none⟩),.int .i64 x] [refI rp g bc bs] (fun _=>True) (X:=List RB) (fun _=>.tuple #[.int .i64 (remR (absR bs) x).2.1,.int .i64 (remR (absR bs) x).2.2]) (fun bs'=>absR bs'=(remR (absR bs) x).1∧ROk bs') (fun bs'=>[refI rp g bc bs']):=by
  have hsl:=hF.len_le x;refine Ci fun w0 _=>?_;refine gg ?_;refine eF (xC (rhas_ct rp g bc bs hk x)) fun _ _=>?_;refine gg ?_;refine WP.cond rfl (fun h12=>?_) (fun h12=>?_)
  ·have hno:hasF (absR bs) x=false:=by simpa using h12
   have hr:remR (absR bs) x=(absR bs,0,2):=by rw[remR,if_pos hno]
   refine gg ?_;exact rt2 fun w hw=>⟨bs,by rw[hr];rfl,⟨by rw[hr],hk⟩,hw.pk⟩
  ·refine gg ?_;refine WP.condP rfl (fun h14=>?_) (fun h14=>?_)
   ·have hyes:hasF (absR bs) x=true:=by simpa using h12
    have hr:remR (absR bs) x=(absR bs,0,1):=by rw[remR,if_neg (by simp[hyes]),if_pos h14]
    refine gg ?_;exact rt2 fun w hw=>⟨bs,by rw[hr];rfl,⟨by rw[hr],hk⟩,hw.pk⟩
   ·have hyes:hasF (absR bs) x=true:=by simpa using h12
    have hr:remR (absR bs) x=(remG (absR bs) x,((sub (absR bs) x).length:Int),0):=by rw[remR,if_neg (by simp[hyes]),if_neg h14]
    obtain⟨i,b,rfl,hb,hl⟩:=absR_has hyes;have hib:=(List.getElem?_eq_some_iff.1 hb).1;obtain⟨u,p,hu,hp,hpl,hm,hn,hui⟩:=hF.rparent hb hl h14;have hub:=(List.getElem?_eq_some_iff.1 hp).1;have hpk:p.kids.length≤4096:=hF.kids_le (absR_at hp hpl);have hrange0:∀x∈sub (absR bs) (i:Int),0≤x∧x<bs.length:=fun x hx=>by
      obtain⟨j,c,rfl,hj,_⟩:=absR_has (sub_has hx);have:=(List.getElem?_eq_some_iff.1 hj).1;omega
    refine gg ?_;refine eF (xC (rinside_ct rp g bc bs hk hF (i:Int))) fun⟨A6,c6⟩ _=>?_;refine av ?_;refine nl (oo ?_);refine sq ?_;refine WP.pre ?_ (fun w hw=>St.openF (hw.sel [0,1] (by decide)));refine WP.region ?_
    iterate 7 refine av ?_
    refine vl (v_load1 (u:=.int .i64 _) Tryz.isAgg3 rfl (fun w hw=>hw.rowAt (i:=1) rfl hk hb 1 (us:=[.int .i64 b.up]) rfl)) ?_;rw[hu];refine gg ?_;refine WP.drawSel (some 17) [0,1,2,3] [(0,true),(1,true),(2,true),(3,true),(4,true),(5,true),(6,true),(7,true),(8,true),(9,true),(10,true),(11,true),(12,true),(13,true),(14,false),(15,false),(16,true),(17,false)] mixed (by kernel_rfl) (by decide) ?_;refine WPD.take rfl (v_move (v:=.pointer _) rfl) ?_ (fun _ h=>h.sel [0,1,2,3] (by decide));refine WPD.take rfl (v_nil rfl) ?_ (fun _ h=>h.sel [0,1,2,3] (by decide));refine WPD.take rfl (v_fieldL (o':=0) Tryz.underlying155 rfl Tryz.sizeOf153 rfl rfl) ?_ (fun _ h=>h.sel [0,1,2,3] (by decide));refine WPD.take rfl (v_load1 (u:=.slice _ _ _) Tryz.isAgg153 rfl (fun w hw=>hw.cl_at (i:=0) rfl _ rfl)) ?_ (fun _ h=>h.sel [0,1,2,3] (by decide));refine WPD.take rfl (v_move (v:=.int .i64 _) rfl) ?_ (fun _ h=>h.sel [0,1,2,3] (by decide));refine WPD.take rfl (v_move (v:=.pointer _) rfl) ?_ (fun _ h=>h.sel [0,1,2,3] (by decide));refine WPD.take rfl (v_nil rfl) ?_ (fun _ h=>h.sel [0,1,2,3] (by decide));refine WPD.take rfl (v_fieldL (o':=0) Tryz.underlying155 rfl Tryz.sizeOf153 rfl rfl) ?_ (fun _ h=>h.sel [0,1,2,3] (by decide));refine WPD.take rfl (v_load1 (u:=.slice _ _ _) Tryz.isAgg153 rfl (fun w hw=>hw.cl_at (i:=0) rfl _ rfl)) ?_ (fun _ h=>h.sel [0,1,2,3] (by decide));refine WPD.take rfl (v_move (v:=.int .i64 _) rfl) ?_ (fun _ h=>h.sel [0,1,2,3] (by decide));refine WPD.take rfl (v_index (j:=u) Tryz.underlying153 Tryz.sizeOf152 rfl rfl rfl (by omega)) ?_ (fun _ h=>h.sel [0,1,2,3] (by decide));refine WPD.take rfl (v_field (off:=2) Tryz.underlying152 rfl Tryz.sizeOf49 rfl) ?_ (fun _ h=>h.sel [0,1,2,3] (by decide));refine tE rfl (v_load1 (u:=.slice _ _ _) Tryz.isAgg49 rfl (fun w hw=>hw.rowAt (i:=1) rfl hk hp 2 (us:=[.slice p.A p.kids.length p.c]) rfl)) ?_;refine gg ?_;refine WPD.ef rfl (x_call Tryz.call135 (without_ct p.A p.c p.kids (i:Int) (by omega)) [] [0,1,2,3] rfl (fun w hw=>(hw.rowsAt (i:=2) rfl hp).2.2) (τ:=fun _=>[_,_,_,_,_]) (fun _=>rfl)) (fun _ _ _ h=>h.2.sel [0,1,2,3] (by decide)) (fun⟨A40,c40⟩=>?_);refine WPD.fact (fun _=>?_);refine WPD.val rfl (v_index (j:=u) Tryz.underlying153 Tryz.sizeOf152 rfl rfl rfl (by omega)) (fun _ h=>h.sel [0,1,2,3] (by decide)) ?_;refine WPD.take rfl (v_field (off:=2) Tryz.underlying152 rfl Tryz.sizeOf49 rfl) ?_ (fun _ h=>h.sel [0,1,2,3] (by decide));refine WPD.ef0 rfl (x_storeRow' (u:=.slice A40 (cutK p.kids i).length c40) (o:=0+u*58+2) (xs':=cellsB (bs.set u (cutB p A40 c40 (i:Int)))) (σ':=[_,_,_,_,_]) Tryz.sizeOf49 rfl rfl (i:=1) rfl (by rw[cellsB_len hk];omega) (by rw[show 0+u*58+2=u*58+2 by omega];exact cellsB_set hk hp (o:=2) (us:=[.slice A40 (cutK p.kids i).length c40]) (by show 2+1≤58;decide) rfl) rfl) (fun h=>absurd rfl h) (fun _=>?_);refine WPD.nil (onto_of ?_)
    iterate 2 refine sq ?_
    refine WP.pre ?_ (fun w hw=>St.rowSet (b':=(cutB p A40 c40 (i:Int))) hp (hw.sel [2,4,0,1,3] (by decide)));have hk1:ROk (bs.set u (cutB p A40 c40 (i:Int))):=hk.set u (show SOk p.sty from hk.get hp);have hrange:∀x∈(sub (absR bs) (i:Int)),0≤x∧x<(bs.set u (cutB p A40 c40 (i:Int))).length:=fun x hx=>by rw[List.length_set];exact hrange0 x hx
    refine gg ?_;refine WP.loopK (X:=Nat) [0,6] (fun k=>[(8,.int .i64 (k:Int))]) (fun k w=>k≤(sub (absR bs) (i:Int)).length∧St w0 (foots [refI rp g bc bs]) [.cl rp 155 [.slice (some ⟨g,0,none⟩) bs.length bc],.row 152 58 (some ⟨g,0,none⟩) bs.length bc (cellsB (zapL (bs.set u (cutB p A40 c40 (i:Int))) ((sub (absR bs) (i:Int)).take k))),rowsI (zapL (bs.set u (cutB p A40 c40 (i:Int))) ((sub (absR bs) (i:Int)).take k)),kidsI A6 (sub (absR bs) (i:Int)).length c6 (sub (absR bs) (i:Int))] w) (fun k=>(sub (absR bs) (i:Int)).length - k) 0 ⟨rfl,trivial⟩ (fun w hw=>⟨Nat.zero_le _,(hw.sel [1,2,0,3] (by decide))⟩) (fun k ρ0=>?_);refine WP.fact (fun hkl=>?_);refine gg ?_;refine WP.condP rfl (fun h46=>?_) (fun h46=>?_)
    ·obtain⟨y,hy⟩:∃y,(sub (absR bs) (i:Int))[k]?=some y:=⟨_,List.getElem?_eq_getElem (by omega)⟩;obtain⟨j,hyj⟩:∃j:Nat,y=j:=⟨y.toNat,by have:=hrange0 y (List.mem_of_getElem? hy);omega⟩;subst hyj;have hjr:=hrange0 _ (List.mem_of_getElem? hy);have hrk:∀x∈(sub (absR bs) (i:Int)).take k,0≤x∧x<(bs.set u (cutB p A40 c40 (i:Int))).length:=fun x hx=>hrange x (List.mem_of_mem_take hx);obtain⟨hzk,hzl,_⟩:=zapL_ok ((sub (absR bs) (i:Int)).take k) hk1 hrk;rw[List.length_set] at hzl;obtain⟨bj,hzj⟩:∃bj,(zapL (bs.set u (cutB p A40 c40 (i:Int))) ((sub (absR bs) (i:Int)).take k))[j]?=some bj:=⟨_,List.getElem?_eq_getElem (by omega)⟩;refine WP.holds (fun w hw=>hw.row_pos (i:=3) rfl (by omega)) (fun⟨lb,hA⟩=>?_);subst hA;refine gg ?_;refine WP.drawS (some 10) [(0,true),(1,true),(2,true),(3,true),(4,true),(5,true),(6,true),(7,true),(8,true),(9,true),(10,false)] mixed (by kernel_rfl) (by decide) (fun _ h=>h.drawn) ?_;refine gg ?_;refine tD (vR 3 (by rw[List.getElem?_map,hy];rfl)) ?_;refine tE rfl (v_struct (parts:=[]) (us:=zeroRB.cells) (pl:=[(0,1),(1,1),(2,1),(3,55)]) Tryz.underlying152 Tryz.zeroValue152 rfl (by kernel_rfl) rfl rfl (by kernel_rfl)) ?_;refine gg ?_;refine WPD.ef0 rfl (x_storeRowA (us:=zeroRB.cells) (o:=0+j*58) (σ':=[_,_,_,_]) Tryz.sizeOf152 rfl rfl (i:=1) rfl (by rw[cellsB_len hzk,hzl];show _+58≤_;omega) (by rw[show 0+j*58=j*58+0 by omega,cellsB_set hzk hzj (b':=zeroRB) (by decide) (setL_all _ _ (by rw[RB.cells_len (hzk.get hzj)];rfl))];rfl) (by intro v hv;simp only[RB.cells,zeroRB,List.mem_cons] at hv;rcases hv with rfl | rfl | rfl | hv;rfl;rfl;rfl;exact zeroS_ok.one v hv) rfl) (fun h=>absurd rfl h) (fun _=>?_);refine WPD.nil (onto_of ?_);refine WP.region ?_
     iterate 3 refine av ?_
     exact nl fun w hw=>⟨rfl,k+1,(by omega),⟨rfl,jP,jS,trivial⟩,⟨by omega,by rw[zapL_snoc _ hy,Int.toNat_natCast];exact(St.rowSet (b':=zeroRB) hzj ((hw.nilRow 3 1).sel [2,4,0,1,3] (by decide))).sel [1,2,0,3] (by decide)⟩⟩
    ·have hkk:k=(sub (absR bs) (i:Int)).length:=by omega
     refine WP.exit (onto_of ?_);refine gg ?_;exact WP.ret2 Tryz.results89 (fun _ h=>h) (fun w hw=>⟨zapL (bs.set u (cutB p A40 c40 (i:Int))) (sub (absR bs) (i:Int)),by rw[hr];rfl,⟨by rw[hr];exact absR_rem hk hb hl hu hp hpl A40 c40,(zapL_ok _ hk1 hrange).1⟩,by have h:=(hw.sel [0,1,2] (by decide));rw[hkk,List.take_of_length_le (Nat.le_refl _)] at h;exact St.shutF (by rw[(zapL_ok _ hk1 hrange).2.1,List.length_set];exact h)⟩)
end Go.Proofs.YtbedndijejpcaaaGreat
namespace Go.Proofs.YtbedndijejpcaaaGreat
def dpN (F:Forest (List Value)) (x:Int) (l:List Int):Int:=l.foldl (fun n y=>max n (depthF F y - depthF F x)) 0
theorem dpN_snoc (F:Forest (List Value)) (x:Int) {l:List Int} {k:Nat} {y:Int} (h:l[k]?=some y):dpN F x (l.take (k+1))=max (dpN F x (l.take k)) (depthF F y - depthF F x):=by
  rw[take_snoc h];simp[dpN]
theorem dpN_bd (F:Forest (List Value)) (x:Int) (l:List Int):0≤dpN F x l∧dpN F x l≤64:=
  ⟨(foldl_max_ge (fun y=>depthF F y - depthF F x) l 0).1,foldl_max_le (fun y=>depthF F y - depthF F x) 64 l 0 (by omega) fun y _=>by have:=depth_bd F y;have:=depth_bd F x;omega⟩
theorem WF.dpN_all {F:Forest (List Value)} {d:Int→Nat} (h:WF F d) {x:Int} (hx:hasF F x=true):dpN F x (sub F x)=deepF F x - depthF F x:=by
  have hself:x∈sub F x:=h.mem_sub.2 (Anc.refl hx);have h0:0≤depthF F x:=by rw[h.depth hx];omega
  have ha:=foldl_max_ge (depthF F) (sub F x) 0;have hb:=foldl_max_ge (fun y=>depthF F y - depthF F x) (sub F x) 0;have h1:=foldl_max_le (fun y=>depthF F y - depthF F x) (deepF F x - depthF F x) (sub F x) 0 (by have:=ha.2 x hself;unfold deepF;omega) (fun y hy=>by have:=ha.2 y hy;unfold deepF;omega);have h2:=foldl_max_le (depthF F) (dpN F x (sub F x)+depthF F x) (sub F x) 0 (by have:=hb.1;unfold dpN;omega) (fun y hy=>by have:=hb.2 y hy;unfold dpN;omega);unfold dpN at*;unfold deepF at*;omega
theorem WF.most_cut {F:Forest (List Value)} {d:Int→Nat} (h:WF F d) {id up:Int} (hid:hasF F id=true) (h0:id≠0) (hup:hasF F up=true):((cutK (kidsF F up) id).length:Int)=mostF F id up:=by
  obtain⟨b,hb⟩:=some_has hup;unfold mostF;rw[kids_some hb]
  by_cases e:up=upF F id
  · obtain ⟨h1, h2, h3, _⟩ := h.up_has hid h0
    rw[if_pos e.symm];rw[←e,kids_some hb] at h2 h3;have:=cutK_len h3 h2;omega
  · rw[if_neg (fun x=>e x.symm),cutK_of_not (h.not_kid hb e)];omega
theorem WF.least_is {F:Forest (List Value)} {d:Int→Nat} (h:WF F d) {k:Nat} (hb:∀y:Int,0≤y→y<k→hasF F y=true) (hk:hasF F (k:Int)=false):least F=k:=by
  obtain⟨l1,l2,l3,l4⟩:=h.least_ok
  rcases Int.lt_trichotomy (least F) k with h1 | h1 | h1
  · rw[hb _ l1 h1] at l3;cases l3
  · exact h1
  · rw[l4 k (by omega) h1] at hk;cases hk
def insB (q:RB) (A:Option Addr) (c:Nat) (k:Nat) (x:Int):RB:=⟨q.live,q.up,A,c,insAt q.kids k x,q.sty⟩
def upB (b:RB) (w:Int):RB:=⟨b.live,w,b.A,b.c,b.kids,b.sty⟩
theorem absR_mov {bs:List RB} {i u w:Nat} {b p q q1:RB} (hb:bs[i]?=some b) (hl:b.live=true) (hu:b.up=u) (hp:bs[u]?=some p) (hpl:p.live=true) (hw:bs[w]?=some q) (hql:q.live=true) (hui:u≠i) (hwi:w≠i) {A1 A2:Option Addr} {c1 c2 k:Nat} (hq1:(bs.set u (cutB p A1 c1 i))[w]?=some q1):
    ((bs.set u (cutB p A1 c1 i)).set w (insB q1 A2 c2 k i))[i]?=some b∧absR (((bs.set u (cutB p A1 c1 i)).set w (insB q1 A2 c2 k i)).set i (upB b w))=movG (absR bs) i w k:=by
  have hil:=(List.getElem?_eq_some_iff.1 hb).1;have hwl:=(List.getElem?_eq_some_iff.1 hw).1;refine⟨by rw[List.getElem?_set_ne hwi,List.getElem?_set_ne hui,hb],?_⟩;have hlive:q1.live=true∧q1.up=q.up∧q1.sty=q.sty∧q1.kids=if w=u then cutK q.kids i else q.kids:=by
    by_cases e:w=u
    · subst e
      rw[hp] at hw;cases hw;rw[List.getElem?_set_self hwl] at hq1;cases hq1;simp[cutB,hpl]
    · rw [List.getElem?_set_ne (fun h => e h.symm), hw] at hq1
      cases hq1;simp[hql,e]
  obtain⟨g1,g2,g3,g4⟩:=hlive
  funext y
  rw[absR_set (by simp[hil]),absR_set (by simp[hwl]),absR_cut hp hpl,movG];show _=Option.map (fun t:TBox (List Value)=>(⟨if y=i then (w:Int) else t.up,if y=w then insAt (if y=upF (absR bs) i then cutK t.kids i else t.kids) k i else if y=upF (absR bs) i then cutK t.kids i else t.kids,t.sty⟩:TBox (List Value))) _;rw[up_some (absR_at hb hl)];show _=Option.map (fun t:TBox (List Value)=>(⟨if y=i then (w:Int) else t.up,if y=w then insAt (if y=b.up then cutK t.kids i else t.kids) k i else if y=b.up then cutK t.kids i else t.kids,t.sty⟩:TBox (List Value))) _;rw[hu];have n1:((i:Int)≠w):=by omega
  have n2:((i:Int)≠u):=by omega
  by_cases e1:y=i
  · subst e1
    rw[absR_at hb hl];simp[upB,hl,n1,n2]
  · by_cases e2 : y = w
    · subst e2
      rw[absR_at hw hql]
      by_cases e3:w=u
      · have e5 : ((u : Int) ≠ i) := by omega
        simp[insB,g1,g2,g3,g4,e3,e5]
      · have e4 : ((w : Int) ≠ u) := by omega
        simp[insB,g1,g2,g3,g4,e3,e1,e4]
        try (intro h;omega)
    · by_cases e3 : y = u
      · subst e3
        rw[absR_at hp hpl];simp[e1,e2]
      · simp only [e1, e2, e3, if_false]
        cases absR bs y<;>rfl
end Go.Proofs.YtbedndijejpcaaaGreat
