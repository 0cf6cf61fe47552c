/- RefMove RefNew RefAdd EqF RecLeaf TreeDo TreeBoth RecRow FlexPure -/
import Derived.ChangeKeysEq
import Derived.Laws.StructEq
import Derived.Test.YtbedndijejpcaaaGreatS10
set_option linter.unusedVariables false
set_option linter.unusedSimpArgs false
set_option linter.unusedSectionVars false
set_option maxRecDepth 100000
set_option maxHeartbeats 8000000
namespace Go.Proofs.YtbedndijejpcaaaGreat
open Go.RowKit
theorem rmove_ct (rp g bc:Nat) (bs:List RB) (hk:ROk bs) {d:Int→Nat} (hF:WF (absR bs) d) (x up at_:Int):
    Ct Tryz.prog 91 #[.pointer (some ⟨rp,0,none⟩),.int .i64 x,.int .i64 up,.int .i64 at_] [refI rp g bc bs] (fun _=>True) (X:=List RB) (fun _=>.int .i64 (movR (absR bs) x up at_).2) (fun bs'=>absR bs'=(movR (absR bs) x up at_).1∧ROk bs') (fun bs'=>[refI rp g bc bs']):=by
  have hsl:=hF.len_le x;refine Ci fun w0 _=>?_;refine gg ?_;refine eF (xC (rhas_ct rp g bc bs hk x)) fun _ _=>?_
  iterate 2 refine av ?_
  refine WPL.splitB 17 rfl (fun h17=>?_) (fun h17=>?_)
  ·refine gg ?_;have hr:movR (absR bs) x up at_=(absR bs,2):=by simp only[Bool.not_eq_true'] at h17;simp[movR,h17]
   refine WP.condT rfl ?_;refine gg ?_;exact rt1 fun w hw=>⟨bs,congrArg (Value.int .i64) (by rw[hr]),⟨by rw[hr],hk⟩,hw.pk⟩
  ·refine gg ?_;refine WPL.efG (xC (rhas_ct rp g bc bs hk up)) (fun _=>?_);refine WPL.fact (fun _=>?_);refine gg ?_;refine WP.cond rfl (fun h22=>?_) (fun h22=>?_)
   ·have hr:movR (absR bs) x up at_=(absR bs,2):=by simp only[Bool.not_eq_true'] at h22;simp[movR,h22]
    refine gg ?_;exact rt1 fun w hw=>⟨bs,congrArg (Value.int .i64) (by rw[hr]),⟨by rw[hr],hk⟩,hw.pk⟩
   ·simp only[Bool.not_eq_true',Bool.not_eq_false'] at h17 h22;have hid:=h17;have hup:=h22;obtain⟨v,q,huv,hv,hql⟩:=absR_has hup;subst huv;have hvb:=(List.getElem?_eq_some_iff.1 hv).1;have hvk:=kids_some (absR_at hv hql);have hqk:q.kids.length≤4096:=hF.kids_le (absR_at hv hql);refine gg ?_;refine WP.condP rfl (fun h24=>?_) (fun h24=>?_)
    ·have hr:movR (absR bs) x (v:Int) at_=(absR bs,1):=by rw[movR,if_neg (by simp[hid,hup]),if_pos h24]
     refine gg ?_;exact rt1 fun w hw=>⟨bs,congrArg (Value.int .i64) (by rw[hr]),⟨by rw[hr],hk⟩,hw.pk⟩
    ·obtain⟨i,b,hxi,hb,hl⟩:=absR_has hid;subst hxi;have hib:=(List.getElem?_eq_some_iff.1 hb).1;have hmc:=hF.most_cut hid h24 hup;rw[hvk] at hmc;simp only at hmc;have hdp:=hF.dpN_all hid;have hd1:=depth_bd (absR bs) (i:Int);have hd2:=depth_bd (absR bs) (v:Int);refine gg ?_;refine eF (xC (rinside_ct rp g bc bs hk hF (i:Int))) fun⟨A9,c9⟩ _=>?_;refine gg ?_;refine WP.loopK (X:=Nat) [0,1,2,3,9] (fun j=>[(11,.int .i64 (j:Int)),(10,.int .i64 (dpN (absR bs) (i:Int) ((sub (absR bs) (i:Int)).take j)))]) (fun j w=>(j≤(sub (absR bs) (i:Int)).length∧(v:Int)∉(sub (absR bs) (i:Int)).take j)∧St w0 (foots [refI rp g bc bs]) [refI rp g bc bs,kidsI A9 (sub (absR bs) (i:Int)).length c9 (sub (absR bs) (i:Int))] w) (fun j=>(sub (absR bs) (i:Int)).length - j) 0 ⟨rfl,rfl,trivial⟩ (fun w hw=>⟨⟨Nat.zero_le _,by simp⟩,(hw.sel [0,1] (by decide))⟩) (fun j ρ0=>?_);refine WP.fact (fun⟨hjl,hnj⟩=>?_);refine gg ?_;refine WP.condP rfl (fun h31=>?_) (fun h31=>?_)
     ·obtain⟨y,hy⟩:∃y,(sub (absR bs) (i:Int))[j]?=some y:=⟨_,List.getElem?_eq_getElem (by omega)⟩;have hby:=depth_bd (absR bs) y;have hbj:=dpN_bd (absR bs) (i:Int) ((sub (absR bs) (i:Int)).take j);refine WP.holds (fun w hw=>hw.row_pos (i:=1) rfl (by omega)) (fun⟨lb,hA⟩=>?_);subst hA;refine gg ?_;refine vl (vR 1 (by rw[List.getElem?_map,hy];rfl)) ?_;refine gg ?_;refine WP.condP rfl (fun h39=>?_) (fun h39=>?_)
      ·have hr:movR (absR bs) (i:Int) (v:Int) at_=(absR bs,3):=by rw[movR,if_neg (by simp[hid,hup]),if_neg h24,if_pos (by rw[←h39];exact List.mem_of_getElem? hy)]
       refine gg ?_;exact rt1 fun w hw=>⟨bs,congrArg (Value.int .i64) (by rw[hr]),⟨by rw[hr],hk⟩,hw.pk⟩
      ·refine gg ?_;refine vl (vR 1 (by rw[List.getElem?_map,hy];rfl)) ?_;refine eF (xC (rdepth_ct rp g bc bs hk hF y)) fun _ _=>?_;refine gg ?_;refine eF (xC (rdepth_ct rp g bc bs hk hF (i:Int))) fun _ _=>?_
       iterate 3 refine av ?_
       refine nl (oo ?_);refine WP.region ?_
       iterate 3 refine av ?_
       exact nl fun w hw=>⟨rfl,j+1,(by omega),⟨rfl,(congrArg (Value.int .i64) (dpN_snoc (absR bs) (i:Int) hy).symm),jP,jI,jI,jI,jS,trivial⟩,⟨⟨by omega,by rw[take_snoc hy];simp only[List.mem_append,List.mem_singleton,not_or];exact⟨hnj,fun e=>h39 e.symm⟩⟩,hw.pk⟩⟩
     ·obtain rfl:j=(sub (absR bs) (i:Int)).length:=by omega
      rw[List.take_of_length_le (Nat.le_refl _)] at*;have hcy:=hnj;have hdb:=dpN_bd (absR bs) (i:Int) (sub (absR bs) (i:Int));refine WP.exit (onto_of ?_);refine sq ?_;refine sqR ?_
      iterate 3 refine av ?_
      refine WPL.split 54 rfl (fun h54=>?_) (fun h54=>?_)
      ·refine gg ?_;have hr:movR (absR bs) (i:Int) (v:Int) at_=(absR bs,1):=by rw[movR,if_neg (by simp[hid,hup]),if_neg h24,if_neg hcy,if_pos (by omega)]
       refine WP.condT rfl ?_;refine gg ?_;exact rt1 fun w hw=>⟨bs,congrArg (Value.int .i64) (by rw[hr]),⟨by rw[hr],hk⟩,hw.pk⟩
      ·iterate 4 refine ag ?_
       refine vg (v_load1 (u:=.slice _ _ _) Tryz.isAgg153 rfl (fun w hw=>hw.refRoot (i:=0) rfl)) ?_
       iterate 3 refine ag ?_
       refine vg (v_load1 (u:=.slice _ _ _) Tryz.isAgg49 rfl (fun w hw=>hw.refAt (i:=0) rfl hk hv 2 (us:=[.slice q.A q.kids.length q.c]) rfl)) ?_;refine gg ?_;refine WPL.efG (xC (without_ct q.A q.c q.kids (i:Int) (by omega)) (hF:=fun w hw=>(hw.refKids (i:=0) rfl hv).2.2)) (fun⟨A65,c65⟩=>?_);refine WPL.fact (fun _=>?_);refine gg ?_;refine WP.condP rfl (fun h68=>?_) (fun h68=>?_)
       ·have hr:movR (absR bs) (i:Int) (v:Int) at_=(absR bs,1):=by rw[movR,if_neg (by simp[hid,hup]),if_neg h24,if_neg hcy,if_pos (by omega)]
        refine gg ?_;exact rt1 fun w hw=>⟨bs,congrArg (Value.int .i64) (by rw[hr]),⟨by rw[hr],hk⟩,hw.pk⟩
       ·refine gg ?_;refine eF (xC (rdepth_ct rp g bc bs hk hF (v:Int))) fun _ _=>?_;refine gg ?_;refine WP.condP rfl (fun h75=>?_) (fun h75=>?_)
        ·have hr:movR (absR bs) (i:Int) (v:Int) at_=(absR bs,5):=by rw[movR,if_neg (by simp[hid,hup]),if_neg h24,if_neg hcy,if_neg (by omega),if_pos (by omega)]
         refine gg ?_;exact rt1 fun w hw=>⟨bs,congrArg (Value.int .i64) (by rw[hr]),⟨by rw[hr],hk⟩,hw.pk⟩
        ·obtain⟨u,p,hu,hp,hpl,hm,hn,hui⟩:=hF.rparent hb hl h24;have hub:=(List.getElem?_eq_some_iff.1 hp).1;have hpk:p.kids.length≤4096:=hF.kids_le (absR_at hp hpl);have hvi:v≠i:=fun e=>hcy (by rw[e];exact hF.mem_sub.2 (Anc.refl hid));obtain⟨k,rfl⟩:∃k:Nat,at_=k:=⟨at_.toNat,by omega⟩;have hr:movR (absR bs) (i:Int) (v:Int) (k:Int)=(movG (absR bs) i v k,0):=by rw[movR,if_neg (by simp[hid,hup]),if_neg h24,if_neg hcy,if_neg (by omega),if_neg (by omega),Int.toNat_natCast]
         refine WP.skip (onto_of ?_);refine sq ?_;refine WP.pre ?_ (fun w hw=>St.openF (hw.sel [2,0,1] (by decide)));refine WP.region ?_
         iterate 7 refine av ?_
         refine vl (v_load1 (u:=.int .i64 _) Tryz.isAgg3 rfl (fun w hw=>hw.rowAt (i:=1) rfl hk hb 1 (us:=[.int .i64 b.up]) rfl)) ?_;rw[hu];refine gg ?_;refine WP.drawSel (some 17) [0,1,2,3,4] [(0,true),(1,true),(2,true),(3,true),(4,true),(5,true),(6,true),(7,true),(8,true),(9,true),(10,true),(11,true),(12,true),(13,true),(14,false),(15,false),(16,true),(17,false)] mixed (by kernel_rfl) (by decide) ?_;refine WPD.take rfl (v_move (v:=.pointer _) rfl) ?_ (fun _ h=>h.sel [0,1,2,3,4] (by decide));refine WPD.take rfl (v_nil rfl) ?_ (fun _ h=>h.sel [0,1,2,3,4] (by decide));refine WPD.take rfl (v_fieldL (o':=0) Tryz.underlying155 rfl Tryz.sizeOf153 rfl rfl) ?_ (fun _ h=>h.sel [0,1,2,3,4] (by decide));refine WPD.take rfl (v_load1 (u:=.slice _ _ _) Tryz.isAgg153 rfl (fun w hw=>hw.cl_at (i:=0) rfl _ rfl)) ?_ (fun _ h=>h.sel [0,1,2,3,4] (by decide));refine WPD.take rfl (v_move (v:=.int .i64 _) rfl) ?_ (fun _ h=>h.sel [0,1,2,3,4] (by decide));refine WPD.take rfl (v_move (v:=.pointer _) rfl) ?_ (fun _ h=>h.sel [0,1,2,3,4] (by decide));refine WPD.take rfl (v_nil rfl) ?_ (fun _ h=>h.sel [0,1,2,3,4] (by decide));refine WPD.take rfl (v_fieldL (o':=0) Tryz.underlying155 rfl Tryz.sizeOf153 rfl rfl) ?_ (fun _ h=>h.sel [0,1,2,3,4] (by decide));refine WPD.take rfl (v_load1 (u:=.slice _ _ _) Tryz.isAgg153 rfl (fun w hw=>hw.cl_at (i:=0) rfl _ rfl)) ?_ (fun _ h=>h.sel [0,1,2,3,4] (by decide));refine WPD.take rfl (v_move (v:=.int .i64 _) rfl) ?_ (fun _ h=>h.sel [0,1,2,3,4] (by decide));refine WPD.take rfl (v_index (j:=u) Tryz.underlying153 Tryz.sizeOf152 rfl rfl rfl (by omega)) ?_ (fun _ h=>h.sel [0,1,2,3,4] (by decide));refine WPD.take rfl (v_field (off:=2) Tryz.underlying152 rfl Tryz.sizeOf49 rfl) ?_ (fun _ h=>h.sel [0,1,2,3,4] (by decide));refine tE rfl (v_load1 (u:=.slice _ _ _) Tryz.isAgg49 rfl (fun w hw=>hw.rowAt (i:=1) rfl hk hp 2 (us:=[.slice p.A p.kids.length p.c]) rfl)) ?_;refine gg ?_;refine WPD.ef rfl (x_call Tryz.call135 (without_ct p.A p.c p.kids (i:Int) (by omega)) [] [0,1,2,3,4] rfl (fun w hw=>(hw.rowsAt (i:=2) rfl hp).2.2) (τ:=fun _=>[_,_,_,_,_,_]) (fun _=>rfl)) (fun _ _ _ h=>h.2.sel [0,1,2,3,4] (by decide)) (fun⟨A98,c98⟩=>?_);refine WPD.fact (fun _=>?_);refine WPD.val rfl (v_index (j:=u) Tryz.underlying153 Tryz.sizeOf152 rfl rfl rfl (by omega)) (fun _ h=>h.sel [0,1,2,3,4] (by decide)) ?_;refine WPD.take rfl (v_field (off:=2) Tryz.underlying152 rfl Tryz.sizeOf49 rfl) ?_ (fun _ h=>h.sel [0,1,2,3,4] (by decide));refine WPD.ef0 rfl (x_storeRow' (u:=.slice A98 (cutK p.kids i).length c98) (o:=0+u*58+2) (xs':=cellsB (bs.set u (cutB p A98 c98 (i:Int)))) (σ':=[_,_,_,_,_,_]) Tryz.sizeOf49 rfl rfl (i:=1) rfl (by rw[cellsB_len hk];(try simp only[List.length_set]);omega) (by rw[show 0+u*58+2=u*58+2 by omega];exact cellsB_set hk hp (o:=2) (us:=[.slice A98 (cutK p.kids i).length c98]) (by show 2+1≤58;decide) (by first | rfl | (show _=(_::_::Value.slice A116 (insAt q1.kids k (i:Int)).length c116::_:List Value);rw[insAt_len hkl];rfl))) rfl) (fun h=>absurd rfl h) (fun _=>?_)
         refine WPD.nil (onto_of ?_);refine sq ?_;refine WP.pre ?_ (fun w hw=>St.rowSet (b':=(cutB p A98 c98 (i:Int))) hp (hw.sel [2,5,0,1] (by decide)));have hk1:ROk (bs.set u (cutB p A98 c98 (i:Int))):=hk.set u (show SOk p.sty from hk.get hp);obtain⟨q1,hq1⟩:∃q1,(bs.set u (cutB p A98 c98 (i:Int)))[v]?=some q1:=⟨_,List.getElem?_eq_getElem (by rw[List.length_set];exact hvb)⟩;have hql1:q1.kids.length=(cutK q.kids (i:Int)).length:=by
           by_cases e:v=u
           · subst e
             rw[List.getElem?_set_self hvb] at hq1;rw[hv] at hp;cases hp;cases hq1;rfl
           · rw [List.getElem?_set_ne (fun h => e h.symm), hv] at hq1
             cases hq1;rw[cutK_of_not (hF.not_kid (absR_at hv hql) (by rw[up_some (absR_at hb hl)];show (v:Int)≠b.up;rw[hu];omega))]
         have hkl:k≤q1.kids.length:=by omega
         have hq1c:=cutK_le q.kids (i:Int);refine WP.holds (fun w hw=>(hw.rowsAt (i:=0) rfl hq1).2.1) (fun hq1cap=>?_);refine WP.drawSel (some 18) [0,1,2] [(0,true),(1,true),(2,true),(3,true),(4,true),(5,true),(6,true),(7,true),(8,true),(9,true),(10,true),(11,true),(12,true),(13,true),(14,true),(15,false),(16,false),(17,true),(18,false)] mixed (by kernel_rfl) (by decide) ?_;refine WPD.take rfl (v_move (v:=.pointer _) rfl) ?_ (fun _ h=>h.sel [0,1,2] (by decide));refine WPD.take rfl (v_nil rfl) ?_ (fun _ h=>h.sel [0,1,2] (by decide));refine WPD.take rfl (v_fieldL (o':=0) Tryz.underlying155 rfl Tryz.sizeOf153 rfl rfl) ?_ (fun _ h=>h.sel [0,1,2] (by decide));refine WPD.take rfl (v_load1 (u:=.slice _ _ _) Tryz.isAgg153 rfl (fun w hw=>hw.cl_at (i:=1) rfl _ rfl)) ?_ (fun _ h=>h.sel [0,1,2] (by decide));refine WPD.take rfl (v_move (v:=.int .i64 _) rfl) ?_ (fun _ h=>h.sel [0,1,2] (by decide));refine WPD.take rfl (v_move (v:=.pointer _) rfl) ?_ (fun _ h=>h.sel [0,1,2] (by decide));refine WPD.take rfl (v_nil rfl) ?_ (fun _ h=>h.sel [0,1,2] (by decide));refine WPD.take rfl (v_fieldL (o':=0) Tryz.underlying155 rfl Tryz.sizeOf153 rfl rfl) ?_ (fun _ h=>h.sel [0,1,2] (by decide));refine WPD.take rfl (v_load1 (u:=.slice _ _ _) Tryz.isAgg153 rfl (fun w hw=>hw.cl_at (i:=1) rfl _ rfl)) ?_ (fun _ h=>h.sel [0,1,2] (by decide));refine WPD.take rfl (v_move (v:=.int .i64 _) rfl) ?_ (fun _ h=>h.sel [0,1,2] (by decide));refine WPD.take rfl (v_index (j:=v) Tryz.underlying153 Tryz.sizeOf152 rfl rfl rfl (by omega)) ?_ (fun _ h=>h.sel [0,1,2] (by decide));refine WPD.take rfl (v_field (off:=2) Tryz.underlying152 rfl Tryz.sizeOf49 rfl) ?_ (fun _ h=>h.sel [0,1,2] (by decide));refine tE rfl (v_load1 (u:=.slice _ _ _) Tryz.isAgg49 rfl (fun w hw=>hw.rowAt (i:=2) rfl hk1 hq1 2 (us:=[.slice q1.A q1.kids.length q1.c]) rfl)) ?_;refine gg ?_;refine WPD.ef rfl (x_call Tryz.call138 (with_ct q1.A q1.c q1.kids k hkl hq1cap (i:Int) (by omega)) [] [0,1,2] rfl (fun w hw=>(hw.rowsAt (i:=0) rfl hq1).2.2) (τ:=fun _=>[_,_,_,_]) (fun _=>rfl)) (fun _ _ _ h=>h.2.sel [0,1,2] (by decide)) (fun⟨A116,c116⟩=>?_);refine WPD.fact (fun _=>?_);refine WPD.val rfl (v_index (j:=v) Tryz.underlying153 Tryz.sizeOf152 rfl rfl rfl (by omega)) (fun _ h=>h.sel [0,1,2] (by decide)) ?_;refine WPD.take rfl (v_field (off:=2) Tryz.underlying152 rfl Tryz.sizeOf49 rfl) ?_ (fun _ h=>h.sel [0,1,2] (by decide));refine WPD.ef0 rfl (x_storeRow' (u:=.slice A116 (q1.kids.length+1) c116) (o:=0+v*58+2) (xs':=cellsB ((bs.set u (cutB p A98 c98 (i:Int))).set v (insB q1 A116 c116 k (i:Int)))) (σ':=[_,_,_,_]) Tryz.sizeOf49 rfl rfl (i:=2) rfl (by rw[cellsB_len hk1];(try simp only[List.length_set]);omega) (by rw[show 0+v*58+2=v*58+2 by omega];exact cellsB_set hk1 hq1 (o:=2) (us:=[.slice A116 (q1.kids.length+1) c116]) (by show 2+1≤58;decide) (by first | rfl | (show _=(_::_::Value.slice A116 (insAt q1.kids k (i:Int)).length c116::_:List Value);rw[insAt_len hkl];rfl))) rfl) (fun h=>absurd rfl h) (fun _=>?_);refine WPD.nil (onto_of ?_);refine sq ?_
         refine WP.pre ?_ (fun w hw=>St.rowSet (b':=(insB q1 A116 c116 k (i:Int))) hq1 (by show St _ _ (_::kidsI A116 (insAt q1.kids k (i:Int)).length c116 (insAt q1.kids k (i:Int))::_) w;rw[insAt_len hkl];exact(hw.sel [0,3,1,2] (by decide))));have hk2:ROk ((bs.set u (cutB p A98 c98 (i:Int))).set v (insB q1 A116 c116 k (i:Int))):=hk1.set v (show SOk q1.sty from hk1.get hq1);have hmv:=absR_mov (A1:=A98) (A2:=A116) (c1:=c98) (c2:=c116) (k:=k) hb hl hu hp hpl hv hql hui hvi hq1;have hb2:=hmv.1;refine gg ?_;refine WPL.ef0 (x_storeRow' (u:=.int .i64 (v:Int)) (o:=0+i*58+1) (xs':=cellsB (((bs.set u (cutB p A98 c98 (i:Int))).set v (insB q1 A116 c116 k (i:Int))).set i (upB b (v:Int)))) (σ':=[_,_,_]) Tryz.sizeOf3 rfl rfl (i:=2) rfl (by rw[cellsB_len hk2];(try simp only[List.length_set]);omega) (by rw[show 0+i*58+1=i*58+1 by omega];exact cellsB_set hk2 hb2 (o:=1) (us:=[.int .i64 (v:Int)]) (by show 1+1≤58;decide) rfl) rfl) (fun _=>?_);refine gg ?_;exact rt1 fun w hw=>⟨(((bs.set u (cutB p A98 c98 (i:Int))).set v (insB q1 A116 c116 k (i:Int))).set i (upB b (v:Int))),congrArg (Value.int .i64) (by rw[hr]),⟨by rw[hr];exact hmv.2,hk2.set i (show SOk b.sty from hk.get hb)⟩,St.shutSet (by rw[rows_same (b':=(upB b (v:Int))) hb2 rfl];simp only[List.length_set];exact hw.pk)⟩
def liveRB (up:Int):RB:=⟨true,up,none,0,[],zeroS⟩
theorem liveRB_one (up:Int):∀v∈(liveRB up).cells,v.oneCell'=true:=by
  intro v hv;simp only[RB.cells,liveRB,List.mem_cons] at hv
  rcases hv with rfl | rfl | rfl | hv
  · rfl
  · rfl
  · rfl
  · exact zeroS_ok.one v hv
theorem rnew_ok:absR [liveRB (-1)]=newF zeroS∧ROk [liveRB (-1)]:=by
  refine⟨?_,fun b hb=>?_⟩
  · funext y
    unfold newF
    by_cases h:y=0
    · subst h;rfl
    · by_cases h1 : y < 0
      · rw[absR_neg h1,if_neg h]
      · rw[absR_out (by simp;omega),if_neg h]
  · obtain rfl : b = _ := by simpa using hb
    exact zeroS_ok
theorem rnew_ct:Ct Tryz.prog 52 #[] [] (fun _=>True) (X:=Nat×Nat) (fun p=>.pointer (some ⟨p.1,0,none⟩)) (fun _=>True) (fun p=>[refI p.1 p.2 1 [liveRB (-1)]]):=by
  refine Ct.intro Tryz.func52 rfl Tryz.ntmps52 (by simp) (fun w0 _=>?_);refine sqR ?_;refine sg (v:=.pointer none) rfl ?_;refine nl (oo ?_);refine sqR ?_;refine vl (v_struct (us:=(liveRB (-1)).cells) (pl:=[(0,1),(1,1),(2,1),(3,55)]) Tryz.underlying152 Tryz.zeroValue152 rfl (by kernel_rfl) rfl rfl (by kernel_rfl)) ?_;refine WPL.ef (x_buildSlice (us:=(liveRB (-1)).cells) (σ':=fun _=>[_]) Tryz.underlying153 Tryz.sizeOf152 Tryz.zeroValue152 rfl rfl rfl (by decide) (by decide) (fun _=>rfl)) (fun g2=>?_);refine vl (v_struct (us:=[.slice _ _ _]) (pl:=[(0,1)]) Tryz.underlying155 Tryz.zeroValue155 rfl (by kernel_rfl) rfl rfl (by kernel_rfl)) ?_;refine WPL.ef (x_boxA (us:=[.slice _ _ _]) (σ':=fun _=>[_,_]) rfl (fun _=>rfl)) (fun b4=>?_);refine sgP rfl ?_;refine nl (oo ?_);exact WP.ret1 Tryz.results52 (fun _ h=>h) (fun w hw=>⟨(b4,g2),rfl,trivial,St.shutF (bs:=[liveRB (-1)]) (St.pack (τ:=[(liveRB (-1)).row]) (((hw.sel [0,1] (by decide)).nilRow 3 1).sel [2,0,1] (by decide)) |>.sel [2,1,0] (by decide))⟩)
theorem info152:(Tryz.prog.info? 152).map (fun i=>(i.zero,i.size,i.bytes))=some (some (.agg #[.bool false,.int .i64 0,.slice none 0 0,.int .i64 0,.int .i64 0,.int .i64 0,.int .i64 0,.int .i64 0,.int .i64 0,.int .i64 0,.int .i64 0,.int .i64 0,.int .i64 0,.int .i64 0,.int .i64 0,.int .i64 0,.int .i64 0,.int .i64 0,.int .i64 0,.int .i64 0,.int .i64 0,.int .i64 0,.int .i64 0,.int .i64 0,.int .i64 0,.int .i64 0,.int .i64 0,.int .i64 0,.int .i64 0,.int .i64 0,.int .i64 0,.int .i64 0,.int .i64 0,.int .i64 0,.int .i64 0,.int .i64 0,.int .i64 0,.int .i64 0,.int .i64 0,.int .i64 0,.int .i64 0,.int .i64 0,.int .i64 0,.int .i64 0,.int .i64 0,.int .i64 0,.int .i64 0,.int .i64 0,.bool false,.int .i64 0,.bool false,.int .i64 0,.int .i64 0,.int .i64 0,.bool false,.bool false,.int .i64 0,.int .i64 0]),58,472):=by kernel_rfl
theorem St.rowApp {w0 w:World} {M:Nat→Prop} {F:List HI} {bs:List RB} {b':RB} (h:St w0 M (rowsI bs::b'.row::F) w):St w0 M (rowsI (bs++[b'])::F) w:=by
  have h1:=h.unpack;refine St.pack (τ:=(bs++[b']).map RB.row) (h1.perm ?_);rw[List.map_append,List.append_assoc];exact List.Perm.refl _
theorem ROk.app {bs:List RB} (h:ROk bs):ROk (bs++[zeroRB]):=fun b hb=>by
  rcases List.mem_append.1 hb with hb | hb
  · exact h b hb
  · obtain rfl : b = _ := by simpa using hb
    exact zeroS_ok
theorem cellsB_app (bs:List RB):cellsB (bs++[zeroRB])=cellsB bs++zeroRB.cells:=by simp[cellsB]
theorem zeroRB_one:∀v∈zeroRB.cells,v.oneCell'=true:=by
  intro v hv;simp only[RB.cells,zeroRB,List.mem_cons] at hv
  rcases hv with rfl | rfl | rfl | hv
  · rfl
  · rfl
  · rfl
  · exact zeroS_ok.one v hv
theorem absR_add {bs:List RB} {i k:Nat} {q:RB} (hq:bs[i]?=some q) (hl:q.live=true) (hk:k<bs.length) (hno:hasF (absR bs) (k:Int)=false) {A:Option Addr} {c j:Nat}:(bs.set k (liveRB i))[i]?=some q∧absR ((bs.set k (liveRB i)).set i (insB q A c j k))=addG (absR bs) i j k zeroS:=by
  have hne:k≠i:=fun e=>by rw[e,absR_live hq,hl] at hno;cases hno
  have hil:=(List.getElem?_eq_some_iff.1 hq).1;refine⟨by rw[List.getElem?_set_ne hne,hq],?_⟩
  funext y
  rw[absR_set (by simp[hil]),absR_set hk,addG,absR_at hq hl]
  by_cases e1:y=i
  · simp[e1,insB,hl]
  · by_cases e2 : y = k
    · have e3 : ((k : Int) ≠ i) := by omega
      simp[e2,e3,liveRB]
    · simp[e1,e2]
theorem radd_ct (rp g bc:Nat) (bs:List RB) (hk:ROk bs) {d:Int→Nat} (hF:WF (absR bs) d) (up at_:Int):
    Ct Tryz.prog 93 #[.pointer (some ⟨rp,0,none⟩),.int .i64 up,.int .i64 at_] [refI rp g bc bs] (fun _=>True) (X:=Nat×Nat×List RB) (fun _=>.tuple #[.int .i64 (addR zeroS (absR bs) up at_).2.1,.int .i64 (addR zeroS (absR bs) up at_).2.2]) (fun p=>absR p.2.2=(addR zeroS (absR bs) up at_).1∧ROk p.2.2) (fun p=>[refI rp p.1 p.2.1 p.2.2]):=by
  have hll:=hF.len_le 0;refine Ci fun w0 _=>?_;refine gg ?_;refine eF (xC (rhas_ct rp g bc bs hk up)) fun _ _=>?_;refine gg ?_;refine WP.cond rfl (fun h12=>?_) (fun h12=>?_)
  ·have hr:addR zeroS (absR bs) up at_=(absR bs,-1,2):=by
     have hn:hasF (absR bs) up=false:=by simpa using h12
     simp[addR,hn]
   refine gg ?_;exact rt2 fun w hw=>⟨(g,bc,bs),by rw[hr];rfl,⟨by rw[hr],hk⟩,hw.pk⟩
  ·have hup:hasF (absR bs) up=true:=by simpa using h12
   obtain⟨i,q,hui,hq,hql⟩:=absR_has hup;subst hui;have hib:=(List.getElem?_eq_some_iff.1 hq).1;have hke:kidsF (absR bs) (i:Int)=q.kids:=kids_some (absR_at hq hql);have hqk:q.kids.length≤4096:=hF.kids_le (absR_at hq hql);refine WP.skip (onto_of ?_);refine sq ?_;refine sqR ?_
   iterate 3 refine av ?_
   refine WPL.split 15 rfl (fun h15=>?_) (fun h15=>?_)
   ·refine gg ?_;have hr:addR zeroS (absR bs) (i:Int) at_=(absR bs,-1,1):=by rw[addR,if_neg (by simp[hup]),if_pos (by left;omega)]
    refine WP.condT rfl ?_;refine gg ?_;exact rt2 fun w hw=>⟨(g,bc,bs),by rw[hr];rfl,⟨by rw[hr],hk⟩,hw.pk⟩
   ·iterate 4 refine ag ?_
    refine vg (v_load1 (u:=.slice _ _ _) Tryz.isAgg153 rfl (fun w hw=>hw.refRoot (i:=0) rfl)) ?_
    iterate 3 refine ag ?_
    refine vg (v_load1 (u:=.slice _ _ _) Tryz.isAgg49 rfl (fun w hw=>hw.refAt (i:=0) rfl hk hq 2 (us:=[.slice q.A q.kids.length q.c]) rfl)) ?_;refine gg ?_;refine WP.condP rfl (fun h27=>?_) (fun h27=>?_)
    ·have hr:addR zeroS (absR bs) (i:Int) at_=(absR bs,-1,1):=by rw[addR,if_neg (by simp[hup]),if_pos (by rw[hke];omega)]
     refine gg ?_;exact rt2 fun w hw=>⟨(g,bc,bs),by rw[hr];rfl,⟨by rw[hr],hk⟩,hw.pk⟩
    ·refine gg ?_;refine eF (xC (rlen_ct rp g bc bs hk hF)) fun _ _=>?_;refine gg ?_;refine WP.condP rfl (fun h30=>?_) (fun h30=>?_)
     ·have hr:addR zeroS (absR bs) (i:Int) at_=(absR bs,-1,4):=by rw[addR,if_neg (by simp[hup]),if_neg (by rw[hke];omega),if_pos (by omega)]
      refine gg ?_;exact rt2 fun w hw=>⟨(g,bc,bs),by rw[hr];rfl,⟨by rw[hr],hk⟩,hw.pk⟩
     ·refine gg ?_;refine eF (xC (rdepth_ct rp g bc bs hk hF (i:Int))) fun _ _=>?_;refine gg ?_;refine WP.condP rfl (fun h34=>?_) (fun h34=>?_)
      ·have hr:addR zeroS (absR bs) (i:Int) at_=(absR bs,-1,5):=by rw[addR,if_neg (by simp[hup]),if_neg (by rw[hke];omega),if_neg (by omega),if_pos (by omega)]
       refine gg ?_;exact rt2 fun w hw=>⟨(g,bc,bs),by rw[hr];rfl,⟨by rw[hr],hk⟩,hw.pk⟩
      ·have hr0:addR zeroS (absR bs) (i:Int) at_=(addG (absR bs) i at_.toNat (least (absR bs)) zeroS,least (absR bs),0):=by rw[addR,if_neg (by simp[hup]),if_neg (by rw[hke];omega),if_neg (by omega),if_neg (by omega)]
       obtain⟨j,rfl⟩:∃j:Nat,at_=j:=⟨at_.toNat,by omega⟩;rw[Int.toNat_natCast] at hr0;have hjl:j≤q.kids.length:=by omega
       obtain⟨l1,l2,l3,l4⟩:=hF.least_ok;refine gg ?_;refine WP.loopK (X:=Nat) [0,1,2] (fun k=>[(8,.int .i64 (k:Int))]) (fun k w=>((k:Int)≤least (absR bs)∧∀y:Int,0≤y→y<k→hasF (absR bs) y=true)∧St w0 (foots [refI rp g bc bs]) [refI rp g bc bs] w) (fun k=>(least (absR bs)).toNat - k) 0 ⟨rfl,trivial⟩ (fun w hw=>⟨⟨l1,fun y h1 h2=>by omega⟩,(hw.sel [0] (by decide))⟩) (fun k ρ0=>?_);refine WP.fact (fun⟨hkl,hall⟩=>?_);refine gg ?_;refine eF (xC (rhas_ct rp g bc bs hk (k:Int))) fun _ _=>?_;refine gg ?_;refine WP.cond rfl (fun h37=>?_) (fun h37=>?_)
       ·have hkn:(k:Int)≠least (absR bs):=fun e=>by rw[e,l3] at h37;cases h37
        refine WP.skip (onto_of ?_);refine WP.block ?_;refine WP.region ?_
        iterate 3 refine av ?_
        exact nl fun w hw=>⟨rfl,k+1,(by omega),⟨rfl,jP,jI,jI,trivial⟩,⟨⟨by omega,fun y h1 h2=>by by_cases e:y=k;(rw[e];exact h37);exact hall y h1 (by omega)⟩,hw.pk⟩⟩
       ·have hfree:hasF (absR bs) (k:Int)=false:=h37;have hls:=hF.least_is hall hfree;have hr:addR zeroS (absR bs) (i:Int) (j:Int)=(addG (absR bs) i j k zeroS,(k:Int),0):=by rw[hr0,hls]
        have hkb:k≤bs.length:=by
          by_cases e:k=0
          · omega
          · obtain ⟨m, b, e1, hb, _⟩ := absR_has (hall ((k : Int) - 1) (by omega) (by omega))
            have:=(List.getElem?_eq_some_iff.1 hb).1;omega
        refine WP.exit (onto_of ?_);refine WP.midK [0,1,2,8] (X:=Nat×Nat×List RB) (fun p=>[]) (fun p=>fun w=>(ROk p.2.2∧absR p.2.2=absR bs∧k<p.2.2.length∧∀(y:Nat) (b:RB),bs[y]?=some b→p.2.2[y]?=some b)∧St w0 (foots [refI rp g bc bs]) [.cl rp 155 [.slice (some ⟨p.1,0,none⟩) p.2.2.length p.2.1],.row 152 58 (some ⟨p.1,0,none⟩) p.2.2.length p.2.1 (cellsB p.2.2),rowsI p.2.2] w) ?_ (fun p ρ0=>?_)
        ·refine sq ?_;refine WP.pre ?_ (fun w hw=>St.openF (hw.sel [0] (by decide)));refine gg ?_;refine WP.condP rfl (fun h46=>?_) (fun h46=>?_)
         ·have hkn:k=bs.length:=by omega
          refine WP.region ?_
          iterate 5 refine av ?_
          refine vl (v_struct (parts:=[]) (us:=zeroRB.cells) (pl:=[(0,1),(1,1),(2,1),(3,55)]) Tryz.underlying152 Tryz.zeroValue152 rfl (by kernel_rfl) rfl rfl (by kernel_rfl)) ?_;refine WPL.ef (x_buildSlice (us:=zeroRB.cells) (σ':=fun _=>[_,_,_,_]) Tryz.underlying153 Tryz.sizeOf152 Tryz.zeroValue152 rfl rfl rfl (by decide) (by decide) (fun _=>rfl)) (fun g53=>?_);refine WPL.ef (xP 1 3 (h1:=zeroRB_one)) fun⟨A54,c54⟩=>?_;refine gg ?_;refine WPL.ef0 (xS rfl (isS rfl)) fun _=>?_;refine WPL.nil fun w hw=>?_;obtain⟨lb,hA⟩:=hw.row_pos (i:=1) rfl (by omega);subst hA;exact⟨rfl,(lb,c54,bs++[zeroRB]),⟨jP,jI,jI,jI,trivial⟩,⟨hk.app,absR_app bs,by simp only[List.length_append,List.length_singleton];omega,fun y b hb=>by rw[List.getElem?_append_left (List.getElem?_eq_some_iff.1 hb).1];exact hb⟩,by dsimp only;rw[cellsB_app,List.length_append];exact(St.rowApp (b':=zeroRB) ((hw.nilRow 3 1).sel [2,4,0,1] (by decide))).sel [1,2,0] (by decide)⟩
         ·have hkn:k≠bs.length:=by omega
          exact WP.skip fun w hw=>⟨rfl,(g,bc,bs),⟨jP,jI,jI,jI,trivial⟩,⟨hk,rfl,by dsimp only;omega,fun _ _ h=>h⟩,hw.pk⟩
        ·obtain⟨g',bc',bs2⟩:=p;dsimp only;refine WP.fact (fun⟨hk2,habs,hkb2,hold⟩=>?_);obtain⟨z,hz⟩:∃z,bs2[k]?=some z:=⟨_,List.getElem?_eq_getElem hkb2⟩;have hib2:=(List.getElem?_eq_some_iff.1 (hold _ _ hq)).1;refine sqR ?_
         iterate 6 refine av ?_
         refine vl (v_struct (us:=(liveRB (i:Int)).cells) (pl:=[(0,1),(1,1),(2,1),(3,55)]) Tryz.underlying152 Tryz.zeroValue152 rfl (by kernel_rfl) rfl rfl (by kernel_rfl)) ?_;refine gg ?_;refine WPL.ef0 (x_storeRowA (us:=(liveRB (i:Int)).cells) (o:=0+k*58) (σ':=[_,_,_]) Tryz.sizeOf152 rfl rfl (i:=1) rfl (by rw[cellsB_len hk2];show _+58≤_;omega) (by rw[show 0+k*58=k*58+0 by omega,cellsB_set hk2 hz (b':=(liveRB (i:Int))) (by rw[RB.cells_len (b:=liveRB (i:Int)) zeroS_ok];decide) (setL_all _ _ (by rw[RB.cells_len (hk2.get hz)];rfl))];rfl) (liveRB_one _) rfl) (fun _=>?_);refine nl (oo ?_);refine sq ?_;refine WP.pre ?_ (fun w hw=>St.rowSet (b':=(liveRB (i:Int))) hz ((hw.nilRow 3 1).sel [2,3,0,1] (by decide)));have hk3:ROk (bs2.set k (liveRB (i:Int))):=hk2.set k (b':=(liveRB (i:Int))) zeroS_ok;have hadd:=absR_add (A:=none) (c:=0) (j:=j) (hold _ _ hq) hql hkb2 (by rw[habs];exact hfree);have hq3:=hadd.1;refine WP.holds (fun w hw=>(hw.rowsAt (i:=0) rfl hq3).2.1) (fun hqcap=>?_);refine WP.drawSel (some 18) [0,1,2] [(0,true),(1,true),(2,true),(3,true),(4,true),(5,true),(6,true),(7,true),(8,true),(9,true),(10,true),(11,true),(12,true),(13,true),(14,true),(15,false),(16,false),(17,true),(18,false)] mixed (by kernel_rfl) (by decide) ?_;refine WPD.take rfl (v_move (v:=.pointer _) rfl) ?_ (fun _ h=>h.sel [0,1,2] (by decide));refine WPD.take rfl (v_nil rfl) ?_ (fun _ h=>h.sel [0,1,2] (by decide));refine WPD.take rfl (v_fieldL (o':=0) Tryz.underlying155 rfl Tryz.sizeOf153 rfl rfl) ?_ (fun _ h=>h.sel [0,1,2] (by decide));refine WPD.take rfl (v_load1 (u:=.slice _ _ _) Tryz.isAgg153 rfl (fun w hw=>hw.cl_at (i:=1) rfl _ rfl)) ?_ (fun _ h=>h.sel [0,1,2] (by decide));refine WPD.take rfl (v_move (v:=.int .i64 _) rfl) ?_ (fun _ h=>h.sel [0,1,2] (by decide));refine WPD.take rfl (v_move (v:=.pointer _) rfl) ?_ (fun _ h=>h.sel [0,1,2] (by decide));refine WPD.take rfl (v_nil rfl) ?_ (fun _ h=>h.sel [0,1,2] (by decide));refine WPD.take rfl (v_fieldL (o':=0) Tryz.underlying155 rfl Tryz.sizeOf153 rfl rfl) ?_ (fun _ h=>h.sel [0,1,2] (by decide));refine WPD.take rfl (v_load1 (u:=.slice _ _ _) Tryz.isAgg153 rfl (fun w hw=>hw.cl_at (i:=1) rfl _ rfl)) ?_ (fun _ h=>h.sel [0,1,2] (by decide));refine WPD.take rfl (v_move (v:=.int .i64 _) rfl) ?_ (fun _ h=>h.sel [0,1,2] (by decide));refine WPD.take rfl (v_index (j:=i) Tryz.underlying153 Tryz.sizeOf152 rfl rfl rfl (by omega)) ?_ (fun _ h=>h.sel [0,1,2] (by decide));refine WPD.take rfl (v_field (off:=2) Tryz.underlying152 rfl Tryz.sizeOf49 rfl) ?_ (fun _ h=>h.sel [0,1,2] (by decide));refine tE rfl (v_load1 (u:=.slice _ _ _) Tryz.isAgg49 rfl (fun w hw=>hw.rowAt (i:=2) rfl hk3 hq3 2 (us:=[.slice q.A q.kids.length q.c]) rfl)) ?_;refine gg ?_;refine WPD.ef rfl (x_call Tryz.call138 (with_ct q.A q.c q.kids j hjl hqcap (k:Int) (by omega)) [] [0,1,2] rfl (fun w hw=>(hw.rowsAt (i:=0) rfl hq3).2.2) (τ:=fun _=>[_,_,_,_]) (fun _=>rfl)) (fun _ _ _ h=>h.2.sel [0,1,2] (by decide)) (fun⟨A80,c80⟩=>?_);refine WPD.fact (fun _=>?_);refine WPD.val rfl (v_index (j:=i) Tryz.underlying153 Tryz.sizeOf152 rfl rfl rfl (by omega)) (fun _ h=>h.sel [0,1,2] (by decide)) ?_
         refine WPD.take rfl (v_field (off:=2) Tryz.underlying152 rfl Tryz.sizeOf49 rfl) ?_ (fun _ h=>h.sel [0,1,2] (by decide));refine WPD.ef0 rfl (x_storeRow' (u:=.slice A80 (q.kids.length+1) c80) (o:=0+i*58+2) (xs':=cellsB ((bs2.set k (liveRB (i:Int))).set i (insB q A80 c80 j (k:Int)))) (σ':=[_,_,_,_]) Tryz.sizeOf49 rfl rfl (i:=2) rfl (by rw[cellsB_len hk3,List.length_set];omega) (by rw[show 0+i*58+2=i*58+2 by omega];exact cellsB_set hk3 hq3 (o:=2) (us:=[.slice A80 (q.kids.length+1) c80]) (by show 2+1≤58;decide) (by show _=(_::_::Value.slice A80 (insAt q.kids j (k:Int)).length c80::_:List Value);rw[insAt_len hjl];rfl)) rfl) (fun h=>absurd rfl h) (fun _=>?_);refine WPD.nil (onto_of ?_);refine sq ?_;refine WP.pre ?_ (fun w hw=>St.rowSet (b':=(insB q A80 c80 j (k:Int))) hq3 (by show St _ _ (_::kidsI A80 (insAt q.kids j (k:Int)).length c80 (insAt q.kids j (k:Int))::_) w;rw[insAt_len hjl];exact(hw.sel [0,3,1,2] (by decide))));refine gg ?_;exact WP.ret2 Tryz.results93 (fun _ h=>h) (fun w hw=>⟨(g',bc',((bs2.set k (liveRB (i:Int))).set i (insB q A80 c80 j (k:Int)))),by rw[hr];rfl,⟨by rw[hr,←habs];exact(absR_add (hold _ _ hq) hql hkb2 (by rw[habs];exact hfree)).2,hk3.set i (b':=(insB q A80 c80 j (k:Int))) (show SOk q.sty from hk.get hq)⟩,St.shutSet (by simp only[List.length_set];exact(hw.sel [1,2,0] (by decide)))⟩)
def leafF (sz:TypeId→Option Nat) (rec:TypeId→Option (List Bool)):Nat→List Field→Option (List Bool)
  | _,[]=>some []
  | o, f :: fs =>
    match rec f.type with
    | some ks => if f.name ≠ "_" ∧ f.offset = o ∧ sz f.type = some ks.length then (leafF sz rec (o + ks.length) fs).map (ks ++ ·) else none
    | none=>none
def leafK (P:Program):Nat→TypeId→Option (List Bool)
  | 0,_=>none
  | d + 1, t =>
    match P.underlying t with
    | some .bool=>some [false]
    | some (.int q)=>if q=.i64 then some [true] else none
    | some (.struct fs)=>if P.stoodInHeld t then none else leafF (fun t=>(P.info? t).map (·.size)) (leafK P d) 0 fs.toList
    | some (.array n e) =>
      match leafK P d e with
      | some ks=>if (P.info? e).map (·.size)=some ks.length then some (List.replicate n ks).flatten else none
      | none=>none
    | _=>none
def leafB:Bool→Value→Bool
  | true,.int .i64 _=>true
  | false,.bool _=>true
  | _,_=>false
def leavesB:List Bool→List Value→Bool
  | [],[]=>true
  | k::ks,v::vs=>leafB k v&&leavesB ks vs
  | _,_=>false
def valF (P:Program) (t:TypeId) (cs:List Value):Value:=
  match P.underlying t with
  | some (.struct _) | some (.array _ _)=>.agg cs.toArray
  | _=>cs.headD undef
theorem leavesB_len:∀{ks:List Bool} {cs:List Value},leavesB ks cs=true→cs.length=ks.length
  | [],[],_=>rfl
  | k :: ks, v :: vs, h => by
    simp only[leavesB,Bool.and_eq_true] at h;simp[leavesB_len h.2]
  | [],_::_,h=>by simp[leavesB] at h
  | _::_,[],h=>by simp[leavesB] at h
theorem leavesB_split:∀{ks ls:List Bool} {cs:List Value},leavesB (ks++ls) cs=true→leavesB ks (cs.take ks.length)=true∧leavesB ls (cs.drop ks.length)=true
  | [],ls,cs,h=>by simpa [leavesB] using h
  | k::ks,ls,[],h=>by simp[leavesB] at h
  | k :: ks, ls, v :: vs, h => by
    simp only[List.cons_append,leavesB,Bool.and_eq_true] at h;have:=leavesB_split h.2;simp only[List.length_cons,List.take_succ_cons,List.drop_succ_cons,leavesB,Bool.and_eq_true];exact⟨⟨h.1,this.1⟩,this.2⟩
theorem info_size {P:Program} {t:TypeId} {n:Nat} (h:(P.info? t).map (·.size)=some n) (w:World):(sizeOf t).run P w=.ok n w:=by
  obtain⟨i,hi,rfl⟩:=Option.map_eq_some_iff.1 h;simp[sizeOf,typeInfo,hi]
theorem run_partF {P:Program} (w:World) {t:TypeId} {d:Nat} {ks:List Bool} {xs:List Value} {o:Nat} (hk:leafK P d t=some ks) (hs:(P.info? t).map (·.size)=some ks.length) (hl:leavesB ks ((xs.drop o).take ks.length)=true):
    (part t xs.toArray o).run P w=.ok (valF P t ((xs.drop o).take ks.length)) w:=by
  cases d with
  | zero=>simp[leafK] at hk
  | succ d =>
    unfold leafK at hk;unfold valF part isAgg;have hsz:=info_size hs w;cases hu:P.underlying t with
    | none=>simp[hu] at hk
    | some k =>
      have one : ks.length = 1 → (match xs.toArray[o]? with | some v => (pure v : Sem Value) | none => stuck "part: no such cell").run P w = .ok (((xs.drop o).take ks.length).headD undef) w := by
        intro e;have h1:=leavesB_len hl;rw[e] at h1 ⊢;have h2:o<xs.length:=by
          rcases Nat.lt_or_ge o xs.length with h | h
          · exact h
          · rw[List.drop_eq_nil_of_le h] at h1;simp at h1
        rw[List.getElem?_toArray,List.getElem?_eq_getElem h2,List.drop_eq_getElem_cons h2];rfl
      cases k<;>simp only[hu] at hk<;>try (cases hk;done)
      case bool=>cases hk;simp only[Sem.run_bind,run_underlying hu,Result.andThen_ok,Sem.run_pure,Bool.false_eq_true,if_false];exact one rfl
      case int q=>split at hk<;>cases hk;simp only[Sem.run_bind,run_underlying hu,Result.andThen_ok,Sem.run_pure,Bool.false_eq_true,if_false];exact one rfl
      case struct fs=>
        simp only[Sem.run_bind,run_underlying hu,Result.andThen_ok,Sem.run_pure,if_true,hsz];simp
      case array n e=>
        simp only[Sem.run_bind,run_underlying hu,Result.andThen_ok,Sem.run_pure,if_true,hsz];simp
theorem valF_leaf {P:Program} {t:TypeId} {b:Bool} (hu:(P.underlying t=some .bool∧b=false)∨((∃q,P.underlying t=some (.int q))∧b=true)) {xs:List Value} (h:leavesB [b] xs=true):∃v,xs=[v]∧leafB b v=true∧valF P t xs=v:=by
  match xs,h with
  | [v], h =>
    refine⟨v,rfl,by simpa [leavesB] using h,?_⟩
    rcases hu with ⟨h1,_⟩ | ⟨⟨q,h1⟩,_⟩<;>simp[valF,h1]
  | [],h=>simp[leavesB] at h
  | _::_::_,h=>simp[leavesB] at h
noncomputable def eqv (xs ys:List Value):Bool:=@decide (xs=ys) (Classical.propDecidable _)
theorem eqv_iff {xs ys:List Value}:eqv xs ys=true↔xs=ys:=by unfold eqv;exact @decide_eq_true_iff _ (Classical.propDecidable _)
theorem eqv_self (xs:List Value):eqv xs xs=true:=eqv_iff.2 rfl
theorem eqv_ne {xs ys:List Value} (h:xs≠ys):eqv xs ys=false:=by
  cases e:eqv xs ys with
  | false=>rfl
  | true=>exact absurd (eqv_iff.1 e) h
theorem eqv_congr {xs ys xs' ys':List Value} (h:xs=ys↔xs'=ys'):eqv xs ys=eqv xs' ys':=by
  cases e:eqv xs' ys' with
  | true=>exact eqv_iff.2 (h.2 (eqv_iff.1 e))
  | false=>exact eqv_ne fun e'=>by rw[eqv_iff.2 (h.1 e')] at e;cases e
def EqOk (P:Program) (D:Nat) (t:TypeId) (ks:List Bool):Prop:=∀(w:World) xs ys,leavesB ks xs=true→leavesB ks ys=true→(Op.equalIn D t (valF P t xs) (valF P t ys)).run P w=.ok (eqv xs ys) w
theorem seg_eq {xs ys:List Value} {n:Nat}:xs=ys↔xs.take n=ys.take n∧xs.drop n=ys.drop n:=by
  constructor
  · rintro rfl;exact⟨rfl,rfl⟩
  · rintro ⟨h1, h2⟩
    rw[←List.take_append_drop n xs,←List.take_append_drop n ys,h1,h2]
theorem eqFieldsF {P:Program} (D d:Nat) (hD:∀t ks,leafK P d t=some ks→EqOk P D t ks):∀(fs:List Field) (o:Nat) (ks:List Bool),leafF (fun t=>(P.info? t).map (·.size)) (leafK P d) o fs=some ks→
    ∀(w:World) (xs ys:List Value),leavesB ks (xs.drop o)=true→leavesB ks (ys.drop o)=true→(Op.eqFields D xs.toArray ys.toArray fs).run P w=.ok (eqv (xs.drop o) (ys.drop o)) w
  | [], o, ks, hk, w, xs, ys, hx, hy => by
    simp only[leafF,Option.some.injEq] at hk;subst hk;have h1:=List.eq_nil_of_length_eq_zero (leavesB_len hx);have h2:=List.eq_nil_of_length_eq_zero (leavesB_len hy);rw[h1,h2];simp[Op.eqFields,eqv_self]
  | f :: fs, o, ks, hk, w, xs, ys, hx, hy => by
    unfold leafF at hk;cases hf:leafK P d f.type with
    | none=>simp[hf] at hk
    | some k1 =>
      simp only[hf] at hk
      split at hk
      · rename_i hc
        obtain⟨hn,ho,hs⟩:=hc;obtain⟨k2,hk2,rfl⟩:=Option.map_eq_some_iff.1 hk;obtain⟨hx1,hx2⟩:=leavesB_split hx;obtain⟨hy1,hy2⟩:=leavesB_split hy;rw[List.drop_drop] at hx2 hy2;have ih:=eqFieldsF D d hD fs (o+k1.length) k2 hk2 w xs ys hx2 hy2;have hd:=hD _ _ hf w _ _ hx1 hy1;unfold Op.eqFields;rw[if_pos hn,ho];simp only[Sem.run_bind,run_partF w hf hs hx1,run_partF w hf hs hy1,Result.andThen_ok,hd];have he:(xs.drop o=ys.drop o)↔((xs.drop o).take k1.length=(ys.drop o).take k1.length∧xs.drop (o+k1.length)=ys.drop (o+k1.length)):=by
          rw[←List.drop_drop,←List.drop_drop];exact seg_eq
        by_cases h1:(xs.drop o).take k1.length=(ys.drop o).take k1.length
        · simp only [h1, eqv_self, Bool.not_true, Bool.false_eq_true, if_false, ih]
          congr 1
          exact eqv_congr (by rw[he];exact⟨fun h=>⟨h1,h⟩,fun h=>h.2⟩)
        · simp only [eqv_ne h1, Bool.not_false, if_true, Sem.run_pure]
          congr 1
          exact(eqv_ne fun h=>h1 (he.1 h).1).symm
      · cases hk
theorem eqItemsF {P:Program} (D:Nat) {e:TypeId} {ks:List Bool} {d:Nat} (hk:leafK P d e=some ks) (hs:(P.info? e).map (·.size)=some ks.length) (hD:EqOk P D e ks):∀(n i:Nat) (w:World) (xs ys:List Value),
    leavesB (List.replicate n ks).flatten (xs.drop (i*ks.length))=true→leavesB (List.replicate n ks).flatten (ys.drop (i*ks.length))=true→
    (Op.eqItems D e ks.length xs.toArray ys.toArray (List.range' i n)).run P w=.ok (eqv (xs.drop (i*ks.length)) (ys.drop (i*ks.length))) w
  | 0, i, w, xs, ys, hx, hy => by
    have h1:=List.eq_nil_of_length_eq_zero (leavesB_len hx);have h2:=List.eq_nil_of_length_eq_zero (leavesB_len hy);rw[h1,h2];simp[Op.eqItems,eqv_self]
  | n + 1, i, w, xs, ys, hx, hy => by
    rw[List.replicate_succ,List.flatten_cons] at hx hy;obtain⟨hx1,hx2⟩:=leavesB_split hx;obtain⟨hy1,hy2⟩:=leavesB_split hy;have e1:i*ks.length+ks.length=(i+1)*ks.length:=by rw[Nat.add_mul,Nat.one_mul]
    rw[List.drop_drop,e1] at hx2 hy2;have ih:=eqItemsF D hk hs hD n (i+1) w xs ys hx2 hy2;have hd:=hD w _ _ hx1 hy1;rw[List.range'_succ];unfold Op.eqItems;simp only[Sem.run_bind,run_partF w hk hs hx1,run_partF w hk hs hy1,Result.andThen_ok,hd];have he:(xs.drop (i*ks.length)=ys.drop (i*ks.length))↔((xs.drop (i*ks.length)).take ks.length=(ys.drop (i*ks.length)).take ks.length∧xs.drop ((i+1)*ks.length)=ys.drop ((i+1)*ks.length)):=by
      rw[←e1,←List.drop_drop,←List.drop_drop];exact seg_eq
    by_cases h1:(xs.drop (i*ks.length)).take ks.length=(ys.drop (i*ks.length)).take ks.length
    · simp only [h1, eqv_self, Bool.not_true, Bool.false_eq_true, if_false, ih]
      congr 1
      exact eqv_congr (by rw[he];exact⟨fun h=>⟨h1,h⟩,fun h=>h.2⟩)
    · simp only [eqv_ne h1, Bool.not_false, if_true, Sem.run_pure]
      congr 1
      exact(eqv_ne fun h=>h1 (he.1 h).1).symm
theorem eqF {P:Program}:∀(d e:Nat) (t:TypeId) (ks:List Bool),leafK P d t=some ks→EqOk P (d+e) t ks
  | 0,_,t,ks,hk=>by simp[leafK] at hk
  | d + 1, e, t, ks, hk => by
    intro w xs ys hx hy;unfold leafK at hk;rw[show d+1+e=(d+e)+1 by omega];cases hu:P.underlying t with
    | none=>simp[hu] at hk
    | some k =>
      cases k<;>simp only[hu] at hk<;>try (cases hk;done)
      case bool=>
        cases hk;obtain⟨u,rfl,h1,e1⟩:=valF_leaf (.inl ⟨hu,rfl⟩) hx;obtain⟨v,rfl,h2,e2⟩:=valF_leaf (.inl ⟨hu,rfl⟩) hy;rw[e1,e2];cases u<;>simp only[leafB,Bool.false_eq_true] at h1
        cases v<;>simp only[leafB,Bool.false_eq_true] at h2
        rw[run_equalIn_bool' w _ _ _ _ hu]
        congr 1
        rename_i a b;cases a<;>cases b<;>first | exact(eqv_self _).symm | exact(eqv_ne (by simp)).symm
      case int q=>
        split at hk<;>cases hk
        obtain⟨u,rfl,h1,e1⟩:=valF_leaf (.inr ⟨⟨q,hu⟩,rfl⟩) hx;obtain⟨v,rfl,h2,e2⟩:=valF_leaf (.inr ⟨⟨q,hu⟩,rfl⟩) hy;rw[e1,e2];unfold leafB at h1 h2
        split at h1<;>simp_all
        split at h2<;>simp_all
        rw[run_equalIn_int w _ _ _ _ _ _ hu]
        congr 1
        rename_i a b _;exact Bool.eq_iff_iff.2 (by rw[eqv_iff];simp)
      case struct fs=>
        split at hk
        · cases hk
        · rename_i hst
          have hfs:P.fieldsOf t=fs:=by simp[Program.fieldsOf,hu]
          have hv:∀zs,valF P t zs=.agg zs.toArray:=fun zs=>by simp[valF,hu]
          rw[hv,hv,run_equalIn_struct w (d+e) t _ _ (by rw[hfs];exact hu) (by simpa using hst),hfs];have:=eqFieldsF (d+e) d (fun t ks h=>eqF d e t ks h) fs.toList 0 ks hk w xs ys (by simpa using hx) (by simpa using hy)
          simpa using this
      case array n el=>
        split at hk
        · rename_i k1 hk1
          split at hk
          · rename_i hs
            cases hk;obtain⟨i,hi,hsz⟩:=Option.map_eq_some_iff.1 hs;have hv:∀zs,valF P t zs=.agg zs.toArray:=fun zs=>by simp[valF,hu]
            have hco:P.cellsOf el=k1.length:=by simp[Program.cellsOf,hi,hsz]
            rw[hv,hv,run_equalIn_array w (d+e) _ _ hu hi,hco,List.range_eq_range'];have:=eqItemsF (d+e) hk1 hs (eqF d e el k1 hk1) n 0 w xs ys (by simpa using hx) (by simpa using hy)
            simpa using this
          · cases hk
        · cases hk
section
variable {P:Program} {r:Option Nat} {S:World→Prop} {ρ:Env} {dst:Option Tmp} {ty:TypeId} {pos:String} {af:Array Edge} {g:Option (Nat×Bool)} {t t2:TypeId} {x y:Operand}
theorem run_eqA {w:World} {xs ys:List Value} {ks:List Bool} (hk:leafK P 10 t=some ks) (hm:P.eqGuardType P.depth t=false) (ha:∀cs,valF P t cs=.agg cs.toArray) (hx:evo ρ x=.agg xs.toArray) (hy:evo ρ y=.agg ys.toArray) (h1:leavesB ks xs=true) (h2:leavesB ks ys=true):
    (execOp (evo ρ) ⟨dst,.binOp .eql t x y t2,ty,pos,af,g⟩).run P w=.ok (.value (.bool (eqv xs ys))) w:=by
  have h:=eqF 10 9990 t ks hk w xs ys h1 h2;rw[ha,ha] at h;have h3:=run_eql_struct (P:=P) w t xs.toArray ys.toArray;rw[h] at h3;simp only[execOp,Sem.run_bind,hx,hy,run_eqGuard_agg w .eql t x y _ _ hm,h3,Sem.run_pure,Result.andThen]
theorem run_neA {w:World} {xs ys:List Value} {ks:List Bool} (hk:leafK P 10 t=some ks) (hm:P.eqGuardType P.depth t=false) (ha:∀cs,valF P t cs=.agg cs.toArray) (hx:evo ρ x=.agg xs.toArray) (hy:evo ρ y=.agg ys.toArray) (h1:leavesB ks xs=true) (h2:leavesB ks ys=true):
    (execOp (evo ρ) ⟨dst,.binOp .neq t x y t2,ty,pos,af,g⟩).run P w=.ok (.value (.bool (!eqv xs ys))) w:=by
  have h:=eqF 10 9990 t ks hk w xs ys h1 h2;rw[ha,ha] at h;have h3:=run_neq_struct (P:=P) w t xs.toArray ys.toArray;rw[h] at h3;simp only[execOp,Sem.run_bind,hx,hy,run_eqGuard_agg w .neq t x y _ _ hm,h3,Sem.run_pure,Result.andThen]
theorem v_eqA {xs ys:List Value} {ks:List Bool} (hk:leafK P 10 t=some ks) (hm:P.eqGuardType P.depth t=false) (ha:∀cs,valF P t cs=.agg cs.toArray) (hx:evo ρ x=.agg xs.toArray) (hy:evo ρ y=.agg ys.toArray) (h1:leavesB ks xs=true) (h2:leavesB ks ys=true):
    OpV P S ⟨dst,.binOp .eql t x y t2,ty,pos,af,g⟩ ρ (.bool (eqv xs ys)):=v_run fun _ _=>run_eqA hk hm ha hx hy h1 h2
theorem v_neA {xs ys:List Value} {ks:List Bool} (hk:leafK P 10 t=some ks) (hm:P.eqGuardType P.depth t=false) (ha:∀cs,valF P t cs=.agg cs.toArray) (hx:evo ρ x=.agg xs.toArray) (hy:evo ρ y=.agg ys.toArray) (h1:leavesB ks xs=true) (h2:leavesB ks ys=true):
    OpV P S ⟨dst,.binOp .neq t x y t2,ty,pos,af,g⟩ ρ (.bool (!eqv xs ys)):=v_run fun _ _=>run_neA hk hm ha hx hy h1 h2
end
def leafS:List Bool:=List.replicate 45 true++[false,true,false,true,true,true,false,false,true,true]
theorem leafS_at:∀j,j<55→leafS[j]?=some (!isBit j):=by decide
theorem SOk.of_leaves {cs:List Value} (h:leavesB leafS cs=true):SOk cs:=by
  have hl:=leavesB_len h;have hget:∀(ks:List Bool) (cs:List Value),leavesB ks cs=true→∀(i:Nat) (k:Bool),ks[i]?=some k→∃v,cs[i]?=some v∧leafB k v=true:=by
    intro ks;induction ks with
    | nil=>intro cs _ i k hk;simp at hk
    | cons k0 ks ih =>
      intro cs h i k hk;cases cs with
      | nil=>simp[leavesB] at h
      | cons v vs =>
        simp only[leavesB,Bool.and_eq_true] at h;cases i with
        | zero=>cases hk;exact⟨v,rfl,h.1⟩
        | succ i=>exact ih vs h.2 i k (by simpa using hk)
  refine⟨hl,fun j hj hb=>?_,fun j hj hb=>?_⟩
  · obtain ⟨v, hv, hv2⟩ := hget _ _ h j _ (leafS_at j hj)
    rw[hb] at hv2;unfold leafB at hv2
    split at hv2<;>simp_all [val,num01,List.getD_eq_getElem?_getD]
  · obtain ⟨v, hv, hv2⟩ := hget _ _ h j _ (leafS_at j hj)
    rw[hb] at hv2;unfold leafB at hv2
    split at hv2<;>simp_all [bval,List.getD_eq_getElem?_getD]
abbrev actC (a:Act (List Value)):List Value:=.int .i64 a.k::.int .i64 a.a::.int .i64 a.b::.int .i64 a.c::a.sty
theorem both_ct (tp mb:Nat) (es:List PE) (hk:LOk es) {d:Int→Nat} (hF:WF (FoR es) d) (rp g bc:Nat) (bs:List RB) (hkr:ROk bs) (hab:absR bs=FoR es) (a:Act (List Value)) (hs:SOk a.sty):
    Ct Tryz.prog 54 #[.pointer (some ⟨tp,0,none⟩),.pointer (some ⟨rp,0,none⟩),.agg (actC a).toArray] [treeI tp mb es,refI rp g bc bs] (fun _=>True) (X:=List PE×Nat×Nat×List RB) (fun _=>.bool true)
      (fun p=>FoR p.1=actR zeroS validB (FoR es) a∧LOk p.1∧absR p.2.2.2=FoR p.1∧ROk p.2.2.2) (fun p=>[treeI tp mb p.1,refI rp p.2.1 p.2.2.1 p.2.2.2]):=by
  obtain⟨ak,aa,ab,ac,sty⟩:=a;simp only at hs;have hFr:WF (absR bs) d:=by rw[hab];exact hF
  refine Ci fun w0 _=>?_;refine gg ?_;refine WPL.ef (xB (us:=actC ⟨ak,aa,ab,ac,sty⟩)) fun b5=>?_;refine av ?_;refine nl (oo ?_);refine sq ?_;refine sqR ?_
  iterate 2 refine av ?_
  refine vl (v_rem rfl rfl (by decide)) ?_;refine gg ?_;refine WP.condP rfl (fun h22=>?_) (fun h22=>?_)
  ·have hr:actR zeroS validB (FoR es) ⟨ak,aa,ab,ac,sty⟩=(remR (FoR es) aa).1:=by rw[actR,if_pos h22]
   refine gg ?_;refine eF (xC (remove_ct tp mb es hk hF aa)) fun es1 hf=>?_;refine mv rfl ?_;refine gg ?_;refine eF (xC (rremove_ct rp g bc bs hkr hFr aa)) fun bs1 hf2=>?_;refine mv rfl ?_
   iterate 4 refine av ?_
   refine nl (oo ?_);refine sqR ?_
   iterate 2 refine av ?_
   refine vl (v_is (b:=true) (v_eql rfl rfl) (decide_eq_true (by rw[hab]))) ?_;refine av ?_
   iterate 2 refine ag ?_
   refine vg (v_is (b:=true) (v_eql rfl rfl) (decide_eq_true (by rw[hab]))) ?_;refine gg ?_;exact rt1 fun w hw=>⟨(es1,g,bc,bs1),rfl,⟨by rw[hr];exact hf.1,hf.2,by dsimp only;rw[hf.1,hf2.1,hab],hf2.2⟩,hw.pk⟩
  ·refine gg ?_;refine WP.condP rfl (fun h46=>?_) (fun h46=>?_)
   ·have hr:actR zeroS validB (FoR es) ⟨ak,aa,ab,ac,sty⟩=(movR (FoR es) aa ab ac).1:=by rw[actR,if_neg h22,if_pos h46]
    refine gg ?_;refine eF (xC (move_ct tp mb es hk hF aa ab ac)) fun es1 hf=>?_;refine gg ?_;refine eF (xC (rmove_ct rp g bc bs hkr hFr aa ab ac)) fun bs1 hf2=>?_;refine av ?_;refine nl (oo ?_);refine sqR ?_
    iterate 2 refine av ?_
    refine vl (v_is (b:=true) (v_eql rfl rfl) (decide_eq_true (by rw[hab]))) ?_;refine gg ?_;exact rt1 fun w hw=>⟨(es1,g,bc,bs1),rfl,⟨by rw[hr];exact hf.1,hf.2,by dsimp only;rw[hf.1,hf2.1,hab],hf2.2⟩,hw.pk⟩
   ·refine gg ?_;refine WP.condP rfl (fun h67=>?_) (fun h67=>?_)
    ·have hr:actR zeroS validB (FoR es) ⟨ak,aa,ab,ac,sty⟩=(setR validB (FoR es) aa sty).1:=by rw[actR,if_neg h22,if_neg h46,if_pos h67]
     refine sqR ?_
     iterate 4 refine av ?_
     refine vl (v_loadA (cs:=sty) Tryz.isAgg42 Tryz.sizeOf42 rfl (fun w hw=>hw.cl_at (i:=2) rfl 4 (by show List.take _ sty=_;exact List.take_of_length_le (Nat.le_refl _))) hs.len) ?_;refine eF (xC (set_ct tp mb es hk aa sty hs)) fun es1 hf=>?_;refine av ?_;refine nl (oo ?_);refine sqR ?_
     iterate 4 refine av ?_
     refine vl (v_loadA (cs:=sty) Tryz.isAgg42 Tryz.sizeOf42 rfl (fun w hw=>hw.cl_at (i:=1) rfl 4 (by show List.take _ sty=_;exact List.take_of_length_le (Nat.le_refl _))) hs.len) ?_;refine eF (xC (rset_ct rp g bc bs hkr aa sty hs)) fun bs1 hf2=>?_;refine av ?_;refine nl (oo ?_);refine sqR ?_
     iterate 2 refine av ?_
     refine vl (v_is (b:=true) (v_eql rfl rfl) (decide_eq_true (by rw[hab]))) ?_;refine gg ?_;exact rt1 fun w hw=>⟨(es1,g,bc,bs1),rfl,⟨by rw[hr];exact hf.1,hf.2,by dsimp only;rw[hf.1,hf2.1,hab],hf2.2⟩,hw.pk⟩
    ·have hr:actR zeroS validB (FoR es) ⟨ak,aa,ab,ac,sty⟩=(addR zeroS (FoR es) aa ab).1:=by rw[actR,if_neg h22,if_neg h46,if_neg h67]
     refine gg ?_;refine eF (xC (add_ct tp mb es hk hF aa ab)) fun es1 hf=>?_;refine mv rfl ?_;refine gg ?_;refine eF (xC (radd_ct rp g bc bs hkr hFr aa ab)) fun⟨g',bc',bs1⟩ hf2=>?_;refine mv rfl ?_
     iterate 4 refine av ?_
     refine nl (oo ?_);refine sqR ?_
     iterate 2 refine av ?_
     refine vl (v_is (b:=true) (v_eql rfl rfl) (decide_eq_true (by rw[hab]))) ?_;refine av ?_
     iterate 2 refine ag ?_
     refine vg (v_is (b:=true) (v_eql rfl rfl) (decide_eq_true (by rw[hab]))) ?_;refine gg ?_;exact rt1 fun w hw=>⟨(es1,g',bc',bs1),rfl,⟨by rw[hr];exact hf.1,hf.2,by dsimp only;rw[hf.1,hf2.1,hab],hf2.2⟩,hw.pk⟩
end Go.Proofs.YtbedndijejpcaaaGreat
namespace Go.Proofs.YtbedndijejpcaaaGreat
open Go.RowKit
def wgt (x:Int):Int:=max 0 (min x 1073741824)
def psum (w:List Int) (k:Nat):Int:=((w.take k).map wgt).sum
def psums (w:List Int) (k:Nat):List Int:=(List.range (w.length+1)).map fun j=>if j≤k then psum w j else 0
theorem psum_zero (w:List Int):psum w 0=0:=by simp[psum]
theorem psum_succ (w:List Int) (k:Nat) (x:Int) (h:w[k]?=some x):psum w (k+1)=psum w k+wgt x:=by
  have hk:k<w.length:=(List.getElem?_eq_some_iff.1 h).1;have e:w[k]=x:=by simpa [List.getElem?_eq_getElem hk] using h
  unfold psum;rw[List.take_succ_eq_append_getElem hk,e];simp
theorem wgt_bd (x:Int):0≤wgt x∧wgt x≤1073741824:=by unfold wgt;omega
theorem psum_bd (w:List Int) (k:Nat):0≤psum w k∧psum w k≤k*1073741824:=by
  unfold psum;induction w generalizing k with
  | nil=>simp;omega
  | cons x w ih =>
    cases k with
    | zero=>simp
    | succ k=>have:=ih k;have:=wgt_bd x;simp only[List.take_succ_cons,List.map_cons,List.sum_cons];omega
theorem psums_length (w:List Int) (k:Nat):(psums w k).length=w.length+1:=by simp[psums]
theorem psums_get (w:List Int) (k j:Nat) (hj:j≤w.length):(psums w k)[j]?=some (if j≤k then psum w j else 0):=by
  simp[psums,show j<w.length+1 by omega]
theorem psums_zero (w:List Int):psums w 0=List.replicate (w.length+1) 0:=by
  apply List.ext_getElem?;intro j
  by_cases hj:j≤w.length
  · rw [psums_get w 0 j hj, List.getElem?_replicate, if_pos (show j < w.length + 1 by omega)]
    by_cases h0:j=0
    · subst h0;simp[psum_zero]
    · rw[if_neg (by omega)]
  · rw[List.getElem?_eq_none (by rw[psums_length];omega),List.getElem?_eq_none (by simp;omega)]
theorem psums_succ (w:List Int) (k:Nat) (x:Int) (h:w[k]?=some x):(psums w k).set (k+1) (psum w k+wgt x)=psums w (k+1):=by
  have hk:k<w.length:=(List.getElem?_eq_some_iff.1 h).1;apply List.ext_getElem?;intro j;rw[List.getElem?_set]
  by_cases hj:j≤w.length
  · rw [psums_get w (k + 1) j hj, psums_length]
    by_cases e:k+1=j
    · subst e;rw[if_pos rfl,if_pos (by omega),if_pos (by omega),psum_succ w k x h]
    · rw [if_neg e, psums_get w k j hj]
      by_cases h2:j≤k
      · rw[if_pos h2,if_pos (by omega)]
      · rw[if_neg h2,if_neg (by omega)]
  · have hn : ∀ q, (psums w q)[j]? = none := fun q => List.getElem?_eq_none (by rw [psums_length]; omega)
    rw[hn,hn,psums_length]
    by_cases e:k+1=j
    · rw[if_pos e,if_neg (by omega)]
    · rw[if_neg e]
def lot (n:Int):Int:=max 0 (min n 67108864)
theorem lot_bd (n:Int):0≤lot n∧lot n≤67108864:=by unfold lot;omega
def wholeF (w:List Int):Int:=max (psum w w.length) 1
def pmark (n:Int) (w:List Int) (k:Nat):Int:=lot n*psum w k / wholeF w
def share (n:Int) (w:List Int):List Int:=(List.range w.length).map fun k=>pmark n w (k+1) - pmark n w k
def shares (n:Int) (w:List Int) (k:Nat):List Int:=(List.range w.length).map fun j=>if j<k then pmark n w (j+1) - pmark n w j else 0
theorem psums_at (w:List Int) (k j:Nat) (hj:j≤w.length) (hk:j≤k):((psums w k).map (Value.int .i64))[j]?=some (.int .i64 (psum w j)):=by
  rw[List.getElem?_map,psums_get w k j hj,if_pos hk];rfl
theorem clamp_lot (n:Int):clamp n 0 67108864=lot n:=by rw[clamp_in (by omega) (by omega) (by omega)];rfl
theorem clamp_wgt (n:Int):clamp n 0 1073741824=wgt n:=by rw[clamp_in (by omega) (by omega) (by omega)];rfl
theorem shares_length (n:Int) (w:List Int) (k:Nat):(shares n w k).length=w.length:=by simp[shares]
theorem share_length (n:Int) (w:List Int):(share n w).length=w.length:=by simp[share]
theorem shares_zero (n:Int) (w:List Int):shares n w 0=List.replicate w.length 0:=by
  apply List.ext_getElem?;intro j
  by_cases hj:j<w.length
  · simp[shares,hj]
  · simp[shares,hj]
theorem shares_all (n:Int) (w:List Int):shares n w w.length=share n w:=by
  unfold shares share;apply List.map_congr_left;intro j hj;rw[if_pos (by simpa using hj)]
theorem shares_succ (n:Int) (w:List Int) (k:Nat) (h:k<w.length):(shares n w k).set k (pmark n w (k+1) - pmark n w k)=shares n w (k+1):=by
  apply List.ext_getElem?;intro j;rw[List.getElem?_set]
  by_cases hj:j<w.length
  · simp only [shares, List.length_map, List.length_range, List.getElem?_map, List.getElem?_range hj, Option.map_some]
    by_cases e:k=j
    · subst e;simp[h]
    · rw [if_neg e]
      by_cases h2:j<k
      · simp[h2,show j<k+1 by omega]
      · simp[h2,show ¬j<k+1 by omega]
  · simp [shares, hj]
    omega
theorem lot_mul (n:Int) (w:List Int) (k:Nat) (hl:w.length≤64) (hk:k≤w.length):0≤lot n*psum w k∧lot n*psum w k≤4611686018427387904:=by
  have h1:=lot_bd n;have h2:=psum_bd w k;have h3:psum w k≤68719476736:=by omega
  refine⟨Int.mul_nonneg h1.1 h2.1,?_⟩;have:=Int.mul_le_mul h1.2 h3 h2.1 (by omega);omega
theorem pmark_bd (n:Int) (w:List Int) (k:Nat) (hl:w.length≤64) (hk:k≤w.length):0≤pmark n w k∧pmark n w k≤4611686018427387904:=by
  have h1:=lot_mul n w k hl hk;have h2:0≤wholeF w:=by unfold wholeF;omega
  exact⟨Int.ediv_nonneg h1.1 h2,Int.le_trans (Int.ediv_le_self _ h1.1) h1.2⟩
theorem psum_mono (w:List Int) (k:Nat):psum w k≤psum w (k+1):=by
  by_cases hk:k<w.length
  · rw[psum_succ w k _ (List.getElem?_eq_getElem hk)];have:=wgt_bd w[k];omega
  · unfold psum;rw[List.take_of_length_le (by omega),List.take_of_length_le (by omega)];exact Int.le_refl _
theorem psum_le (w:List Int) (k d:Nat):psum w k≤psum w (k+d):=by
  induction d with
  | zero=>exact Int.le_refl _
  | succ d ih=>have:=psum_mono w (k+d);rw[←Nat.add_assoc];omega
theorem psum_all (w:List Int) (k:Nat):psum w k≤psum w w.length:=by
  by_cases hk:k≤w.length
  · have:=psum_le w k (w.length - k);rwa [show k+(w.length - k)=w.length by omega] at this
  · unfold psum;rw[List.take_of_length_le (by omega),List.take_of_length_le (Nat.le_refl _)];exact Int.le_refl _
end Go.Proofs.YtbedndijejpcaaaGreat
