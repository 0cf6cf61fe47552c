/- PlB PaintMem PaintQ -/
import Derived.Test.YtbedndijejpcaaaGreatH25
set_option linter.unusedVariables false
set_option linter.unusedSimpArgs false
set_option linter.unusedSectionVars false
set_option maxRecDepth 100000
set_option maxHeartbeats 8000000
namespace Go.Proofs.YtbedndijejpcaaaGreat
open Go.RowKit
abbrev Df (tp mp om sb:Nat) (win:Rc):List Value:=[.pointer (some ⟨tp,0,none⟩),.map (some mp),.map (some om),.int .i64 win.x,.int .i64 win.y,.int .i64 win.w,.int .i64 win.h,.map (some sb)]
section
variable (tp mb mp om sb sc:Nat) (es:List PE) (m ol sm:List (Int×Value)) (g:Int→Option Rc) (o:Int→Pt) (win:Rc) (S:Int→Bj)
variable (hk:eG es) {d:Int→Nat} (hF:WF (ae es) d) (hg:∀x,GS (ah (ae es) x)) (hm:RM (ae es) m g) (ho:OM ol o)
include hk hF hg hm ho in
theorem Jf (x:Int):Ct Tryz.prog 115 #[.pointer (some ⟨sc,0,none⟩),.int .i64 x] [al tp mb es,aP mp m,aP om ol,aP sb sm,.cl sc 128 (Df tp mp om sb win)] (fun _=>True) (X:=Unit) (fun _=>cJ (gh (ae es) g o x).1 (gh (ae es) g o x).2) (fun _=>True) (fun _=>[al tp mb es,aP mp m,aP om ol,aP sb sm,.cl sc 128 (Df tp mp om sb win)]):=by
  refine Ci fun w0 _=>?_;refine gv ?_;refine sg rfl ?_;refine gg ?_;refine wP none [2,3,4] [pT 0,pT 1,pT 2,pT 3,pT 4,pT 5,pT 6,pT 7,pT 8,pT 9,pT 10,pT 11,pT 12,pT 13,pT 14,pF 15,pF 16,pF 17,pT 18] ?_;refine cK ?_;refine tE rfl (ai (u:=.map _) Tryz.isAgg61 rfl (fun w hw=>hw.aq (i:=2) rfl _ rfl)) ?_;refine ad ?_;refine tE rfl (mO (fu (m:=ol) (k:=x) (z:=cJ 0 0) Tryz.underlying61 Tryz.underlying3 Tryz.zeroValue55 rfl rfl (fun w hw=>hw.fC (i:=0) rfl)) (v':=cJ (o x).1 (o x).2) (ho x).1) ?_;refine qa ?_;refine tE rfl (ai (u:=.map _) Tryz.isAgg47 rfl (fun w hw=>hw.aq (i:=2) rfl _ rfl)) ?_;refine gg ?_;refine dG (xC (Jc tp mb mp es m g hk hF hm x)) fun _ _=>?_;refine dG (xC (Ej (o x) (0,0) (gW (ae es) g x) (ho x).2 rI (Jo x))) fun _ _=>?_;refine dG (xC (JO (0,0) (jm (o x) (0,0) (gW (ae es) g x)) rI (Ef _ _ _))) fun _ _=>?_;refine tE rfl (dB (v:=cJ _ _) rfl) ?_;refine gg ?_;exact aT fun w hw=>⟨(),rfl,trivial,hw.pk⟩
include hk hF hg hm ho in
theorem D7 (x:Int) (hx:aK (ae es) x=true) (h1:0≤bD (ae es) x→(lookM sm (bD (ae es) x)).getD iD.v=(S (bD (ae es) x)).v):Ct Tryz.prog 158 #[.pointer (some ⟨sc,0,none⟩),.int .i64 x] [al tp mb es,aP mp m,aP om ol,aP sb sm,.cl sc 128 (Df tp mp om sb win)] (fun _=>True) (X:=Unit) (fun _=>(iY (ae es) win S x).v) (fun _=>True) (fun _=>[al tp mb es,aP mp m,aP om ol,aP sb sm,.cl sc 128 (Df tp mp om sb win)]):=by
  refine Ci fun w0 _=>?_;refine gg ?_;refine aj.ef cg fun b4=>?_;refine gg ?_;refine eF (xC (yO tp mb es hk hF x hx)) fun _ _=>?_;refine gg ?_;refine WP.aw rfl (fun h13=>?_) (fun h13=>?_)
  ·have hr1:iY (ae es) win S x=win:=if_pos h13;refine gg ?_;refine aj.aX (xW rfl) fun _=>?_;refine gg ?_;exact jf rfl fun w hw=>⟨(),by rw[hr1],trivial,hw.pk⟩
  ·have hr1:iY (ae es) win S x=j1 (S (bD (ae es) x)).r (ah (ae es) (bD (ae es) x)):=if_neg h13;refine gg ?_;refine wP (some 14) [0,1,2,3,4] [pT 0,pT 1,pT 2,pT 3,pT 4,pT 5,pT 6,pT 7,pT 8,pT 9,pT 10,pT 11,pF 12,pF 13,pF 14] ?_;refine cK ?_;refine tE rfl (ai (u:=.map _) Tryz.isAgg59 rfl (fun w hw=>hw.aq (i:=3) rfl _ rfl)) ?_;refine ad ?_;refine tE rfl (mO (fu (m:=sm) (k:=(bD (ae es) x)) (z:=iD.v) Tryz.underlying59 Tryz.underlying3 Tryz.zeroValue63 rfl rfl (fun w hw=>hw.fC (i:=2) rfl)) (v':=(S (bD (ae es) x)).v) (h1 (by omega))) ?_;refine tE rfl (j3 (us:=#[_,_,_,_]) Tryz.underlying63 rfl Tryz.isAgg52 Tryz.sizeOf52 rfl rfl) ?_;refine gg ?_;refine dG (xC (a6 tp mb es hk (bD (ae es) x))) fun _ _=>?_;refine dG (xC (wT (S (bD (ae es) x)).r (ah (ae es) (bD (ae es) x)) (hk.aE (bD (ae es) x)))) fun _ _=>?_;refine uz (xW rfl) fun _=>?_;refine gg ?_;exact jf rfl fun w hw=>⟨(),by rw[hr1],trivial,hw.pk⟩
include hk hF hg hm ho in
theorem F0 (x:Int) (hx:aK (ae es) x=true) (h1:0≤bD (ae es) x→(lookM sm (bD (ae es) x)).getD iD.v=(S (bD (ae es) x)).v) (h2:(lookM sm (upF (ae es) x)).getD iD.v=(S (upF (ae es) x)).v) (r:Rc) (b:Pt) (hb:PB b):Ct Tryz.prog 117 #[.pointer (some ⟨sc,0,none⟩),.int .i64 x,r.v,cJ b.1 b.2] [al tp mb es,aP mp m,aP om ol,aP sb sm,.cl sc 128 (Df tp mp om sb win)] (fun _=>True) (X:=Unit) (fun _=>cJ (qo (ae es) win S x r b).1 (qo (ae es) win S x r b).2) (fun _=>True) (fun _=>[al tp mb es,aP mp m,aP om ol,aP sb sm,.cl sc 128 (Df tp mp om sb win)]):=by
  refine Ci fun w0 _=>?_;refine gg ?_;refine aj.ef xB fun b6=>?_;refine sg rfl ?_;refine gg ?_;refine eF (xC (mm tp mb es hk x)) fun _ _=>?_;refine gg ?_;refine wG [0,1,2,3,4] ?_;refine aG 0 ?_;refine aG 1 ?_;refine aG 2 ?_;refine tG 3 rfl (ai (u:=.map _) Tryz.isAgg59 rfl (fun w hw=>hw.aq (i:=3) rfl _ rfl)) ?_;refine aG 4 ?_;refine tG 5 rfl (mO (fu (m:=sm) (k:=(upF (ae es) x)) (z:=iD.v) Tryz.underlying59 Tryz.underlying3 Tryz.zeroValue63 rfl rfl (fun w hw=>hw.fC (i:=2) rfl)) (v':=(S (upF (ae es) x)).v) h2) ?_;refine tG 6 rfl (j3 (us:=#[_,_,_,_]) Tryz.underlying63 rfl Tryz.isAgg52 Tryz.sizeOf52 rfl rfl) ?_;refine aG 7 ?_;refine aG 8 ?_;refine aG 9 ?_;refine aG 10 ?_;refine aG 11 ?_;refine tG 15 rfl (aC (v:=cJ _ _) rfl) ?_;refine fK 12 17 ?_ ?_
  case' _=>
   refine fF (xC (a6 tp mb es hk (upF (ae es) x))) fun _ _=>?_;refine fK 13 17 ?_ ?_
   case' _=>
    refine fF (xC (dg _ (hk.aE (upF (ae es) x)) (hg (upF (ae es) x)).iW)) fun _ _=>?_;refine fK 14 17 ?_ ?_
    case' _=>
     refine fF (xC (kM (S (upF (ae es) x)).r (eS (ah (ae es) (upF (ae es) x)) 0) (eS (ah (ae es) (upF (ae es) x)) 1) (eS (ah (ae es) (upF (ae es) x)) 2) (eS (ah (ae es) (upF (ae es) x)) 3))) fun _ _=>?_;refine fK 16 17 ?_ ?_
     case' _=>
      refine fF (xC (fG (nX (S (upF (ae es) x)).r (ah (ae es) (upF (ae es) x))) b hb)) fun _ _=>?_;refine fO 17 ?_;refine fE cg fun b10=>?_
     rotate_left
     case' _=>
      refine fE cg fun b10=>?_;refine fO 16 ?_;refine fF (xC (fG (nX (S (upF (ae es) x)).r (ah (ae es) (upF (ae es) x))) b hb)) fun _ _=>?_
    rotate_left 2
    case' _=>
     refine fE cg fun b10=>?_;refine fO 14 ?_;refine fF (xC (kM (S (upF (ae es) x)).r (eS (ah (ae es) (upF (ae es) x)) 0) (eS (ah (ae es) (upF (ae es) x)) 1) (eS (ah (ae es) (upF (ae es) x)) 2) (eS (ah (ae es) (upF (ae es) x)) 3))) fun _ _=>?_;refine fO 16 ?_;refine fF (xC (fG (nX (S (upF (ae es) x)).r (ah (ae es) (upF (ae es) x))) b hb)) fun _ _=>?_
   rotate_left 3
   case' _=>
    refine fE cg fun b10=>?_;refine fO 13 ?_;refine fF (xC (dg _ (hk.aE (upF (ae es) x)) (hg (upF (ae es) x)).iW)) fun _ _=>?_;refine fO 14 ?_;refine fF (xC (kM (S (upF (ae es) x)).r (eS (ah (ae es) (upF (ae es) x)) 0) (eS (ah (ae es) (upF (ae es) x)) 1) (eS (ah (ae es) (upF (ae es) x)) 2) (eS (ah (ae es) (upF (ae es) x)) 3))) fun _ _=>?_;refine fO 16 ?_;refine fF (xC (fG (nX (S (upF (ae es) x)).r (ah (ae es) (upF (ae es) x))) b hb)) fun _ _=>?_
  rotate_left 4
  case' _=>
   refine fE cg fun b10=>?_;refine fO 12 ?_;refine fF (xC (a6 tp mb es hk (upF (ae es) x))) fun _ _=>?_;refine fO 13 ?_;refine fF (xC (dg _ (hk.aE (upF (ae es) x)) (hg (upF (ae es) x)).iW)) fun _ _=>?_;refine fO 14 ?_;refine fF (xC (kM (S (upF (ae es) x)).r (eS (ah (ae es) (upF (ae es) x)) 0) (eS (ah (ae es) (upF (ae es) x)) 1) (eS (ah (ae es) (upF (ae es) x)) 2) (eS (ah (ae es) (upF (ae es) x)) 3))) fun _ _=>?_;refine fO 16 ?_;refine fF (xC (fG (nX (S (upF (ae es) x)).r (ah (ae es) (upF (ae es) x))) b hb)) fun _ _=>?_
  all_goals
   refine fO 18 ?_;refine nF (xW rfl) fun _=>?_;refine fN (oo ?_);refine gg ?_;refine eF (xC (D7 tp mb mp om sb sc es m ol sm g o win S hk hF hg hm ho x hx h1)) fun _ _=>?_;refine aj.ef cg fun b11=>?_;refine aj.aX (xW rfl) fun _=>?_;refine gg ?_;refine wP none [0,1,3,4,5,6,7] [pT 0,pT 1,pT 2,pT 3,pT 4,pT 5,pT 6,pT 7,pT 10,pT 11,pT 12,pT 13,pF 8,pT 9,pF 14,pF 15,pT 16] ?_;refine gg ?_;refine dG (xC (a6 tp mb es hk x)) fun _ _=>?_;refine tE rfl (j3 (us:=#[.int .i64 (val (ah (ae es) (x)) 23),.int .i64 (val (ah (ae es) (x)) 24),.int .i64 (val (ah (ae es) (x)) 25),.int .i64 (val (ah (ae es) (x)) 26),.int .i64 (val (ah (ae es) (x)) 27),.int .i64 (val (ah (ae es) (x)) 28),.int .i64 (val (ah (ae es) (x)) 29),.int .i64 (val (ah (ae es) (x)) 30)]) Tryz.underlying42 rfl Tryz.isAgg34 Tryz.sizeOf34 rfl (BD (by have h:=bZ.seg (hk.aE (x)) 8 23 (by decide) rfl;exact h))) ?_;refine dG (xC (Et (val (ah (ae es) x) 23) (val (ah (ae es) x) 24) (val (ah (ae es) x) 25) (val (ah (ae es) x) 26) (val (ah (ae es) x) 27) (val (ah (ae es) x) 28) (val (ah (ae es) x) 29) (val (ah (ae es) x) 30) (iY (ae es) win S x).w (iY (ae es) win S x).h)) fun _ _=>?_;refine dG (xC (Gg r (l0 (nX (S (upF (ae es) x)).r (ah (ae es) (upF (ae es) x))) b) (iY (ae es) win S x) (q9 (ah (ae es) x) 0 (iY (ae es) win S x).h) (q9 (ah (ae es) x) 1 (iY (ae es) win S x).w) (q9 (ah (ae es) x) 2 (iY (ae es) win S x).h) (q9 (ah (ae es) x) 3 (iY (ae es) win S x).w))) fun _ _=>?_;refine tE rfl (dB (v:=cJ _ _) rfl) ?_;refine gg ?_;exact aT fun w hw=>⟨(),rfl,trivial,hw.pk⟩
include hk hF hg hm ho in
theorem IY (x:Int) (hx:aK (ae es) x=true) (h1:0≤bD (ae es) x→(lookM sm (bD (ae es) x)).getD iD.v=(S (bD (ae es) x)).v) (h2:x≠0→(lookM sm (upF (ae es) x)).getD iD.v=(S (upF (ae es) x)).v):Ct Tryz.prog 69 #[.pointer (some ⟨sc,0,none⟩),.int .i64 x] [al tp mb es,aP mp m,aP om ol,aP sb sm,.cl sc 128 (Df tp mp om sb win)] (fun _=>True) (X:=Unit) (fun _=>(lW (ae es) g o win S x ((g x).getD zR)).v) (fun _=>True) (fun _=>[al tp mb es,aP mp m,aP om ol,aP sb sm,.cl sc 128 (Df tp mp om sb win)]):=by
  refine Ci fun w0 _=>?_;refine gg ?_;refine aj.ef cg fun b4=>?_;refine gg ?_;refine eF (xC (a6 tp mb es hk x)) fun _ _=>?_;refine aj.ef cg fun b5=>?_;refine aj.aX (xZ (hk.aE (x)) rfl) fun _=>?_;refine gg ?_;refine wP (some 12) [0,1,2,3,4,5,6] [pT 0,pT 1,pT 2,pT 3,pT 4,pT 5,pT 6,pT 7,pT 8,pT 9,pT 10,pF 11,pF 12] ?_;refine cK ?_;refine tE rfl (ai (u:=.map _) Tryz.isAgg47 rfl (fun w hw=>hw.aq (i:=3) rfl _ rfl)) ?_;refine ad ?_;refine tE rfl (mO (fu (m:=m) (k:=x) (z:=zR.v) Tryz.underlying47 Tryz.underlying3 Tryz.zeroValue52 rfl rfl (fun w hw=>hw.fC (i:=0) rfl)) (v':=((g x).getD zR).v) (hm.val x)) ?_;refine bS ?_;refine tE rfl (aV (us:=[.int .i64 _,.int .i64 _,.int .i64 _,.int .i64 _,.int .i64 _,.int .i64 _,.int .i64 _,.int .i64 _]) (pl:=[(0,4),(4,4)]) Tryz.underlying63 Tryz.zeroValue63 rfl (by kernel_rfl) rfl rfl (by kernel_rfl)) ?_;refine dE cg fun b6=>?_;refine uz (xW rfl) fun _=>?_;refine iX ?_;refine aj.split 30 rfl (fun h30=>?_) (fun h30=>?_)
  ·refine gg ?_;have hr1:lW (ae es) g o win S x ((g x).getD zR)=⟨((g x).getD zR),win⟩:=if_pos (.inl h30);refine WP.aQ rfl ?_;refine eh ?_;refine vl (au (cs:=[.int .i64 _,.int .i64 _,.int .i64 _,.int .i64 _,.int .i64 _,.int .i64 _,.int .i64 _,.int .i64 _]) Tryz.isAgg63 Tryz.sizeOf63 rfl (fun w hw=>hw.aq (i:=7) rfl _ rfl)) ?_;refine aj.aX (ct (us:=[.int .i64 _,.int .i64 _,.int .i64 _,.int .i64 _,.int .i64 _,.int .i64 _,.int .i64 _,.int .i64 _]) (σ':=[_,_,_,_,.cl _ _ [_,_,_,_,_,_,_,_],_,_,_]) Tryz.sizeOf63 rfl rfl (i:=4) rfl rfl rfl (by simp[Value.oneCell'])) (fun _=>?_);refine gg ?_;exact jf rfl fun w hw=>⟨(),by rw[hr1],trivial,hw.pk⟩
  ·refine ag ?_;refine vg (ai (u:=.int .i64 (val (ah (ae es) (x)) 1)) Tryz.isAgg29 rfl (fun w hw=>hw.aq (i:=6) rfl 1 (cell_of (bZ.int (hk.aE (x)) 1 (by decide) rfl)))) ?_;refine vg (dD rfl rfl) ?_;refine vl (eM (v:=.bool _) rfl rfl) ?_;refine nl (oo ?_);refine WP.aw rfl (fun h34=>?_) (fun h34=>?_)
   ·have hr1:lW (ae es) g o win S x ((g x).getD zR)=⟨((g x).getD zR),win⟩:=if_pos (.inr h34);refine eh ?_;refine vl (au (cs:=[.int .i64 _,.int .i64 _,.int .i64 _,.int .i64 _,.int .i64 _,.int .i64 _,.int .i64 _,.int .i64 _]) Tryz.isAgg63 Tryz.sizeOf63 rfl (fun w hw=>hw.aq (i:=7) rfl _ rfl)) ?_;refine aj.aX (ct (us:=[.int .i64 _,.int .i64 _,.int .i64 _,.int .i64 _,.int .i64 _,.int .i64 _,.int .i64 _,.int .i64 _]) (σ':=[_,_,_,_,.cl _ _ [_,_,_,_,_,_,_,_],_,_,_]) Tryz.sizeOf63 rfl rfl (i:=4) rfl rfl rfl (by simp[Value.oneCell'])) (fun _=>?_);refine nl (oo ?_);exact WP.Fp (us:=[_,_,_,_,_,_,_,_]) Tryz.results69 rfl Tryz.isAgg63 Tryz.sizeOf63 (fun w hw=>hw.aq (i:=4) rfl 0 rfl) rfl (fun _ h=>h) (fun w hw=>⟨(),by rw[hr1],trivial,(hw.sel [5,0,1,2,3] (by decide))⟩)
   ·have hn:¬(x=0∨val (ah (ae es) x) 1=3):=by omega
    refine gg ?_;refine eF (xC (mm tp mb es hk x)) fun _ _=>?_;refine bW ?_;refine WP.iU [0,1,4,5,6,7] (X:=Nat×Nat) (fun q=>[(8,.pointer (some ⟨q.1,0,none⟩)),(9,.pointer (some ⟨q.2,0,none⟩))]) (fun q=>fun w=>St w0 (ay [al tp mb es,aP mp m,aP om ol,aP sb sm,.cl sc 128 (Df tp mp om sb win)]) [al tp mb es,aP mp m,aP om ol,aP sb sm,.cl sc 128 (Df tp mp om sb win),.cl b4 63 [.int .i64 0,.int .i64 0,.int .i64 0,.int .i64 0,.int .i64 0,.int .i64 0,.int .i64 0,.int .i64 0],.cl b5 42 (ah (ae es) x),.cl b6 63 [.int .i64 ((g x).getD zR).x,.int .i64 ((g x).getD zR).y,.int .i64 ((g x).getD zR).w,.int .i64 ((g x).getD zR).h,.int .i64 win.x,.int .i64 win.y,.int .i64 win.w,.int .i64 win.h],.cl q.1 63 [.int .i64 (S (upF (ae es) x)).r.x,.int .i64 (S (upF (ae es) x)).r.y,.int .i64 (S (upF (ae es) x)).r.w,.int .i64 (S (upF (ae es) x)).r.h,.int .i64 (S (upF (ae es) x)).c.x,.int .i64 (S (upF (ae es) x)).c.y,.int .i64 (S (upF (ae es) x)).c.w,.int .i64 (S (upF (ae es) x)).c.h],.cl q.2 42 (ah (ae es) (upF (ae es) x))] w) ?_ (fun q ρ0=>?_)
    ·refine wG [0,1,2,3,4,5,6] ?_;refine aG 0 ?_;refine aG 1 ?_;refine aG 2 ?_;refine tG 3 rfl (ai (u:=.map _) Tryz.isAgg59 rfl (fun w hw=>hw.aq (i:=3) rfl _ rfl)) ?_;refine aG 4 ?_;refine tG 5 rfl (mO (fu (m:=sm) (k:=(upF (ae es) x)) (z:=iD.v) Tryz.underlying59 Tryz.underlying3 Tryz.zeroValue63 rfl rfl (fun w hw=>hw.fC (i:=2) rfl)) (v':=(S (upF (ae es) x)).v) (h2 h30)) ?_;refine aG 6 ?_;refine aG 7 ?_;refine aG 8 ?_;refine aG 9 ?_;refine aG 10 ?_;refine dP.ad4 (i:=11) (j:=12) (k:=13) (by kernel_rfl) ?_ ?_ ?_
     ·refine fF (xC (a6 tp mb es hk (upF (ae es) x))) fun _ _=>?_;refine fK 12 13 ?_ ?_
      ·refine fE cg fun b8=>?_;refine fO 13 ?_;refine fE cg fun b9=>?_;refine fO 14 ?_;refine nF (xW rfl) fun _=>?_;refine fO 15 ?_;refine nF (xZ (hk.aE ((upF (ae es) x))) rfl) fun _=>?_;exact dP.nil (by kernel_rfl) fun w hw=>⟨rfl,(b8,b9),⟨rfl,rfl,jP,jI,rfl,rfl,rfl,jI,trivial⟩,hw.pk⟩
      ·refine fE cg fun b9=>?_;refine fO 12 ?_;refine fE cg fun b8=>?_;refine fO 14 ?_;refine nF (xW rfl) fun _=>?_;refine fO 15 ?_;refine nF (xZ (hk.aE ((upF (ae es) x))) rfl) fun _=>?_;exact dP.nil (by kernel_rfl) fun w hw=>⟨rfl,(b8,b9),⟨rfl,rfl,jP,jI,rfl,rfl,rfl,jI,trivial⟩,hw.pk⟩
     ·refine fE cg fun b8=>?_;refine fK 11 13 ?_ ?_
      ·refine fF (xC (a6 tp mb es hk (upF (ae es) x))) fun _ _=>?_;refine fO 13 ?_;refine fE cg fun b9=>?_;refine fO 14 ?_;refine nF (xW rfl) fun _=>?_;refine fO 15 ?_;refine nF (xZ (hk.aE ((upF (ae es) x))) rfl) fun _=>?_;exact dP.nil (by kernel_rfl) fun w hw=>⟨rfl,(b8,b9),⟨rfl,rfl,jP,jI,rfl,rfl,rfl,jI,trivial⟩,hw.pk⟩
      ·refine fE cg fun b9=>?_;refine fO 11 ?_;refine fF (xC (a6 tp mb es hk (upF (ae es) x))) fun _ _=>?_;refine fO 14 ?_;refine nF (xW rfl) fun _=>?_;refine fO 15 ?_;refine nF (xZ (hk.aE ((upF (ae es) x))) rfl) fun _=>?_;exact dP.nil (by kernel_rfl) fun w hw=>⟨rfl,(b8,b9),⟨rfl,rfl,jP,jI,rfl,rfl,rfl,jI,trivial⟩,hw.pk⟩
     ·refine fE cg fun b9=>?_;refine fK 11 12 ?_ ?_
      ·refine fF (xC (a6 tp mb es hk (upF (ae es) x))) fun _ _=>?_;refine fO 12 ?_;refine fE cg fun b8=>?_;refine fO 14 ?_;refine nF (xW rfl) fun _=>?_;refine fO 15 ?_;refine nF (xZ (hk.aE ((upF (ae es) x))) rfl) fun _=>?_;exact dP.nil (by kernel_rfl) fun w hw=>⟨rfl,(b8,b9),⟨rfl,rfl,jP,jI,rfl,rfl,rfl,jI,trivial⟩,hw.pk⟩
      ·refine fE cg fun b8=>?_;refine fO 11 ?_;refine fF (xC (a6 tp mb es hk (upF (ae es) x))) fun _ _=>?_;refine fO 14 ?_;refine nF (xW rfl) fun _=>?_;refine fO 15 ?_;refine nF (xZ (hk.aE ((upF (ae es) x))) rfl) fun _=>?_;exact dP.nil (by kernel_rfl) fun w hw=>⟨rfl,(b8,b9),⟨rfl,rfl,jP,jI,rfl,rfl,rfl,jI,trivial⟩,hw.pk⟩
    ·obtain⟨b8,b9⟩:=q;dsimp only;refine gg ?_;refine eF (xC (Jf tp mb mp om sb sc es m ol sm g o win hk hF hg hm ho (upF (ae es) x))) fun _ _=>?_;refine sg (v:=cJ _ _) rfl ?_;refine gg ?_;refine wP (some 9) [0,1,2,3,4,5,6,7,8,9] [pT 0,pT 1,pT 2,pT 3,pT 6,pF 4,pF 5,pF 7,pT 8,pF 9] ?_;refine bS ?_;refine tE rfl (aC (v:=cJ _ _) rfl) ?_;refine dG (xC (tB (S (upF (ae es) x)).r)) fun _ _=>?_;refine dG (xC (fG ((g x).getD zR) (jy (S (upF (ae es) x)).r) (yT _))) fun _ _=>?_;refine dG (xC (fG (l0 ((g x).getD zR) (jy (S (upF (ae es) x)).r)) (gh (ae es) g o (upF (ae es) x)) (Da _))) fun _ _=>?_;refine gg ?_;refine aB.aX rfl (cy (us:=[.int .i64 _,.int .i64 _,.int .i64 _,.int .i64 _]) (σ':=[_,_,.cl _ _ [_,_,_,_,_,_,_,_],_,_,_,_,_,_,_]) Tryz.sizeOf52 rfl rfl (i:=2) rfl (Nat.le_of_ble_eq_true rfl) rfl (by simp[Value.oneCell'])) (fun h=>absurd rfl h) (fun _=>?_);refine gg ?_;refine aj.aX (cy (us:=[.int .i64 _,.int .i64 _,.int .i64 _,.int .i64 _]) (σ':=[_,_,.cl _ _ [_,_,_,_,_,_,_,_],_,_,_,_,_,_,_]) Tryz.sizeOf52 rfl rfl (i:=2) rfl (Nat.le_of_ble_eq_true rfl) rfl (by simp[Value.oneCell'])) (fun _=>?_);refine gv ?_;refine WP.iU [0,1,4,5,6,10] (X:=Unit) (fun _=>[]) (fun _=>fun w=>St w0 (ay [al tp mb es,aP mp m,aP om ol,aP sb sm,.cl sc 128 (Df tp mp om sb win)]) [al tp mb es,aP mp m,aP om ol,aP sb sm,.cl sc 128 (Df tp mp om sb win),.cl b4 63 [.int .i64 0,.int .i64 0,.int .i64 0,.int .i64 0,.int .i64 0,.int .i64 0,.int .i64 0,.int .i64 0],.cl b5 42 (ah (ae es) x),.cl b6 63 [.int .i64 (qB ((g x).getD zR) (S (upF (ae es) x)).r (gh (ae es) g o (upF (ae es) x))).x,.int .i64 (qB ((g x).getD zR) (S (upF (ae es) x)).r (gh (ae es) g o (upF (ae es) x))).y,.int .i64 (qB ((g x).getD zR) (S (upF (ae es) x)).r (gh (ae es) g o (upF (ae es) x))).w,.int .i64 (qB ((g x).getD zR) (S (upF (ae es) x)).r (gh (ae es) g o (upF (ae es) x))).h,.int .i64 (oG (S (upF (ae es) x)) (ah (ae es) (upF (ae es) x))).x,.int .i64 (oG (S (upF (ae es) x)) (ah (ae es) (upF (ae es) x))).y,.int .i64 (oG (S (upF (ae es) x)) (ah (ae es) (upF (ae es) x))).w,.int .i64 (oG (S (upF (ae es) x)) (ah (ae es) (upF (ae es) x))).h]] w) ?_ (fun _ ρ0=>?_)
     ·refine bW ?_;refine vl (ai (u:=.int .i64 (val (ah (ae es) (upF (ae es) x)) 2)) Tryz.isAgg30 rfl (fun w hw=>hw.aq (i:=4) rfl 2 (cell_of (bZ.int (hk.aE (upF (ae es) x)) 2 (by decide) rfl)))) ?_;refine vl (vr rfl rfl) ?_;refine nl (oo ?_);refine WP.aw rfl (fun h71=>?_) (fun h71=>?_)
      ·have hc:(oG (S (upF (ae es) x)) (ah (ae es) (upF (ae es) x)))=Hv (S (upF (ae es) x)).c (j1 (S (upF (ae es) x)).r (ah (ae es) (upF (ae es) x))):=if_neg h71;refine WP.dj (some 8) [0,1,2,3,4,5,6,7,8,9] [(0,true),(1,true),(2,true),(3,true),(4,true),(5,false),(6,false),(7,true),(8,false)] mixed (by kernel_rfl) (by decide) ?_;refine aB.take rfl (aS (o':=4) Tryz.underlying63 rfl Tryz.sizeOf52 rfl rfl) ?_ (fun _ h=>h.sel [0,1,2,3,4,5,6,7,8,9] (by decide));refine aB.take rfl (au (cs:=[.int .i64 _,.int .i64 _,.int .i64 _,.int .i64 _]) Tryz.isAgg52 Tryz.sizeOf52 rfl (fun w hw=>hw.aq (i:=3) rfl _ rfl)) ?_ (fun _ h=>h.sel [0,1,2,3,4,5,6,7,8,9] (by decide));refine aB.take rfl (aS (o':=0) Tryz.underlying63 rfl Tryz.sizeOf52 rfl rfl) ?_ (fun _ h=>h.sel [0,1,2,3,4,5,6,7,8,9] (by decide));refine aB.take rfl (au (cs:=[.int .i64 _,.int .i64 _,.int .i64 _,.int .i64 _]) Tryz.isAgg52 Tryz.sizeOf52 rfl (fun w hw=>hw.aq (i:=3) rfl _ rfl)) ?_ (fun _ h=>h.sel [0,1,2,3,4,5,6,7,8,9] (by decide));refine aB.take rfl (au (cs:=(ah (ae es) (upF (ae es) x))) Tryz.isAgg42 Tryz.sizeOf42 rfl (fun w hw=>hw.aq (i:=4) rfl 0 (whole _)) (bZ.len (hk.aE (upF (ae es) x)))) ?_ (fun _ h=>h.sel [0,1,2,3,4,5,6,7,8,9] (by decide));refine aB.ef rfl (ck Tryz.call34 (wT (S (upF (ae es) x)).r (ah (ae es) (upF (ae es) x)) (hk.aE _)) [] [0,1,2,3,4,5,6,7,8,9] rfl (fun w hw=>trivial) (τ:=fun _=>[_,_,_,_,_,_,_,_,_,_]) (fun _=>rfl)) (fun _ _ _ h=>h.2.sel [0,1,2,3,4,5,6,7,8,9] (by decide)) (fun _=>?_);refine aB.fact (fun _=>?_);refine aB.ef rfl (ck Tryz.call116 (HL (S (upF (ae es) x)).c (j1 (S (upF (ae es) x)).r (ah (ae es) (upF (ae es) x)))) [] [0,1,2,3,4,5,6,7,8,9] rfl (fun w hw=>trivial) (τ:=fun _=>[_,_,_,_,_,_,_,_,_,_]) (fun _=>rfl)) (fun _ _ _ h=>h.2.sel [0,1,2,3,4,5,6,7,8,9] (by decide)) (fun _=>?_);refine aB.fact (fun _=>?_);refine aB.take rfl (aS (o':=4) Tryz.underlying63 rfl Tryz.sizeOf52 rfl rfl) ?_ (fun _ h=>h.sel [0,1,2,3,4,5,6,7,8,9] (by decide));refine aB.aX rfl (cy (us:=[.int .i64 _,.int .i64 _,.int .i64 _,.int .i64 _]) (σ':=[_,_,.cl _ _ [_,_,_,_,_,_,_,_],_,_,_,_,_,_,_]) Tryz.sizeOf52 rfl rfl (i:=2) rfl (Nat.le_of_ble_eq_true rfl) rfl (by simp[Value.oneCell'])) (fun h=>absurd rfl h) (fun _=>?_);exact aB.nil fun w hw=>⟨rfl,(),⟨jP,jI,rfl,rfl,rfl,(via (cJ _ _) rfl rfl),trivial⟩,(by rw[hc];exact(hw.sel [5,6,7,8,9,0,1,2] (by decide)))⟩
      ·have hc:(oG (S (upF (ae es) x)) (ah (ae es) (upF (ae es) x)))=(S (upF (ae es) x)).c:=if_pos (by omega);exact WP.skip fun w hw=>⟨rfl,(),⟨jP,jI,rfl,rfl,rfl,(via (cJ _ _) rfl rfl),trivial⟩,(by rw[hc];exact(hw.sel [5,6,7,8,9,0,1,2] (by decide)))⟩
     ·refine gg ?_;refine vl (vS (hk.aE x) 1) ?_;refine gg ?_;refine WP.aw rfl (fun h82=>?_) (fun h82=>?_)
      ·have hr1:lW (ae es) g o win S x ((g x).getD zR)=⟨l0 (qB ((g x).getD zR) (S (upF (ae es) x)).r (gh (ae es) g o (upF (ae es) x))) (qo (ae es) win S x (qB ((g x).getD zR) (S (upF (ae es) x)).r (gh (ae es) g o (upF (ae es) x))) (gh (ae es) g o (upF (ae es) x))),(oG (S (upF (ae es) x)) (ah (ae es) (upF (ae es) x)))⟩:=by unfold lW;rw[if_neg hn,if_pos h82]
       refine wP (some 10) [5,6,7] [pT 0,pT 1,pT 2,pT 3,pT 4,pT 5,pT 6,pF 7,pF 8,pT 9,pF 10] ?_;refine iX ?_;refine tE rfl (aC (v:=cJ _ _) rfl) ?_;refine dG (xC (F0 tp mb mp om sb sc es m ol sm g o win S hk hF hg hm ho x hx h1 (h2 h30) (qB ((g x).getD zR) (S (upF (ae es) x)).r (gh (ae es) g o (upF (ae es) x))) (gh (ae es) g o (upF (ae es) x)) (Da _))) fun _ _=>?_;refine dG (xC (fG (qB ((g x).getD zR) (S (upF (ae es) x)).r (gh (ae es) g o (upF (ae es) x))) (qo (ae es) win S x (qB ((g x).getD zR) (S (upF (ae es) x)).r (gh (ae es) g o (upF (ae es) x))) (gh (ae es) g o (upF (ae es) x))) ⟨pS _ _ _ _ _,pS _ _ _ _ _⟩)) fun _ _=>?_;refine gg ?_;refine aB.aX rfl (cy (us:=[.int .i64 _,.int .i64 _,.int .i64 _,.int .i64 _]) (σ':=[_,_,.cl _ _ [_,_,_,_,_,_,_,_],_,_,_,_,_]) Tryz.sizeOf52 rfl rfl (i:=2) rfl (Nat.le_of_ble_eq_true rfl) rfl (by simp[Value.oneCell'])) (fun h=>absurd rfl h) (fun _=>?_);refine aB.nil (an ?_);refine eh ?_;refine vl (au (cs:=[.int .i64 _,.int .i64 _,.int .i64 _,.int .i64 _,.int .i64 _,.int .i64 _,.int .i64 _,.int .i64 _]) Tryz.isAgg63 Tryz.sizeOf63 rfl (fun w hw=>hw.aq (i:=2) rfl _ rfl)) ?_;refine aj.aX (ct (us:=[.int .i64 _,.int .i64 _,.int .i64 _,.int .i64 _,.int .i64 _,.int .i64 _,.int .i64 _,.int .i64 _]) (σ':=[.cl _ _ [_,_,_,_,_,_,_,_],_,_,_,_,_,_,_]) Tryz.sizeOf63 rfl rfl (i:=0) rfl rfl rfl (by simp[Value.oneCell'])) (fun _=>?_);refine gg ?_;exact jf rfl fun w hw=>⟨(),by rw[hr1],trivial,hw.pk⟩
      ·have hr1:lW (ae es) g o win S x ((g x).getD zR)=⟨(qB ((g x).getD zR) (S (upF (ae es) x)).r (gh (ae es) g o (upF (ae es) x))),(oG (S (upF (ae es) x)) (ah (ae es) (upF (ae es) x)))⟩:=by unfold lW;rw[if_neg hn,if_neg h82]
       refine WP.skip (an ?_);refine eh ?_;refine vl (au (cs:=[.int .i64 _,.int .i64 _,.int .i64 _,.int .i64 _,.int .i64 _,.int .i64 _,.int .i64 _,.int .i64 _]) Tryz.isAgg63 Tryz.sizeOf63 rfl (fun w hw=>hw.aq (i:=7) rfl _ rfl)) ?_;refine aj.aX (ct (us:=[.int .i64 _,.int .i64 _,.int .i64 _,.int .i64 _,.int .i64 _,.int .i64 _,.int .i64 _,.int .i64 _]) (σ':=[_,_,_,_,_,.cl _ _ [_,_,_,_,_,_,_,_],_,_]) Tryz.sizeOf63 rfl rfl (i:=5) rfl rfl rfl (by simp[Value.oneCell'])) (fun _=>?_);refine gg ?_;exact jf rfl fun w hw=>⟨(),by rw[hr1],trivial,hw.pk⟩
end
section
variable (tp mb mp om:Nat) (es:List PE) (m ol:List (Int×Value)) (g:Int→Option Rc) (o:Int→Pt)
variable (hk:eG es) {d:Int→Nat} (hF:WF (ae es) d) (hg:∀x,GS (ah (ae es) x)) (hm:RM (ae es) m g) (ho:OM ol o)
include hk hF hg hm ho in
theorem kx (wd ht:Int):Ct Tryz.prog 27 #[.pointer (some ⟨tp,0,none⟩),.map (some mp),.map (some om),.int .i64 wd,.int .i64 ht] [al tp mb es,aP mp m,aP om ol] (fun _=>True) (X:=Nat) (fun b=>.map (some b)) (fun _=>True) (fun b=>[al tp mb es,aP mp m,aP om ol,aP b (lS (ae es) g o (eH 0 0 wd ht) (order (ae es)))]):=by
  refine Ci fun w0 _=>?_;refine gv ?_;refine sg rfl ?_;refine cK ?_;refine mv (v:=.map _) rfl ?_;refine mv (v:=.map _) rfl ?_;refine gg ?_;refine eF (xC (GO 0 0 wd ht)) fun _ _=>?_;refine aj.ef (eV (σ':=fun _=>[_,_,_,_]) (fun _=>rfl)) (fun mp22=>?_);refine vl (aV (us:=[.pointer _,.map _,.map _,.int .i64 _,.int .i64 _,.int .i64 _,.int .i64 _,.map _]) (pl:=[(0,1),(1,1),(2,1),(3,4),(7,1)]) Tryz.underlying128 Tryz.zeroValue128 rfl (by kernel_rfl) rfl rfl (by kernel_rfl)) ?_;refine aj.ef xB fun b24=>?_;refine bS ?_;have hol:(order (ae es)).length≤4096:=hF.e6 0;refine gg ?_;refine eF (xC (mF tp mb es hk hF)) fun⟨A6,c6⟩ _=>?_;refine gg ?_;refine WP.bm (X:=Nat) [1,11,26,27] (fun k=>[(28,.int .i64 (k:Int))]) (fun k w=>k≤(order (ae es)).length∧St w0 (ay [al tp mb es,aP mp m,aP om ol]) [al tp mb es,aP mp m,aP om ol,aP mp22 (lS (ae es) g o (eH 0 0 wd ht) ((order (ae es)).take k)),.cl b24 128 (Df tp mp om mp22 (eH 0 0 wd ht)),az A6 (order (ae es)).length c6 (order (ae es))] w) (fun k=>(order (ae es)).length - k) 0 ⟨rfl,trivial⟩ (fun w hw=>⟨Nat.zero_le _,(hw.sel [4,0,1,2,3,5] (by decide))⟩) (fun k ρ0=>?_);refine WP.fact (fun hkl=>?_);refine gg ?_;refine WP.aw rfl (fun h29=>?_) (fun h29=>?_)
  ·obtain⟨y,hy⟩:∃y,(order (ae es))[k]?=some y:=⟨_,List.getElem?_eq_getElem (by omega)⟩;have hhas:=hF.bw.1 (List.mem_of_getElem? hy);have hq1:0≤bD (ae es) y→(lookM (lS (ae es) g o (eH 0 0 wd ht) ((order (ae es)).take k)) (bD (ae es) y)).getD iD.v=((fz (ae es) g o (eH 0 0 wd ht)) (bD (ae es) y)).v:=fun h=>w6 (nL hF 65 k y hy h);have hq2:y≠0→(lookM (lS (ae es) g o (eH 0 0 wd ht) ((order (ae es)).take k)) (upF (ae es) y)).getD iD.v=((fz (ae es) g o (eH 0 0 wd ht)) (upF (ae es) y)).v:=fun h=>w6 (hF.before hy h);refine WP.holds (fun w hw=>hw.aM (i:=5) rfl (by omega)) (fun⟨kb,hA⟩=>?_);subst hA;refine gv ?_;refine WP.iU [1,11,26,27,28] (X:=Unit) (fun _=>[]) (fun _=>fun w=>St w0 (ay [al tp mb es,aP mp m,aP om ol]) [al tp mb es,aP mp m,aP om ol,aP mp22 (lS (ae es) g o (eH 0 0 wd ht) ((order (ae es)).take (k+1))),.cl b24 128 (Df tp mp om mp22 (eH 0 0 wd ht)),az (some ⟨kb,0,none⟩) (order (ae es)).length c6 (order (ae es))] w) ?_ (fun _ ρ0=>?_)
   ·refine gg ?_;refine vl (vR 5 (by rw[List.getElem?_map,hy];rfl)) ?_;refine cK ?_;refine mv (v:=.map _) rfl ?_;refine av ?_;refine vl (mO (hX (m:=m) (k:=y) (z:=zR.v) Tryz.underlying47 Tryz.underlying3 Tryz.zeroValue52 rfl rfl (fun w hw=>hw.fC (i:=1) rfl)) (v':=.tuple #[((g y).getD zR).v,.bool (g y).isSome]) (by rw[hm.val y,hm.is y];try rfl)) ?_;refine mv rfl ?_;refine vl (bR (v:=.agg _) rfl rfl) ?_;refine gg ?_;refine aj.ef cg fun b14=>?_;refine aj.aX (xW rfl) fun _=>?_;refine gg ?_;refine WP.cond rfl (fun h38=>?_) (fun h38=>?_)
    ·have hn:(lS (ae es) g o (eH 0 0 wd ht) ((order (ae es)).take (k+1)))=putM (lS (ae es) g o (eH 0 0 wd ht) ((order (ae es)).take k)) y ((fz (ae es) g o (eH 0 0 wd ht)) y).v:=Gv hy hF.fB (ll h38);refine wP (some 8) [0,1,2,3,4,5,6] [pT 0,pT 1,pT 2,pT 3,pT 4,pT 5,pT 6,pF 7,pF 8] ?_;refine cK ?_;refine tE rfl (ai (u:=.map _) Tryz.isAgg59 rfl (fun w hw=>hw.aq (i:=4) rfl _ rfl)) ?_;refine gg ?_;refine dG (xC (IY tp mb mp om mp22 b24 es m ol (lS (ae es) g o (eH 0 0 wd ht) ((order (ae es)).take k)) g o (eH 0 0 wd ht) (fz (ae es) g o (eH 0 0 wd ht)) hk hF hg hm ho y hhas hq1 hq2)) fun _ _=>?_;refine aB.aX rfl (mK (m:=(lS (ae es) g o (eH 0 0 wd ht) ((order (ae es)).take k))) (k:=y) (u:=((fz (ae es) g o (eH 0 0 wd ht)) y).v) (σ':=[_,_,_,_,_,_,_]) Tryz.underlying59 Tryz.underlying3 rfl rfl (congrArg Bj.v (J6 hF hhas (ll h38)).symm) (i:=5) rfl rfl) (fun h=>absurd rfl h) (fun _=>?_);exact aB.nil fun w hw=>⟨rfl,(),⟨(via (.map _) rfl rfl),jP,jS,jI,jI,trivial⟩,(by rw[hn];exact hw.pk)⟩
    ·have hn:(lS (ae es) g o (eH 0 0 wd ht) ((order (ae es)).take (k+1)))=(lS (ae es) g o (eH 0 0 wd ht) ((order (ae es)).take k)):=uB hy (CB h38);exact WP.skip fun w hw=>⟨rfl,(),⟨(via (.map _) rfl rfl),jP,jS,jI,jI,trivial⟩,(by rw[hn];exact hw.pk)⟩
   ·refine cK ?_;exact nl fun w hw=>⟨rfl,k+1,(by omega),⟨rfl,(via (.map _) rfl rfl),jP,jS,jI,trivial⟩,⟨by omega,hw.pk⟩⟩
  ·obtain rfl:k=(order (ae es)).length:=by omega
   rw[List.take_of_length_le (Nat.le_refl _)];refine WP.exit (an ?_);refine bS ?_;refine vl (ai (u:=.map _) Tryz.isAgg59 rfl (fun w hw=>hw.aq (i:=4) rfl _ rfl)) ?_;refine sg (v:=.map _) rfl ?_;refine gg ?_;exact aT fun w hw=>⟨mp22,rfl,trivial,hw.pk⟩
end
abbrev tT (n:PN):List Value:=[.int .i64 n.up,.bool n.lay,.int .i64 n.z]
abbrev T2 (w:World) (A:Option Addr) (L:List PN):Prop:=jL w A 3 tT L
theorem aJ.one {w:World} {b o o' j:Nat} {us:List Value} {u:Value} (h:aJ w b o us) (hj:us[j]?=some u) (ho:o'=o+j):aJ w b o' [u]:=by
  subst ho;intro i v hi
  match i,hi with
  | 0,hi=>cases hi;exact h j u hj
  | i+1,hi=>simp at hi
section
variable {w0 w:World} {M:Nat→Prop} {σ:List HI}
theorem St.IT {i n cap sz:Nat} {t:TypeId} {A:Option Addr} {xs:List Value} (h:St w0 M σ w) (hi:σ[i]?=some (.row t sz A n cap xs)):n≤cap:=by
  have h1:w.ownsRow 0 t sz (.slice A n cap) n xs:=h.all _ (List.mem_of_getElem? hi)
  rcases h1.2 with ⟨_,hn⟩ | ⟨gb,cap',cur,hv,_,_,hnc,_⟩
  · omega
  · injection hv with e1 e2 e3;omega
theorem St.TP {i n k cap sz:Nat} {t:TypeId} {A:Option Addr} {xs:List Value} (h:St w0 M σ w) (hi:σ[i]?=some (.row t sz A n cap xs)) (hk:k≤n):St w0 M (σ.set i (.row t sz A k cap (xs.take (k*sz)))) w:=by
  have h1:=h.all _ (List.mem_of_getElem? hi);refine h.upd hi ⟨rfl,rfl,rfl,Nat.le_refl _,fun _ _ _=>rfl,?_,List.pairwise_singleton _ _,?_⟩
  · intro j hj
    obtain rfl:j=_:=by simpa using hj
    exact Cs h1 hk
  · intro j hj b hb
    obtain rfl:j=_:=by simpa using hj
    exact .inr ⟨_,List.mem_singleton_self _,hb⟩
end
theorem upN {L:List PN} {i:Nat} {n:PN} (h:L[i]?=some n):ns L i=n.up:=(sy h).1
theorem Hs {L:List PN} {i:Nat} {n:PN} (h:L[i]?=some n):oD L i=n.lay:=(sy h).2.1
theorem zN {L:List PN} {i:Nat} {n:PN} (h:L[i]?=some n):zP L i=n.z:=(sy h).2.2
end Go.Proofs.YtbedndijejpcaaaGreat
namespace Go.Proofs.YtbedndijejpcaaaGreat.Q
open Go.RowKit
structure St (w0:World) (M:Nat→Prop) (σ:List HI) (w:World):Prop where
  os:w.os=w0.os
  tape:w.tape=w0.tape
  fwd:w0.drawn≤w.drawn
  output:w.output=w0.output
  size:w0.heap.size≤w.heap.size
  old:∀b,b<w0.heap.size→¬M b→w.heap[b]?=w0.heap[b]?
  all:∀i∈σ,i.holds w
  disj:σ.Pairwise fun x y=>∀b,x.foot b→¬y.foot b
  fresh:∀i∈σ,∀b,i.foot b→w0.heap.size≤b∨M b
section
variable {w0 w w':World} {M:Nat→Prop} {σ σ' τ F:List HI}
theorem St.refl (w:World):St w No [] w:=⟨rfl,rfl,Nat.le_refl _,rfl,Nat.le_refl _,fun _ _ _=>rfl,by simp,List.Pairwise.nil,by simp⟩
theorem St.start (hall:∀i∈σ,i.holds w) (hd:σ.Pairwise fun x y=>∀b,x.foot b→¬y.foot b):St w (ay σ) σ w:=
  ⟨rfl,rfl,Nat.le_refl _,rfl,Nat.le_refl _,fun _ _ _=>rfl,hall,hd,fun i hi _ hb=>.inr ⟨i,hi,hb⟩⟩
theorem St.trans (h:St w0 M (σ++F) w) (k:St w (ay σ) τ w'):St w0 M (τ++F) w':=by
  have hF:∀i∈F,∀b,i.foot b→b<w.heap.size∧¬ay σ b:=fun i hi _ hb=>by
    refine⟨HI.lt (h.all i (List.mem_append_right _ hi)) hb,?_⟩
    rintro ⟨j,hj,hjb⟩
    exact(List.pairwise_append.1 h.disj).2.2 j hj i hi _ hjb hb
  refine⟨k.os.trans h.os,k.tape.trans h.tape,Nat.le_trans h.fwd k.fwd,k.output.trans h.output,Nat.le_trans h.size k.size,fun b hb hM=>?_,fun i hi=>?_,?_,fun i hi b hb=>?_⟩
  · refine (k.old b (Nat.lt_of_lt_of_le hb h.size) ?_).trans (h.old b hb hM)
    rintro ⟨j,hj,hjb⟩
    rcases h.fresh j (List.mem_append_left _ hj) b hjb with h1 | h1
    · omega
    · exact hM h1
  · rcases List.mem_append.1 hi with hi | hi
    · exact k.all i hi
    · exact HI.keep (h.all i (List.mem_append_right _ hi)) fun b hb=>k.old b (hF i hi b hb).1 (hF i hi b hb).2
  · refine List.pairwise_append.2 ⟨k.disj, (List.pairwise_append.1 h.disj).2.1, fun i hi j hj b hb hjb => ?_⟩
    have h1:=hF j hj b hjb
    rcases k.fresh i hi b hb with h2 | h2
    · omega
    · exact h1.2 h2
  · rcases List.mem_append.1 hi with hi | hi
    · rcases k.fresh i hi b hb with h2 | ⟨j, hj, hjb⟩
      · exact .inl (Nat.le_trans h.size h2)
      · exact h.fresh j (List.mem_append_left _ hj) b hjb
    · exact h.fresh i (List.mem_append_right _ hi) b hb
theorem St.perm (h:St w0 M σ w) (hp:σ.Perm σ'):St w0 M σ' w:=
  ⟨h.os,h.tape,h.fwd,h.output,h.size,h.old,fun i hi=>h.all i (hp.mem_iff.2 hi),hp.pairwise_iff (fun hxy b hb hb'=>hxy b hb' hb) |>.1 h.disj,fun i hi=>h.fresh i (hp.mem_iff.2 hi)⟩
theorem St.sub (h:St w0 M σ w) (hp:σ'.Sublist σ):St w0 M σ' w:=
  ⟨h.os,h.tape,h.fwd,h.output,h.size,h.old,fun i hi=>h.all i (hp.subset hi),h.disj.sublist hp,fun i hi=>h.fresh i (hp.subset hi)⟩
theorem St.add (h:St w0 M σ w) (k:St w No τ w'):St w0 M (σ++τ) w':=
  (St.trans (σ:=[]) (F:=σ) h (by rw[qt];exact k)).perm List.perm_append_comm
theorem St.upd {i:Nat} {x y:HI} (h:St w0 M σ w) (hi:σ[i]?=some x) (k:St w (ay [x]) [y] w'):St w0 M (σ.set i y) w':=
  (St.trans (σ:=[x]) (F:=σ.eraseIdx i) (h.perm (lq hi)) k).perm (zH (List.getElem?_eq_some_iff.1 hi).1)
theorem St.sel (h:St w0 M σ w) (idx:List Nat) (hn:idx.Nodup):St w0 M (sel σ idx) w:=by
  have hm:∀i∈Go.Proofs.YtbedndijejpcaaaGreat.sel σ idx,i∈σ:=fun i hi=>by
    obtain⟨k,_,hk⟩:=List.mem_filterMap.1 hi;exact List.mem_of_getElem? hk
  refine⟨h.os,h.tape,h.fwd,h.output,h.size,h.old,fun i hi=>h.all i (hm i hi),?_,fun i hi=>h.fresh i (hm i hi)⟩;refine List.pairwise_filterMap.2 (List.Pairwise.imp (fun {p q} hpq x hx y hy b hb hb'=>?_) hn);have hx:σ[p]?=some x:=hx;have hy:σ[q]?=some y:=hy;obtain⟨hp,rfl⟩:=List.getElem?_eq_some_iff.1 hx;obtain⟨hq,rfl⟩:=List.getElem?_eq_some_iff.1 hy;have hd:=List.pairwise_iff_getElem.1 h.disj
  rcases Nat.lt_or_gt_of_ne hpq with hlt | hlt
  · exact hd p q hp hq hlt b hb hb'
  · exact hd q p hq hp hlt b hb' hb
theorem St.drawn (h:St w0 M σ w):St w0 M σ {w with drawn:=w.drawn+1}:=
  ⟨h.os,h.tape,Nat.le_succ_of_le h.fwd,h.output,h.size,h.old,fun i hi=>HI.keep (h.all i hi) fun _ _=>rfl,h.disj,h.fresh⟩
theorem St.TU {M':Nat→Prop} (h:St w0 M σ w) (hM:∀b,b<w0.heap.size→M b→M' b):St w0 M' σ w:=
  ⟨h.os, h.tape, h.fwd, h.output, h.size, fun b hb hn => h.old b hb fun hm => hn (hM b hb hm), h.all, h.disj, fun i hi b hb => by
    rcases h.fresh i hi b hb with h1 | h1
    · exact .inl h1
    · rcases Nat.lt_or_ge b w0.heap.size with h2 | h2
      · exact .inr (hM b h2 h1)
      · exact .inl h2⟩
end
section
variable {P:Program} {r:Option Nat} {S:World→Prop} {ρ:Env} {dst:Option Tmp} {ty:TypeId} {pos:String} {af:Array Edge} {g:Option (Nat×Bool)}
section
variable {t t2:TypeId} {x y:Operand} {m n:Int}
section
variable {w0 w:World} {M:Nat→Prop} {σ:List HI}
theorem St.aq {i b:Nat} {t:TypeId} {cs:List Value} (h:St w0 M σ w) (hi:σ[i]?=some (.cl b t cs)) (o:Nat) {us:List Value} (hu:(cs.drop o).take us.length=us):aJ w b o us:=by
  have h1:w.heap[b]?=some (.cells cs.toArray t (0,0)):=h.all _ (List.mem_of_getElem? hi);intro j u hj;rw[cell_of_row w b (o+j) _ t (0,0) h1,List.getElem?_toArray];have hlt:j<us.length:=(List.getElem?_eq_some_iff.1 hj).1;rw[←hu,List.getElem?_take,if_pos hlt,List.getElem?_drop] at hj;exact hj
theorem St.dH {i g n cap sz:Nat} {t:TypeId} {xs:List Value} (h:St w0 M σ w) (hi:σ[i]?=some (.row t sz (some ⟨g,0,none⟩) n cap xs)) (o:Nat) {us:List Value} (hu:∀j u,us[j]?=some u→xs[o+j]?=some u):aJ w g o us:=by
  have h1:w.ownsRow 0 t sz (.slice (some ⟨g,0,none⟩) n cap) n xs:=h.all _ (List.mem_of_getElem? hi);intro j u hj;have h2:=hu j u hj;rw[h1.cellAt (o+j) (by have:=(List.getElem?_eq_some_iff.1 h2).1;have:=h1.1;omega)];exact h2
theorem St.bh {i gb n cap sz k o:Nat} {t:TypeId} {xs:List Value} {u:Value} (h:St w0 M σ w) (hi:σ[i]?=some (.row t sz (some ⟨gb,0,none⟩) n cap xs)) (hu:xs[k]?=some u) (ho:o=k):aJ w gb o [u]:=by
  subst ho;refine h.dH hi o fun j v hj=>?_;cases j with
  | zero=>simp at hj;subst hj;exact hu
  | succ j=>simp at hj
theorem St.cW {b o:Nat} {us:List Value} (h:St w0 M σ w) (hc:aJ w0 b o us) (hM:¬M b):aJ w b o us:=by
  intro j u hj;have h1:=hc j u hj;exact(World.cell?_of_block (h.old b (lP h1) hM)).trans h1
end
section
variable {w0 w w':World} {M:Nat→Prop} {σ σ':List HI}
theorem St.new (w:World) (t:TypeId) (cs:List Value):St w No [.cl w.heap.size t cs] (w.alloc (.cells cs.toArray t)):=by
  refine⟨rfl,rfl,Nat.le_refl _,rfl,by simp,fun b hb _=>Below.heap_alloc w _ b hb,?_,List.pairwise_singleton _ _,?_⟩
  · intro i hi
    obtain rfl:i=_:=by simpa using hi
    exact heap_alloc_new w _
  · intro i hi b hb
    obtain rfl:i=_:=by simpa using hi
    obtain rfl:b=w.heap.size:=hb;exact .inl (Nat.le_refl _)
theorem St.l9 {x y:HI} (hg:∀b,b<w.heap.size→¬x.foot b→w'.heap[b]?=w.heap[b]?) (hy:y.holds w') (hf:∀b,y.foot b→w.heap.size≤b∨x.foot b)
    (h1:w'.os=w.os) (h2:w'.tape=w.tape) (h3:w'.output=w.output) (h4:w.heap.size≤w'.heap.size) (hd:w.drawn≤w'.drawn:=by exact Nat.le_refl _):St w (ay [x]) [y] w':=by
  refine⟨h1,h2,hd,h3,h4,fun b hb hn=>hg b hb fun hx=>hn ⟨x,by simp,hx⟩,?_,List.pairwise_singleton _ _,?_⟩
  · intro i hi
    obtain rfl:i=y:=by simpa using hi
    exact hy
  · intro i hi b hb
    obtain rfl:i=y:=by simpa using hi
    rcases hf b hb with h | h
    · exact .inl h
    · exact .inr ⟨x,by simp,h⟩
theorem St.AG {b o:Nat} {t:TypeId} {cs:List Value} {u:Value} (h:(HI.cl b t cs).holds w):St w (ay [.cl b t cs]) [.cl b t (cs.set o u)] (w.setCell ⟨b,o,none⟩ u):=
  St.l9 (fun k _ hn=>Below.heap_setCell w _ u k (fun e=>hn e)) (fh h) (fun _ hb=>.inr hb) rfl rfl rfl (by simp[World.setCell])
theorem St.setRow {g o n cap sz:Nat} {t:TypeId} {xs:List Value} {u:Value} (h:(HI.row t sz (some ⟨g,0,none⟩) n cap xs).holds w):
    St w (ay [.row t sz (some ⟨g,0,none⟩) n cap xs]) [.row t sz (some ⟨g,0,none⟩) n cap (xs.set o u)] (w.setCell ⟨g,o,none⟩ u):=
  St.l9 (fun k _ hn=>Below.heap_setCell w _ u k (fun e=>hn ⟨_,rfl,e⟩)) (World.ownsRow.stored h o u).1 (fun _ hb=>.inr hb) rfl rfl rfl (by simp[World.setCell])
theorem cz {i b o:Nat} {u:Value} {tc:TypeId} {cs:List Value} (hz:∀w,(sizeOf t).run P w=.ok 1 w) (hx:evo ρ x=.pointer (some ⟨b,o,none⟩)) (hy:evo ρ y=u) (hi:σ[i]?=some (.cl b tc cs)) (ho:o<cs.length)
    (hσ:σ.set i (.cl b tc (cs.set o u))=σ') (h1:u.oneCell'=true:=by rfl):cX P r (St w0 M σ) ⟨dst,.store t x y,ty,pos,af,g⟩ ρ (X:=Unit) (fun _=>undef) (fun _=>St w0 M σ'):=
  cX.ji rfl fun w hw=>by
    have h:=hw.all _ (List.mem_of_getElem? hi);have hc:=hw.aq hi o (us:=[cs[o]]) (by rw[List.length_singleton,List.drop_eq_getElem_cons ho];rfl) 0 cs[o] rfl;have hf:w.frozen? ⟨b,o,none⟩=false:=frozen_of_row w b o _ tc h;exact⟨_,lu hz hx hy h1 hc hf,by rw[←hσ];exact hw.upd hi (St.AG h)⟩
theorem oC {i gb o n cap sz:Nat} {u:Value} {tc:TypeId} {xs:List Value} (hz:∀w,(sizeOf t).run P w=.ok 1 w) (hx:evo ρ x=.pointer (some ⟨gb,o,none⟩)) (hy:evo ρ y=u) (hi:σ[i]?=some (.row tc sz (some ⟨gb,0,none⟩) n cap xs)) (ho:o<xs.length)
    (hσ:σ.set i (.row tc sz (some ⟨gb,0,none⟩) n cap (xs.set o u))=σ') (h1:u.oneCell'=true:=by rfl):cX P r (St w0 M σ) ⟨dst,.store t x y,ty,pos,af,g⟩ ρ (X:=Unit) (fun _=>undef) (fun _=>St w0 M σ'):=
  cX.ji rfl fun w hw=>by
    have h:w.ownsRow 0 tc sz (.slice (some ⟨gb,0,none⟩) n cap) n xs:=hw.all _ (List.mem_of_getElem? hi);have hc:=hw.dH hi o (us:=[xs[o]]) (fun j u hj=>by cases j with | zero=>simp at hj;subst hj;simp | succ j=>simp at hj) 0 xs[o] rfl;exact⟨_,lu hz hx hy h1 hc (h.frozenAt o),by rw[←hσ];exact hw.upd hi (St.setRow h)⟩
theorem bU {i gb o n cap sz:Nat} {u:Value} {tc:TypeId} {xs xs':List Value} (hz:∀w,(sizeOf t).run P w=.ok 1 w) (hx:evo ρ x=.pointer (some ⟨gb,o,none⟩)) (hy:evo ρ y=u) (hi:σ[i]?=some (.row tc sz (some ⟨gb,0,none⟩) n cap xs)) (ho:o<xs.length)
    (hxs:xs.set o u=xs') (hσ:σ.set i (.row tc sz (some ⟨gb,0,none⟩) n cap xs')=σ') (h1:u.oneCell'=true:=by rfl):cX P r (St w0 M σ) ⟨dst,.store t x y,ty,pos,af,g⟩ ρ (X:=Unit) (fun _=>undef) (fun _=>St w0 M σ'):=
  oC hz hx hy hi ho (by rw[hxs];exact hσ) h1
theorem de (P:Program) {b o:Nat} {t:TypeId}:∀(us:List Value) (i:Nat) (cs:List Value) (w:World),(HI.cl b t cs).holds w→o+i+us.length≤cs.length→(∀u∈us,u.oneCell'=true)→
    ∃w',(storeCells ⟨b,o,none⟩ us i).run P w=.ok () w'∧St w (ay [.cl b t cs]) [.cl b t (setL cs (o+i) us)] w'
  | [],i,cs,w,h,_,_=>⟨w,rfl,St.l9 (fun _ _ _=>rfl) h (fun _ hb=>.inr hb) rfl rfl rfl (Nat.le_refl _)⟩
  | u :: us, i, cs, w, h, hl, h1 => by
    simp only[List.length_cons] at hl;have hu:=h1 u (by simp);have hc:w.cell? ⟨b,o+i,none⟩=some (cs[o+i]'(by omega)):=by
      have h2:w.heap[b]?=some (.cells cs.toArray t (0,0)):=h;rw[cell_of_row w b (o+i) _ t (0,0) h2];simp
    have hf:w.frozen? ⟨b,o+i,none⟩=false:=frozen_of_row w b (o+i) _ t h;have hs:(store ⟨b,o+i,none⟩ u).run P w=.ok () (w.setCell ⟨b,o+i,none⟩ u):=by
      cases u<;>first | (simp[Value.oneCell'] at hu;done) | simp[store,Sem.run,hc,hf]
    obtain⟨w',h3,h4⟩:=de P (b:=b) (o:=o) (t:=t) us (i+1) (cs.set (o+i) u) (w.setCell ⟨b,o+i,none⟩ u) (fh h) (by simp;omega) (fun u' hu'=>h1 u' (by simp[hu']));refine⟨w',?_,?_⟩
    · simp only [storeCells, gp, Sem.run_bind, hs, Result.andThen]
      exact h3
    · have h5 := St.AG (w := w) (b := b) (o := o + i) (t := t) (cs := cs) (u := u) h
      have h6:St w (ay [.cl b t cs]) ([.cl b t (setL cs (o+i) (u::us))]++[]) w':=by
        refine St.trans (σ:=[.cl b t (cs.set (o+i) u)]) (F:=[]) (by simpa using h5) ?_;have e:setL cs (o+i) (u::us)=setL (cs.set (o+i) u) (o+(i+1)) us:=rfl;rw[e];exact h4
      simpa using h6
theorem cy {i b o k:Nat} {us:List Value} {tc:TypeId} {cs:List Value} (hz:∀w,(sizeOf t).run P w=.ok k w) (hx:evo ρ x=.pointer (some ⟨b,o,none⟩)) (hy:evo ρ y=.agg us.toArray) (hi:σ[i]?=some (.cl b tc cs)) (ho:o+us.length≤cs.length)
    (hσ:σ.set i (.cl b tc (setL cs o us))=σ') (h1:∀u∈us,u.oneCell'=true) (hk:us.length=k:=by rfl):cX P r (St w0 M σ) ⟨dst,.store t x y,ty,pos,af,g⟩ ρ (X:=Unit) (fun _=>undef) (fun _=>St w0 M σ'):=
  cX.ji rfl fun w hw=>by
    subst hk;have h:=hw.all _ (List.mem_of_getElem? hi);obtain⟨w',h2,h3⟩:=de P (o:=o) us 0 cs w h (by omega) h1;refine⟨w',?_,by rw[←hσ];exact hw.upd hi h3⟩;simp[execOp,Instr.storeAt,Instr.sureAddr,hx,hy,storeVar,Value.cells,hz,h2]
theorem uj {o:Oper} {us:List Value} {te:TypeId} {σ':Nat→List HI} (hd:bJ o=true) (hσ:∀b,σ++[.cl b te us]=σ' b) (h:∀w,(execOp (evo ρ) o).run P w=.ok (.value (.pointer (some ⟨w.heap.size,0,none⟩))) (w.alloc (.cells us.toArray te))):
    cX P r (St w0 M σ) o ρ (X:=Nat) (fun b=>.pointer (some ⟨b,0,none⟩)) (fun b=>St w0 M (σ' b)):=
  cX.gB hd fun w hw=>⟨w.heap.size,_,h w,by rw[←hσ];exact hw.add (St.new w te us)⟩
theorem eN {σ':Nat→List HI} {u:Value} (hx:evo ρ x=u) (hσ:∀b,σ++[.cl b t [u]]=σ' b) (h1:u.oneCell'=true:=by rfl):cX P r (St w0 M σ) ⟨dst,.box t x,ty,pos,af,g⟩ ρ (X:=Nat) (fun b=>.pointer (some ⟨b,0,none⟩)) (fun b=>St w0 M (σ' b)):=
  uj rfl hσ fun w=>by
    have e:u.cells=#[u]:=by cases u<;>first | rfl | simp[Value.oneCell'] at h1
    simp[execOp,Instr.box,hx,newVar,newRow,newObj,Sem.run,e]
theorem fw {σ':Nat→List HI} {us:List Value} (hx:evo ρ x=.agg us.toArray) (hσ:∀b,σ++[.cl b t us]=σ' b):cX P r (St w0 M σ) ⟨dst,.box t x,ty,pos,af,g⟩ ρ (X:=Nat) (fun b=>.pointer (some ⟨b,0,none⟩)) (fun b=>St w0 M (σ' b)):=
  uj rfl hσ fun w=>by simp[execOp,Instr.box,hx,newVar,newRow,newObj,Sem.run,Value.cells]
theorem cQ {σ':Nat→List HI} {z:Value} {us:List Value} (hz:∀w,(zeroValue t).run P w=.ok z w) (hu:z.cells=us.toArray) (hσ:∀b,σ++[.cl b t us]=σ' b):cX P r (St w0 M σ) ⟨dst,.alloc t,ty,pos,af,g⟩ ρ (X:=Nat) (fun b=>.pointer (some ⟨b,0,none⟩)) (fun b=>St w0 M (σ' b)):=
  uj rfl hσ fun w=>by simp[execOp,Instr.alloc,newVar,newRow,newObj,Sem.run,hz,hu]
theorem St.newRow (w:World) (t:TypeId) (sz n:Nat) (cs:List Value) (hl:cs.length=n*sz) (hm:n≤maxLen):St w No [.row t sz (some ⟨w.heap.size,0,none⟩) n n cs] (w.alloc (.cells cs.toArray t)):=by
  refine⟨rfl,rfl,Nat.le_refl _,rfl,by simp,fun b hb _=>Below.heap_alloc w _ b hb,?_,List.pairwise_singleton _ _,?_⟩
  · intro i hi
    obtain rfl:i=_:=by simpa using hi
    have:=World.ownsRow_lit (base:=0) (e:=t) (size:=sz) w cs.toArray n (Nat.zero_le _) hm (by simpa using hl)
    simpa [HI.holds] using this
  · intro i hi b hb
    obtain rfl:i=_:=by simpa using hi
    obtain⟨a,ha,rfl⟩:=hb;cases ha;exact .inl (Nat.le_refl _)
theorem mi {o:Oper} {us:List Value} {te:TypeId} {sz n:Nat} {σ':Nat→List HI} (hd:bJ o=true) (hl:us.length=n*sz) (hm:n≤maxLen) (hσ:∀b,σ++[.row te sz (some ⟨b,0,none⟩) n n us]=σ' b)
    (h:∀w,(execOp (evo ρ) o).run P w=.ok (.value (.slice (some ⟨w.heap.size,0,none⟩) n n)) (w.alloc (.cells us.toArray te))):
    cX P r (St w0 M σ) o ρ (X:=Nat) (fun b=>.slice (some ⟨b,0,none⟩) n n) (fun b=>St w0 M (σ' b)):=
  cX.gB hd fun w hw=>⟨w.heap.size,_,h w,by rw[←hσ];exact hw.add (St.newRow w te sz n us hl hm)⟩
theorem cu {σ':Nat→List HI} {te:TypeId} {sz n:Nat} {z:Value} {us:List Value} {parts:List (Nat×Operand)} (ht:P.underlying t=some (.slice te)) (hz:∀w,(sizeOf te).run P w=.ok sz w) (hv:∀w,(zeroValue te).run P w=.ok z w)
    (hi:parts.map (·.1)=List.range' 0 n) (hc':parts.map (fun p=>(evo ρ p.2).cells.size)=List.replicate n sz) (hu:(parts.flatMap fun p=>(evo ρ p.2).cells.toList)=us) (hn:n*sz≤16777216) (h0:n*sz≠0)
    (hσ:∀b,σ++[.row te sz (some ⟨b,0,none⟩) n n us]=σ' b):
    cX P r (St w0 M σ) ⟨dst,.buildSlice t n parts.toArray,ty,pos,af,g⟩ ρ (X:=Nat) (fun b=>.slice (some ⟨b,0,none⟩) n n) (fun b=>St w0 M (σ' b)):=by
  have hl:parts.length=n:=by have:=congrArg List.length hi;simpa using this
  have hc:∀p∈parts,(evo ρ p.2).cells.size=sz:=fun p hp=>by
    have h1:(evo ρ p.2).cells.size∈parts.map (fun p=>(evo ρ p.2).cells.size):=List.mem_map.2 ⟨p,hp,rfl⟩;rw[hc'] at h1;exact List.eq_of_mem_replicate h1
  clear hc';have hul:us.length=n*sz:=by
    rw[←hu,←hl];clear hu hi hl hn h0;induction parts with
    | nil=>simp
    | cons p parts ih =>
      have h1:=hc p (by simp);have h2:=ih fun q hq=>hc q (by simp[hq]);simp only[List.flatMap_cons,List.length_append,Array.length_toList,h1,h2,List.length_cons,Nat.add_mul,Nat.one_mul];omega
  have hm:n≤maxLen:=by
    have : n ≤ n * sz := Nat.le_mul_of_pos_right n (by rcases Nat.eq_zero_or_pos sz with e | e; · simp [e] at h0
                                                       · exact e)
    unfold maxLen;omega
  refine mi rfl hul hm hσ fun w=>?_;have hmap:(parts.map fun x=>(x.1,evo ρ x.2))=(List.range' 0 (parts.map fun p=>evo ρ p.2).length).zip (parts.map fun p=>evo ρ p.2):=by
    rw[List.length_map,hl,←hi];clear hc hu hi hl hul hm;induction parts with
    | nil=>rfl
    | cons p parts ih=>simp[ih]
  have hcell:∃rest:List Value,((Array.range (n*sz)).map (z.cells[· % z.cells.size]!))=rest.toArray∧rest.length=n*sz:=⟨_,(Array.toArray_toList (xs:=(Array.range (n*sz)).map (z.cells[· % z.cells.size]!))).symm,by simp⟩;obtain⟨rest,hrest,hrl⟩:=hcell
  have hf := s9 sz (parts.map fun p => evo ρ p.2) 0 [] rest (fun v hv => by
    obtain ⟨p, hp, rfl⟩ := List.mem_map.1 hv
    exact hc p hp) (by simp) (by rw [hrl]; simp [hl])
  simp only[List.nil_append,List.flatMap_map] at hf;rw[hu,←hmap] at hf;have hlt:¬(16777216<n*sz):=by omega
  simp[execOp,Instr.buildSlice,run_underlying ht,hz,hv,hlt,h0,hrest,hf,newRow,newObj,Sem.run,Result.andThen]
theorem St.bB (h:St w0 M σ w) (t:TypeId) (sz:Nat):St w0 M (σ++[.row t sz none 0 0 []]) w:=
  h.add ⟨rfl, rfl, Nat.le_refl _, rfl, Nat.le_refl _, fun _ _ _ => rfl, fun i hi => by
    obtain rfl : i = _ := by simpa using hi
    exact World.ownsRow_nil w 0 t sz, List.pairwise_singleton _ _, fun i hi b hb => by
    obtain rfl : i = _ := by simpa using hi
    obtain ⟨a, ha, _⟩ := hb
    cases ha⟩
theorem St.aM {i n cap sz:Nat} {t:TypeId} {A:Option Addr} {xs:List Value} (h:St w0 M σ w) (hi:σ[i]?=some (.row t sz A n cap xs)) (hn:0<n):∃b,A=some ⟨b,0,none⟩:=by
  have h1:w.ownsRow 0 t sz (.slice A n cap) n xs:=h.all _ (List.mem_of_getElem? hi)
  rcases h1.2 with ⟨_,h0⟩ | ⟨gb,cap',cur,hv,_⟩
  · omega
  · exact⟨gb,by injection hv⟩
theorem St.r7 {i n cap sz:Nat} {t:TypeId} {A:Option Addr} {xs:List Value} (h:St w0 M σ w) (hi:σ[i]?=some (.row t sz A n cap xs)):xs.length=n*sz:=
  have h1:w.ownsRow 0 t sz (.slice A n cap) n xs:=h.all _ (List.mem_of_getElem? hi)
  h1.1
theorem St.rd {α:Type} {A:Option Addr} {sz:Nat} {enc:α→List Value} {l:List α} (h:St w0 M σ w) (hr:jL w0 A sz enc l) (hM:∀b,¬M b):jL w A sz enc l:=
  hr.p8 fun b _ _ hc=>(World.cell?_of_block (h.old b (lP hc) (hM b))).trans hc
theorem St.eO {α:Type} {i n cap:Nat} {t:TypeId} {A:Option Addr} {l:List α} {f:α→Value} (h:St w0 M σ w) (hi:σ[i]?=some (.row t 1 A n cap (l.map f))):jL w A 1 (fun x=>[f x]) l:=fun k x hx=>by
  have hl:l.length=n:=by have:=h.r7 hi;simpa using this
  have hk:=(List.getElem?_eq_some_iff.1 hx).1;obtain⟨b,rfl⟩:=h.aM hi (by omega);exact⟨b,0,rfl,h.bh hi (k:=k) (by simp[hx]) (by omega)⟩
theorem St.ur {α:Type} {i n cap sz:Nat} {t:TypeId} {A:Option Addr} {l:List α} {enc:α→List Value} (h:St w0 M σ w) (hi:σ[i]?=some (.row t sz A n cap (l.flatMap enc))) (hn:l.length=n) (hz:∀x,(enc x).length=sz):jL w A sz enc l:=fun k x hx=>by
  have hk:=(List.getElem?_eq_some_iff.1 hx).1;obtain⟨b,rfl⟩:=h.aM hi (by omega);refine⟨b,0,rfl,h.dH hi _ fun j u hj=>?_⟩;rw[Nat.zero_add,jZ hz l k j x hx (by have:=(List.getElem?_eq_some_iff.1 hj).1;rw[hz] at this;exact this)];exact hj
end
end
end
theorem WP.dj {P:Program} {r:Option Nat} {N:Nat} {Q:XP} {ρ:Env} {ds:List Deferred} {w0:World} {M:Nat→Prop} {σ:List HI} {id:Nat} {l:List Oper} (fin:Option Nat) (idx:List Nat) (plan:List (Nat×Bool))
    (hm:P.follows .mixedOrders=true) (hB:qy l.toArray fin plan=true) (hN:gX N l=true) (h:aB P r N l fin (St w0 M (sel σ idx)) plan Q ρ ds (St w0 M σ)):WP P r N (.region id l.toArray true) Q ρ ds (St w0 M σ):=
  WP.draw fin (St w0 M (sel σ idx)) plan hm hB hN (fun _ h=>h.drawn) h
section
variable {P:Program} {r:Option Nat} {N d:Nat} {ops:Array Oper} {l rest:List Oper} {Q:XP} {ρ:Env} {ds:List Deferred} {S:World→Prop} {x y:Operand} {ty:TypeId} {pos:String} {af:Array Edge} {v:Value} {id:Nat} {c y':Code}
end
section
variable {P:Program} {r:Option Nat} {N:Nat} {Q:XP} {ρ:Env} {S:World→Prop} {fn:Func} {R:Value→World→Prop}
theorem ct {w0:World} {M:Nat→Prop} {σ σ':List HI} {dst:Option Tmp} {ty:TypeId} {pos:String} {af:Array Edge} {g:Option (Nat×Bool)} {x y:Operand} {t tc:TypeId} {i b k:Nat} {us cs:List Value} (hz:∀w,(sizeOf t).run P w=.ok k w) (hx:evo ρ x=.pointer (some ⟨b,0,none⟩)) (hy:evo ρ y=.agg us.toArray) (hi:σ[i]?=some (.cl b tc cs)) (ho:us.length=cs.length)
    (hσ:σ.set i (.cl b tc us)=σ') (h1:∀u∈us,u.oneCell'=true) (hk:us.length=k:=by rfl):cX P r (St w0 M σ) ⟨dst,.store t x y,ty,pos,af,g⟩ ρ (X:=Unit) (fun _=>undef) (fun _=>St w0 M σ'):=
  cy hz hx hy hi (by omega) (by rw[pE _ _ ho];exact hσ) h1 hk
section
variable {dst:Option Tmp} {ty:TypeId} {pos:String} {af:Array Edge} {g:Option (Nat×Bool)} {t t2:TypeId} {x y:Operand} {a b:Bool}
end
end
def Ct (P:Program) (f:FuncId) (args:Array Value) (pre:List HI) (Fact:World→Prop) {X:Type} (v:X→Value) (facts:X→Prop) (post:X→List HI):Prop:=
  ∀ w, (∀ i ∈ pre, i.holds w) → pre.Pairwise (fun x y => ∀ b, x.foot b → ¬ y.foot b) → Fact w →
    Calls P f args w fun e w'=>∃x,e=.returned (v x)∧facts x∧St w (ay pre) (post x) w'
theorem Ct.intro {P:Program} {f:FuncId} {fn:Func} {c:Code} {N:Nat} {args:Array Value} {pre:List HI} {Fact:World→Prop} {X:Type} {v:X→Value} {facts:X→Prop} {post:X→List HI} (hf:P.funcs[f]?=some fn) (hb:fn.body=some c) (hn:fn.ntmps=N) (ha:args.size≤N)
    (h:∀w,Fact w→WP P none N c (da P fn (fun u w'=>∃x,u=v x∧facts x∧St w (ay pre) (post x) w')) (nT args.toList) [] (St w (ay pre) pre)):Ct P f args pre Fact v facts post:=by
  intro w h1 h2 h3;refine(enter hf hb hn ha ((h w h3).pre fun w' e=>?_)).mono ?_
  · subst e;exact St.start h1 h2
  · rintro e w' ⟨u, rfl, x, rfl, hx, hs⟩
    exact⟨x,rfl,hx,hs⟩
section
variable {P:Program} {r:Option Nat} {N:Nat} {Q:XP} {ρ:Env} {S:World→Prop} {fn:Func} {R:Value→World→Prop}
end
section
variable {P:Program} {r:Option Nat} {S:World→Prop} {ρ:Env} {dst:Option Tmp} {ty:TypeId} {pos:String} {af:Array Edge} {g:Option (Nat×Bool)} {f:FuncId} {xs:List Operand} {ats:Array TypeId} {args:List Value}
section
variable {w0:World} {M:Nat→Prop} {σ σ':List HI} {pre:List HI} {Fact:World→Prop} {X:Type} {v:X→Value} {facts:X→Prop} {post:X→List HI}
theorem Ct.apply (hc:Ct P f args.toArray pre Fact v facts post) (idx rest:List Nat) (hn:(idx++rest).Nodup) (hp:sel σ idx=pre) (hF:∀w,St w0 M σ w→Fact w) {τ:X→List HI} (hτ:∀x,sel σ rest++post x=τ x) (w:World) (hw:St w0 M σ w):
    Calls P f args.toArray w fun e w'=>∃x,e=.returned (v x)∧facts x∧St w0 M (τ x) w':=by
  have h1:=hw.sel (idx++rest) hn;have e:sel σ (idx++rest)=pre++sel σ rest:=by rw[←hp];simp[sel]
  rw[e] at h1;refine(hc w (fun i hi=>h1.all i (List.mem_append_left _ hi)) (List.pairwise_append.1 h1.disj).1 (hF w hw)).mono ?_
  rintro e w' ⟨x,rfl,hx,hs⟩
  refine⟨x,rfl,hx,?_⟩;rw[←hτ];exact(h1.trans hs).perm List.perm_append_comm
theorem ck (hf:∀args w,(callFunc f args).run P w=.ok (.enter f args) w) (hc:Ct P f args.toArray pre Fact v facts post) (idx rest:List Nat) (hp:sel σ idx=pre) (hF:∀w,St w0 M σ w→Fact w) {τ:X→List HI} (hτ:∀x,sel σ rest++post x=τ x)
    (ha:xs.map (evo ρ)=args:=by rfl) (hn:(idx++rest).Nodup:=by decide):
    cX P r (St w0 M σ) ⟨dst,.call ⟨.value (.func f),xs.toArray,ats⟩,ty,pos,af,g⟩ ρ v (fun x w'=>facts x∧St w0 M (τ x) w'):=
  cX.nx rfl (fun w _=>pq hf ha w) (fun w hw=>hc.apply idx rest hn hp hF hτ w hw)
theorem iq {x:Operand} {first cap:List Value} (hf:∀args w,(callFunc f args).run P w=.ok (.enter f args) w) (hc:Ct P f args.toArray pre Fact v facts post) (idx rest:List Nat) (hp:sel σ idx=pre) (hF:∀w,St w0 M σ w→Fact w)
    {τ:X→List HI} (hτ:∀x,sel σ rest++post x=τ x) (hx:evo ρ x=.func (.func f) first.toArray cap.toArray:=by rfl) (ha:first++xs.map (evo ρ)++cap=args:=by rfl) (hn:(idx++rest).Nodup:=by decide):
    cX P r (St w0 M σ) ⟨dst,.call ⟨.value x,xs.toArray,ats⟩,ty,pos,af,g⟩ ρ v (fun x w'=>facts x∧St w0 M (τ x) w'):=
  cX.nx rfl (fun w _=>qe hf hx ha w) (fun w hw=>hc.apply idx rest hn hp hF hτ w hw)
end
end
end Go.Proofs.YtbedndijejpcaaaGreat.Q
