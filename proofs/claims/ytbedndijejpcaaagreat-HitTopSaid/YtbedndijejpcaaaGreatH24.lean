/- Rect PSeenP HitP -/
import Derived.Test.YtbedndijejpcaaaGreatH23
set_option linter.unusedVariables false
set_option linter.unusedSimpArgs false
set_option linter.unusedSectionVars false
set_option maxRecDepth 100000
set_option maxHeartbeats 8000000
namespace Go.Proofs.YtbedndijejpcaaaGreat
open Go.RowKit
theorem qQ (s:Sp):Ct Tryz.prog 119 #[s.v] [] (fun _=>True) (X:=Unit) (fun _=>.bool (decide (s.hi≤s.lo))) (fun _=>True) (fun _=>[]):=by
  refine Ci fun w0 _=>?_;refine gg ?_;refine aj.ef xB fun b1=>?_;refine gg ?_;exact aT fun w hw=>⟨(),rfl,trivial,hw.pk⟩
theorem uS (s:Sp):Ct Tryz.prog 182 #[s.v] [] (fun _=>True) (X:=Unit) (fun _=>(qF s).v) (fun _=>True) (fun _=>[]):=by
  refine Ci fun w0 _=>?_;refine gg ?_;refine aj.ef xB fun b1=>?_;refine aj.ef cg fun b2=>?_;refine gg ?_;refine eF (xC (qQ s)) fun _ _=>?_;refine gg ?_;refine WP.aw rfl (fun h4=>?_) (fun h4=>?_)
  ·have hr:qF s=⟨0,0⟩:=if_pos h4;refine gv ?_;refine vl (aV (parts:=[]) (us:=[.int .i64 0,.int .i64 0]) (pl:=[(0,1),(1,1)]) Tryz.underlying141 Tryz.zeroValue141 rfl (by kernel_rfl) rfl rfl (by kernel_rfl)) ?_;refine aj.aX (xW rfl) fun _=>?_;refine gg ?_;exact jf rfl fun w hw=>⟨(),by rw[hr],trivial,hw.pk⟩
  ·have hr:qF s=s:=if_neg h4;refine gg ?_;refine aj.aX (xW rfl) fun _=>?_;refine gg ?_;exact jf rfl fun w hw=>⟨(),by rw[hr],trivial,hw.pk⟩
theorem FK (a n:Int):Ct Tryz.prog 120 #[.int .i64 a,.int .i64 n] [] (fun _=>True) (X:=Unit) (fun _=>(Hc a n).v) (fun _=>True) (fun _=>[]):=by
  refine Ci fun w0 _=>?_;refine gg ?_;refine aj.ef cg fun b4=>?_;refine gg ?_;refine vl (vC (bI _ _)) ?_;refine gg ?_;refine vl (vC (fc _ _ _)) ?_;refine vl (aV (us:=[.int .i64 _,.int .i64 _]) (pl:=[(0,1),(1,1)]) Tryz.underlying141 Tryz.zeroValue141 rfl (by kernel_rfl) rfl rfl (by kernel_rfl)) ?_;refine aj.aX (xW rfl) fun _=>?_;refine gg ?_;exact jf rfl fun w hw=>⟨(),rfl,trivial,hw.pk⟩
theorem y3 (s:Sp):Ct Tryz.prog 181 #[s.v] [] (fun _=>True) (X:=Unit) (fun _=>.int .i64 (GL s)) (fun _=>True) (fun _=>[]):=by
  refine Ci fun w0 _=>?_;refine gg ?_;refine aj.ef xB fun b1=>?_;refine gg ?_;refine vl (vC (fI _ _ _)) ?_;refine gg ?_;exact aT fun w hw=>⟨(),rfl,trivial,hw.pk⟩
theorem yw (a b:Sp):Ct Tryz.prog 157 #[a.v,b.v] [] (fun _=>True) (X:=Unit) (fun _=>(sa a b).v) (fun _=>True) (fun _=>[]):=by
  refine Ci fun w0 _=>?_;refine gg ?_;refine aj.ef xB fun b2=>?_;refine aj.ef xB fun b3=>?_;refine aj.ef cg fun b4=>?_;refine uE ?_;refine vl (aV (us:=[.int .i64 _,.int .i64 _]) (pl:=[(0,1),(1,1)]) Tryz.underlying141 Tryz.zeroValue141 rfl (by kernel_rfl) rfl rfl (by kernel_rfl)) ?_;refine eF (xC (uS ⟨max a.lo b.lo,min a.hi b.hi⟩)) fun _ _=>?_;refine aj.aX (xW rfl) fun _=>?_;refine gg ?_;exact jf rfl fun w hw=>⟨(),rfl,trivial,hw.pk⟩
theorem yF (a b:Sp):Ct Tryz.prog 156 #[a.v,b.v] [] (fun _=>True) (X:=Unit) (fun _=>(nJ a b).v) (fun _=>True) (fun _=>[]):=by
  refine Ci fun w0 _=>?_;refine gg ?_;refine aj.ef xB fun b2=>?_;refine aj.ef xB fun b3=>?_;refine aj.ef cg fun b4=>?_;refine gg ?_;refine eF (xC (qQ a)) fun _ _=>?_;refine gg ?_;refine WP.aw rfl (fun h5=>?_) (fun h5=>?_)
  ·have hr:nJ a b=qF b:=if_pos h5;refine gg ?_;refine eF (xC (uS b)) fun _ _=>?_;refine aj.aX (xW rfl) fun _=>?_;refine gg ?_;exact jf rfl fun w hw=>⟨(),by rw[hr],trivial,hw.pk⟩
  ·refine gg ?_;refine eF (xC (qQ b)) fun _ _=>?_;refine gg ?_;refine WP.aw rfl (fun h10=>?_) (fun h10=>?_)
   ·have hr:nJ a b=a:=(if_neg h5).trans (if_pos h10);refine gg ?_;refine aj.aX (xW rfl) fun _=>?_;refine gg ?_;exact jf rfl fun w hw=>⟨(),by rw[hr],trivial,hw.pk⟩
   ·have hr:nJ a b=⟨min a.lo b.lo,max a.hi b.hi⟩:=(if_neg h5).trans (if_neg h10);refine uE ?_;refine vl (aV (us:=[.int .i64 _,.int .i64 _]) (pl:=[(0,1),(1,1)]) Tryz.underlying141 Tryz.zeroValue141 rfl (by kernel_rfl) rfl rfl (by kernel_rfl)) ?_;refine aj.aX (xW rfl) fun _=>?_;refine gg ?_;exact jf rfl fun w hw=>⟨(),by rw[hr],trivial,hw.pk⟩
theorem yN (n:Int):Ct Tryz.prog 73 #[.int .i64 n] [] (fun _=>True) (X:=Unit) (fun _=>.int .i64 (max (cut n) 0)) (fun _=>True) (fun _=>[]):=by
  refine Ci fun w0 _=>?_;refine gg ?_;refine vl (vC (bI _ _)) ?_;refine gg ?_;exact aT fun w hw=>⟨(),rfl,trivial,hw.pk⟩
theorem GO (x y w h:Int):Ct Tryz.prog 35 #[.int .i64 x,.int .i64 y,.int .i64 w,.int .i64 h] [] (fun _=>True) (X:=Unit) (fun _=>(eH x y w h).v) (fun _=>True) (fun _=>[]):=by
  refine Ci fun w0 _=>?_;refine gg ?_;refine aj.ef cg fun b8=>?_;refine gg ?_;refine vl (vC (bI _ _)) ?_;refine gg ?_;refine vl (vC (bI _ _)) ?_;refine gg ?_;refine eF (xC (yN w)) fun _ _=>?_;refine gg ?_;refine eF (xC (yN h)) fun _ _=>?_;refine vl (aV (us:=[.int .i64 _,.int .i64 _,.int .i64 _,.int .i64 _]) (pl:=[(0,1),(1,1),(2,1),(3,1)]) Tryz.underlying52 Tryz.zeroValue52 rfl (by kernel_rfl) rfl rfl (by kernel_rfl)) ?_;refine aj.aX (xW rfl) fun _=>?_;refine gg ?_;exact jf rfl fun w hw=>⟨(),rfl,trivial,hw.pk⟩
theorem qn (r:Rc):Ct Tryz.prog 76 #[r.v] [] (fun _=>True) (X:=Unit) (fun _=>.bool (wQ r)) (fun _=>True) (fun _=>[]):=by
  refine Ci fun w0 _=>?_;refine gg ?_;refine aj.ef xB fun b1=>?_;refine gg ?_;exact aT fun w hw=>⟨(),rfl,trivial,hw.pk⟩
theorem sC (r:Rc):Ct Tryz.prog 154 #[r.v] [] (fun _=>True) (X:=Unit) (fun _=>(qL r).v) (fun _=>True) (fun _=>[]):=by
  refine Ci fun w0 _=>?_;refine gg ?_;refine aj.ef xB fun b1=>?_;refine aj.ef cg fun b2=>?_;refine gg ?_;refine eF (xC (qn r)) fun _ _=>?_;refine gg ?_;refine WP.cond rfl (fun h4=>?_) (fun h4=>?_)
  ·have hr:qL r=zR:=if_pos (by simpa using h4);refine gv ?_;refine vl (aV (parts:=[]) (us:=[.int .i64 0,.int .i64 0,.int .i64 0,.int .i64 0]) (pl:=[(0,1),(1,1),(2,1),(3,1)]) Tryz.underlying52 Tryz.zeroValue52 rfl (by kernel_rfl) rfl rfl (by kernel_rfl)) ?_;refine aj.aX (xW rfl) fun _=>?_;refine gg ?_;exact jf rfl fun w hw=>⟨(),by rw[hr];try rfl,trivial,hw.pk⟩
  ·have hr:qL r=r:=if_neg (by simp[h4]);refine gg ?_;refine aj.aX (xW rfl) fun _=>?_;refine gg ?_;exact jf rfl fun w hw=>⟨(),by rw[hr];try rfl,trivial,hw.pk⟩
theorem jU (r:Rc):Ct Tryz.prog 78 #[r.v] [] (fun _=>True) (X:=Unit) (fun _=>(bC r).v) (fun _=>True) (fun _=>[]):=by
  refine Ci fun w0 _=>?_;refine gg ?_;refine aj.ef xB fun b1=>?_;refine aj.ef cg fun b2=>?_;refine gg ?_;refine eF (xC (FK r.x r.w)) fun _ _=>?_;refine aj.aX (xW rfl) fun _=>?_;refine gg ?_;exact jf rfl fun w hw=>⟨(),rfl,trivial,hw.pk⟩
theorem jN (r:Rc):Ct Tryz.prog 79 #[r.v] [] (fun _=>True) (X:=Unit) (fun _=>(dh r).v) (fun _=>True) (fun _=>[]):=by
  refine Ci fun w0 _=>?_;refine gg ?_;refine aj.ef xB fun b1=>?_;refine aj.ef cg fun b2=>?_;refine gg ?_;refine eF (xC (FK r.y r.h)) fun _ _=>?_;refine aj.aX (xW rfl) fun _=>?_;refine gg ?_;exact jf rfl fun w hw=>⟨(),rfl,trivial,hw.pk⟩
theorem KP (x y:Sp):Ct Tryz.prog 155 #[x.v,y.v] [] (fun _=>True) (X:=Unit) (fun _=>(Wj x y).v) (fun _=>True) (fun _=>[]):=by
  refine Ci fun w0 _=>?_;refine gg ?_;refine aj.ef xB fun b2=>?_;refine aj.ef xB fun b3=>?_;refine aj.ef cg fun b4=>?_;refine gg ?_;refine wP (some 9) [0,1,2] [pT 0,pT 1,pT 2,pT 3,pT 4,pT 6,pF 5,pF 7,pT 8,pF 9] ?_;refine gg ?_;refine dG (xC (y3 x)) fun _ _=>?_;refine dG (xC (y3 y)) fun _ _=>?_;refine tE rfl (aV (us:=[.int .i64 _,.int .i64 _,.int .i64 _,.int .i64 _]) (pl:=[(0,1),(1,1),(2,1),(3,1)]) Tryz.underlying52 Tryz.zeroValue52 rfl (by kernel_rfl) rfl rfl (by kernel_rfl)) ?_;refine uz (xW rfl) fun _=>?_;refine gg ?_;exact jf rfl fun w hw=>⟨(),rfl,trivial,hw.pk⟩
theorem HL (a b:Rc):Ct Tryz.prog 116 #[a.v,b.v] [] (fun _=>True) (X:=Unit) (fun _=>(Hv a b).v) (fun _=>True) (fun _=>[]):=by
  refine Ci fun w0 _=>?_;refine gg ?_;refine aj.ef xB fun b2=>?_;refine aj.ef xB fun b3=>?_;refine aj.ef cg fun b4=>?_;refine gg ?_;refine wP (some 12) [0,1] [pT 0,pT 2,pT 5,pT 7,pF 1,pF 3,pF 4,pF 6,pF 8,pF 9,pF 10,pF 11,pF 12] ?_;refine gg ?_;refine dG (xC (jU a)) fun _ _=>?_;refine dG (xC (jU b)) fun _ _=>?_;refine dG (xC (yw (bC a) (bC b))) fun _ _=>?_;refine dG (xC (jN a)) fun _ _=>?_;refine dG (xC (jN b)) fun _ _=>?_;refine dG (xC (yw (dh a) (dh b))) fun _ _=>?_;refine dG (xC (KP (sa (bC a) (bC b)) (sa (dh a) (dh b)))) fun _ _=>?_;refine dG (xC (sC (Wj (sa (bC a) (bC b)) (sa (dh a) (dh b))))) fun _ _=>?_;refine uz (xW rfl) fun _=>?_;refine gg ?_;exact jf rfl fun w hw=>⟨(),rfl,trivial,hw.pk⟩
theorem Hi (a b:Rc):Ct Tryz.prog 113 #[a.v,b.v] [] (fun _=>True) (X:=Unit) (fun _=>(sG a b).v) (fun _=>True) (fun _=>[]):=by
  refine Ci fun w0 _=>?_;refine gg ?_;refine aj.ef xB fun b2=>?_;refine aj.ef xB fun b3=>?_;refine aj.ef cg fun b4=>?_;refine gg ?_;refine eF (xC (qn a)) fun _ _=>?_;refine gg ?_;refine WP.cond rfl (fun h5=>?_) (fun h5=>?_)
  ·have hr:sG a b=qL b:=if_pos (by simpa using h5);refine gg ?_;refine eF (xC (sC b)) fun _ _=>?_;refine aj.aX (xW rfl) fun _=>?_;refine gg ?_;exact jf rfl fun w hw=>⟨(),by rw[hr],trivial,hw.pk⟩
  ·refine gg ?_;refine eF (xC (qn b)) fun _ _=>?_;refine gg ?_;refine WP.cond rfl (fun h10=>?_) (fun h10=>?_)
   ·have hr:sG a b=a:=(if_neg (by simp[h5])).trans (if_pos (by simpa using h10));refine gg ?_;refine aj.aX (xW rfl) fun _=>?_;refine gg ?_;exact jf rfl fun w hw=>⟨(),by rw[hr],trivial,hw.pk⟩
   ·have hr:sG a b=Wj (nJ (bC a) (bC b)) (nJ (dh a) (dh b)):=(if_neg (by simp[h5])).trans (if_neg (by simp[h10]));refine gg ?_;refine wP (some 11) [0,1] [pT 0,pT 2,pT 5,pT 7,pF 1,pF 3,pF 4,pF 6,pF 8,pF 9,pF 10,pF 11] ?_;refine gg ?_;refine dG (xC (jU a)) fun _ _=>?_;refine dG (xC (jU b)) fun _ _=>?_;refine dG (xC (yF (bC a) (bC b))) fun _ _=>?_;refine dG (xC (jN a)) fun _ _=>?_;refine dG (xC (jN b)) fun _ _=>?_;refine dG (xC (yF (dh a) (dh b))) fun _ _=>?_;refine dG (xC (KP (nJ (bC a) (bC b)) (nJ (dh a) (dh b)))) fun _ _=>?_;refine uz (xW rfl) fun _=>?_;refine gg ?_;exact jf rfl fun w hw=>⟨(),by rw[hr],trivial,hw.pk⟩
theorem fG (r:Rc) (p:Pt) (hp:PB p):Ct Tryz.prog 30 #[r.v,cJ p.1 p.2] [] (fun _=>True) (X:=Unit) (fun _=>(l0 r p).v) (fun _=>True) (fun _=>[]):=by
  refine Ci fun w0 _=>?_;refine gg ?_;refine aj.ef xB fun b2=>?_;refine aj.ef cg fun b4=>?_;refine gg ?_;refine eF (xC (fa r.x r.y)) fun _ _=>?_;refine mv (v:=cJ _ _) rfl ?_;refine eF (xC (Jn (cut r.x,cut r.y) p ⟨cn _,cn _⟩ hp)) fun _ _=>?_;refine sg (v:=cJ _ _) rfl ?_;refine bW ?_;refine mv (v:=cJ _ _) rfl ?_;refine eF (xC (FH _ _ (cn _) (cn _))) fun _ _=>?_;refine mv (v:=cJ _ _) rfl ?_;refine eF (xC (Ii _ _ (cn _) (cn _))) fun _ _=>?_;refine gg ?_;refine aj.aX (xS rfl (jJ rfl)) fun _=>?_;refine gg ?_;refine aj.aX (xS rfl (jJ rfl)) fun _=>?_;refine gg ?_;refine aj.aX (xW rfl) fun _=>?_;refine gg ?_;exact jf rfl fun w hw=>⟨(),rfl,trivial,hw.pk⟩
theorem Dy (a n b e:Int):Ct Tryz.prog 75 #[.int .i64 a,.int .i64 n,.int .i64 b,.int .i64 e] [] (fun _=>True) (X:=Unit) (fun _=>.tuple #[.int .i64 (db a b),.int .i64 (max (cr (cr n b) e) 0)]) (fun _=>True) (fun _=>[]):=by
  refine Ci fun w0 _=>?_;refine gg ?_;refine vl (vC (fc _ _ _)) ?_;refine gg ?_;refine vl (vC (fI _ _ _)) ?_;refine gg ?_;refine vl (vC (fI _ _ _)) ?_;refine gg ?_;exact rF fun w hw=>⟨(),rfl,trivial,hw.pk⟩
theorem kM (r:Rc) (t ri b l:Int):Ct Tryz.prog 39 #[r.v,q4 t ri b l] [] (fun _=>True) (X:=Unit) (fun _=>(BH r t ri b l).v) (fun _=>True) (fun _=>[]):=by
  refine Ci fun w0 _=>?_;refine gg ?_;refine aj.ef xB fun b2=>?_;refine aj.ef xB fun b3=>?_;refine aj.ef cg fun b4=>?_;refine gg ?_;refine eF (xC (Dy r.x r.w l ri)) fun _ _=>?_;refine mv rfl ?_;refine gg ?_;refine aj.aX (xS rfl (jJ rfl)) fun _=>?_;refine gg ?_;refine aj.aX (xS rfl (jJ rfl)) fun _=>?_;refine gg ?_;refine eF (xC (Dy r.y r.h t b)) fun _ _=>?_;refine mv rfl ?_;refine gg ?_;refine aj.aX (xS rfl (jJ rfl)) fun _=>?_;refine gg ?_;refine aj.aX (xS rfl (jJ rfl)) fun _=>?_;refine gg ?_;refine aj.aX (xW rfl) fun _=>?_;refine gg ?_;exact jf rfl fun w hw=>⟨(),rfl,trivial,hw.pk⟩
theorem wT (r:Rc) (s:List Value) (hs:bZ s):Ct Tryz.prog 34 #[r.v,.agg s.toArray] [] (fun _=>True) (X:=Unit) (fun _=>(j1 r s).v) (fun _=>True) (fun _=>[]):=by
  refine Ci fun w0 _=>?_;refine gg ?_;refine aj.ef xB fun b2=>?_;refine aj.ef (xB (us:=s)) fun b3=>?_;refine aj.ef cg fun b4=>?_;refine gg ?_;refine vl (IX hs 35 36 37 38) ?_;refine eF (xC (kM r (val s 35) (val s 36) (val s 37) (val s 38))) fun _ _=>?_;refine aj.aX (xW rfl) fun _=>?_;refine gg ?_;exact jf rfl fun w hw=>⟨(),rfl,trivial,hw.pk⟩
theorem tB (r:Rc):Ct Tryz.prog 114 #[r.v] [] (fun _=>True) (X:=Unit) (fun _=>cJ (jy r).1 (jy r).2) (fun _=>True) (fun _=>[]):=by
  refine Ci fun w0 _=>?_;refine gg ?_;refine aj.ef xB fun b1=>?_;refine sg rfl ?_;refine gg ?_;refine eF (xC (fa r.x r.y)) fun _ _=>?_;refine sg (v:=cJ _ _) rfl ?_;refine gg ?_;exact aT fun w hw=>⟨(),rfl,trivial,hw.pk⟩
theorem ir (a b:Int):Ct Tryz.prog 217 #[.int .i64 a,.int .i64 b] [] (fun _=>True) (X:=Unit) (fun _=>.int .i64 (mG a b)) (fun _=>True) (fun _=>[]):=by
  refine Ci fun w0 _=>?_;refine gg ?_;refine vl (vC (fI _ _ _)) ?_;refine gg ?_;exact aT fun w hw=>⟨(),rfl,trivial,hw.pk⟩
theorem yC (box inn port:Sp) (b e:Sd):Ct Tryz.prog 184 #[box.v,inn.v,port.v,.agg #[.bool b.1,.int .i64 b.2],.agg #[.bool e.1,.int .i64 e.2]] [] (fun _=>True) (X:=Unit) (fun _=>.int .i64 (eZ box inn port b e)) (fun _=>True) (fun _=>[]):=by
  refine Ci fun w0 _=>?_;have k1:=gd (db port.lo b.2) box.lo;have k2:=gd inn.hi box.hi;have k3:=gd box.hi (cr port.hi e.2);have k4:=gd box.lo (db port.lo b.2);have k5:=gd box.lo inn.lo;refine gg ?_;refine aj.ef xB fun b5=>?_;refine aj.ef xB fun b6=>?_;refine aj.ef xB fun b7=>?_;refine aj.ef xB fun b8=>?_;refine aj.ef xB fun b9=>?_;refine gg ?_;refine vl (vC (fc _ _ _)) ?_;refine gg ?_;refine eF (xC (ir (db port.lo b.2) (box.lo))) fun _ _=>?_;refine iX ?_;refine aj.aY 25 rfl (fun h25=>?_) (fun h25=>?_)
  ·refine gg ?_;refine WP.aw rfl (fun h28=>?_) (fun h28=>?_)
   ·refine gg ?_;refine eF (xC (ir (inn.hi) (box.hi))) fun _ _=>?_;refine gg ?_;exact aT fun w hw=>⟨(),congrArg (Value.int .i64) (by unfold eZ;first | (simp_all;done) | (simp_all;omega)),trivial,hw.pk⟩
   ·refine gg ?_;refine WP.cond rfl (fun h38=>?_) (fun h38=>?_)
    ·refine gg ?_;exact aT fun w hw=>⟨(),congrArg (Value.int .i64) (by unfold eZ;first | (simp_all;done) | (simp_all;omega)),trivial,hw.pk⟩
    ·refine gg ?_;refine wP none [0,1,2,3,4] [pT 0,pT 1,pT 2,pT 3,pT 4,pT 5,pT 6,pF 7,pT 8] ?_;refine gg ?_;refine tD (vC (fI _ _ _)) ?_;refine dG (xC (ir (box.hi) (cr port.hi e.2))) fun _ _=>?_;refine gg ?_;refine WP.cond rfl (fun h48=>?_) (fun h48=>?_)
     ·refine gg ?_;refine eF (xC (ir (box.lo) (db port.lo b.2))) fun _ _=>?_;refine gg ?_;refine eF (xC (ir (box.lo) (inn.lo))) fun _ _=>?_;refine av ?_;refine vl (pO rfl (by omega)) ?_;refine gg ?_;exact aT fun w hw=>⟨(),congrArg (Value.int .i64) (by unfold eZ;first | (simp_all;done) | (simp_all;omega)),trivial,hw.pk⟩
     ·refine gg ?_;refine eF (xC (ir (box.lo) (inn.lo))) fun _ _=>?_;refine av ?_;refine vl (pO rfl (by omega)) ?_;refine gg ?_;exact aT fun w hw=>⟨(),congrArg (Value.int .i64) (by unfold eZ;first | (simp_all;done) | (simp_all;omega)),trivial,hw.pk⟩
  ·refine gg ?_;refine WP.br rfl ?_;refine gg ?_;refine WP.cond rfl (fun h38=>?_) (fun h38=>?_)
   ·refine gg ?_;exact aT fun w hw=>⟨(),congrArg (Value.int .i64) (by unfold eZ;first | (simp_all;done) | (simp_all;omega)),trivial,hw.pk⟩
   ·refine gg ?_;refine wP none [0,1,2,3,4] [pT 0,pT 1,pT 2,pT 3,pT 4,pT 5,pT 6,pF 7,pT 8] ?_;refine gg ?_;refine tD (vC (fI _ _ _)) ?_;refine dG (xC (ir (box.hi) (cr port.hi e.2))) fun _ _=>?_;refine gg ?_;refine WP.cond rfl (fun h48=>?_) (fun h48=>?_)
    ·refine gg ?_;refine eF (xC (ir (box.lo) (db port.lo b.2))) fun _ _=>?_;refine gg ?_;refine eF (xC (ir (box.lo) (inn.lo))) fun _ _=>?_;refine av ?_;refine vl (pO rfl (by omega)) ?_;refine gg ?_;exact aT fun w hw=>⟨(),congrArg (Value.int .i64) (by unfold eZ;first | (simp_all;done) | (simp_all;omega)),trivial,hw.pk⟩
    ·refine gg ?_;refine eF (xC (ir (box.lo) (inn.lo))) fun _ _=>?_;refine av ?_;refine vl (pO rfl (by omega)) ?_;refine gg ?_;exact aT fun w hw=>⟨(),congrArg (Value.int .i64) (by unfold eZ;first | (simp_all;done) | (simp_all;omega)),trivial,hw.pk⟩
theorem ahf (a b:Rc):inR a b=true↔min a.w a.h≤0∨(((bC a).hi≤(bC a).lo∨((bC b).lo≤(bC a).lo∧(bC a).hi≤(bC b).hi))∧((dh a).hi≤(dh a).lo∨((dh b).lo≤(dh a).lo∧(dh a).hi≤(dh b).hi))):=by
  simp only[inR,inS,wQ,Bool.or_eq_true,Bool.and_eq_true,decide_eq_true_eq]
theorem ahF (a:Rc):inR a a=true:=(ahf a a).2 (.inr ⟨.inr ⟨by omega,by omega⟩,.inr ⟨by omega,by omega⟩⟩)
def ahS (x w:Int):Prop:=-1099511627776≤x∧0<w∧x+w≤1099511627776∧w≤1099511627776
def ahR (r:Rc):Prop:=min r.w r.h≤0∨(ahS r.x r.w∧ahS r.y r.h)
theorem ahS.span {x w:Int} (h:ahS x w):(Hc x w).lo=x∧(Hc x w).hi=x+w:=by
  unfold ahS at h;unfold Hc db cut;dsimp only;omega
theorem ahi (x w:Int) (h:w≤0):(Hc x w).hi=(Hc x w).lo:=by
  unfold Hc db cut;dsimp only;omega
theorem ahh (x w:Int):Bn (Hc x w).lo∧Bn (Hc x w).hi:=⟨cn _,cn _⟩
theorem ahx {a b c:Rc} (ha:ahR a) (h1:inR a b=true) (h2:inR b c=true):inR a c=true:=by
  rw[ahf] at h1 h2 ⊢
  rcases ha with ha | ⟨hx,hy⟩
  · exact .inl ha
  · have e1 := hx.span
    have e2:=hy.span;have f1:(bC a).lo=a.x∧(bC a).hi=a.x+a.w:=e1;have f2:(dh a).lo=a.y∧(dh a).hi=a.y+a.h:=e2;unfold ahS at hx hy;have k1:b.w≤0→(bC b).hi=(bC b).lo:=ahi _ _;have k2:b.h≤0→(dh b).hi=(dh b).lo:=ahi _ _
    generalize bC a=A at*
    generalize bC b=B at*
    generalize bC c=C at*
    generalize dh a=A' at*
    generalize dh b=B' at*
    generalize dh c=C' at*
    omega
theorem ahk {p q:Sp} (h:0<GL (sa p q)):(sa p q).lo=max p.lo q.lo∧(sa p q).hi=min p.hi q.hi∧max p.lo q.lo<min p.hi q.hi:=by
  by_cases hn:min p.hi q.hi≤max p.lo q.lo
  · have e : sa p q = ⟨0, 0⟩ := if_pos hn
    rw[e] at h;exact absurd h (by decide)
  · have e : sa p q = ⟨max p.lo q.lo, min p.hi q.hi⟩ := if_neg hn
    rw[e];exact⟨rfl,rfl,by omega⟩
theorem aho {s:Sp} (h1:Bn s.lo) (h2:Bn s.hi) (h:s.lo<s.hi):ahS s.lo (GL s)∧s.lo+GL s≤s.hi:=by
  unfold Bn at h1 h2;unfold ahS GL cr cut;omega
theorem aht (a b : Rc) : min (Hv a b).w (Hv a b).h ≤ 0 ∨ ((ahS (Hv a b).x (Hv a b).w ∧ ahS (Hv a b).y (Hv a b).h) ∧
    ((bC a).lo ≤ (Hv a b).x ∧ (Hv a b).x + (Hv a b).w ≤ (bC a).hi ∧ (bC b).lo ≤ (Hv a b).x ∧ (Hv a b).x + (Hv a b).w ≤ (bC b).hi) ∧
    ((dh a).lo ≤ (Hv a b).y ∧ (Hv a b).y + (Hv a b).h ≤ (dh a).hi ∧ (dh b).lo ≤ (Hv a b).y ∧ (Hv a b).y + (Hv a b).h ≤ (dh b).hi)) := by
  by_cases he:min (Hv a b).w (Hv a b).h≤0
  · exact .inl he
  · right
    have e:Hv a b=Wj (sa (bC a) (bC b)) (sa (dh a) (dh b)):=by
      unfold Hv qL at he ⊢
      split
      · rename_i h;rw[if_pos h] at he;exact absurd (by decide) he
      · rfl
    rw[e] at he ⊢;unfold Wj at he ⊢;dsimp only at he ⊢;obtain⟨a1,a2,a3⟩:=ahk (p:=bC a) (q:=bC b) (by omega);obtain⟨b1,b2,b3⟩:=ahk (p:=dh a) (q:=dh b) (by omega);have w1:Bn (bC a).lo∧Bn (bC a).hi:=ahh _ _;have w2:Bn (bC b).lo∧Bn (bC b).hi:=ahh _ _;have w3:Bn (dh a).lo∧Bn (dh a).hi:=ahh _ _;have ahT:Bn (dh b).lo∧Bn (dh b).hi:=ahh _ _;unfold Bn at w1 w2 w3 ahT;have s1:=aho (s:=sa (bC a) (bC b)) (by unfold Bn;omega) (by unfold Bn;omega) (by omega);have s2:=aho (s:=sa (dh a) (dh b)) (by unfold Bn;omega) (by unfold Bn;omega) (by omega);exact⟨⟨s1.1,s2.1⟩,by omega,by omega⟩
theorem ahu (a b:Rc):ahR (Hv a b):=by
  rcases aht a b with h | ⟨h,_⟩
  · exact .inl h
  · exact .inr h
theorem ahK (a b:Rc):inR (Hv a b) a=true∧inR (Hv a b) b=true:=by
  rw[ahf,ahf]
  rcases aht a b with h | ⟨⟨hx,hy⟩,h1,h2⟩
  · exact⟨.inl h,.inl h⟩
  · have f1 : (bC (Hv a b)).lo = (Hv a b).x ∧ (bC (Hv a b)).hi = (Hv a b).x + (Hv a b).w := hx.span
    have f2:(dh (Hv a b)).lo=(Hv a b).y∧(dh (Hv a b)).hi=(Hv a b).y+(Hv a b).h:=hy.span;rw[f1.1,f1.2,f2.1,f2.2];exact⟨.inr ⟨.inr ⟨by omega,by omega⟩,.inr ⟨by omega,by omega⟩⟩,.inr ⟨.inr ⟨by omega,by omega⟩,.inr ⟨by omega,by omega⟩⟩⟩
theorem ahM:ahR zR:=.inl (by decide)
theorem ahH (a:Rc):inR zR a=true:=(ahf _ _).2 (.inl (by decide))
theorem ahP (w h:Int):ahR (eH 0 0 w h):=by
  unfold ahR eH ahS cut;dsimp only;omega
section
variable {F:ar (List Value)} {d:Int→Nat} {g:Int→Option Rc} {o:Int→Pt} {win:Rc}
theorem ahv (hF:WF F d) (hw:ahR win):∀(n:Nat) (y:Int),aK F y=true→d y<n→ahR (fz F g o win y).c∧inR (fz F g o win y).c win=true
  | 0,_,_,h=>by omega
  | n + 1, y, hh, hd => by
    cases hs:(g y).isSome with
    | false=>rw[u6 (CB hs)];exact⟨ahM,ahH _⟩
    | true =>
      by_cases h:y=0∨val (ah F y) 1=3
      · rw[ahj hF hs hh h];exact⟨hw,ahF _⟩
      · have h0 : y ≠ 0 := fun e => h (.inl e)
        obtain⟨h3,_,_,h4⟩:=hF.iV hh h0;obtain⟨i1,i2⟩:=ahv hF hw n (upF F y) h3 (by omega);rw[ahm hF hs hh h0 (fun e=>h (.inr e))];dsimp only;unfold oG
        split
        · exact⟨i1,i2⟩
        · exact⟨ahu _ _,ahx (ahu _ _) (ahK _ _).1 i2⟩
theorem ahE (hF:WF F d) (hw:ahR win) {y:Int} (hh:aK F y=true):inR (fz F g o win y).c win=true:=(ahv hF hw (d y+1) y hh (by omega)).2
theorem ahy (hF:WF F d) {y:Int} (hs:(g y).isSome=true) (hh:aK F y=true):(fz F g o win y).r.w=((g y).getD zR).w∧(fz F g o win y).r.h=((g y).getD zR).h:=by
  by_cases h:y=0∨val (ah F y) 1=3
  · rw[ahj hF hs hh h];exact⟨rfl,rfl⟩
  · rw [ahm hF hs hh (fun e => h (.inl e)) (fun e => h (.inr e))]
    dsimp only
    split<;>exact⟨rfl,rfl⟩
theorem CE (hF:WF F d) (hh:∀k r,g k=some r→aK F k=true) (y:Int):(lookM (lS F g o win (order F)) y).getD iD.v=(fz F g o win y).v:=by
  by_cases hy:y∈order F
  · exact w6 hy
  · rw [mP, if_neg hy, u6]
    · rfl
    · cases e : g y with
      | none=>rfl
      | some r=>exact absurd (hF.bw.2 (hh y r e)) hy
end
def HQ (s:Sp) (n:Int):Bool:=decide (s.lo≤n)&&decide (n<s.hi)
def Bl (r:Rc) (p:Pt):Bool:=HQ (bC r) p.1&&HQ (dh r) p.2
def AO (s:List Value):Bool:=iJ s 47||(decide (val s 1=3)||decide (val s 1=4))
def FO (s:List Value) (u:Int):PN:=⟨u,AO s,if iJ s 47=true then val s 48 else 0⟩
section
variable (F:ar (List Value)) (g:Int→Option Rc) (o:Int→Pt) (win:Rc)
abbrev lf (g:Int→Option Rc):Int→Bool:=fun y=>(g y).isSome
def cO:List Int:=(order F).filter (lf g)
def jV (y:Int):PN:=FO (ah F y) (idxP (cO F g) (upF F y))
def bY:List PN:=(cO F g).map (jV F g)
def cS:List Int:=(gS (bY F g)).map fun i=>gI (cO F g) i.toNat
def dm (p:Pt) (x:Int):Bool:=(g x).isSome&&(aK F x&&(!iJ (ah F x) 52&&(Bl (fz F g o win x).r p&&Bl (fz F g o win x).c p)))
end
def hC (l:List Int) (m:Int→Bool):Nat→Int
  | 0=>-1
  | k+1=>if m (gI l k)=true then gI l k else hC l m k
def dC (l:List Int) (m:Int→Bool):Int:=hC l m l.length
theorem uh (l:List Int) (m:Int→Bool):∀k:Nat,k≤l.length→(hC l m k= -1∧∀j,j<k→m (gI l j)=false)∨∃j,j<k∧hC l m k=gI l j∧m (gI l j)=true∧∀i,j<i→i<k→m (gI l i)=false
  | 0,_=>.inl ⟨rfl,fun j h=>by omega⟩
  | k + 1, h => by
    unfold hC;cases e:m (gI l k) with
    | true=>rw[if_pos rfl];exact .inr ⟨k,by omega,rfl,e,fun i h1 h2=>by omega⟩
    | false =>
      rw[if_neg (by simp)]
      rcases uh l m k (by omega) with ⟨h1,h2⟩ | ⟨j,h1,h2,h3,h4⟩
      · exact .inl ⟨h1, fun j hj => by
          by_cases hjk : j = k
          · rw [hjk]; exact e
          · exact h2 j (by omega)⟩
      · exact .inr ⟨j, by omega, h2, h3, fun i hi hik => by
          by_cases hjk : i = k
          · rw [hjk]; exact e
          · exact h4 i hi (by omega)⟩
theorem u9 {l:List Int} {m m':Int→Bool} (h:∀x∈l,m x=m' x):∀k:Nat,k≤l.length→hC l m k=hC l m' k
  | 0,_=>rfl
  | k+1,hk=>by unfold hC;rw[h _ (eo (by omega)),u9 h k (by omega)]
theorem zm {L:List PN} {i:Int} (h:i∈gS L):0≤i∧i<L.length:=by
  unfold gS at h
  split at h
  · cases h
  · rename_i hn
    have h2:¬L=[]:=fun e=>hn (.inl e);have h3:uv L=true:=by
      cases e:uv L with
      | true=>rfl
      | false=>exact absurd (.inr e) hn
    exact(C2 (wO h3) h2).1 h
theorem ahq (L:List PN):(gS L).Nodup:=by
  unfold gS
  split
  · exact List.nodup_nil
  · rename_i hn
    have h3:uv L=true:=by
      cases e:uv L with
      | true=>rfl
      | false=>exact absurd (.inr e) hn
    exact zZ (wO h3) _ _ (Nat.le_refl _)
theorem CH (L:List PN):(gS L).length≤L.length:=by
  unfold gS
  split
  · exact Nat.zero_le _
  · rename_i hn
    have h2:¬L=[]:=fun e=>hn (.inl e);have h3:uv L=true:=by
      cases e:uv L with
      | true=>rfl
      | false=>exact absurd (.inr e) hn
    rw[CQ (wO h3) h2];exact Nat.le_refl _
theorem nu {l:List Int} {x:Int} (h:x∉l):idxP l x= -1:=by
  have h1:=rK l x;have h2:¬0≤idxP l x:=fun e=>h (h1.2.1 e);omega
theorem mT:∀{a:List Int} {x:Int} (b:List Int),x∈a→idxP (a++b) x=idxP a x
  | z :: a, x, b, h => by
    rw[List.cons_append,idxP,idxP]
    by_cases e:z=x
    · rw[if_pos e,if_pos e]
    · rw[if_neg e,if_neg e,mT b (by rcases List.mem_cons.1 h with h | h;exact absurd h.symm e;exact h)]
theorem ue:∀{a:List Int} {x:Int},x∉a→idxP (a++[x]) x=a.length
  | [],x,_=>by simp[idxP]
  | z :: a, x, h => by
    rw[List.mem_cons] at h;rw[List.cons_append,idxP,if_neg (fun e=>h (.inl e.symm)),ue (fun e=>h (.inr e)),List.length_cons,if_neg (by omega)];omega
theorem gL {l:List Int} (hn:l.Nodup) {i:Nat} {x:Int} (h:l[i]?=some x):idxP l x=i:=by
  obtain⟨hi,he⟩:=List.getElem?_eq_some_iff.1 h;have e1:l=l.take i++[x]++l.drop (i+1):=by
    rw[←l6 h,List.take_append_drop]
  have h2:x∉l.take i:=by
    intro hm;rw[e1,List.append_assoc,List.nodup_append] at hn;exact hn.2.2 x hm x (by simp) rfl
  have h3:=ue h2;rw[e1,mT _ (by simp),h3,List.length_take];omega
def PM (a:List Int) (pm:List (Int×Value)):Prop:=∀x,(x= -1∨x∈a)→(lookM pm x).getD (.int .i64 0)=.int .i64 (idxP a x)
theorem PM.nil:PM [] [(-1,.int .i64 (-1))]:=fun x hx=>by
  rcases hx with rfl | hx
  · rfl
  · cases hx
theorem PM.step {a:List Int} {pm:List (Int×Value)} (h:PM a pm) (ha:∀x∈a,0≤x) {y:Int} (hy:0≤y) (hn:y∉a):PM (a++[y]) (putM pm y (.int .i64 (a.length:Int))):=fun x hx=>by
  rw[kJ]
  by_cases e:y=x
  · subst e
    rw[if_pos rfl,ue hn];rfl
  · rw [if_neg e]
    rcases hx with rfl | hx
    · rw [h _ (.inl rfl), nu (fun e => by have := ha _ e; omega), nu (fun e => by
        rcases List.mem_append.1 e with e | e
        · have := ha _ e; omega
        · have : (-1 : Int) = y := by simpa using e
          omega)]
    · rcases List.mem_append.1 hx with hx | hx
      · rw[h _ (.inr hx),mT _ hx]
      · exact absurd (by simpa using hx:x=y).symm e
def F6 (F:ar (List Value)) (g:Int→Option Rc):Prop:=∀y,(g y).isSome=true→aK F y=true∧(y≠0→(g (upF F y)).isSome=true)
section
variable {F:ar (List Value)} {d:Int→Nat} {g:Int→Option Rc} {o:Int→Pt} {win:Rc}
theorem eR {y:Int}:y∈cO F g↔y∈order F∧(g y).isSome=true:=List.mem_filter
theorem jv (hF:WF F d):(cO F g).Nodup:=hF.fB.filter _
theorem fo:(bY F g).length=(cO F g).length:=List.length_map _
theorem yL {x:Int} (h:x∈cS F g):x∈cO F g:=by
  obtain⟨i,hi,rfl⟩:=List.mem_map.1 h;have h1:=zm hi;rw[fo] at h1;exact eo (by omega)
theorem C4:(cS F g).length≤(cO F g).length:=by
  unfold cS;rw[List.length_map,←fo];exact CH _
theorem zK (k:Nat):cO F g=((order F).take k).filter (lf g)++((order F).drop k).filter (lf g):=by
  unfold cO;rw[←List.filter_append,List.take_append_drop]
theorem Ka {k:Nat} {x:Int} (h:x∈((order F).take k).filter (lf g)):x∈cO F g:=by rw[zK k];exact List.mem_append_left _ h
theorem Gu (hF:WF F d) {k:Nat} {x:Int} (h:x∈((order F).take k).filter (lf g)):0≤x:=by
  obtain⟨b,hb⟩:=aL (hF.bw.1 (eR.1 (Ka h)).1);exact(hF.range x b hb).1
theorem N0 (hF:WF F d) {k:Nat} {y:Int} (hy:(order F)[k]?=some y):y∉((order F).take k).filter (lf g):=fun h=>by
  have h1:y∈(order F).take k:=(List.mem_filter.1 h).1;obtain⟨i,hi⟩:=List.getElem?_of_mem h1;have hl:=(List.getElem?_eq_some_iff.1 hi).1;rw[List.length_take] at hl;rw[List.getElem?_take,if_pos (by omega)] at hi;have:=(gL hF.fB hi).symm.trans (gL hF.fB hy);omega
theorem Kc (hF:WF F d) (hu:F6 F g) {k:Nat} {y:Int} (hy:(order F)[k]?=some y) (hg:(g y).isSome=true) {pm:List (Int×Value)} (hp:PM (((order F).take k).filter (lf g)++[y]) pm):
    (lookM pm (upF F y)).getD (.int .i64 0)=.int .i64 (idxP (cO F g) (upF F y)):=by
  have e1:((order F).take (k+1)).filter (lf g)=((order F).take k).filter (lf g)++[y]:=o6 hy hg
  by_cases h0:y=0
  · have hup:upF F y= -1:=by
      obtain⟨b,hb,hu0⟩:=hF.root;rw[h0,ch hb,hu0]
    rw[hup,hp _ (.inl rfl),nu,nu]
    · intro h
      obtain⟨b,hb⟩:=aL (hF.bw.1 (eR.1 h).1);have:=(hF.range _ b hb).1;omega
    · rw [← e1]
      intro h;have:=Gu hF h;omega
  · have h1 : upF F y ∈ ((order F).take k).filter (lf g) := List.mem_filter.2 ⟨hF.before hy h0, (hu y hg).2 h0⟩
    rw[hp _ (.inr (List.mem_append_left _ h1)),mT _ h1,zK k,mT _ h1]
theorem HV (hm:∀k r,g k=some r→aK F k=true) (hF:WF F d) (y:Int):(lookM (lS F g o win (order F)) y).isSome=(g y).isSome:=by
  rw[mP]
  by_cases h:y∈order F
  · rw[if_pos h];cases g y<;>rfl
  · rw [if_neg h]
    cases e:g y with
    | none=>rfl
    | some r=>exact absurd (hF.bw.2 (hm y r e)) h
end
end Go.Proofs.YtbedndijejpcaaaGreat
