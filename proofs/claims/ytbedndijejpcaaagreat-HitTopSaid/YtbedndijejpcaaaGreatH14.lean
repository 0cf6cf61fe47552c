/- Nums2 Nums3 Breaks FlowBase FlowPlain FlowFact -/
import Derived.Test.YtbedndijejpcaaaGreatH13
set_option linter.unusedVariables false
set_option linter.unusedSimpArgs false
set_option linter.unusedSectionVars false
set_option maxRecDepth 100000
set_option maxHeartbeats 8000000
namespace Go.Proofs.YtbedndijejpcaaaGreat
open Go.RowKit
theorem CT (A:Option Addr) (c:Nat) (l:List Int) (hl:l.length≤10000):Ct Tryz.prog 238 #[.slice A l.length c] [] (fun w=>vd w A l) (X:=Unit) (fun _=>.tuple #[.int .i64 (KS l),.int .i64 (KV l)]) (fun _=>True) (fun _=>[]):=by
  refine Ci fun w0 hz=>?_;refine gg ?_;refine WP.bm (X:=Nat) [6,7] (fun k=>[(2,.int .i64 (KS (l.take k))),(3,.int .i64 (KV (l.take k))),(8,.int .i64 (k:Int))]) (fun k w=>k≤l.length∧St w0 (ay []) [] w) (fun k=>l.length - k) 0 ⟨rfl,rfl,rfl,trivial⟩ (fun w hw=>⟨Nat.zero_le _,hw⟩) (fun k ρ0=>?_);refine WP.fact (fun hkl=>?_);refine gg ?_;refine WP.aw rfl (fun h9=>?_) (fun h9=>?_)
  ·obtain⟨x,hx⟩:∃x,l[k]?=some x:=⟨_,List.getElem?_eq_getElem (by omega)⟩;obtain⟨ab,ao,rfl,hc⟩:=hz k x hx;refine gg ?_;refine vl (vO hc) ?_;refine gg ?_;refine vl (vC (bI _ _)) ?_;refine Lx ?_;exact nl fun w hw=>⟨rfl,k+1,(by omega),⟨(congrArg (Value.int .i64) (FY hx).symm),(congrArg (Value.int .i64) (FG hx).symm),rfl,jS,jI,trivial⟩,⟨by omega,hw⟩⟩
  ·obtain rfl:k=l.length:=by omega
   have htk:l.take l.length=l:=List.take_of_length_le (Nat.le_refl _);refine WP.exit (an ?_);exact rF fun w hw=>⟨(),by rw[htk];rfl,trivial,hw.pk⟩
theorem rl (A:Option Addr) (c:Nat) (l:List Int) (hl:l.length≤10000):Ct Tryz.prog 228 #[.slice A l.length c] [] (fun w=>vd w A l) (X:=Unit) (fun _=>.int .i64 (oX l)) (fun _=>True) (fun _=>[]):=by
  refine Ci fun w0 hz=>?_;have hb1:=Bb l;have hb2:=B7 l;refine gg ?_;refine eF (xC (CT A c l hl) (hF:=fun w hw=>hw.rd hz ax)) fun _ _=>?_;refine mv rfl ?_;refine gg ?_;exact aT fun w hw=>⟨(),rfl,trivial,hw.pk⟩
theorem JN (a b:Int):Ct Tryz.prog 229 #[.int .i64 a,.int .i64 b] [] (fun _=>True) (X:=Unit) (fun _=>.int .i64 (oX [a,b])) (fun _=>True) (fun _=>[]):=by
  refine Ci fun w0 _=>?_;have hb1:=Bb [a,b];have hb2:=B7 [a,b];refine gg ?_;refine aj.ef (xN (L2 rfl)) fun g10=>?_;refine eF (xC (CT (some ⟨g10,0,none⟩) 2 [a,b] (by simp)) (hF:=fun w hw=>hw.eO (i:=0) (f:=Value.int .i64) rfl)) fun _ _=>?_;refine mv rfl ?_;refine gg ?_;exact aT fun w hw=>⟨(),rfl,trivial,hw.pk⟩
theorem JE (room size bk bn ek en base:Int):Ct Tryz.prog 201 #[.int .i64 room,.int .i64 size,.agg #[.int .i64 bk,.int .i64 bn],.agg #[.int .i64 ek,.int .i64 en],.int .i64 base] [] (fun _=>True) (X:=Unit) (fun _=>.tuple #[.int .i64 (ja room size bk bn ek en base).1,.int .i64 (ja room size bk bn ek en base).2]) (fun _=>True) (fun _=>[]):=by
  refine Ci fun w0 _=>?_;have hal:-1099511627776≤cr (cr (cr room size) (cC bk bn base 0)) (cC ek en base 0)∧cr (cr (cr room size) (cC bk bn base 0)) (cC ek en base 0)≤1099511627776:=na _ _;have hdv:l8 (cr (cr (cr room size) (cC bk bn base 0)) (cC ek en base 0)) 2=cr (cr (cr room size) (cC bk bn base 0)) (cC ek en base 0) / 2:=by unfold l8;rw[if_neg (by omega),w7 hal.1 hal.2];rfl
  refine gg ?_;refine aj.ef xB fun b7=>?_;refine aj.ef xB fun b8=>?_;refine gg ?_;refine wP none [0,1] [pT 0,pT 1,pT 3,pT 4,pF 2,pF 5,pT 6,pT 7] ?_;refine gg ?_;refine dG (xC (a7 bk bn base 0)) fun _ _=>?_;refine dG (xC (a7 ek en base 0)) fun _ _=>?_;refine gg ?_;refine vl (vC (fI _ _ _)) ?_;refine gg ?_;refine vl (vC (fI _ _ _)) ?_;refine gg ?_;refine vl (vC (fI _ _ _)) ?_;refine gg ?_;refine wP none [0,1] [pT 0,pT 1,pT 4,pT 5,pF 2,pT 3,pF 6,pT 7,pT 8,pT 9] ?_;refine gg ?_;refine dG (xC (cp bk bn base)) fun _ _=>?_;refine gg ?_;refine dG (xC (cp ek en base)) fun _ _=>?_;refine gg ?_;refine WP.aw rfl (fun h38=>?_) (fun h38=>?_)
  case' _=>
   have hr:=Kk (room:=room) (size:=size) (bn:=bn) (en:=en) h38
  rotate_left
  case' _=>
   refine cK ?_;refine aj.aY 43 rfl (fun h43=>?_) (fun h43=>?_)
   case' _=>
    refine gg ?_;refine WP.cond rfl (fun h41=>?_) (fun h41=>?_)
    case' _=>
     have hr:=El (room:=room) (size:=size) (bn:=bn) (en:=en) h38 (by simpa using h43) (by simpa using h41);refine bW ?_;refine vl (Tz rfl rfl) ?_
    rotate_left
    case' _=>
     have hq2:bE ek base=true:=by simpa using h41
     refine gg ?_;refine WP.cond rfl (fun h51=>?_) (fun h51=>?_)
     case' _=>
      have hr:=tt (room:=room) (size:=size) (bn:=bn) (en:=en) h38 (by simpa using h51) (by first | exact hq2 | (exfalso;simp_all;done))
     rotate_left
     case' _=>
      have hq1:bE bk base=true:=by simpa using h51
      refine gg ?_;refine WP.cond rfl (fun h54=>?_) (fun h54=>?_)
      case' _=>
       have hr:=ve (room:=room) (size:=size) (bn:=bn) (en:=en) h38 hq1 (by simpa using h54)
      rotate_left
      case' _=>
       have hr:=vT (room:=room) (size:=size) (bn:=bn) (en:=en) hq1 (by simpa using h54)
   rotate_left 4
   case' _=>
    refine gg ?_;refine WP.br rfl ?_;refine gg ?_;refine WP.cond rfl (fun h51=>?_) (fun h51=>?_)
    case' _=>
     have hr:=tt (room:=room) (size:=size) (bn:=bn) (en:=en) h38 (by simpa using h51) (by first | exact hq2 | (exfalso;simp_all;done))
    rotate_left
    case' _=>
     have hq1:bE bk base=true:=by simpa using h51
     refine gg ?_;refine WP.cond rfl (fun h54=>?_) (fun h54=>?_)
     case' _=>
      have hr:=ve (room:=room) (size:=size) (bn:=bn) (en:=en) h38 hq1 (by simpa using h54)
     rotate_left
     case' _=>
      have hr:=vT (room:=room) (size:=size) (bn:=bn) (en:=en) hq1 (by simpa using h54)
  all_goals
   refine gg ?_;exact rF fun w hw=>⟨(),by rw[hr];first | rfl | (show Value.tuple #[.int .i64 (l8 (cr (cr (cr room size) (cC bk bn base 0)) (cC ek en base 0)) 2),.int .i64 (cr (cr (cr room size) (cC bk bn base 0)) (cC ek en base 0) - l8 (cr (cr (cr room size) (cC bk bn base 0)) (cC ek en base 0)) 2)]=_;rw[hdv];rfl),trivial,hw.pk⟩
theorem Dx (A:Option Addr) (c:Nat) (l:List Int) (gap:Int) (hl:l.length≤10000):Ct Tryz.prog 215 #[.slice A l.length c,.int .i64 gap] [] (fun w=>vd w A l) (X:=Unit) (fun _=>.int .i64 (fV l gap)) (fun _=>True) (fun _=>[]):=by
  refine Ci fun w0 hz=>?_;refine gg ?_;refine WP.bm (X:=Nat) [1,8,9] (fun k=>[(5,.int .i64 (iZ l gap k)),(10,.int .i64 (k:Int))]) (fun k w=>k≤l.length∧St w0 (ay []) [] w) (fun k=>l.length - k) 0 ⟨rfl,rfl,trivial⟩ (fun w hw=>⟨Nat.zero_le _,hw⟩) (fun k ρ0=>?_);refine WP.fact (fun hkl=>?_);refine gg ?_;refine WP.aw rfl (fun h11=>?_) (fun h11=>?_)
  ·obtain⟨x,hx⟩:∃x,l[k]?=some x:=⟨_,List.getElem?_eq_getElem (by omega)⟩;obtain⟨ab,ao,rfl,hc⟩:=hz k x hx;refine gg ?_;refine vl (vO hc) ?_;refine gg ?_;refine WP.aw rfl (fun h16=>?_) (fun h16=>?_)
   ·have hlk:=Ht (gap:=gap) (show k≠0 by omega) hx;refine gg ?_;refine vl (vC (fc _ _ _)) ?_;refine gg ?_;refine vl (vC (fc _ _ _)) ?_;refine cR ?_;exact nl fun w hw=>⟨rfl,k+1,(by omega),⟨(congrArg (Value.int .i64) hlk),rfl,jI,jS,jI,trivial⟩,⟨by omega,hw⟩⟩
   ·have hk0:k=0:=by omega
    have hlk:db (iZ l gap k) x=iZ l gap (k+1):=by subst hk0;exact BT hx
    refine gg ?_;refine vl (vC (fc _ _ _)) ?_;refine cR ?_;exact nl fun w hw=>⟨rfl,k+1,(by omega),⟨(congrArg (Value.int .i64) hlk),rfl,jI,jS,jI,trivial⟩,⟨by omega,hw⟩⟩
  ·obtain rfl:k=l.length:=by omega
   refine WP.exit (an ?_);refine gg ?_;exact aT fun w hw=>⟨(),rfl,trivial,hw.pk⟩
theorem HS (A B D:Option Addr) (ca cb cd:Nat) (sizes tops bottoms:List Int) (hl:sizes.length≤10000) (ht:tops.length=sizes.length) (hb:bottoms.length=sizes.length):Ct Tryz.prog 203 #[.slice A sizes.length ca,.slice B tops.length cb,.slice D bottoms.length cd] [] (fun w=>vd w A sizes∧vd w B tops∧vd w D bottoms) (X:=Option Addr×Nat) (fun p=>.tuple #[.slice p.1 sizes.length p.2,.int .i64 (stkAt sizes tops bottoms sizes.length)]) (fun _=>True) (fun p=>[.row 3 1 p.1 sizes.length p.2 ((dM sizes tops bottoms).map (Value.int .i64))]):=by
  refine Ci fun w0 ⟨hz,htp,hbt⟩=>?_;refine Ja ?_;refine vl (fL (b:=false) (vr rfl rfl) (decide_eq_false (by omega))) ?_;refine cR ?_;refine vg (fL (b:=false) (vr rfl rfl) (decide_eq_false (by omega))) ?_;refine gg ?_;refine WP.br rfl ?_;refine WP.skip (an ?_);refine sq ?_;refine WP.pre ?_ (fun w hw=>hw.bB 3 1);refine gg ?_;refine WP.bm (X:=Nat×Option Addr×Nat) [1,2,24,25] (fun p=>[(8,.slice p.2.1 p.1 p.2.2),(9,.int .i64 (stkAt sizes tops bottoms p.1)),(26,.int .i64 (p.1:Int))]) (fun p w=>p.1≤sizes.length∧St w0 (ay []) [.row 3 1 p.2.1 p.1 p.2.2 (((dM sizes tops bottoms).take p.1).map (Value.int .i64))] w) (fun p=>sizes.length - p.1) (0,none,0) ⟨rfl,congrArg (Value.int .i64) (by rw[stkAt]),rfl,trivial⟩ (fun w hw=>⟨Nat.zero_le _,by simpa using hw⟩) (fun p ρ0=>?_);obtain⟨k,oA,oc⟩:=p;dsimp only;refine WP.fact (fun hkl=>?_);refine gg ?_;refine WP.aw rfl (fun h27=>?_) (fun h27=>?_)
  ·obtain⟨x,hx⟩:∃x,sizes[k]?=some x:=⟨_,List.getElem?_eq_getElem (by omega)⟩;obtain⟨ab,ao,rfl,hc⟩:=hz k x hx;have hbd:=tI sizes tops bottoms k;refine gg ?_;refine vl (vO hc) ?_;refine gg ?_;refine WP.aw rfl (fun h32=>?_) (fun h32=>?_)
   case' _=>
    obtain⟨m,hm⟩:∃m,k=m+1:=⟨k - 1,by omega⟩;obtain⟨y,hy⟩:∃y,bottoms[m]?=some y:=⟨_,List.getElem?_eq_getElem (by omega)⟩;obtain⟨z,hzz⟩:∃z,tops[k]?=some z:=⟨_,List.getElem?_eq_getElem (by omega)⟩;obtain⟨yb,yo,rfl,hcy⟩:=hbt m y hy;obtain⟨zb,zo,rfl,hcz⟩:=htp k z hzz;have hst:db (stkAt sizes tops bottoms k) (oX [y,z])=cx sizes tops bottoms k:=by subst hm;exact uH hy hzz
    refine wP none [0] [pT 0,pT 1,pT 2,pT 3,pT 4,pT 5,pT 6,pT 7,pT 8,pT 9,pF 10,pT 11,pT 12] ?_;refine bS ?_;refine tD (vX m) ?_;refine tD (vO hcy) ?_;refine gg ?_;refine tD (vO hcz) ?_;refine dG (xC (JN y z)) fun _ _=>?_;refine tD (vC (fc _ _ _)) ?_;refine cK ?_
   rotate_left
   case' _=>
    have hk0:k=0:=by omega
    have hst:stkAt sizes tops bottoms k=cx sizes tops bottoms k:=by subst hk0;exact uK
    refine bW ?_
   all_goals
    rw[hst];refine gg ?_;refine aj.ef (xN (L1 rfl)) fun g47=>?_;refine aj.ef (xP 0 1) fun⟨A48,c48⟩=>?_;refine gg ?_;refine vl (vC (fc _ _ _)) ?_;refine cR ?_;exact nl fun w hw=>⟨rfl,(k+1,A48,c48),(by simp only;omega),⟨rfl,(congrArg (Value.int .i64) (BQ hx)),rfl,jS,jS,jS,jI,trivial⟩,⟨by simp only;omega,by simp only;rw[GB (by omega),List.map_append];exact(hw.sel [0] (by decide))⟩⟩
  ·obtain rfl:k=sizes.length:=by omega
   have htk:(dM sizes tops bottoms).take sizes.length=dM sizes tops bottoms:=List.take_of_length_le (by rw[JF];omega);refine WP.exit (an ?_);refine gg ?_;exact rF fun w hw=>⟨(oA,oc),rfl,trivial,by rw[←htk];exact hw⟩
theorem vH (kind size room:Int):Ct Tryz.prog 214 #[.int .i64 kind,.int .i64 size,.int .i64 room] [] (fun _=>True) (X:=Unit) (fun _=>.int .i64 (dv kind size room)) (fun _=>True) (fun _=>[]):=by
  refine Ci fun w0 _=>?_;refine gg ?_;refine vl (vC (fI _ _ _)) ?_;refine gg ?_;refine WP.aw rfl (fun h12=>?_) (fun h12=>?_)
  ·have hr:dv kind size room=l8 (cr room size) 2:=by unfold dv;rw[if_pos h12]
   refine gg ?_;refine vl (vC (wL _ _ _)) ?_;refine gg ?_;exact aT fun w hw=>⟨(),congrArg (Value.int .i64) hr.symm,trivial,hw.pk⟩
  ·refine gg ?_;refine WP.aw rfl (fun h16=>?_) (fun h16=>?_)
   ·have hr:dv kind size room=cr room size:=by unfold dv;rw[if_neg (by omega),if_pos h16]
    refine gg ?_;exact aT fun w hw=>⟨(),congrArg (Value.int .i64) hr.symm,trivial,hw.pk⟩
   ·have hr:dv kind size room=0:=by unfold dv;rw[if_neg (by omega),if_neg (by omega)]
    refine gg ?_;exact aT fun w hw=>⟨(),congrArg (Value.int .i64) hr.symm,trivial,hw.pk⟩
theorem N3 (kind left n:Int):Ct Tryz.prog 245 #[.int .i64 kind,.int .i64 left,.int .i64 n] [] (fun _=>True) (X:=Unit) (fun _=>.int .i64 (fT kind left n)) (fun _=>True) (fun _=>[]):=by
  refine Ci fun w0 _=>?_;refine gg ?_;refine WP.aw rfl (fun h8=>?_) (fun h8=>?_)
  case' _=>
   refine gg ?_;refine WP.aw rfl (fun h8=>?_) (fun h8=>?_)
   case' _=>
    refine WP.exit (an ?_);refine gg ?_;refine WP.aw rfl (fun h16=>?_) (fun h16=>?_);rotate_left
    case' _=>
     refine gg ?_;refine WP.exit (an ?_)
   rotate_left 2
   case' _=>
    refine gg ?_;refine WP.aw rfl (fun h11=>?_) (fun h11=>?_)
    case' _=>
     refine WP.exit (an ?_);refine bS ?_;refine aj.split 19 rfl (fun h19=>?_) (fun h19=>?_)
     case' _=>
      refine gg ?_;refine WP.aw rfl (fun h22=>?_) (fun h22=>?_)
      case' _=>
       refine WP.exit (an ?_)
      rotate_left
     rotate_left 2
     case' _=>
      refine gg ?_;refine WP.br rfl ?_
    rotate_left 3
    case' _=>
     refine gg ?_;refine WP.aw rfl (fun h13=>?_) (fun h13=>?_);rotate_left
     case' _=>
      refine gg ?_
     all_goals
      refine WP.exit (an ?_)
  rotate_left 7
  case' _=>
   refine gg ?_;refine WP.aw rfl (fun h8=>?_) (fun h8=>?_)
   case' _=>
    refine WP.exit (an ?_);refine gg ?_;refine WP.aw rfl (fun h16=>?_) (fun h16=>?_);rotate_left
    case' _=>
     refine gg ?_;refine WP.exit (an ?_)
   rotate_left 2
   case' _=>
    refine gg ?_;refine WP.aw rfl (fun h11=>?_) (fun h11=>?_)
    case' _=>
     refine WP.exit (an ?_);refine bS ?_;refine aj.split 19 rfl (fun h19=>?_) (fun h19=>?_)
     case' _=>
      refine gg ?_;refine WP.aw rfl (fun h22=>?_) (fun h22=>?_)
      case' _=>
       refine WP.exit (an ?_)
      rotate_left
     rotate_left 2
     case' _=>
      refine gg ?_;refine WP.br rfl ?_
    rotate_left 3
    case' _=>
     refine gg ?_;refine WP.aw rfl (fun h13=>?_) (fun h13=>?_);rotate_left
     case' _=>
      refine gg ?_
     all_goals
      refine WP.exit (an ?_)
  all_goals
   refine gg ?_;exact aT fun w hw=>⟨(),congrArg (Value.int .i64) (by unfold fT;first | (rw[if_pos (by omega)];done) | (rw[if_neg (by omega),if_pos (by omega)];done) | (rw[if_neg (by omega),if_neg (by omega)];done) | (rw[if_neg (by omega),if_neg (by omega)];omega)),trivial,hw.pk⟩
theorem Bw (b4 b5 b7:Nat) (left n:Int) (k m:Int):Ct Tryz.prog 243 #[.int .i64 k,.int .i64 m,.pointer (some ⟨b4,0,none⟩)] [.cl b4 3 [.int .i64 left],.cl b5 3 [.int .i64 n],.cl b7 124 [.func (.func 243) #[] #[.pointer (some ⟨b4,0,none⟩)]]] (fun _=>True) (X:=Unit) (fun _=>.int .i64 (mw left k m)) (fun _=>True) (fun _=>[.cl b4 3 [.int .i64 left],.cl b5 3 [.int .i64 n],.cl b7 124 [.func (.func 243) #[] #[.pointer (some ⟨b4,0,none⟩)]]]):=by
  refine Ci fun w0 _=>?_;refine gg ?_;refine vl (vC (JR _ _ _)) ?_;refine gg ?_;refine vl (vC (wL _ _ _)) ?_;refine gg ?_;exact aT fun w hw=>⟨(),rfl,trivial,hw.pk⟩
theorem Tn (b4 b5 b7:Nat) (left n:Int) (k:Nat) (hk:k≤10000):Ct Tryz.prog 246 #[.int .i64 (k:Int),.pointer (some ⟨b4,0,none⟩)] [.cl b4 3 [.int .i64 left],.cl b5 3 [.int .i64 n],.cl b7 124 [.func (.func 243) #[] #[.pointer (some ⟨b4,0,none⟩)]]] (fun _=>True) (X:=Unit) (fun _=>.int .i64 left) (fun _=>True) (fun _=>[.cl b4 3 [.int .i64 left],.cl b5 3 [.int .i64 n],.cl b7 124 [.func (.func 243) #[] #[.pointer (some ⟨b4,0,none⟩)]]]):=by
  refine Ci fun w0 _=>?_;refine gg ?_;exact aT fun w hw=>⟨(),rfl,trivial,hw.pk⟩
theorem Q1 (b4 b5 b7:Nat) (left n:Int) (k:Nat) (hk:k≤10000):Ct Tryz.prog 247 #[.int .i64 (k:Int),.pointer (some ⟨b4,0,none⟩)] [.cl b4 3 [.int .i64 left],.cl b5 3 [.int .i64 n],.cl b7 124 [.func (.func 243) #[] #[.pointer (some ⟨b4,0,none⟩)]]] (fun _=>True) (X:=Unit) (fun _=>.int .i64 (l8 left 2)) (fun _=>True) (fun _=>[.cl b4 3 [.int .i64 left],.cl b5 3 [.int .i64 n],.cl b7 124 [.func (.func 243) #[] #[.pointer (some ⟨b4,0,none⟩)]]]):=by
  refine Ci fun w0 _=>?_;refine gg ?_;refine vl (vC (wL _ _ _)) ?_;refine gg ?_;exact aT fun w hw=>⟨(),rfl,trivial,hw.pk⟩
theorem Tt (b4 b5 b7:Nat) (left n:Int) (k:Nat) (hk:k≤10000) (hn:0≤n∧n≤10000):Ct Tryz.prog 248 #[.int .i64 (k:Int),.pointer (some ⟨b7,0,none⟩),.pointer (some ⟨b5,0,none⟩)] [.cl b4 3 [.int .i64 left],.cl b5 3 [.int .i64 n],.cl b7 124 [.func (.func 243) #[] #[.pointer (some ⟨b4,0,none⟩)]]] (fun _=>True) (X:=Unit) (fun _=>.int .i64 (mw left k (n - 1))) (fun _=>True) (fun _=>[.cl b4 3 [.int .i64 left],.cl b5 3 [.int .i64 n],.cl b7 124 [.func (.func 243) #[] #[.pointer (some ⟨b4,0,none⟩)]]]):=by
  refine Ci fun w0 _=>?_;refine bS ?_;refine vl (ai (u:=_) Tryz.isAgg124 rfl (fun w hw=>hw.aq (i:=2) rfl _ rfl)) ?_;refine gg ?_;refine eF (xV (Bw b4 b5 b7 left n k (n - 1)) Tryz.call243) fun _ _=>?_;refine gg ?_;exact aT fun w hw=>⟨(),rfl,trivial,hw.pk⟩
theorem Sy (b4 b5 b7:Nat) (left n:Int) (k:Nat) (hk:k≤10000) (hn:0≤n∧n≤10000):Ct Tryz.prog 249 #[.int .i64 (k:Int),.pointer (some ⟨b7,0,none⟩),.pointer (some ⟨b5,0,none⟩)] [.cl b4 3 [.int .i64 left],.cl b5 3 [.int .i64 n],.cl b7 124 [.func (.func 243) #[] #[.pointer (some ⟨b4,0,none⟩)]]] (fun _=>True) (X:=Unit) (fun _=>.int .i64 (mw left (2*k+1) (2*n))) (fun _=>True) (fun _=>[.cl b4 3 [.int .i64 left],.cl b5 3 [.int .i64 n],.cl b7 124 [.func (.func 243) #[] #[.pointer (some ⟨b4,0,none⟩)]]]):=by
  refine Ci fun w0 _=>?_;refine bS ?_;refine vl (ai (u:=_) Tryz.isAgg124 rfl (fun w hw=>hw.aq (i:=2) rfl _ rfl)) ?_;refine gg ?_;refine eF (xV (Bw b4 b5 b7 left n (2*k+1) (2*n)) Tryz.call243) fun _ _=>?_;refine gg ?_;exact aT fun w hw=>⟨(),rfl,trivial,hw.pk⟩
theorem Pb (b4 b5 b7:Nat) (left n:Int) (k:Nat) (hk:k≤10000) (hn:0≤n∧n≤10000):Ct Tryz.prog 250 #[.int .i64 (k:Int),.pointer (some ⟨b7,0,none⟩),.pointer (some ⟨b5,0,none⟩)] [.cl b4 3 [.int .i64 left],.cl b5 3 [.int .i64 n],.cl b7 124 [.func (.func 243) #[] #[.pointer (some ⟨b4,0,none⟩)]]] (fun _=>True) (X:=Unit) (fun _=>.int .i64 (mw left (k+1) (n+1))) (fun _=>True) (fun _=>[.cl b4 3 [.int .i64 left],.cl b5 3 [.int .i64 n],.cl b7 124 [.func (.func 243) #[] #[.pointer (some ⟨b4,0,none⟩)]]]):=by
  refine Ci fun w0 _=>?_;refine bS ?_;refine vl (ai (u:=_) Tryz.isAgg124 rfl (fun w hw=>hw.aq (i:=2) rfl _ rfl)) ?_;refine gg ?_;refine eF (xV (Bw b4 b5 b7 left n (k+1) (n+1)) Tryz.call243) fun _ _=>?_;refine gg ?_;exact aT fun w hw=>⟨(),rfl,trivial,hw.pk⟩
theorem TA (b4 b5 b7:Nat) (left n:Int) (k:Nat) (hk:k≤10000):Ct Tryz.prog 251 #[.int .i64 (k:Int)] [.cl b4 3 [.int .i64 left],.cl b5 3 [.int .i64 n],.cl b7 124 [.func (.func 243) #[] #[.pointer (some ⟨b4,0,none⟩)]]] (fun _=>True) (X:=Unit) (fun _=>.int .i64 0) (fun _=>True) (fun _=>[.cl b4 3 [.int .i64 left],.cl b5 3 [.int .i64 n],.cl b7 124 [.func (.func 243) #[] #[.pointer (some ⟨b4,0,none⟩)]]]):=by
  refine Ci fun w0 _=>?_;refine gg ?_;exact aT fun w hw=>⟨(),rfl,trivial,hw.pk⟩
def Yk (kind left n:Int) (p:Value×Nat×Nat×Nat):Prop:=
  ∃ (f : Nat) (cap : List Value), p.1 = .func (.func f) #[] cap.toArray ∧ (∀ args w, (callFunc f args).run Tryz.prog w = .ok (.enter f args) w) ∧
    ∀k:Nat,k≤10000→Ct Tryz.prog f (.int .i64 (k:Int)::cap).toArray [.cl p.2.1 3 [.int .i64 left],.cl p.2.2.1 3 [.int .i64 n],.cl p.2.2.2 124 [.func (.func 243) #[] #[.pointer (some ⟨p.2.1,0,none⟩)]]] (fun _=>True) (X:=Unit) (fun _=>.int .i64 (cY kind left n k)) (fun _=>True) (fun _=>[.cl p.2.1 3 [.int .i64 left],.cl p.2.2.1 3 [.int .i64 n],.cl p.2.2.2 124 [.func (.func 243) #[] #[.pointer (some ⟨p.2.1,0,none⟩)]]])
theorem DV (kind left n:Int) (hn:0≤n∧n≤10000):Ct Tryz.prog 235 #[.int .i64 kind,.int .i64 left,.int .i64 n] [] (fun _=>True) (X:=Value×Nat×Nat×Nat) (fun p=>p.1) (Yk kind left n) (fun p=>[.cl p.2.1 3 [.int .i64 left],.cl p.2.2.1 3 [.int .i64 n],.cl p.2.2.2 124 [.func (.func 243) #[] #[.pointer (some ⟨p.2.1,0,none⟩)]]]):=by
  refine Ci fun w0 _=>?_;refine gg ?_;refine aj.ef (eN (u:=.int .i64 _) (σ':=fun _=>[_]) rfl (fun _=>rfl)) (fun b4=>?_);refine aj.ef (eN (u:=.int .i64 _) (σ':=fun _=>[_,_]) rfl (fun _=>rfl)) (fun b5=>?_);refine sg rfl ?_;refine bW ?_;refine vl (eW) ?_;refine aj.ef cg fun b7=>?_;refine aj.aX (cz (u:=_) (σ':=[_,_,.cl _ _ [_]]) Tryz.sizeOf124 rfl rfl (i:=2) rfl (Nat.lt_of_lt_of_le (Nat.lt_succ_self _) (Nat.le_of_ble_eq_true rfl)) rfl) (fun _=>?_);refine gg ?_;refine eF (xC (N3 kind left n)) fun _ _=>?_;refine gg ?_;refine WP.aw rfl (fun h13=>?_) (fun h13=>?_)
  ·have hq:fT kind left n=1:=h13;refine gv ?_;refine vl (eW) ?_;refine sg rfl ?_;refine gg ?_;exact WP.cP Tryz.results235 (fun _ h=>h) (fun w hw=>⟨(.func (.func 246) #[] ([.pointer (some ⟨b4,0,none⟩)]:List Value).toArray,b4,b5,b7),rfl,⟨_,[.pointer (some ⟨b4,0,none⟩)],rfl,Tryz.call246,fun k hk=>(by rw[afo _ hq];exact Tn b4 b5 b7 left n k hk)⟩,(hw.sel [0,1,2] (by decide))⟩)
  ·refine gg ?_;refine WP.aw rfl (fun h16=>?_) (fun h16=>?_)
   ·have hq:fT kind left n=2:=h16;refine gv ?_;refine vl (eW) ?_;refine sg rfl ?_;refine gg ?_;exact WP.cP Tryz.results235 (fun _ h=>h) (fun w hw=>⟨(.func (.func 247) #[] ([.pointer (some ⟨b4,0,none⟩)]:List Value).toArray,b4,b5,b7),rfl,⟨_,[.pointer (some ⟨b4,0,none⟩)],rfl,Tryz.call247,fun k hk=>(by rw[agc _ hq];exact Q1 b4 b5 b7 left n k hk)⟩,(hw.sel [0,1,2] (by decide))⟩)
   ·refine gg ?_;refine WP.aw rfl (fun h19=>?_) (fun h19=>?_)
    ·have hq:fT kind left n=3:=h19;refine gv ?_;refine vl (eW) ?_;refine sg rfl ?_;refine gg ?_;exact WP.cP Tryz.results235 (fun _ h=>h) (fun w hw=>⟨(.func (.func 248) #[] ([.pointer (some ⟨b7,0,none⟩),.pointer (some ⟨b5,0,none⟩)]:List Value).toArray,b4,b5,b7),rfl,⟨_,[.pointer (some ⟨b7,0,none⟩),.pointer (some ⟨b5,0,none⟩)],rfl,Tryz.call248,fun k hk=>(by rw[agD _ hq];exact Tt b4 b5 b7 left n k hk hn)⟩,(hw.sel [0,1,2] (by decide))⟩)
    ·refine gg ?_;refine WP.aw rfl (fun h22=>?_) (fun h22=>?_)
     ·have hq:fT kind left n=4:=h22;refine gv ?_;refine vl (eW) ?_;refine sg rfl ?_;refine gg ?_;exact WP.cP Tryz.results235 (fun _ h=>h) (fun w hw=>⟨(.func (.func 249) #[] ([.pointer (some ⟨b7,0,none⟩),.pointer (some ⟨b5,0,none⟩)]:List Value).toArray,b4,b5,b7),rfl,⟨_,[.pointer (some ⟨b7,0,none⟩),.pointer (some ⟨b5,0,none⟩)],rfl,Tryz.call249,fun k hk=>(by rw[aeW _ hq];exact Sy b4 b5 b7 left n k hk hn)⟩,(hw.sel [0,1,2] (by decide))⟩)
     ·refine gg ?_;refine WP.aw rfl (fun h25=>?_) (fun h25=>?_)
      ·have hq:fT kind left n=5:=h25;refine gv ?_;refine vl (eW) ?_;refine sg rfl ?_;refine gg ?_;exact WP.cP Tryz.results235 (fun _ h=>h) (fun w hw=>⟨(.func (.func 250) #[] ([.pointer (some ⟨b7,0,none⟩),.pointer (some ⟨b5,0,none⟩)]:List Value).toArray,b4,b5,b7),rfl,⟨_,[.pointer (some ⟨b7,0,none⟩),.pointer (some ⟨b5,0,none⟩)],rfl,Tryz.call250,fun k hk=>(by rw[afx _ hq];exact Pb b4 b5 b7 left n k hk hn)⟩,(hw.sel [0,1,2] (by decide))⟩)
      ·have h14:=h13;have h17:=h16;have h20:=h19;have h23:=h22;have h26:=h25;refine bW ?_;refine sg rfl ?_;refine gg ?_;exact WP.cP Tryz.results235 (fun _ h=>h) (fun w hw=>⟨(.func (.func 251) #[] ([]:List Value).toArray,b4,b5,b7),rfl,⟨_,[],rfl,Tryz.call251,fun k hk=>(by rw[afy _ h14 h17 h20 h23 h26];exact TA b4 b5 b7 left n k hk)⟩,(hw.sel [0,1,2] (by decide))⟩)
theorem ES (kind:Int) (A:Option Addr) (c:Nat) (l:List Int) (room gap:Int) (hl:l.length≤10000):Ct Tryz.prog 216 #[.int .i64 kind,.slice A l.length c,.int .i64 room,.int .i64 gap] [] (fun w=>vd w A l) (X:=Option Addr×Nat) (fun p=>.slice p.1 l.length p.2) (fun _=>True) (fun p=>[.row 3 1 p.1 l.length p.2 ((dO kind l room gap).map (Value.int .i64))]):=by
  refine Ci fun w0 hz=>?_;refine gg ?_;refine eF (xC (Dx A c l gap hl) (hF:=fun w hw=>hw.rd hz ax)) fun _ _=>?_;refine vl (vC (fI _ _ _)) ?_;refine gg ?_;refine eF (xC (DV kind (cr room (fV l gap)) l.length (by omega))) fun⟨bv,b4,b5,b7⟩ ⟨sf,cap,hbv,hcf,hsh⟩=>?_;dsimp only at hbv hsh;subst hbv;refine sg (v:=.func (.func sf) #[] cap.toArray) rfl ?_;refine nl (oo ?_);refine eh ?_;refine av ?_;refine nl (oo ?_);refine eh ?_
  iterate 2 refine av ?_
  refine nl (oo ?_)
  iterate 2 refine sq ?_
  refine WP.pre ?_ (fun w hw=>hw.bB 3 1);refine gg ?_;refine WP.bm (X:=Nat×Option Addr×Nat) [3,9,25,26] (fun p=>[(10,.slice p.2.1 p.1 p.2.2),(11,.int .i64 (C5 kind (cr room (fV l gap)) gap l p.1)),(12,.int .i64 (if p.1=0 then 0 else cY kind (cr room (fV l gap)) l.length ((p.1:Int) - 1))),(27,.int .i64 (p.1:Int))]) (fun p w=>p.1≤l.length∧St w0 (ay []) [.cl b4 3 [.int .i64 (cr room (fV l gap))],.cl b5 3 [.int .i64 (l.length:Int)],.cl b7 124 [.func (.func 243) #[] #[.pointer (some ⟨b4,0,none⟩)]],.row 3 1 p.2.1 p.1 p.2.2 (((dO kind l room gap).take p.1).map (Value.int .i64))] w) (fun p=>l.length - p.1) (0,none,0) ⟨rfl,congrArg (Value.int .i64) (by rw[C5]),rfl,rfl,trivial⟩ (fun w hw=>⟨Nat.zero_le _,by simpa using hw⟩) (fun p ρ0=>?_);obtain⟨k,oA,oc⟩:=p;dsimp only;refine WP.fact (fun hkl=>?_);refine gg ?_;refine WP.aw rfl (fun h28=>?_) (fun h28=>?_)
  ·obtain⟨x,hx⟩:∃x,l[k]?=some x:=⟨_,List.getElem?_eq_getElem (by omega)⟩;obtain⟨ab,ao,rfl,hc⟩:=hz k x hx;refine gg ?_;refine vl (vO hc) ?_;refine gg ?_;refine WP.aw rfl (fun h33=>?_) (fun h33=>?_)
   case' _=>
    have hgap:(if k=0 then C5 kind (cr room (fV l gap)) gap l k else db (C5 kind (cr room (fV l gap)) gap l k) gap)=db (C5 kind (cr room (fV l gap)) gap l k) gap:=by rw[if_neg (by omega)]
    refine gg ?_;refine vl (vC (fc _ _ _)) ?_;refine cK ?_
   rotate_left
   case' _=>
    have hgap:(if k=0 then C5 kind (cr room (fV l gap)) gap l k else db (C5 kind (cr room (fV l gap)) gap l k) gap)=C5 kind (cr room (fV l gap)) gap l k:=by rw[if_pos (by omega)]
    refine bW ?_
   all_goals
    refine mv rfl ?_;refine gg ?_;refine eF (xV (hsh k (by omega)) hcf) fun _ _=>?_;refine cK ?_;have hbl:-1099511627776≤(cr room (fV l gap))∧(cr room (fV l gap))≤1099511627776:=na _ _;have hb1:=tx (kind:=kind) (n:=(l.length:Int)) (k:=(k:Int)) hbl;have hb2:=tx (kind:=kind) (n:=(l.length:Int)) (k:=(k:Int) - 1) hbl;rw[←hgap];refine cK ?_;refine vl (jD rfl rfl (by split<;>omega)) ?_;refine vl (vC (fc _ _ _)) ?_;refine gg ?_;refine aj.ef (xN (L1 rfl)) fun g48=>?_;refine aj.ef (xP 0 4) fun⟨A49,c49⟩=>?_;refine gg ?_;refine vl (vC (fc _ _ _)) ?_;refine cR ?_;exact nl fun w hw=>⟨rfl,(k+1,A49,c49),(by simp only;omega),⟨rfl,(congrArg (Value.int .i64) (Ga hx)),(congrArg (Value.int .i64) (by simp only;rw[if_neg (by omega),show ((k+1:Nat):Int) - 1=(k:Int) by omega])),rfl,jI,rfl,jS,jI,trivial⟩,⟨by simp only;omega,by simp only;rw[zw kind l room gap (by omega),List.map_append];exact(hw.sel [1,2,3,0] (by decide))⟩⟩
  ·obtain rfl:k=l.length:=by omega
   have htk:(dO kind l room gap).take l.length=dO kind l room gap:=List.take_of_length_le (by rw[BA];omega);refine WP.exit (an ?_);refine gg ?_;exact aT fun w hw=>⟨(oA,oc),rfl,trivial,by rw[←htk];exact hw.pk⟩
theorem CR {Z Y:Type} {o:Z ⊕ Y} (h:(!o.isLeft)=false):∃z,o=.inl z:=by cases o with | inl z=>exact⟨z,rfl⟩ | inr y=>cases h
theorem yM {Z Y:Type} {o:Z ⊕ Y} (h:(!o.isLeft)=true):∃y,o=.inr y:=by cases o with | inr y=>exact⟨y,rfl⟩ | inl z=>cases h
theorem BN {o:List (Nat×Nat)} {k:Nat} {x:Nat×Nat} (h:o[k]?=some x):(o.take (k+1)).flatMap qW=(o.take k).flatMap qW++qW x:=by rw[l6 h];simp
theorem af1:(Tryz.prog.info? 40).map (fun i=>(i.zero,i.size,i.bytes))=some (some (.agg #[.int .i64 0,.int .i64 0]),2,16):=by kernel_rfl
abbrev mQ (A:Option Addr) (n c:Nat) (l:List (Nat×Nat)):HI:=.row 40 2 A n c (l.flatMap qW)
section
variable (A:Option Addr) (c:Nat) (l:List Int) (room gap:Int) (wrap:Bool)
abbrev AR (n1 n2 n3 n4:Nat):List HI:=[.row 3 1 A l.length c (l.map (Value.int .i64)),.cl n1 49 [.slice A l.length c],.cl n2 3 [.int .i64 gap],.cl n3 4 [.bool wrap],.cl n4 3 [.int .i64 room]]
def KT (n1 n2 n3 n4:Nat):List Value:=[.pointer (some ⟨n1,0,none⟩),.pointer (some ⟨n2,0,none⟩),.pointer (some ⟨n3,0,none⟩),.pointer (some ⟨n4,0,none⟩)]
theorem I8:Ct Tryz.prog 232 #[.slice A l.length c,.int .i64 room,.int .i64 gap,.bool wrap] [] (fun _=>True) (X:=Nat×Nat×Nat×Nat) (fun p=>.func (.func 240) #[] #[.pointer (some ⟨p.1,0,none⟩),.pointer (some ⟨p.2.1,0,none⟩),.pointer (some ⟨p.2.2.1,0,none⟩),.pointer (some ⟨p.2.2.2,0,none⟩)]) (fun _=>True)
    (fun p=>[.cl p.1 49 [.slice A l.length c],.cl p.2.1 3 [.int .i64 gap],.cl p.2.2.1 4 [.bool wrap],.cl p.2.2.2 3 [.int .i64 room]]):=by
  refine Ci fun w0 _=>?_;refine gg ?_;refine aj.ef (eN (u:=.slice _ _ _) (σ':=fun _=>[_]) rfl (fun _=>rfl)) (fun b4=>?_);refine aj.ef (eN (u:=.int .i64 _) (σ':=fun _=>[_,_]) rfl (fun _=>rfl)) (fun b5=>?_);refine aj.ef (eN (u:=.int .i64 _) (σ':=fun _=>[_,_,_]) rfl (fun _=>rfl)) (fun b6=>?_);refine aj.ef (eN (u:=.bool _) (σ':=fun _=>[_,_,_,_]) rfl (fun _=>rfl)) (fun b7=>?_);refine sg rfl ?_;refine bW ?_;refine vl (eW) ?_;refine sg rfl ?_;refine gg ?_;exact aT fun w hw=>⟨(b4,b6,b7,b5),rfl,trivial,hw.pk⟩
theorem E3 (hl:l.length≤10000) (n1 n2 n3 n4:Nat):gM Tryz.prog 240 [] (KT n1 n2 n3 n4) (AR A c l room gap wrap n1 n2 n3 n4) qW (bL l room gap wrap):=by
  intro lb Z Y H J Inv hy z0 hz0;refine Ct.intro Tryz.func240 rfl Tryz.ntmps240 (by simp[KT]) (fun w0 _=>?_);refine gg ?_;refine WP.bm (X:=Nat×(List (Nat×Nat)×Nat×Int)×Z) [0,1,2,3,4,11,12] (fun p=>[(13,.int .i64 (p.1:Int)),(6,.int .i64 (p.2.1.2.1:Int)),(7,.int .i64 p.2.1.2.2)]) (fun p w=>(p.1≤l.length∧brkS l room gap wrap p.1=p.2.1∧Inv p.2.1.1.length p.2.2)∧St w0 (ay (AR A c l room gap wrap n1 n2 n3 n4++[H 0 z0])) (AR A c l room gap wrap n1 n2 n3 n4++[H p.2.1.1.length p.2.2]) w) (fun p=>l.length - p.1) (0,([],0,0),z0) ⟨rfl,rfl,rfl,trivial⟩ (fun w hw=>⟨⟨Nat.zero_le _,rfl,hz0⟩,hw⟩) (fun p ρ0=>?_);obtain⟨i,⟨o,f,n⟩,z⟩:=p;dsimp only;refine WP.fact (fun⟨hil,hbs,hinv⟩=>?_);refine gg ?_;refine WP.aw rfl (fun h14=>?_) (fun h14=>?_)
  ·have hil2:i<l.length:=by omega
   obtain⟨x,hx⟩:∃x,l[i]?=some x:=⟨_,List.getElem?_eq_getElem hil2⟩;refine WP.holds (fun w hw=>hw.aM (i:=0) rfl (by omega)) (fun⟨lb2,hA⟩=>?_);subst hA;have hfi:=oq (l:=l) (room:=room) (gap:=gap) (wrap:=wrap) i;rw[hbs] at hfi;dsimp only at hfi;refine iX ?_;refine vl (ai (u:=.int .i64 _) Tryz.isAgg3 rfl (fun w hw=>hw.bh (i:=0) rfl (by rw[List.getElem?_map,hx];rfl) (by omega))) ?_;refine gg ?_;refine vl (vC (fc _ _ _)) ?_;refine gg ?_;refine vl (vC (fc _ _ _)) ?_;refine gg ?_;refine WP.aw rfl (fun h26=>?_) (fun h26=>?_)
   ·have hb2:=Hm hbs hx (by omega);refine gg ?_;refine vl (vC (bI _ _)) ?_;refine cR ?_;exact nl fun w hw=>⟨rfl,(i+1,(o,f,cut x),z),(by simp only;omega),⟨rfl,rfl,rfl,rfl,rfl,rfl,rfl,rfl,jS,jI,trivial⟩,⟨⟨by simp only;omega,hb2,hinv⟩,(hw.sel [0,1,2,3,4,5] (by decide))⟩⟩
   ·refine iX ?_;refine aj.split 37 rfl (fun h37=>?_) (fun h37=>?_)
    ·refine cK ?_;refine aj.aY 40 rfl (fun h40=>?_) (fun h40=>?_)
     ·refine gg ?_;have hb2:=zO hbs hx (by omega) (by omega) (.inl (by simpa using h40));refine WP.aQ rfl ?_;refine qa ?_;exact nl fun w hw=>⟨rfl,(i+1,(o,f,db (db n gap) x),z),(by simp only;omega),⟨rfl,rfl,rfl,rfl,rfl,rfl,rfl,rfl,jS,jI,trivial⟩,⟨⟨by simp only;omega,hb2,hinv⟩,(hw.sel [0,1,2,3,4,5] (by decide))⟩⟩
     ·refine gg ?_;refine WP.aw rfl (fun h32=>?_) (fun h32=>?_)
      ·have hb2:=zO hbs hx (by omega) (by omega) (.inr h32);refine qa ?_;exact nl fun w hw=>⟨rfl,(i+1,(o,f,db (db n gap) x),z),(by simp only;omega),⟨rfl,rfl,rfl,rfl,rfl,rfl,rfl,rfl,jS,jI,trivial⟩,⟨⟨by simp only;omega,hb2,hinv⟩,(hw.sel [0,1,2,3,4,5] (by decide))⟩⟩
      ·have hb2:=yd hbs hx (by omega) (fun h=>h.2.elim (fun h9=>by rw[h9] at h40;cases h40) (fun h9=>h32 h9));have hyi:=s0 hb2 hil2;refine gv ?_;refine mv rfl ?_;refine gg ?_;refine aj.ef (iF (hy o.length (f,i) z hyi hinv) [0,1,2,3,4,5] [] rfl (τ:=fun _=>[_,_,_,_,_,_]) (fun _=>rfl)) (fun o2=>?_);refine aj.fact (fun hf=>?_);refine gg ?_;refine WP.cond rfl (fun h47=>?_) (fun h47=>?_)
       ·obtain⟨y,rfl⟩:=yM h47;exact WP.IB Tryz.results240 (fun _ h=>h) (fun w hw=>⟨.inr (o.length,y),rfl,⟨fun z e=>(by cases e),fun p e=>(by cases e;exact(List.getElem?_eq_some_iff.1 hyi).1)⟩,(hw.sel [0,1,2,3,4,5] (by decide))⟩)
       ·obtain⟨z2,rfl⟩:=CR h47;refine gg ?_;refine vl (vC (bI _ _)) ?_;refine iX ?_;exact nl fun w hw=>⟨rfl,(i+1,(o++[(f,i)],i,cut x),z2),(by simp only;omega),⟨rfl,rfl,rfl,rfl,rfl,rfl,rfl,rfl,jS,jI,trivial⟩,⟨⟨by simp only;omega,hb2,by simp only;rw[List.length_append];exact hf z2 rfl⟩,by simp only;rw[List.length_append];exact(hw.sel [0,1,2,3,4,5] (by decide))⟩⟩
    ·refine gg ?_;have hb2:=yd hbs hx (by omega) (fun h=>by omega);have hyi:=s0 hb2 hil2;refine WP.br rfl ?_;refine gv ?_;refine mv rfl ?_;refine gg ?_;refine aj.ef (iF (hy o.length (f,i) z hyi hinv) [0,1,2,3,4,5] [] rfl (τ:=fun _=>[_,_,_,_,_,_]) (fun _=>rfl)) (fun o2=>?_);refine aj.fact (fun hf=>?_);refine gg ?_;refine WP.cond rfl (fun h47=>?_) (fun h47=>?_)
     ·obtain⟨y,rfl⟩:=yM h47;exact WP.IB Tryz.results240 (fun _ h=>h) (fun w hw=>⟨.inr (o.length,y),rfl,⟨fun z e=>(by cases e),fun p e=>(by cases e;exact(List.getElem?_eq_some_iff.1 hyi).1)⟩,(hw.sel [0,1,2,3,4,5] (by decide))⟩)
     ·obtain⟨z2,rfl⟩:=CR h47;refine gg ?_;refine vl (vC (bI _ _)) ?_;refine iX ?_;exact nl fun w hw=>⟨rfl,(i+1,(o++[(f,i)],i,cut x),z2),(by simp only;omega),⟨rfl,rfl,rfl,rfl,rfl,rfl,rfl,rfl,jS,jI,trivial⟩,⟨⟨by simp only;omega,hb2,by simp only;rw[List.length_append];exact hf z2 rfl⟩,by simp only;rw[List.length_append];exact(hw.sel [0,1,2,3,4,5] (by decide))⟩⟩
  ·obtain rfl:i=l.length:=by omega
   have hfi:=oq (l:=l) (room:=room) (gap:=gap) (wrap:=wrap) l.length;rw[hbs] at hfi;dsimp only at hfi;refine WP.exit (an ?_);refine gg ?_;refine WP.aw rfl (fun h57=>?_) (fun h57=>?_)
   ·have hyl:=Av hbs (by omega);refine gv ?_;refine mv rfl ?_;refine gg ?_;refine aj.ef (iF (hy o.length (f,l.length) z hyl.1 hinv) [0,1,2,3,4,5] [] rfl (τ:=fun _=>[_,_,_,_,_,_]) (fun _=>rfl)) (fun o1=>?_);refine aj.fact (fun hf=>?_)
    rcases o1 with z2 | y
    ·exact nl (fun w hw=>da.IG Tryz.results240 (.inr rfl) ⟨.inl z2,rfl,⟨fun z9 e9=>(by cases e9;rw[hyl.2];exact hf z2 rfl),fun p e=>(by cases e)⟩,by rw[hyl.2];exact(hw.sel [0,1,2,3,4,5] (by decide))⟩)
    ·exact nl (fun w hw=>da.IG Tryz.results240 (.inr rfl) ⟨.inr (o.length,y),rfl,⟨fun z9 e9=>(by cases e9),fun p e=>(by cases e;rw[hyl.2];exact Nat.lt_succ_self _)⟩,(hw.sel [0,1,2,3,4,5] (by decide))⟩)
   ·have hnil:bL l room gap wrap=o:=by unfold bL;rw[hbs];simp only;rw[if_neg (by omega)]
    exact WP.skip (fun w hw=>da.IG Tryz.results240 (.inr rfl) ⟨.inl z,rfl,⟨fun z9 e9=>(by cases e9;rw[hnil];exact hinv),fun p e=>(by cases e)⟩,by rw[hnil];exact(hw.sel [0,1,2,3,4,5] (by decide))⟩)
theorem F8 (hl:l.length≤10000):Ct Tryz.prog 209 #[.slice A l.length c,.int .i64 room,.int .i64 gap,.bool wrap] [.row 3 1 A l.length c (l.map (Value.int .i64))] (fun _=>True) (X:=Option Addr×Nat) (fun p=>.slice p.1 (bL l room gap wrap).length p.2) (fun _=>True)
    (fun p=>[.row 3 1 A l.length c (l.map (Value.int .i64)),mQ p.1 (bL l room gap wrap).length p.2 (bL l room gap wrap)]):=by
  have hbc:=xz (l:=l) (room:=room) (gap:=gap) (wrap:=wrap);refine Ci fun w0 _=>?_;refine gg ?_;refine aj.ef cg fun b9=>?_;refine nl (oo ?_)
  iterate 2 refine sq ?_
  refine WP.pre ?_ (fun w hw=>hw.bB 40 2);refine gg ?_;refine eF (xC (I8 A c l room gap wrap)) fun⟨m1,m2,m3,m4⟩ _=>?_;refine bW ?_;refine sl [0,3,4,5,6,1,2] ?_;refine WP.k9 (gf:=240) (first:=[]) (cap:=[.pointer (some ⟨m1,0,none⟩),.pointer (some ⟨m2,0,none⟩),.pointer (some ⟨m3,0,none⟩),.pointer (some ⟨m4,0,none⟩)]) rfl Tryz.call240 (E3 A c l room gap wrap hl m1 m2 m3 m4) (Z:=Option Addr×Nat) (own:=fun k z=>[.cl b9 268 [.slice z.1 k z.2],mQ z.1 k z.2 ((bL l room gap wrap).take k)]) (Inv:=fun _ _=>True) (none,0) trivial (List.Perm.refl _) (fun _=>rfl) (by decide) (Y:=Unit) (fun _ _ _=>False) (fun _=>[]) ?_ ?_ ?_
  ·intro lk l2 D2 k x z hx hz w1 M1;have hkl:=(List.getElem?_eq_some_iff.1 hx).1;obtain⟨zA,zc⟩:=z;dsimp only;refine cR ?_;refine aj.nil (iL (i:=0) rfl ?_);refine cR ?_;refine vl (cB (us:=[.int .i64 _,.int .i64 _]) Tryz.underlying40 Tryz.zeroValue40 Tryz.sizeOf3 rfl rfl rfl) ?_;refine aj.ef (cu (us:=[.int .i64 _,.int .i64 _]) (σ':=fun _=>[_,_,_,_,_,_,_,_,_,_,_]) Tryz.underlying268 Tryz.sizeOf40 Tryz.zeroValue40 rfl rfl rfl (by decide) (by decide) (fun _=>rfl)) (fun g23=>?_);refine aj.ef (xP 9 10) fun⟨A24,c24⟩=>?_;refine aj.aX (xS rfl (Fv rfl)) fun _=>?_;exact nl (fun w hw=>fX.normal (i:=0) rfl hw (fun w2 hw2=>.inl ⟨(A24,c24),rfl,trivial,by dsimp only;rw[show mQ A24 (k+1) c24 ((bL l room gap wrap).take (k+1))=.row 40 2 A24 (k+1) c24 (((bL l room gap wrap).take k).flatMap qW++qW x) by rw[mQ,BN hx]];exact(hw2.sel [0,1,2,3,4,5,6,7,8,9] (by decide))⟩))
  ·intro D z hz;obtain⟨zA,zc⟩:=z;rw[List.take_of_length_le (Nat.le_refl (bL l room gap wrap).length)];refine sx (an ?_);refine gg ?_;exact WP.AE [D] (τ:=[.row 3 1 A l.length c (l.map (Value.int .i64)),mQ zA (bL l room gap wrap).length zc (bL l room gap wrap)]) (fun w hw=>(hw.sel [0,6,7] (by decide))) (fun _ h=>h) (fun w hw=>da.T3 Tryz.results209 (.inl rfl) ⟨(zA,zc),rfl,trivial,hw⟩)
  ·intro D c k y hf;exact hf.elim
end
structure ew where
  id:Int
  x:Int
  y:Int
  w:Int
  h:Int
  kids:List ew
def dU {α:Type} (n:Nat) (f:Nat→α):List α:=(List.range n).map f
section
variable {α β:Type} {f:Nat→α} {n k:Nat}
theorem oN:dU (n+1) f=dU n f++[f n]:=by simp[dU,List.range_succ]
theorem bH:(dU n f).length=n:=by simp[dU]
theorem dt (h:k<n):(dU n f)[k]?=some (f k):=by simp[dU,h]
theorem oK (h:n≤k):(dU n f)[k]?=none:=by simp[dU,h]
theorem rS (g:α→β):(dU n f).map g=dU n (fun i=>g (f i)):=by simp[dU]
theorem mX {x:α}:x∈dU n f↔∃i,i<n∧f i=x:=by simp[dU]
theorem cI {g:Nat→α} (h:∀i,i<n→f i=g i):dU n f=dU n g:=by
  unfold dU;exact List.map_congr_left fun i hi=>h i (List.mem_range.1 hi)
theorem tY (l:List α) (d:α):dU l.length (fun i=>l.getD i d)=l:=by
  apply List.ext_getElem?;intro i
  by_cases h:i<l.length
  · rw[dt h,List.getD_eq_getElem?_getD,List.getElem?_eq_getElem h];rfl
  · rw[oK (by omega),List.getElem?_eq_none (by omega)]
theorem Gt (l:List Int):dU l.length (gI l)=l:=tY l 0
theorem mL {f:Nat→Int} (h:k<n):gI (dU n f) k=f k:=gF (dt h)
end
def sumN (f:Nat→Int):Nat→Int
  | 0=>0
  | k+1=>sumN f k+f k
def s8 (f:Nat→Int):Nat→Int
  | 0=>0
  | k+1=>max (s8 f k) (f k)
section
variable (s:List Value)
def eS (i:Nat):Int:=val s (31+i)+val s (35+i)
def eA:Int:=eS s 3+eS s 1
def eD:Int:=eS s 0+eS s 2
def mS (base:Int) (i:Nat):Int:=cC (val s (15+2*i)) (val s (16+2*i)) (if i=1∨i=3 then base else -1) 0
def mA (base:Int):Int:=mS s base 3+mS s base 1
def mD:Int:=mS s 0 0+mS s 0 2
def oE (i:Nat) (base:Int):Bool:=bE (val s (23+2*i)) base
def gT (i:Nat) (base:Int):Int:=cC (val s (23+2*i)) (val s (24+2*i)) base 0
def pM (n room:Int):Int:=qj n (val s 7) (val s 8) (val s 11) (val s 12) room
def tC (n room:Int):Int:=qj n (val s 9) (val s 10) (val s 13) (val s 14) room
def gy (rw sw:Int):Int:=if sw= -1 then pM s (cC (val s 3) (val s 4) rw (max (rw - mA s rw - eA s) 0)) rw else max (sw - eA s) 0
def fU (rh sh:Int):Int:=if sh= -1 then (if bE (val s 5) rh then tC s (cC (val s 5) (val s 6) rh 0) rh else -1) else max (sh - eD s) 0
def uC (iw:Int):Int:=if val s 1=1 then cC (val s 29) (val s 30) iw (-(gT s 1 iw)) else 0
def uJ (ih:Int):Int:=if val s 1=1 then cC (val s 23) (val s 24) ih (-(gT s 2 ih)) else 0
def xj:Bool:=decide (val s 1=2)||decide (val s 1=3)
def x6 (iw:Int):bt:=⟨cC (val s 41) (val s 42) iw (cC (val s 3) (val s 4) iw (val s 53)),max (cC (val s 7) (val s 8) iw 0) 0,max (cC (val s 11) (val s 12) iw 1048576) 0,val s 39,val s 40⟩
def itD (ih own:Int):bt:=⟨cC (val s 41) (val s 42) ih own,max (cC (val s 9) (val s 10) ih 0) 0,max (cC (val s 13) (val s 14) ih 1048576) 0,val s 39,val s 40⟩
end
def oY (x:bt):Int:=x.fit (min (max x.base 0) 1048576)
section
variable (F:ar (List Value))
abbrev ah (x:Int):List Value:=pt aR F x
def shownN:Nat→Int→Bool
  | 0,_=>true
  | n+1,x=>if aK F x then decide (val (ah F x) 0≠3)&&shownN n (upF F x) else true
def cM (x:Int):Bool:=aK F x&&shownN F 64 x
def aZ (x:Int) (a:Bool):List Int:=(aH F x).filter fun k=>cM F k&&(xj (ah F k)==a)
def cf (x:Int) (b:Bool):Bool:=
  decide (0≤upF F x)&&decide (val (ah F (upF F x)) 0=0)&& !xj (ah F x)&&(!b||(decide (val (ah F x) 5=0)&&decide (val (ah F x) 9=0)))&&decide (val (ah F x) 0=0)&&decide (val (ah F x) 2=0)&&decide (eS (ah F x) (if b then 2 else 0)=0)
def gN (x:Int) (b:Bool):Option Int:=if cf F x b then (if b then (aZ F x false).getLast? else (aZ F x false).head?) else none
def endsP:Nat→Int→Bool→List Int
  | 0,_,_=>[]
  | n+1,x,b=>mS (ah F x) 0 (if b then 2 else 0)::(match gN F x b with | some k=>endsP n k b | none=>[])
def Am (x:Int) (b:Bool):Int:=oX (endsP F 64 x b)
abbrev er:=Int→Int→Int→Int→Int→ew
section
variable (L:er) (ks:List Int) (iw ih:Int)
abbrev kS (i:Nat):List Value:=ah F (gI ks i)
def bF (i:Nat):ew:=L (gI ks i) iw ih (-1) (-1)
def bX (i:Nat):Int:=(ja iw (bF L ks iw ih i).w (val (kS F ks i) 21) (val (kS F ks i) 22) (val (kS F ks i) 17) (val (kS F ks i) 18) iw).1
def fZ:List Int:=dU ks.length fun i=>(bF L ks iw ih i).h
def bP (b:Bool):List Int:=dU ks.length fun i=>Am F (gI ks i) b
def jb (id:Int):Int:=if cf F id false then 0 else gI (bP F ks false) 0
def fY (id:Int):List ew×Int:=
  (dU ks.length fun i => { bF L ks iw ih i with x := bX F L ks iw ih i, y := jb F ks id + cx (fZ L ks iw ih) (bP F ks false) (bP F ks true) i },
   jb F ks id + (stkAt (fZ L ks iw ih) (bP F ks false) (bP F ks true) ks.length + (if cf F id true then 0 else gI (bP F ks true) (ks.length - 1))))
def PZ (i:Nat):Int:=eA (kS F ks i)+mA (kS F ks i) iw
def rz:List Int:=dU ks.length fun i=>oY (x6 (kS F ks i) iw)+PZ F ks iw i
section
variable (c:List Value) (a b:Nat)
def eY:List Int:=sizes (dU (b - a) fun i=>x6 (kS F ks (a+i)) iw) (iw - val c 46*((b - a:Nat) - 1) - sumN (fun i=>PZ F ks iw (a+i)) (b - a))
def lB (i:Nat):ew:=L (gI ks (a+i)) iw ih (gI (eY F ks iw c a b) i+eA (kS F ks (a+i))) (-1)
def ly:List Int:=dU (b - a) fun i=>(lB F L ks iw ih c a b i).w+mA (kS F ks (a+i)) iw
def Dr:Int:=s8 (fun i=>(lB F L ks iw ih c a b i).h+mD (kS F ks (a+i))) (b - a)
def lH (one:Bool):Int:=if one=true∧ih≠-1 then ih else Dr F L ks iw ih c a b
def lT (hh:Int) (i:Nat):ew:=
  if val c 44=0∧bE (val (kS F ks (a+i)) 5) ih=false then L (gI ks (a+i)) iw ih (lB F L ks iw ih c a b i).w (tC (kS F ks (a+i)) (max (hh - (eD (kS F ks (a+i))+mD (kS F ks (a+i)))) 0) ih+eD (kS F ks (a+i)))
  else lB F L ks iw ih c a b i
def jz (i:Nat):Int:=qx (val c 43) (cr iw (fV (ly F L ks iw ih c a b) (val c 46))) (val c 46) (ly F L ks iw ih c a b) i
def E2 (hh:Int) (i:Nat):ew:=
  {lT F L ks iw ih c a b hh i with x:=jz F L ks iw ih c a b i+mS (kS F ks (a+i)) iw 3,y:=dv (val c 44) ((lT F L ks iw ih c a b hh i).h+mD (kS F ks (a+i))) hh+mS (kS F ks (a+i)) iw 0}
def kG (one:Bool):List ew:=dU (b - a) (E2 F L ks iw ih c a b (lH F L ks iw ih c a b one))
end
def ss (n:Int) (f:ew):ew:={f with y:=f.y+n}
def du (c:List Value) (ls:List (Nat×Nat)):Nat→List ew×Int
  | 0=>([],0)
  | m + 1 =>
    ((du c ls m).1 ++ (kG F L ks iw ih c (ls.getD m (0, 0)).1 (ls.getD m (0, 0)).2 (decide (ls.length = 1))).map (ss (if m = 0 then (du c ls m).2 else (du c ls m).2 + val c 46)),
     (if m = 0 then (du c ls m).2 else (du c ls m).2 + val c 46) + lH F L ks iw ih c (ls.getD m (0, 0)).1 (ls.getD m (0, 0)).2 (decide (ls.length = 1)))
def bo (c:List Value):List (Nat×Nat):=bL (rz F ks iw) iw (val c 46) (iJ c 45)
def xv (id:Int):List ew×Int:=du F L ks iw ih (ah F id) (bo F ks iw (ah F id)) (bo F ks iw (ah F id)).length
section
variable (c:List Value)
def abH (i:Nat):Int:=if val c 44=0∨bE (val (kS F ks i) 3) iw=true then -1 else pM (kS F ks i) (val (kS F ks i) 53) iw+eA (kS F ks i)
def cF1 (i:Nat):ew:=L (gI ks i) iw ih (abH F ks iw c i) (-1)
def jE (i:Nat):bt:=itD (kS F ks i) ih ((cF1 F L ks iw ih c i).h - eD (kS F ks i))
def afN (i:Nat):Int:=eD (kS F ks i)+mD (kS F ks i)
def ev:List Int:=if ih= -1 then dU ks.length fun i=>oY (jE F L ks iw ih c i) else sizes (dU ks.length (jE F L ks iw ih c)) (ih - val c 46*((ks.length:Nat) - 1) - sumN (afN F ks) ks.length)
def pC (i:Nat):ew:=L (gI ks i) iw ih (abH F ks iw c i) (gI (ev F L ks iw ih c) i+eD (kS F ks i))
def ij:List Int:=dU ks.length fun i=>(pC F L ks iw ih c i).h+mD (kS F ks i)
def rq:Int:=if ih= -1 then fV (ij F L ks iw ih c) (val c 46) else ih
def lF (i:Nat):Int:=qx (val c 43) (cr (rq F L ks iw ih c) (fV (ij F L ks iw ih c) (val c 46))) (val c 46) (ij F L ks iw ih c) i
def Hp (i:Nat):ew:={pC F L ks iw ih c i with x:=dv (val c 44) ((pC F L ks iw ih c i).w+mA (kS F ks i) iw) iw+mS (kS F ks i) iw 3,y:=lF F L ks iw ih c i+mS (kS F ks i) iw 0}
end
def ee (id:Int):List ew×Int:=(dU ks.length (Hp F L ks iw ih (ah F id)),fV (ij F L ks iw ih (ah F id)) (val (ah F id) 46))
end
section
variable (L:er) (k:Int) (rw rh px py:Int)
def kp:Int:=if bE (val (ah F k) 3) rw then -1 else if oE (ah F k) 3 rw=true∧oE (ah F k) 1 rw=true then max (rw - gT (ah F k) 3 rw - gT (ah F k) 1 rw - mA (ah F k) rw) 0 else pM (ah F k) (val (ah F k) 53) rw+eA (ah F k)
def lY:Int:=if bE (val (ah F k) 5) rh=false∧oE (ah F k) 0 rh=true∧oE (ah F k) 2 rh=true then max (rh - gT (ah F k) 0 rh - gT (ah F k) 2 rh - mD (ah F k)) 0 else -1
def wF:ew:=L k rw rh (kp F k rw) (lY F k rh)
def cF:ew:=
  { wF F L k rw rh with
    x := (if oE (ah F k) 3 rw then gT (ah F k) 3 rw else if oE (ah F k) 1 rw then rw - gT (ah F k) 1 rw - mA (ah F k) rw - (wF F L k rw rh).w else px) + mS (ah F k) rw 3
    y := (if oE (ah F k) 0 rh then gT (ah F k) 0 rh else if oE (ah F k) 2 rh then rh - gT (ah F k) 2 rh - mD (ah F k) - (wF F L k rw rh).h else py) + mS (ah F k) rw 0 }
end
def Dw (dx dy:Int) (f:ew):ew:={f with x:=f.x+dx,y:=f.y+dy}
def iR (ww wh:Int) (L:er) (s:List Value) (iw ih:Int) (k:Int):ew:=
  if val (ah F k) 1=3 then cF F L k ww wh 0 0
  else Dw (val s 38) (val s 35) (cF F L k (iw+(val s 34+val s 32)) (ih+(val s 31+val s 33)) (val s 34) (val s 31))
def kj (L:er) (id iw ih:Int):List ew×Int:=
  if aZ F id false=[] then ([],val (ah F id) 54)
  else if val (ah F id) 0=1 then xv F L (aZ F id false) iw ih id
  else if val (ah F id) 0=2 then ee F L (aZ F id false) iw ih id
  else fY F L (aZ F id false) iw ih id
def jr (s:List Value) (rh ih n:Int):Int:=if ih= -1 then tC s (max n 0) rh else ih
def pW (s:List Value) (iw ih:Int) (f:ew):ew:={f with x:=f.x+eS s 3+uC (ah F f.id) iw,y:=f.y+eS s 0+uJ (ah F f.id) ih}
def e8 (ww wh:Int) (L:er):er:=fun id rw rh sw sh=>
  { id := id, x := 0, y := 0
    w := gy (ah F id) rw sw + eA (ah F id)
    h := jr (ah F id) rh (fU (ah F id) rh sh) (kj F L id (gy (ah F id) rw sw) (fU (ah F id) rh sh)).2 + eD (ah F id)
    kids := (kj F L id (gy (ah F id) rw sw) (fU (ah F id) rh sh)).1.map (pW F (ah F id) (gy (ah F id) rw sw) (fU (ah F id) rh sh))
      ++ (aZ F id true).map (iR F ww wh L (ah F id) (gy (ah F id) rw sw) (jr (ah F id) rh (fU (ah F id) rh sh) (kj F L id (gy (ah F id) rw sw) (fU (ah F id) rh sh)).2)) }
def tv (ww wh:Int):Nat→er
  | 0=>fun id _ _ _ _=>⟨id,0,0,0,0,[]⟩
  | n+1=>e8 F ww wh (tv ww wh n)
def Fj (ww wh:Int):er:=tv F ww wh 64
end
section
variable {F:ar (List Value)} {L L':er}
theorem eo {l:List Int} {i:Nat} (h:i<l.length):gI l i∈l:=by
  unfold gI;rw[List.getD_eq_getElem?_getD,List.getElem?_eq_getElem h];exact List.getElem_mem h
theorem dz {x:Int} {a:Bool} {k:Int} (h:k∈aZ F x a):k∈aH F x:=(List.mem_filter.1 h).1
theorem ku (F:ar (List Value)) (x:Int) (a:Bool):(aZ F x a).length≤(aH F x).length:=List.length_filter_le _ _
end
structure GS (s:List Value):Prop where
  ok:bZ s
  lens:∀j∈w5,jt (val s j) (val s (j+1))=true
  siz:∀j∈xT,0≤val s j∧val s j≤1048576
  disp:0≤val s 0∧val s 0≤3
theorem GS.of {s:List Value} (hs:bZ s) (h:bg s=true):GS s:=by
  unfold bg j7 mC at h;simp only[Bool.and_eq_true] at h;obtain⟨⟨⟨⟨⟨⟨⟨⟨k0,k1⟩,k2⟩,⟨⟨w43,w44⟩,w49⟩,w50⟩,hlen⟩,hsiz⟩,h39⟩,h40⟩,h48⟩:=h;refine⟨hs,?_,?_,of_decide_eq_true k0⟩
  · intro j hj
    unfold lU ou at hlen;rw[←rW (fun p:Int×Int=>jt p.1 p.2),List.all_eq_true] at hlen;exact hlen _ (List.mem_map.2 ⟨j,hj,rfl⟩)
  · intro j hj
    unfold iQ lN at hsiz;rw[←rW (fun n:Int=>within n 0 1048576),List.all_eq_true] at hsiz;exact of_decide_eq_true (hsiz _ (List.mem_map.2 ⟨j,hj,rfl⟩))
theorem GS.zero:GS aR:=GS.of eQ (by kernel_rfl)
section
variable {s:List Value}
theorem oP {o:Nat} {u:Value} (h:s[o]?=some u):s.toArray[o]?=some u:=by rw[List.getElem?_toArray];exact h
theorem BD {o k:Nat} {us:List Value} (h:(s.drop o).take k=us):s.toArray.extract o (o+k)=us.toArray:=by
  apply Array.ext';simp[h]
theorem GS.rB (h:GS s) (i:Nat) (hi:i<4):0≤eS s i∧eS s i≤2097152:=by
  have h1:=h.siz (31+i) (by match i,hi with | 0,_=>decide | 1,_=>decide | 2,_=>decide | 3,_=>decide);have h2:=h.siz (35+i) (by match i,hi with | 0,_=>decide | 1,_=>decide | 2,_=>decide | 3,_=>decide);unfold eS;omega
theorem GS.j6 (h:GS s):0≤eA s∧eA s≤4194304:=by
  have h1:=h.rB 3 (by decide);have h2:=h.rB 1 (by decide);unfold eA;omega
theorem GS.nQ (h:GS s):0≤eD s∧eD s≤4194304:=by
  have h1:=h.rB 0 (by decide);have h2:=h.rB 2 (by decide);unfold eD;omega
theorem jd (s:List Value) (b:Int) (i:Nat):-1099511627776≤mS s b i∧mS s b i≤1099511627776:=js _ _ _ _
theorem mh (s:List Value) (b:Int):-2199023255552≤mA s b∧mA s b≤2199023255552:=by
  have h1:=jd s b 3;have h2:=jd s b 1;unfold mA;omega
theorem pn (s:List Value):-2199023255552≤mD s∧mD s≤2199023255552:=by
  have h1:=jd s 0 0;have h2:=jd s 0 2;unfold mD;omega
theorem iP (s:List Value) (i:Nat) (b:Int):-1099511627776≤gT s i b∧gT s i b≤1099511627776:=js _ _ _ _
theorem o7 (s:List Value) (n r:Int):0≤pM s n r∧pM s n r≤1099511627776:=v7 _ _ _ _ _ _
theorem rM (s:List Value) (n r:Int):0≤tC s n r∧tC s n r≤1099511627776:=v7 _ _ _ _ _ _
theorem GS.IE (h:GS s) (rw sw:Int):0≤gy s rw sw∧gy s rw sw≤max 1099511627776 sw:=by
  have h1:=h.j6;have h2:=o7 s (cC (val s 3) (val s 4) rw (max (rw - mA s rw - eA s) 0)) rw;unfold gy
  split<;>omega
theorem GS.IS (h:GS s) (rh sh:Int):-1≤fU s rh sh∧fU s rh sh≤max 1099511627776 sh:=by
  have h1:=h.nQ;have h2:=rM s (cC (val s 5) (val s 6) rh 0) rh;unfold fU
  split
  · split<;>omega
  · omega
theorem yn (s:List Value) (rh ih n:Int) (h:-1≤ih):0≤jr s rh ih n∧jr s rh ih n≤max 1099511627776 ih:=by
  have h2:=rM s (max n 0) rh;unfold jr
  split<;>omega
theorem Jl (s:List Value) (iw:Int):-1099511627776≤uC s iw∧uC s iw≤1099511627776:=by
  unfold uC;split
  · exact js _ _ _ _
  · omega
theorem J1 (s:List Value) (iw:Int):-1099511627776≤uJ s iw∧uJ s iw≤1099511627776:=by
  unfold uJ;split
  · exact js _ _ _ _
  · omega
end
def LB (L:er) (k:Int):Prop:=∀rw rh sw sh,(L k rw rh sw sh).id=k∧(L k rw rh sw sh).x=0∧(L k rw rh sw sh).y=0∧(0≤(L k rw rh sw sh).w∧(L k rw rh sw sh).w≤max 1099511627776 sw+4194304)∧0≤(L k rw rh sw sh).h∧(L k rw rh sw sh).h≤max 1099511627776 sh+4194304
theorem pQ {F:ar (List Value)} (ww wh:Int) {k:Int} (hs:GS (ah F k)):∀n,LB (tv F ww wh n) k
  | 0=>fun rw rh sw sh=>⟨rfl,rfl,rfl,by simp only[tv];omega,by simp only[tv];omega,by simp only[tv];omega⟩
  | n + 1 => fun rw rh sw sh => by
    have h1:=hs.IE rw sw;have h2:=hs.IS rh sh;have h3:=hs.j6;have h4:=hs.nQ;have h5:=yn (ah F k) rh (fU (ah F k) rh sh) (kj F (tv F ww wh n) k (gy (ah F k) rw sw) (fU (ah F k) rh sh)).2 h2.1;refine⟨rfl,rfl,rfl,?_,?_⟩
    · simp only[tv,e8];omega
    · simp only[tv,e8];omega
theorem Ay (x:bt):0≤oY x∧oY x≤1048576:=by
  have h1:=jg x.low;have h2:=jg x.high;unfold oY bt.fit;omega
section
variable {l:List Int} {room gap:Int} {wrap:Bool}
theorem HD:∀i,i≤l.length→(∀p∈(brkS l room gap wrap i).1,p.1<p.2∧p.2≤i∧p.2≤p.1+64)∧(brkS l room gap wrap i).2.1≤i∧(i≤(brkS l room gap wrap i).2.1+64)
  | 0,_=>⟨fun p hp=>by simp[brkS] at hp,Nat.le_refl _,Nat.zero_le _⟩
  | i + 1, hi => by
    obtain⟨h1,h2,h3⟩:=HD i (by omega);have h4:=Rv (l:=l) (room:=room) (gap:=gap) (wrap:=wrap) i;rw[brkS] at h4 ⊢
    split
    · exact⟨fun p hp=>by have:=h1 p hp;omega,by simp only;omega,by simp only;omega⟩
    · split
      · exact⟨fun p hp=>by have:=h1 p hp;omega,by simp only;omega,by simp only;omega⟩
      · refine ⟨fun p hp => ?_, by simp only; omega, by simp only; omega⟩
        simp only[List.mem_append,List.mem_singleton] at hp
        rcases hp with hp | rfl
        · have:=h1 p hp;omega
        · exact⟨by simp only;omega,by simp only;omega,by simp only;omega⟩
theorem kq {p:Nat×Nat} (h:p∈bL l room gap wrap):p.1<p.2∧p.2≤l.length∧p.2≤p.1+64:=by
  obtain⟨h1,h2,h3⟩:=HD (l:=l) (room:=room) (gap:=gap) (wrap:=wrap) l.length (Nat.le_refl _);unfold bL at h
  split at h
  · rcases List.mem_append.1 h with h | h
    · exact h1 p h
    · simp only [List.mem_singleton] at h
      subst h;exact⟨by assumption,Nat.le_refl _,h3⟩
  · exact h1 p h
end
end Go.Proofs.YtbedndijejpcaaaGreat
