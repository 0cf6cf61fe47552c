/- Nums2 Nums3 Breaks FlowBase FlowPlain FlowFact -/
import Derived.Test.YtpgjbbaplpdaiaaGreatS13
set_option linter.unusedVariables false
set_option linter.unusedSimpArgs false
set_option linter.unusedSectionVars false
set_option maxRecDepth 100000
set_option maxHeartbeats 8000000
namespace Go.Proofs.YtpgjbbaplpdaiaaGreat
open Go.RowKit
theorem ends_ct (A:Option Addr) (c:Nat) (l:List Int) (hl:l.length≤10000):Ct Tryz.prog 183 #[.slice A l.length c] [] (fun w=>RdI w A l) (X:=Unit) (fun _=>.tuple #[.int .i64 (hiP l),.int .i64 (loP l)]) (fun _=>True) (fun _=>[]):=by
  refine Ci fun w0 hz=>?_;refine gg ?_;refine WP.loopK (X:=Nat) [6,7] (fun k=>[(2,.int .i64 (hiP (l.take k))),(3,.int .i64 (loP (l.take k))),(8,.int .i64 (k:Int))]) (fun k w=>k≤l.length∧St w0 (foots []) [] w) (fun k=>l.length - k) 0 ⟨rfl,rfl,rfl,trivial⟩ (fun w hw=>⟨Nat.zero_le _,hw⟩) (fun k ρ0=>?_);refine WP.fact (fun hkl=>?_);refine gg ?_;refine WP.condP rfl (fun h9=>?_) (fun h9=>?_)
  ·obtain⟨x,hx⟩:∃x,l[k]?=some x:=⟨_,List.getElem?_eq_getElem (by omega)⟩;obtain⟨ab,ao,rfl,hc⟩:=hz k x hx;refine gg ?_;refine vl (vO hc) ?_;refine gg ?_;refine vl (vC (cut_any _ _)) ?_;refine av ?_;refine nl (oo ?_);refine WP.region ?_
   iterate 8 refine av ?_
   refine nl (oo ?_);refine WP.region ?_
   iterate 2 refine av ?_
   exact nl fun w hw=>⟨rfl,k+1,(by omega),⟨(congrArg (Value.int .i64) (hiP_snoc hx).symm),(congrArg (Value.int .i64) (loP_snoc hx).symm),rfl,jS,jI,trivial⟩,⟨by omega,hw⟩⟩
  ·obtain rfl:k=l.length:=by omega
   have htk:l.take l.length=l:=List.take_of_length_le (Nat.le_refl _);refine WP.exit (onto_of ?_);exact rt2 fun w hw=>⟨(),by rw[htk];rfl,trivial,hw.pk⟩
theorem collapse_ct (A:Option Addr) (c:Nat) (l:List Int) (hl:l.length≤10000):Ct Tryz.prog 173 #[.slice A l.length c] [] (fun w=>RdI w A l) (X:=Unit) (fun _=>.int .i64 (collP l)) (fun _=>True) (fun _=>[]):=by
  refine Ci fun w0 hz=>?_;have hb1:=hiP_bd l;have hb2:=loP_bd l;refine gg ?_;refine eF (xC (ends_ct A c l hl) (hF:=fun w hw=>hw.rd hz not_foots_nil)) fun _ _=>?_;refine mv rfl ?_;refine gg ?_;exact rt1 fun w hw=>⟨(),rfl,trivial,hw.pk⟩
theorem pair_ct (a b:Int):Ct Tryz.prog 175 #[.int .i64 a,.int .i64 b] [] (fun _=>True) (X:=Unit) (fun _=>.int .i64 (collP [a,b])) (fun _=>True) (fun _=>[]):=by
  refine Ci fun w0 _=>?_;have hb1:=hiP_bd [a,b];have hb2:=loP_bd [a,b];refine gg ?_;refine WPL.ef (xN (L2 rfl)) fun g10=>?_;refine eF (xC (ends_ct (some ⟨g10,0,none⟩) 2 [a,b] (by simp)) (hF:=fun w hw=>hw.rd_row1 (i:=0) (f:=Value.int .i64) rfl)) fun _ _=>?_;refine mv rfl ?_;refine gg ?_;exact rt1 fun w hw=>⟨(),rfl,trivial,hw.pk⟩
theorem auto_ct (room size bk bn ek en base:Int):Ct Tryz.prog 155 #[.int .i64 room,.int .i64 size,.agg #[.int .i64 bk,.int .i64 bn],.agg #[.int .i64 ek,.int .i64 en],.int .i64 base] [] (fun _=>True) (X:=Unit) (fun _=>.tuple #[.int .i64 (autoP room size bk bn ek en base).1,.int .i64 (autoP room size bk bn ek en base).2]) (fun _=>True) (fun _=>[]):=by
  refine Ci fun w0 _=>?_;have hal:-1099511627776≤subI (subI (subI room size) (ofL bk bn base 0)) (ofL ek en base 0)∧subI (subI (subI room size) (ofL bk bn base 0)) (ofL ek en base 0)≤1099511627776:=subI_bd _ _;have hdv:divI (subI (subI (subI room size) (ofL bk bn base 0)) (ofL ek en base 0)) 2=subI (subI (subI room size) (ofL bk bn base 0)) (ofL ek en base 0) / 2:=by unfold divI;rw[if_neg (by omega),cut_id hal.1 hal.2];rfl
  refine gg ?_;refine WPL.ef xB fun b7=>?_;refine WPL.ef xB fun b8=>?_;refine gg ?_;refine wP none [0,1] [pT 0,pT 1,pT 3,pT 4,pF 2,pF 5,pT 6,pT 7] ?_;refine gg ?_;refine dG (xC (lenof_ct bk bn base 0)) fun _ _=>?_;refine dG (xC (lenof_ct ek en base 0)) fun _ _=>?_;refine gg ?_;refine vl (vC (sub_any _ _ _)) ?_;refine gg ?_;refine vl (vC (sub_any _ _ _)) ?_;refine gg ?_;refine vl (vC (sub_any _ _ _)) ?_;refine gg ?_;refine wP none [0,1] [pT 0,pT 1,pT 4,pT 5,pF 2,pT 3,pF 6,pT 7,pT 8,pT 9] ?_;refine gg ?_;refine dG (xC (fixed_ct bk bn base)) fun _ _=>?_;refine gg ?_;refine dG (xC (fixed_ct ek en base)) fun _ _=>?_;refine gg ?_;refine WP.condP rfl (fun h38=>?_) (fun h38=>?_)
  case' _=>
   have hr:=auto_le (room:=room) (size:=size) (bn:=bn) (en:=en) h38
  rotate_left
  case' _=>
   refine sqR ?_
   iterate 2 refine av ?_
   refine WPL.splitB 43 rfl (fun h43=>?_) (fun h43=>?_)
   case' _=>
    refine gg ?_;refine WP.cond rfl (fun h41=>?_) (fun h41=>?_)
    case' _=>
     have hr:=auto_both (room:=room) (size:=size) (bn:=bn) (en:=en) h38 (by simpa using h43) (by simpa using h41);refine sqR ?_;refine av ?_;refine vl (v_shr1 rfl rfl) ?_
    rotate_left
    case' _=>
     have hq2:fixedL ek base=true:=by simpa using h41
     refine gg ?_;refine WP.cond rfl (fun h51=>?_) (fun h51=>?_)
     case' _=>
      have hr:=auto_first (room:=room) (size:=size) (bn:=bn) (en:=en) h38 (by simpa using h51) (by first | exact hq2 | (exfalso;simp_all;done))
     rotate_left
     case' _=>
      have hq1:fixedL bk base=true:=by simpa using h51
      refine gg ?_;refine WP.cond rfl (fun h54=>?_) (fun h54=>?_)
      case' _=>
       have hr:=auto_last (room:=room) (size:=size) (bn:=bn) (en:=en) h38 hq1 (by simpa using h54)
      rotate_left
      case' _=>
       have hr:=auto_none (room:=room) (size:=size) (bn:=bn) (en:=en) hq1 (by simpa using h54)
   rotate_left 4
   case' _=>
    refine gg ?_;refine WP.condF rfl ?_;refine gg ?_;refine WP.cond rfl (fun h51=>?_) (fun h51=>?_)
    case' _=>
     have hr:=auto_first (room:=room) (size:=size) (bn:=bn) (en:=en) h38 (by simpa using h51) (by first | exact hq2 | (exfalso;simp_all;done))
    rotate_left
    case' _=>
     have hq1:fixedL bk base=true:=by simpa using h51
     refine gg ?_;refine WP.cond rfl (fun h54=>?_) (fun h54=>?_)
     case' _=>
      have hr:=auto_last (room:=room) (size:=size) (bn:=bn) (en:=en) h38 hq1 (by simpa using h54)
     rotate_left
     case' _=>
      have hr:=auto_none (room:=room) (size:=size) (bn:=bn) (en:=en) hq1 (by simpa using h54)
  all_goals
   refine gg ?_;exact rt2 fun w hw=>⟨(),by rw[hr];first | rfl | (show Value.tuple #[.int .i64 (divI (subI (subI (subI room size) (ofL bk bn base 0)) (ofL ek en base 0)) 2),.int .i64 (subI (subI (subI room size) (ofL bk bn base 0)) (ofL ek en base 0) - divI (subI (subI (subI room size) (ofL bk bn base 0)) (ofL ek en base 0)) 2)]=_;rw[hdv];rfl),trivial,hw.pk⟩
theorem long_ct (A:Option Addr) (c:Nat) (l:List Int) (gap:Int) (hl:l.length≤10000):Ct Tryz.prog 169 #[.slice A l.length c,.int .i64 gap] [] (fun w=>RdI w A l) (X:=Unit) (fun _=>.int .i64 (longP l gap)) (fun _=>True) (fun _=>[]):=by
  refine Ci fun w0 hz=>?_;refine gg ?_;refine WP.loopK (X:=Nat) [1,8,9] (fun k=>[(5,.int .i64 (longK l gap k)),(10,.int .i64 (k:Int))]) (fun k w=>k≤l.length∧St w0 (foots []) [] w) (fun k=>l.length - k) 0 ⟨rfl,rfl,trivial⟩ (fun w hw=>⟨Nat.zero_le _,hw⟩) (fun k ρ0=>?_);refine WP.fact (fun hkl=>?_);refine gg ?_;refine WP.condP rfl (fun h11=>?_) (fun h11=>?_)
  ·obtain⟨x,hx⟩:∃x,l[k]?=some x:=⟨_,List.getElem?_eq_getElem (by omega)⟩;obtain⟨ab,ao,rfl,hc⟩:=hz k x hx;refine gg ?_;refine vl (vO hc) ?_;refine gg ?_;refine WP.condP rfl (fun h16=>?_) (fun h16=>?_)
   ·have hlk:=long_gap (gap:=gap) (show k≠0 by omega) hx;refine gg ?_;refine vl (vC (add_any _ _ _)) ?_;refine gg ?_;refine vl (vC (add_any _ _ _)) ?_;refine av ?_;refine nl (oo ?_);refine WP.region ?_
    iterate 2 refine av ?_
    exact nl fun w hw=>⟨rfl,k+1,(by omega),⟨(congrArg (Value.int .i64) hlk),rfl,jI,jS,jI,trivial⟩,⟨by omega,hw⟩⟩
   ·have hk0:k=0:=by omega
    have hlk:addI (longK l gap k) x=longK l gap (k+1):=by subst hk0;exact long_first hx
    refine gg ?_;refine vl (vC (add_any _ _ _)) ?_;refine av ?_;refine nl (oo ?_);refine WP.region ?_
    iterate 2 refine av ?_
    exact nl fun w hw=>⟨rfl,k+1,(by omega),⟨(congrArg (Value.int .i64) hlk),rfl,jI,jS,jI,trivial⟩,⟨by omega,hw⟩⟩
  ·obtain rfl:k=l.length:=by omega
   refine WP.exit (onto_of ?_);refine gg ?_;exact rt1 fun w hw=>⟨(),rfl,trivial,hw.pk⟩
theorem stack_ct (A B D:Option Addr) (ca cb cd:Nat) (sizes tops bottoms:List Int) (hl:sizes.length≤10000) (ht:tops.length=sizes.length) (hb:bottoms.length=sizes.length):Ct Tryz.prog 157 #[.slice A sizes.length ca,.slice B tops.length cb,.slice D bottoms.length cd] [] (fun w=>RdI w A sizes∧RdI w B tops∧RdI w D bottoms) (X:=Option Addr×Nat) (fun p=>.tuple #[.slice p.1 sizes.length p.2,.int .i64 (stkAt sizes tops bottoms sizes.length)]) (fun _=>True) (fun p=>[.row 3 1 p.1 sizes.length p.2 ((stkStarts sizes tops bottoms).map (Value.int .i64))]):=by
  refine Ci fun w0 ⟨hz,htp,hbt⟩=>?_;refine sqR ?_
  iterate 2 refine av ?_
  refine nl (oo ?_);refine sq ?_;refine sqR ?_
  iterate 4 refine av ?_
  refine vl (v_is (b:=false) (v_neq rfl rfl) (decide_eq_false (by omega))) ?_;refine av ?_
  iterate 4 refine ag ?_
  refine vg (v_is (b:=false) (v_neq rfl rfl) (decide_eq_false (by omega))) ?_;refine gg ?_;refine WP.condF rfl ?_;refine WP.skip (onto_of ?_);refine sq ?_;refine WP.pre ?_ (fun w hw=>hw.nilRow 3 1);refine gg ?_;refine WP.loopK (X:=Nat×Option Addr×Nat) [1,2,24,25] (fun p=>[(8,.slice p.2.1 p.1 p.2.2),(9,.int .i64 (stkAt sizes tops bottoms p.1)),(26,.int .i64 (p.1:Int))]) (fun p w=>p.1≤sizes.length∧St w0 (foots []) [.row 3 1 p.2.1 p.1 p.2.2 (((stkStarts sizes tops bottoms).take p.1).map (Value.int .i64))] w) (fun p=>sizes.length - p.1) (0,none,0) ⟨rfl,congrArg (Value.int .i64) (by rw[stkAt]),rfl,trivial⟩ (fun w hw=>⟨Nat.zero_le _,by simpa using hw⟩) (fun p ρ0=>?_);obtain⟨k,oA,oc⟩:=p;dsimp only;refine WP.fact (fun hkl=>?_);refine gg ?_;refine WP.condP rfl (fun h27=>?_) (fun h27=>?_)
  ·obtain⟨x,hx⟩:∃x,sizes[k]?=some x:=⟨_,List.getElem?_eq_getElem (by omega)⟩;obtain⟨ab,ao,rfl,hc⟩:=hz k x hx;have hbd:=stkAt_bd sizes tops bottoms k;refine gg ?_;refine vl (vO hc) ?_;refine gg ?_;refine WP.condP rfl (fun h32=>?_) (fun h32=>?_)
   case' _=>
    obtain⟨m,hm⟩:∃m,k=m+1:=⟨k - 1,by omega⟩;obtain⟨y,hy⟩:∃y,bottoms[m]?=some y:=⟨_,List.getElem?_eq_getElem (by omega)⟩;obtain⟨z,hzz⟩:∃z,tops[k]?=some z:=⟨_,List.getElem?_eq_getElem (by omega)⟩;obtain⟨yb,yo,rfl,hcy⟩:=hbt m y hy;obtain⟨zb,zo,rfl,hcz⟩:=htp k z hzz;have hst:addI (stkAt sizes tops bottoms k) (collP [y,z])=stkStart sizes tops bottoms k:=by subst hm;exact stkStart_succ hy hzz
    refine wP none [0] [pT 0,pT 1,pT 2,pT 3,pT 4,pT 5,pT 6,pT 7,pT 8,pT 9,pF 10,pT 11,pT 12] ?_
    iterate 4 refine ad ?_
    refine tD (vX m) ?_;refine tD (vO hcy) ?_;refine gg ?_;refine tD (vO hcz) ?_;refine dG (xC (pair_ct y z)) fun _ _=>?_;refine tD (vC (add_any _ _ _)) ?_;refine ad ?_;refine WPD.nil (onto_of ?_)
   rotate_left
   case' _=>
    have hk0:k=0:=by omega
    have hst:stkAt sizes tops bottoms k=stkStart sizes tops bottoms k:=by subst hk0;exact stkStart_zero
    refine WP.skip (onto_of ?_)
   all_goals
    refine sqR ?_;rw[hst];refine gg ?_;refine WPL.ef (xN (L1 rfl)) fun g47=>?_;refine WPL.ef (xP 0 1) fun⟨A48,c48⟩=>?_;refine gg ?_;refine vl (vC (add_any _ _ _)) ?_;refine av ?_;refine nl (oo ?_);refine WP.region ?_
    iterate 2 refine av ?_
    exact nl fun w hw=>⟨rfl,(k+1,A48,c48),(by simp only;omega),⟨rfl,(congrArg (Value.int .i64) (stkAt_succ hx)),rfl,jS,jS,jS,jI,trivial⟩,⟨by simp only;omega,by simp only;rw[stk_take (by omega),List.map_append];exact(hw.sel [0] (by decide))⟩⟩
  ·obtain rfl:k=sizes.length:=by omega
   have htk:(stkStarts sizes tops bottoms).take sizes.length=stkStarts sizes tops bottoms:=List.take_of_length_le (by rw[stk_len];omega);refine WP.exit (onto_of ?_);refine gg ?_;exact rt2 fun w hw=>⟨(oA,oc),rfl,trivial,by rw[←htk];exact hw⟩
theorem across_ct (kind size room:Int):Ct Tryz.prog 168 #[.int .i64 kind,.int .i64 size,.int .i64 room] [] (fun _=>True) (X:=Unit) (fun _=>.int .i64 (acrossP kind size room)) (fun _=>True) (fun _=>[]):=by
  refine Ci fun w0 _=>?_;refine gg ?_;refine vl (vC (sub_any _ _ _)) ?_;refine gg ?_;refine WP.condP rfl (fun h12=>?_) (fun h12=>?_)
  ·have hr:acrossP kind size room=divI (subI room size) 2:=by unfold acrossP;rw[if_pos h12]
   refine gg ?_;refine vl (vC (div_any _ _ _)) ?_;refine gg ?_;exact rt1 fun w hw=>⟨(),congrArg (Value.int .i64) hr.symm,trivial,hw.pk⟩
  ·refine gg ?_;refine WP.condP rfl (fun h16=>?_) (fun h16=>?_)
   ·have hr:acrossP kind size room=subI room size:=by unfold acrossP;rw[if_neg (by omega),if_pos h16]
    refine gg ?_;exact rt1 fun w hw=>⟨(),congrArg (Value.int .i64) hr.symm,trivial,hw.pk⟩
   ·have hr:acrossP kind size room=0:=by unfold acrossP;rw[if_neg (by omega),if_neg (by omega)]
    refine gg ?_;exact rt1 fun w hw=>⟨(),congrArg (Value.int .i64) hr.symm,trivial,hw.pk⟩
theorem jof_ct (kind left n:Int):Ct Tryz.prog 190 #[.int .i64 kind,.int .i64 left,.int .i64 n] [] (fun _=>True) (X:=Unit) (fun _=>.int .i64 (kindJ kind left n)) (fun _=>True) (fun _=>[]):=by
  refine Ci fun w0 _=>?_;refine gg ?_;refine WP.condP rfl (fun h8=>?_) (fun h8=>?_)
  case' _=>
   refine gg ?_;refine WP.condP rfl (fun h8=>?_) (fun h8=>?_)
   case' _=>
    refine WP.exit (onto_of ?_);refine gg ?_;refine WP.condP rfl (fun h16=>?_) (fun h16=>?_);rotate_left
    case' _=>
     refine gg ?_;refine WP.exit (onto_of ?_)
   rotate_left 2
   case' _=>
    refine gg ?_;refine WP.condP rfl (fun h11=>?_) (fun h11=>?_)
    case' _=>
     refine WP.exit (onto_of ?_);refine sqR ?_
     iterate 3 refine av ?_
     refine WPL.split 19 rfl (fun h19=>?_) (fun h19=>?_)
     case' _=>
      refine gg ?_;refine WP.condP rfl (fun h22=>?_) (fun h22=>?_)
      case' _=>
       refine WP.exit (onto_of ?_)
      rotate_left
     rotate_left 2
     case' _=>
      refine gg ?_;refine WP.condF rfl ?_
    rotate_left 3
    case' _=>
     refine gg ?_;refine WP.condP rfl (fun h13=>?_) (fun h13=>?_);rotate_left
     case' _=>
      refine gg ?_
     all_goals
      refine WP.exit (onto_of ?_)
  rotate_left 7
  case' _=>
   refine gg ?_;refine WP.condP rfl (fun h8=>?_) (fun h8=>?_)
   case' _=>
    refine WP.exit (onto_of ?_);refine gg ?_;refine WP.condP rfl (fun h16=>?_) (fun h16=>?_);rotate_left
    case' _=>
     refine gg ?_;refine WP.exit (onto_of ?_)
   rotate_left 2
   case' _=>
    refine gg ?_;refine WP.condP rfl (fun h11=>?_) (fun h11=>?_)
    case' _=>
     refine WP.exit (onto_of ?_);refine sqR ?_
     iterate 3 refine av ?_
     refine WPL.split 19 rfl (fun h19=>?_) (fun h19=>?_)
     case' _=>
      refine gg ?_;refine WP.condP rfl (fun h22=>?_) (fun h22=>?_)
      case' _=>
       refine WP.exit (onto_of ?_)
      rotate_left
     rotate_left 2
     case' _=>
      refine gg ?_;refine WP.condF rfl ?_
    rotate_left 3
    case' _=>
     refine gg ?_;refine WP.condP rfl (fun h13=>?_) (fun h13=>?_);rotate_left
     case' _=>
      refine gg ?_
     all_goals
      refine WP.exit (onto_of ?_)
  all_goals
   refine gg ?_;exact rt1 fun w hw=>⟨(),congrArg (Value.int .i64) (by unfold kindJ;first | (rw[if_pos (by omega)];done) | (rw[if_neg (by omega),if_pos (by omega)];done) | (rw[if_neg (by omega),if_neg (by omega)];done) | (rw[if_neg (by omega),if_neg (by omega)];omega)),trivial,hw.pk⟩
theorem bf1_ct (b4 b5 b7:Nat) (left n:Int) (k m:Int):Ct Tryz.prog 188 #[.int .i64 k,.int .i64 m,.pointer (some ⟨b4,0,none⟩)] [.cl b4 3 [.int .i64 left],.cl b5 3 [.int .i64 n],.cl b7 96 [.func (.func 188) #[] #[.pointer (some ⟨b4,0,none⟩)]]] (fun _=>True) (X:=Unit) (fun _=>.int .i64 (partJ left k m)) (fun _=>True) (fun _=>[.cl b4 3 [.int .i64 left],.cl b5 3 [.int .i64 n],.cl b7 96 [.func (.func 188) #[] #[.pointer (some ⟨b4,0,none⟩)]]]):=by
  refine Ci fun w0 _=>?_;refine gg ?_;refine vl (vC (mul_any _ _ _)) ?_;refine gg ?_;refine vl (vC (div_any _ _ _)) ?_;refine gg ?_;exact rt1 fun w hw=>⟨(),rfl,trivial,hw.pk⟩
theorem bf2_ct (b4 b5 b7:Nat) (left n:Int) (k:Nat) (hk:k≤10000):Ct Tryz.prog 191 #[.int .i64 (k:Int),.pointer (some ⟨b4,0,none⟩)] [.cl b4 3 [.int .i64 left],.cl b5 3 [.int .i64 n],.cl b7 96 [.func (.func 188) #[] #[.pointer (some ⟨b4,0,none⟩)]]] (fun _=>True) (X:=Unit) (fun _=>.int .i64 left) (fun _=>True) (fun _=>[.cl b4 3 [.int .i64 left],.cl b5 3 [.int .i64 n],.cl b7 96 [.func (.func 188) #[] #[.pointer (some ⟨b4,0,none⟩)]]]):=by
  refine Ci fun w0 _=>?_;refine gg ?_;exact rt1 fun w hw=>⟨(),rfl,trivial,hw.pk⟩
theorem bf3_ct (b4 b5 b7:Nat) (left n:Int) (k:Nat) (hk:k≤10000):Ct Tryz.prog 192 #[.int .i64 (k:Int),.pointer (some ⟨b4,0,none⟩)] [.cl b4 3 [.int .i64 left],.cl b5 3 [.int .i64 n],.cl b7 96 [.func (.func 188) #[] #[.pointer (some ⟨b4,0,none⟩)]]] (fun _=>True) (X:=Unit) (fun _=>.int .i64 (divI left 2)) (fun _=>True) (fun _=>[.cl b4 3 [.int .i64 left],.cl b5 3 [.int .i64 n],.cl b7 96 [.func (.func 188) #[] #[.pointer (some ⟨b4,0,none⟩)]]]):=by
  refine Ci fun w0 _=>?_;refine gg ?_;refine vl (vC (div_any _ _ _)) ?_;refine gg ?_;exact rt1 fun w hw=>⟨(),rfl,trivial,hw.pk⟩
theorem bf4_ct (b4 b5 b7:Nat) (left n:Int) (k:Nat) (hk:k≤10000) (hn:0≤n∧n≤10000):Ct Tryz.prog 193 #[.int .i64 (k:Int),.pointer (some ⟨b7,0,none⟩),.pointer (some ⟨b5,0,none⟩)] [.cl b4 3 [.int .i64 left],.cl b5 3 [.int .i64 n],.cl b7 96 [.func (.func 188) #[] #[.pointer (some ⟨b4,0,none⟩)]]] (fun _=>True) (X:=Unit) (fun _=>.int .i64 (partJ left k (n - 1))) (fun _=>True) (fun _=>[.cl b4 3 [.int .i64 left],.cl b5 3 [.int .i64 n],.cl b7 96 [.func (.func 188) #[] #[.pointer (some ⟨b4,0,none⟩)]]]):=by
  refine Ci fun w0 _=>?_;refine sqR ?_;refine av ?_;refine nl (oo ?_);refine sqR ?_;refine vl (v_load1 (u:=_) Tryz.isAgg96 rfl (fun w hw=>hw.cl_at (i:=2) rfl _ rfl)) ?_;refine gg ?_;refine eF (xV (bf1_ct b4 b5 b7 left n k (n - 1)) Tryz.call188) fun _ _=>?_;refine gg ?_;exact rt1 fun w hw=>⟨(),rfl,trivial,hw.pk⟩
theorem bf5_ct (b4 b5 b7:Nat) (left n:Int) (k:Nat) (hk:k≤10000) (hn:0≤n∧n≤10000):Ct Tryz.prog 194 #[.int .i64 (k:Int),.pointer (some ⟨b7,0,none⟩),.pointer (some ⟨b5,0,none⟩)] [.cl b4 3 [.int .i64 left],.cl b5 3 [.int .i64 n],.cl b7 96 [.func (.func 188) #[] #[.pointer (some ⟨b4,0,none⟩)]]] (fun _=>True) (X:=Unit) (fun _=>.int .i64 (partJ left (2*k+1) (2*n))) (fun _=>True) (fun _=>[.cl b4 3 [.int .i64 left],.cl b5 3 [.int .i64 n],.cl b7 96 [.func (.func 188) #[] #[.pointer (some ⟨b4,0,none⟩)]]]):=by
  refine Ci fun w0 _=>?_;refine sqR ?_;refine av ?_;refine nl (oo ?_);refine sqR ?_;refine vl (v_load1 (u:=_) Tryz.isAgg96 rfl (fun w hw=>hw.cl_at (i:=2) rfl _ rfl)) ?_;refine gg ?_;refine eF (xV (bf1_ct b4 b5 b7 left n (2*k+1) (2*n)) Tryz.call188) fun _ _=>?_;refine gg ?_;exact rt1 fun w hw=>⟨(),rfl,trivial,hw.pk⟩
theorem bf6_ct (b4 b5 b7:Nat) (left n:Int) (k:Nat) (hk:k≤10000) (hn:0≤n∧n≤10000):Ct Tryz.prog 195 #[.int .i64 (k:Int),.pointer (some ⟨b7,0,none⟩),.pointer (some ⟨b5,0,none⟩)] [.cl b4 3 [.int .i64 left],.cl b5 3 [.int .i64 n],.cl b7 96 [.func (.func 188) #[] #[.pointer (some ⟨b4,0,none⟩)]]] (fun _=>True) (X:=Unit) (fun _=>.int .i64 (partJ left (k+1) (n+1))) (fun _=>True) (fun _=>[.cl b4 3 [.int .i64 left],.cl b5 3 [.int .i64 n],.cl b7 96 [.func (.func 188) #[] #[.pointer (some ⟨b4,0,none⟩)]]]):=by
  refine Ci fun w0 _=>?_;refine sqR ?_;refine av ?_;refine nl (oo ?_);refine sqR ?_;refine vl (v_load1 (u:=_) Tryz.isAgg96 rfl (fun w hw=>hw.cl_at (i:=2) rfl _ rfl)) ?_;refine gg ?_;refine eF (xV (bf1_ct b4 b5 b7 left n (k+1) (n+1)) Tryz.call188) fun _ _=>?_;refine gg ?_;exact rt1 fun w hw=>⟨(),rfl,trivial,hw.pk⟩
theorem bf7_ct (b4 b5 b7:Nat) (left n:Int) (k:Nat) (hk:k≤10000):Ct Tryz.prog 196 #[.int .i64 (k:Int)] [.cl b4 3 [.int .i64 left],.cl b5 3 [.int .i64 n],.cl b7 96 [.func (.func 188) #[] #[.pointer (some ⟨b4,0,none⟩)]]] (fun _=>True) (X:=Unit) (fun _=>.int .i64 0) (fun _=>True) (fun _=>[.cl b4 3 [.int .i64 left],.cl b5 3 [.int .i64 n],.cl b7 96 [.func (.func 188) #[] #[.pointer (some ⟨b4,0,none⟩)]]]):=by
  refine Ci fun w0 _=>?_;refine gg ?_;exact rt1 fun w hw=>⟨(),rfl,trivial,hw.pk⟩
def BefOK (kind left n:Int) (p:Value×Nat×Nat×Nat):Prop:=
  ∃ (f : Nat) (cap : List Value), p.1 = .func (.func f) #[] cap.toArray ∧ (∀ args w, (callFunc f args).run Tryz.prog w = .ok (.enter f args) w) ∧
    ∀k:Nat,k≤10000→Ct Tryz.prog f (.int .i64 (k:Int)::cap).toArray [.cl p.2.1 3 [.int .i64 left],.cl p.2.2.1 3 [.int .i64 n],.cl p.2.2.2 96 [.func (.func 188) #[] #[.pointer (some ⟨p.2.1,0,none⟩)]]] (fun _=>True) (X:=Unit) (fun _=>.int .i64 (beforeP kind left n k)) (fun _=>True) (fun _=>[.cl p.2.1 3 [.int .i64 left],.cl p.2.2.1 3 [.int .i64 n],.cl p.2.2.2 96 [.func (.func 188) #[] #[.pointer (some ⟨p.2.1,0,none⟩)]]])
theorem before_ct (kind left n:Int) (hn:0≤n∧n≤10000):Ct Tryz.prog 181 #[.int .i64 kind,.int .i64 left,.int .i64 n] [] (fun _=>True) (X:=Value×Nat×Nat×Nat) (fun p=>p.1) (BefOK kind left n) (fun p=>[.cl p.2.1 3 [.int .i64 left],.cl p.2.2.1 3 [.int .i64 n],.cl p.2.2.2 96 [.func (.func 188) #[] #[.pointer (some ⟨p.2.1,0,none⟩)]]]):=by
  refine Ci fun w0 _=>?_;refine gg ?_;refine WPL.ef (x_box1 (u:=.int .i64 _) (σ':=fun _=>[_]) rfl (fun _=>rfl)) (fun b4=>?_);refine WPL.ef (x_box1 (u:=.int .i64 _) (σ':=fun _=>[_,_]) rfl (fun _=>rfl)) (fun b5=>?_);refine sg rfl ?_;refine nl (oo ?_);refine sqR ?_;refine vl (v_func) ?_;refine WPL.ef xAl fun b7=>?_;refine WPL.ef0 (x_store (u:=_) (σ':=[_,_,.cl _ _ [_]]) Tryz.sizeOf96 rfl rfl (i:=2) rfl (Nat.lt_of_lt_of_le (Nat.lt_succ_self _) (Nat.le_of_ble_eq_true rfl)) rfl) (fun _=>?_);refine gg ?_;refine eF (xC (jof_ct kind left n)) fun _ _=>?_;refine gg ?_;refine WP.condP rfl (fun h13=>?_) (fun h13=>?_)
  ·have hq:kindJ kind left n=1:=h13;refine sqR ?_;refine vl (v_func) ?_;refine sg rfl ?_;refine gg ?_;exact WP.ret1 Tryz.results181 (fun _ h=>h) (fun w hw=>⟨(.func (.func 191) #[] ([.pointer (some ⟨b4,0,none⟩)]:List Value).toArray,b4,b5,b7),rfl,⟨_,[.pointer (some ⟨b4,0,none⟩)],rfl,Tryz.call191,fun k hk=>(by rw[bef1 _ hq];exact bf2_ct b4 b5 b7 left n k hk)⟩,(hw.sel [0,1,2] (by decide))⟩)
  ·refine gg ?_;refine WP.condP rfl (fun h16=>?_) (fun h16=>?_)
   ·have hq:kindJ kind left n=2:=h16;refine sqR ?_;refine vl (v_func) ?_;refine sg rfl ?_;refine gg ?_;exact WP.ret1 Tryz.results181 (fun _ h=>h) (fun w hw=>⟨(.func (.func 192) #[] ([.pointer (some ⟨b4,0,none⟩)]:List Value).toArray,b4,b5,b7),rfl,⟨_,[.pointer (some ⟨b4,0,none⟩)],rfl,Tryz.call192,fun k hk=>(by rw[bef2 _ hq];exact bf3_ct b4 b5 b7 left n k hk)⟩,(hw.sel [0,1,2] (by decide))⟩)
   ·refine gg ?_;refine WP.condP rfl (fun h19=>?_) (fun h19=>?_)
    ·have hq:kindJ kind left n=3:=h19;refine sqR ?_;refine vl (v_func) ?_;refine sg rfl ?_;refine gg ?_;exact WP.ret1 Tryz.results181 (fun _ h=>h) (fun w hw=>⟨(.func (.func 193) #[] ([.pointer (some ⟨b7,0,none⟩),.pointer (some ⟨b5,0,none⟩)]:List Value).toArray,b4,b5,b7),rfl,⟨_,[.pointer (some ⟨b7,0,none⟩),.pointer (some ⟨b5,0,none⟩)],rfl,Tryz.call193,fun k hk=>(by rw[bef3 _ hq];exact bf4_ct b4 b5 b7 left n k hk hn)⟩,(hw.sel [0,1,2] (by decide))⟩)
    ·refine gg ?_;refine WP.condP rfl (fun h22=>?_) (fun h22=>?_)
     ·have hq:kindJ kind left n=4:=h22;refine sqR ?_;refine vl (v_func) ?_;refine sg rfl ?_;refine gg ?_;exact WP.ret1 Tryz.results181 (fun _ h=>h) (fun w hw=>⟨(.func (.func 194) #[] ([.pointer (some ⟨b7,0,none⟩),.pointer (some ⟨b5,0,none⟩)]:List Value).toArray,b4,b5,b7),rfl,⟨_,[.pointer (some ⟨b7,0,none⟩),.pointer (some ⟨b5,0,none⟩)],rfl,Tryz.call194,fun k hk=>(by rw[bef4 _ hq];exact bf5_ct b4 b5 b7 left n k hk hn)⟩,(hw.sel [0,1,2] (by decide))⟩)
     ·refine gg ?_;refine WP.condP rfl (fun h25=>?_) (fun h25=>?_)
      ·have hq:kindJ kind left n=5:=h25;refine sqR ?_;refine vl (v_func) ?_;refine sg rfl ?_;refine gg ?_;exact WP.ret1 Tryz.results181 (fun _ h=>h) (fun w hw=>⟨(.func (.func 195) #[] ([.pointer (some ⟨b7,0,none⟩),.pointer (some ⟨b5,0,none⟩)]:List Value).toArray,b4,b5,b7),rfl,⟨_,[.pointer (some ⟨b7,0,none⟩),.pointer (some ⟨b5,0,none⟩)],rfl,Tryz.call195,fun k hk=>(by rw[bef5 _ hq];exact bf6_ct b4 b5 b7 left n k hk hn)⟩,(hw.sel [0,1,2] (by decide))⟩)
      ·have h14:=h13;have h17:=h16;have h20:=h19;have h23:=h22;have h26:=h25;refine WP.skip (onto_of ?_);refine sqR ?_;refine sg rfl ?_;refine gg ?_;exact WP.ret1 Tryz.results181 (fun _ h=>h) (fun w hw=>⟨(.func (.func 196) #[] ([]:List Value).toArray,b4,b5,b7),rfl,⟨_,[],rfl,Tryz.call196,fun k hk=>(by rw[bef0 _ h14 h17 h20 h23 h26];exact bf7_ct b4 b5 b7 left n k hk)⟩,(hw.sel [0,1,2] (by decide))⟩)
theorem starts_ct (kind:Int) (A:Option Addr) (c:Nat) (l:List Int) (room gap:Int) (hl:l.length≤10000):Ct Tryz.prog 170 #[.int .i64 kind,.slice A l.length c,.int .i64 room,.int .i64 gap] [] (fun w=>RdI w A l) (X:=Option Addr×Nat) (fun p=>.slice p.1 l.length p.2) (fun _=>True) (fun p=>[.row 3 1 p.1 l.length p.2 ((startsP kind l room gap).map (Value.int .i64))]):=by
  refine Ci fun w0 hz=>?_;refine gg ?_;refine eF (xC (long_ct A c l gap hl) (hF:=fun w hw=>hw.rd hz not_foots_nil)) fun _ _=>?_;refine vl (vC (sub_any _ _ _)) ?_;refine gg ?_;refine eF (xC (before_ct kind (subI room (longP l gap)) l.length (by omega))) fun⟨bv,b4,b5,b7⟩ ⟨sf,cap,hbv,hcf,hsh⟩=>?_;dsimp only at hbv hsh;subst hbv;refine sg (v:=.func (.func sf) #[] cap.toArray) rfl ?_;refine nl (oo ?_);refine sqR ?_;refine av ?_;refine nl (oo ?_);refine sqR ?_
  iterate 2 refine av ?_
  refine nl (oo ?_)
  iterate 2 refine sq ?_
  refine WP.pre ?_ (fun w hw=>hw.nilRow 3 1);refine gg ?_;refine WP.loopK (X:=Nat×Option Addr×Nat) [3,9,25,26] (fun p=>[(10,.slice p.2.1 p.1 p.2.2),(11,.int .i64 (jAt kind (subI room (longP l gap)) gap l p.1)),(12,.int .i64 (if p.1=0 then 0 else beforeP kind (subI room (longP l gap)) l.length ((p.1:Int) - 1))),(27,.int .i64 (p.1:Int))]) (fun p w=>p.1≤l.length∧St w0 (foots []) [.cl b4 3 [.int .i64 (subI room (longP l gap))],.cl b5 3 [.int .i64 (l.length:Int)],.cl b7 96 [.func (.func 188) #[] #[.pointer (some ⟨b4,0,none⟩)]],.row 3 1 p.2.1 p.1 p.2.2 (((startsP kind l room gap).take p.1).map (Value.int .i64))] w) (fun p=>l.length - p.1) (0,none,0) ⟨rfl,congrArg (Value.int .i64) (by rw[jAt]),rfl,rfl,trivial⟩ (fun w hw=>⟨Nat.zero_le _,by simpa using hw⟩) (fun p ρ0=>?_);obtain⟨k,oA,oc⟩:=p;dsimp only;refine WP.fact (fun hkl=>?_);refine gg ?_;refine WP.condP rfl (fun h28=>?_) (fun h28=>?_)
  ·obtain⟨x,hx⟩:∃x,l[k]?=some x:=⟨_,List.getElem?_eq_getElem (by omega)⟩;obtain⟨ab,ao,rfl,hc⟩:=hz k x hx;refine gg ?_;refine vl (vO hc) ?_;refine gg ?_;refine WP.condP rfl (fun h33=>?_) (fun h33=>?_)
   case' _=>
    have hgap:(if k=0 then jAt kind (subI room (longP l gap)) gap l k else addI (jAt kind (subI room (longP l gap)) gap l k) gap)=addI (jAt kind (subI room (longP l gap)) gap l k) gap:=by rw[if_neg (by omega)]
    refine gg ?_;refine vl (vC (add_any _ _ _)) ?_;refine av ?_;refine nl (oo ?_)
   rotate_left
   case' _=>
    have hgap:(if k=0 then jAt kind (subI room (longP l gap)) gap l k else addI (jAt kind (subI room (longP l gap)) gap l k) gap)=jAt kind (subI room (longP l gap)) gap l k:=by rw[if_pos (by omega)]
    refine WP.skip (onto_of ?_)
   all_goals
    refine sqR ?_;refine mv rfl ?_;refine gg ?_;refine eF (xV (hsh k (by omega)) hcf) fun _ _=>?_;refine av ?_;refine nl (oo ?_);refine sqR ?_;have hbl:-1099511627776≤(subI room (longP l gap))∧(subI room (longP l gap))≤1099511627776:=subI_bd _ _;have hb1:=beforeP_bd (kind:=kind) (n:=(l.length:Int)) (k:=(k:Int)) hbl;have hb2:=beforeP_bd (kind:=kind) (n:=(l.length:Int)) (k:=(k:Int) - 1) hbl;rw[←hgap]
    iterate 3 refine av ?_
    refine vl (v_sub rfl rfl (by split<;>omega)) ?_;refine vl (vC (add_any _ _ _)) ?_;refine gg ?_;refine WPL.ef (xN (L1 rfl)) fun g48=>?_;refine WPL.ef (xP 0 4) fun⟨A49,c49⟩=>?_;refine gg ?_;refine vl (vC (add_any _ _ _)) ?_;refine av ?_;refine nl (oo ?_);refine WP.region ?_
    iterate 2 refine av ?_
    exact nl fun w hw=>⟨rfl,(k+1,A49,c49),(by simp only;omega),⟨rfl,(congrArg (Value.int .i64) (jAt_succ hx)),(congrArg (Value.int .i64) (by simp only;rw[if_neg (by omega),show ((k+1:Nat):Int) - 1=(k:Int) by omega])),rfl,jI,rfl,jS,jI,trivial⟩,⟨by simp only;omega,by simp only;rw[starts_take kind l room gap (by omega),List.map_append];exact(hw.sel [1,2,3,0] (by decide))⟩⟩
  ·obtain rfl:k=l.length:=by omega
   have htk:(startsP kind l room gap).take l.length=startsP kind l room gap:=List.take_of_length_le (by rw[starts_len];omega);refine WP.exit (onto_of ?_);refine gg ?_;exact rt1 fun w hw=>⟨(oA,oc),rfl,trivial,by rw[←htk];exact hw.pk⟩
theorem isLeft1 {Z Y:Type} {o:Z ⊕ Y} (h:(!o.isLeft)=false):∃z,o=.inl z:=by cases o with | inl z=>exact⟨z,rfl⟩ | inr y=>cases h
theorem isRight1 {Z Y:Type} {o:Z ⊕ Y} (h:(!o.isLeft)=true):∃y,o=.inr y:=by cases o with | inr y=>exact⟨y,rfl⟩ | inl z=>cases h
theorem encP2_flat {o:List (Nat×Nat)} {k:Nat} {x:Nat×Nat} (h:o[k]?=some x):(o.take (k+1)).flatMap encP2=(o.take k).flatMap encP2++encP2 x:=by rw[takeS h];simp
theorem info34:(Tryz.prog.info? 34).map (fun i=>(i.zero,i.size,i.bytes))=some (some (.agg #[.int .i64 0,.int .i64 0]),2,16):=by kernel_rfl
abbrev pairsI (A:Option Addr) (n c:Nat) (l:List (Nat×Nat)):HI:=.row 34 2 A n c (l.flatMap encP2)
section
variable (A:Option Addr) (c:Nat) (l:List Int) (room gap:Int) (wrap:Bool)
abbrev eachRO (n1 n2 n3 n4:Nat):List HI:=[.row 3 1 A l.length c (l.map (Value.int .i64)),.cl n1 55 [.slice A l.length c],.cl n2 3 [.int .i64 gap],.cl n3 4 [.bool wrap],.cl n4 3 [.int .i64 room]]
def eachC (n1 n2 n3 n4:Nat):List Value:=[.pointer (some ⟨n1,0,none⟩),.pointer (some ⟨n2,0,none⟩),.pointer (some ⟨n3,0,none⟩),.pointer (some ⟨n4,0,none⟩)]
theorem each_ct:Ct Tryz.prog 178 #[.slice A l.length c,.int .i64 room,.int .i64 gap,.bool wrap] [] (fun _=>True) (X:=Nat×Nat×Nat×Nat) (fun p=>.func (.func 185) #[] #[.pointer (some ⟨p.1,0,none⟩),.pointer (some ⟨p.2.1,0,none⟩),.pointer (some ⟨p.2.2.1,0,none⟩),.pointer (some ⟨p.2.2.2,0,none⟩)]) (fun _=>True)
    (fun p=>[.cl p.1 55 [.slice A l.length c],.cl p.2.1 3 [.int .i64 gap],.cl p.2.2.1 4 [.bool wrap],.cl p.2.2.2 3 [.int .i64 room]]):=by
  refine Ci fun w0 _=>?_;refine gg ?_;refine WPL.ef (x_box1 (u:=.slice _ _ _) (σ':=fun _=>[_]) rfl (fun _=>rfl)) (fun b4=>?_);refine WPL.ef (x_box1 (u:=.int .i64 _) (σ':=fun _=>[_,_]) rfl (fun _=>rfl)) (fun b5=>?_);refine WPL.ef (x_box1 (u:=.int .i64 _) (σ':=fun _=>[_,_,_]) rfl (fun _=>rfl)) (fun b6=>?_);refine WPL.ef (x_box1 (u:=.bool _) (σ':=fun _=>[_,_,_,_]) rfl (fun _=>rfl)) (fun b7=>?_);refine sg rfl ?_;refine nl (oo ?_);refine sqR ?_;refine vl (v_func) ?_;refine sg rfl ?_;refine gg ?_;exact rt1 fun w hw=>⟨(b4,b6,b7,b5),rfl,trivial,hw.pk⟩
theorem each_iter (hl:l.length≤10000) (n1 n2 n3 n4:Nat):IterOK Tryz.prog 185 [] (eachC n1 n2 n3 n4) (eachRO A c l room gap wrap n1 n2 n3 n4) encP2 (breaksP l room gap wrap):=by
  intro lb Z Y H J Inv hy z0 hz0;refine Ct.intro Tryz.func185 rfl Tryz.ntmps185 (by simp[eachC]) (fun w0 _=>?_);refine gg ?_;refine WP.loopK (X:=Nat×(List (Nat×Nat)×Nat×Int)×Z) [0,1,2,3,4,11,12] (fun p=>[(13,.int .i64 (p.1:Int)),(6,.int .i64 (p.2.1.2.1:Int)),(7,.int .i64 p.2.1.2.2)]) (fun p w=>(p.1≤l.length∧brkS l room gap wrap p.1=p.2.1∧Inv p.2.1.1.length p.2.2)∧St w0 (foots (eachRO A c l room gap wrap n1 n2 n3 n4++[H 0 z0])) (eachRO A c l room gap wrap n1 n2 n3 n4++[H p.2.1.1.length p.2.2]) w) (fun p=>l.length - p.1) (0,([],0,0),z0) ⟨rfl,rfl,rfl,trivial⟩ (fun w hw=>⟨⟨Nat.zero_le _,rfl,hz0⟩,hw⟩) (fun p ρ0=>?_);obtain⟨i,⟨o,f,n⟩,z⟩:=p;dsimp only;refine WP.fact (fun⟨hil,hbs,hinv⟩=>?_);refine gg ?_;refine WP.condP rfl (fun h14=>?_) (fun h14=>?_)
  ·have hil2:i<l.length:=by omega
   obtain⟨x,hx⟩:∃x,l[i]?=some x:=⟨_,List.getElem?_eq_getElem hil2⟩;refine WP.holds (fun w hw=>hw.row_pos (i:=0) rfl (by omega)) (fun⟨lb2,hA⟩=>?_);subst hA;have hfi:=brk_le (l:=l) (room:=room) (gap:=gap) (wrap:=wrap) i;rw[hbs] at hfi;dsimp only at hfi;refine WP.skip (onto_of ?_);refine sq ?_;refine WP.block ?_;refine sqR ?_
   iterate 2 refine av ?_
   refine vl (v_load1 (u:=.int .i64 _) Tryz.isAgg3 rfl (fun w hw=>hw.row_at1 (i:=0) rfl (by rw[List.getElem?_map,hx];rfl) (by omega))) ?_;refine gg ?_;refine vl (vC (add_any _ _ _)) ?_;refine gg ?_;refine vl (vC (add_any _ _ _)) ?_;refine gg ?_;refine WP.condP rfl (fun h26=>?_) (fun h26=>?_)
   ·have hb2:=brk_same hbs hx (by omega);refine gg ?_;refine vl (vC (cut_any _ _)) ?_;refine av ?_;refine nl (oo ?_);refine WP.region ?_
    iterate 2 refine av ?_
    exact nl fun w hw=>⟨rfl,(i+1,(o,f,cut x),z),(by simp only;omega),⟨rfl,rfl,rfl,rfl,rfl,rfl,rfl,rfl,jS,jI,trivial⟩,⟨⟨by simp only;omega,hb2,hinv⟩,(hw.sel [0,1,2,3,4,5] (by decide))⟩⟩
   ·refine sqR ?_
    iterate 5 refine av ?_
    refine WPL.split 37 rfl (fun h37=>?_) (fun h37=>?_)
    ·iterate 3 refine ag ?_
     refine WPL.splitB 40 rfl (fun h40=>?_) (fun h40=>?_)
     ·refine gg ?_;have hb2:=brk_more hbs hx (by omega) (by omega) (.inl (by simpa using h40));refine WP.condT rfl ?_;refine WP.region ?_
      iterate 2 refine av ?_
      refine nl (oo ?_);refine WP.region ?_
      iterate 2 refine av ?_
      exact nl fun w hw=>⟨rfl,(i+1,(o,f,addI (addI n gap) x),z),(by simp only;omega),⟨rfl,rfl,rfl,rfl,rfl,rfl,rfl,rfl,jS,jI,trivial⟩,⟨⟨by simp only;omega,hb2,hinv⟩,(hw.sel [0,1,2,3,4,5] (by decide))⟩⟩
     ·refine gg ?_;refine WP.condP rfl (fun h32=>?_) (fun h32=>?_)
      ·have hb2:=brk_more hbs hx (by omega) (by omega) (.inr h32);refine WP.region ?_
       iterate 2 refine av ?_
       refine nl (oo ?_);refine WP.region ?_
       iterate 2 refine av ?_
       exact nl fun w hw=>⟨rfl,(i+1,(o,f,addI (addI n gap) x),z),(by simp only;omega),⟨rfl,rfl,rfl,rfl,rfl,rfl,rfl,rfl,jS,jI,trivial⟩,⟨⟨by simp only;omega,hb2,hinv⟩,(hw.sel [0,1,2,3,4,5] (by decide))⟩⟩
      ·have hb2:=brk_next hbs hx (by omega) (fun h=>h.2.elim (fun h9=>by rw[h9] at h40;cases h40) (fun h9=>h32 h9));have hyi:=breaks_get hb2 hil2;refine sqR ?_;refine mv rfl ?_;refine gg ?_;refine WPL.ef (x_yieldC (hy o.length (f,i) z hyi hinv) [0,1,2,3,4,5] [] rfl (τ:=fun _=>[_,_,_,_,_,_]) (fun _=>rfl)) (fun o2=>?_);refine WPL.fact (fun hf=>?_);refine gg ?_;refine WP.cond rfl (fun h47=>?_) (fun h47=>?_)
       ·obtain⟨y,rfl⟩:=isRight1 h47;exact WP.ret0 Tryz.results185 (fun _ h=>h) (fun w hw=>⟨.inr (o.length,y),rfl,⟨fun z e=>(by cases e),fun p e=>(by cases e;exact(List.getElem?_eq_some_iff.1 hyi).1)⟩,(hw.sel [0,1,2,3,4,5] (by decide))⟩)
       ·obtain⟨z2,rfl⟩:=isLeft1 h47;refine gg ?_;refine vl (vC (cut_any _ _)) ?_
        iterate 2 refine av ?_
        refine nl (oo ?_);refine WP.region ?_
        iterate 2 refine av ?_
        exact nl fun w hw=>⟨rfl,(i+1,(o++[(f,i)],i,cut x),z2),(by simp only;omega),⟨rfl,rfl,rfl,rfl,rfl,rfl,rfl,rfl,jS,jI,trivial⟩,⟨⟨by simp only;omega,hb2,by simp only;rw[List.length_append];exact hf z2 rfl⟩,by simp only;rw[List.length_append];exact(hw.sel [0,1,2,3,4,5] (by decide))⟩⟩
    ·refine gg ?_;have hb2:=brk_next hbs hx (by omega) (fun h=>by omega);have hyi:=breaks_get hb2 hil2;refine WP.condF rfl ?_;refine sqR ?_;refine mv rfl ?_;refine gg ?_;refine WPL.ef (x_yieldC (hy o.length (f,i) z hyi hinv) [0,1,2,3,4,5] [] rfl (τ:=fun _=>[_,_,_,_,_,_]) (fun _=>rfl)) (fun o2=>?_);refine WPL.fact (fun hf=>?_);refine gg ?_;refine WP.cond rfl (fun h47=>?_) (fun h47=>?_)
     ·obtain⟨y,rfl⟩:=isRight1 h47;exact WP.ret0 Tryz.results185 (fun _ h=>h) (fun w hw=>⟨.inr (o.length,y),rfl,⟨fun z e=>(by cases e),fun p e=>(by cases e;exact(List.getElem?_eq_some_iff.1 hyi).1)⟩,(hw.sel [0,1,2,3,4,5] (by decide))⟩)
     ·obtain⟨z2,rfl⟩:=isLeft1 h47;refine gg ?_;refine vl (vC (cut_any _ _)) ?_
      iterate 2 refine av ?_
      refine nl (oo ?_);refine WP.region ?_
      iterate 2 refine av ?_
      exact nl fun w hw=>⟨rfl,(i+1,(o++[(f,i)],i,cut x),z2),(by simp only;omega),⟨rfl,rfl,rfl,rfl,rfl,rfl,rfl,rfl,jS,jI,trivial⟩,⟨⟨by simp only;omega,hb2,by simp only;rw[List.length_append];exact hf z2 rfl⟩,by simp only;rw[List.length_append];exact(hw.sel [0,1,2,3,4,5] (by decide))⟩⟩
  ·obtain rfl:i=l.length:=by omega
   have hfi:=brk_le (l:=l) (room:=room) (gap:=gap) (wrap:=wrap) l.length;rw[hbs] at hfi;dsimp only at hfi;refine WP.exit (onto_of ?_);refine gg ?_;refine WP.condP rfl (fun h57=>?_) (fun h57=>?_)
   ·have hyl:=breaks_last hbs (by omega);refine WP.region ?_;refine mv rfl ?_;refine gg ?_;refine WPL.ef (x_yieldC (hy o.length (f,l.length) z hyl.1 hinv) [0,1,2,3,4,5] [] rfl (τ:=fun _=>[_,_,_,_,_,_]) (fun _=>rfl)) (fun o1=>?_);refine WPL.fact (fun hf=>?_)
    rcases o1 with z2 | y
    ·exact nl (fun w hw=>RetQ.of0 Tryz.results185 (.inr rfl) ⟨.inl z2,rfl,⟨fun z9 e9=>(by cases e9;rw[hyl.2];exact hf z2 rfl),fun p e=>(by cases e)⟩,by rw[hyl.2];exact(hw.sel [0,1,2,3,4,5] (by decide))⟩)
    ·exact nl (fun w hw=>RetQ.of0 Tryz.results185 (.inr rfl) ⟨.inr (o.length,y),rfl,⟨fun z9 e9=>(by cases e9),fun p e=>(by cases e;rw[hyl.2];exact Nat.lt_succ_self _)⟩,(hw.sel [0,1,2,3,4,5] (by decide))⟩)
   ·have hnil:breaksP l room gap wrap=o:=by unfold breaksP;rw[hbs];simp only;rw[if_neg (by omega)]
    exact WP.skip (fun w hw=>RetQ.of0 Tryz.results185 (.inr rfl) ⟨.inl z,rfl,⟨fun z9 e9=>(by cases e9;rw[hnil];exact hinv),fun p e=>(by cases e)⟩,by rw[hnil];exact(hw.sel [0,1,2,3,4,5] (by decide))⟩)
theorem break_ct (hl:l.length≤10000):Ct Tryz.prog 163 #[.slice A l.length c,.int .i64 room,.int .i64 gap,.bool wrap] [.row 3 1 A l.length c (l.map (Value.int .i64))] (fun _=>True) (X:=Option Addr×Nat) (fun p=>.slice p.1 (breaksP l room gap wrap).length p.2) (fun _=>True)
    (fun p=>[.row 3 1 A l.length c (l.map (Value.int .i64)),pairsI p.1 (breaksP l room gap wrap).length p.2 (breaksP l room gap wrap)]):=by
  have hbc:=breaks_count (l:=l) (room:=room) (gap:=gap) (wrap:=wrap);refine Ci fun w0 _=>?_;refine gg ?_;refine WPL.ef xAl fun b9=>?_;refine nl (oo ?_)
  iterate 2 refine sq ?_
  refine WP.pre ?_ (fun w hw=>hw.nilRow 34 2);refine gg ?_;refine eF (xC (each_ct A c l room gap wrap)) fun⟨m1,m2,m3,m4⟩ _=>?_;refine nl (oo ?_);refine WP.block ?_;refine sl [0,3,4,5,6,1,2] ?_;refine WP.rangeIter (gf:=185) (first:=[]) (cap:=[.pointer (some ⟨m1,0,none⟩),.pointer (some ⟨m2,0,none⟩),.pointer (some ⟨m3,0,none⟩),.pointer (some ⟨m4,0,none⟩)]) rfl Tryz.call185 (each_iter A c l room gap wrap hl m1 m2 m3 m4) (Z:=Option Addr×Nat) (own:=fun k z=>[.cl b9 171 [.slice z.1 k z.2],pairsI z.1 k z.2 ((breaksP l room gap wrap).take k)]) (Inv:=fun _ _=>True) (none,0) trivial (List.Perm.refl _) (fun _=>rfl) (by decide) (Y:=Unit) (fun _ _ _=>False) (fun _=>[]) ?_ ?_ ?_
  ·intro lk l2 D2 k x z hx hz w1 M1;have hkl:=(List.getElem?_eq_some_iff.1 hx).1;obtain⟨zA,zc⟩:=z;dsimp only;refine sqR ?_;refine av ?_;refine nl (oo ?_);refine WP.region ?_;refine av ?_;refine WPL.nil (begun_of (i:=0) rfl ?_);refine WP.block ?_;refine WP.region ?_
   iterate 3 refine av ?_
   refine vl (v_array (us:=[.int .i64 _,.int .i64 _]) Tryz.underlying34 Tryz.zeroValue34 Tryz.sizeOf3 rfl rfl rfl) ?_;refine WPL.ef (x_buildSlice (us:=[.int .i64 _,.int .i64 _]) (σ':=fun _=>[_,_,_,_,_,_,_,_,_,_,_]) Tryz.underlying171 Tryz.sizeOf34 Tryz.zeroValue34 rfl rfl rfl (by decide) (by decide) (fun _=>rfl)) (fun g23=>?_);refine WPL.ef (xP 9 10) fun⟨A24,c24⟩=>?_;refine WPL.ef0 (xS rfl (isS rfl)) fun _=>?_;exact nl (fun w hw=>RoundQ.normal (i:=0) rfl hw (fun w2 hw2=>.inl ⟨(A24,c24),rfl,trivial,by dsimp only;rw[show pairsI A24 (k+1) c24 ((breaksP l room gap wrap).take (k+1))=.row 34 2 A24 (k+1) c24 (((breaksP l room gap wrap).take k).flatMap encP2++encP2 x) by rw[pairsI,encP2_flat hx]];exact(hw2.sel [0,1,2,3,4,5,6,7,8,9] (by decide))⟩))
  ·intro D z hz;obtain⟨zA,zc⟩:=z;rw[List.take_of_length_le (Nat.le_refl (breaksP l room gap wrap).length)];refine fin_id (onto_of ?_);refine gg ?_;exact WP.retM [D] (τ:=[.row 3 1 A l.length c (l.map (Value.int .i64)),pairsI zA (breaksP l room gap wrap).length zc (breaksP l room gap wrap)]) (fun w hw=>(hw.sel [0,6,7] (by decide))) (fun _ h=>h) (fun w hw=>RetQ.of1 Tryz.results163 (.inl rfl) ⟨(zA,zc),rfl,trivial,hw⟩)
  ·intro D c k y hf;exact hf.elim
end
structure Frm where
  id:Int
  x:Int
  y:Int
  w:Int
  h:Int
  kids:List Frm
def tab {α:Type} (n:Nat) (f:Nat→α):List α:=(List.range n).map f
section
variable {α β:Type} {f:Nat→α} {n k:Nat}
theorem tab_succ:tab (n+1) f=tab n f++[f n]:=by simp[tab,List.range_succ]
theorem tab_len:(tab n f).length=n:=by simp[tab]
theorem tab_get (h:k<n):(tab n f)[k]?=some (f k):=by simp[tab,h]
theorem tab_none (h:n≤k):(tab n f)[k]?=none:=by simp[tab,h]
theorem tab_map (g:α→β):(tab n f).map g=tab n (fun i=>g (f i)):=by simp[tab]
theorem tab_mem {x:α}:x∈tab n f↔∃i,i<n∧f i=x:=by simp[tab]
theorem tab_congr {g:Nat→α} (h:∀i,i<n→f i=g i):tab n f=tab n g:=by
  unfold tab;exact List.map_congr_left fun i hi=>h i (List.mem_range.1 hi)
theorem tab_self (l:List α) (d:α):tab l.length (fun i=>l.getD i d)=l:=by
  apply List.ext_getElem?;intro i
  by_cases h:i<l.length
  · rw[tab_get h,List.getD_eq_getElem?_getD,List.getElem?_eq_getElem h];rfl
  · rw[tab_none (by omega),List.getElem?_eq_none (by omega)]
theorem tab_gI (l:List Int):tab l.length (gI l)=l:=tab_self l 0
theorem gI_tab {f:Nat→Int} (h:k<n):gI (tab n f) k=f k:=gI_at (tab_get h)
end
def sumN (f:Nat→Int):Nat→Int
  | 0=>0
  | k+1=>sumN f k+f k
def maxN (f:Nat→Int):Nat→Int
  | 0=>0
  | k+1=>max (maxN f k) (f k)
section
variable (s:List Value)
def eS (i:Nat):Int:=val s (31+i)+val s (35+i)
def eA:Int:=eS s 3+eS s 1
def eD:Int:=eS s 0+eS s 2
def mS (base:Int) (i:Nat):Int:=ofL (val s (15+2*i)) (val s (16+2*i)) (if i=1∨i=3 then base else -1) 0
def mA (base:Int):Int:=mS s base 3+mS s base 1
def mD:Int:=mS s 0 0+mS s 0 2
def inF (i:Nat) (base:Int):Bool:=fixedL (val s (23+2*i)) base
def inO (i:Nat) (base:Int):Int:=ofL (val s (23+2*i)) (val s (24+2*i)) base 0
def limW (n room:Int):Int:=limitL n (val s 7) (val s 8) (val s 11) (val s 12) room
def limH (n room:Int):Int:=limitL n (val s 9) (val s 10) (val s 13) (val s 14) room
def iwP (rw sw:Int):Int:=if sw= -1 then limW s (ofL (val s 3) (val s 4) rw (max (rw - mA s rw - eA s) 0)) rw else max (sw - eA s) 0
def ihP (rh sh:Int):Int:=if sh= -1 then (if fixedL (val s 5) rh then limH s (ofL (val s 5) (val s 6) rh 0) rh else -1) else max (sh - eD s) 0
def movX (iw:Int):Int:=if val s 1=1 then ofL (val s 29) (val s 30) iw (-(inO s 1 iw)) else 0
def movY (ih:Int):Int:=if val s 1=1 then ofL (val s 23) (val s 24) ih (-(inO s 2 ih)) else 0
def outB:Bool:=decide (val s 1=2)||decide (val s 1=3)
def itA (iw:Int):FItem:=⟨ofL (val s 41) (val s 42) iw (ofL (val s 3) (val s 4) iw (val s 53)),max (ofL (val s 7) (val s 8) iw 0) 0,max (ofL (val s 11) (val s 12) iw 1048576) 0,val s 39,val s 40⟩
def itD (ih own:Int):FItem:=⟨ofL (val s 41) (val s 42) ih own,max (ofL (val s 9) (val s 10) ih 0) 0,max (ofL (val s 13) (val s 14) ih 1048576) 0,val s 39,val s 40⟩
end
def baseI (x:FItem):Int:=x.fit (min (max x.base 0) 1048576)
section
variable (F:Forest (List Value))
abbrev stF (x:Int):List Value:=styF zeroS F x
def shownN:Nat→Int→Bool
  | 0,_=>true
  | n+1,x=>if hasF F x then decide (val (stF F x) 0≠3)&&shownN n (upF F x) else true
def shownF (x:Int):Bool:=hasF F x&&shownN F 64 x
def kidsP (x:Int) (a:Bool):List Int:=(kidsF F x).filter fun k=>shownF F k&&(outB (stF F k)==a)
def openP (x:Int) (b:Bool):Bool:=
  decide (0≤upF F x)&&decide (val (stF F (upF F x)) 0=0)&& !outB (stF F x)&&(!b||(decide (val (stF F x) 5=0)&&decide (val (stF F x) 9=0)))&&decide (val (stF F x) 0=0)&&decide (val (stF F x) 2=0)&&decide (eS (stF F x) (if b then 2 else 0)=0)
def nextP (x:Int) (b:Bool):Option Int:=if openP F x b then (if b then (kidsP F x false).getLast? else (kidsP F x false).head?) else none
def endsP:Nat→Int→Bool→List Int
  | 0,_,_=>[]
  | n+1,x,b=>mS (stF F x) 0 (if b then 2 else 0)::(match nextP F x b with | some k=>endsP n k b | none=>[])
def endP (x:Int) (b:Bool):Int:=collP (endsP F 64 x b)
abbrev LayF:=Int→Int→Int→Int→Int→Frm
section
variable (L:LayF) (ks:List Int) (iw ih:Int)
abbrev kS (i:Nat):List Value:=stF F (gI ks i)
def bF (i:Nat):Frm:=L (gI ks i) iw ih (-1) (-1)
def bX (i:Nat):Int:=(autoP iw (bF L ks iw ih i).w (val (kS F ks i) 21) (val (kS F ks i) 22) (val (kS F ks i) 17) (val (kS F ks i) 18) iw).1
def bSizes:List Int:=tab ks.length fun i=>(bF L ks iw ih i).h
def bTops (b:Bool):List Int:=tab ks.length fun i=>endP F (gI ks i) b
def bFrom (id:Int):Int:=if openP F id false then 0 else gI (bTops F ks false) 0
def blockP (id:Int):List Frm×Int:=
  (tab ks.length fun i => { bF L ks iw ih i with x := bX F L ks iw ih i, y := bFrom F ks id + stkStart (bSizes L ks iw ih) (bTops F ks false) (bTops F ks true) i },
   bFrom F ks id + (stkAt (bSizes L ks iw ih) (bTops F ks false) (bTops F ks true) ks.length + (if openP F id true then 0 else gI (bTops F ks true) (ks.length - 1))))
def rExt (i:Nat):Int:=eA (kS F ks i)+mA (kS F ks i) iw
def rLong:List Int:=tab ks.length fun i=>baseI (itA (kS F ks i) iw)+rExt F ks iw i
section
variable (c:List Value) (a b:Nat)
def lSizes:List Int:=sizes (tab (b - a) fun i=>itA (kS F ks (a+i)) iw) (iw - val c 46*((b - a:Nat) - 1) - sumN (fun i=>rExt F ks iw (a+i)) (b - a))
def lF1 (i:Nat):Frm:=L (gI ks (a+i)) iw ih (gI (lSizes F ks iw c a b) i+eA (kS F ks (a+i))) (-1)
def lAlong:List Int:=tab (b - a) fun i=>(lF1 F L ks iw ih c a b i).w+mA (kS F ks (a+i)) iw
def lMost:Int:=maxN (fun i=>(lF1 F L ks iw ih c a b i).h+mD (kS F ks (a+i))) (b - a)
def lH (one:Bool):Int:=if one=true∧ih≠-1 then ih else lMost F L ks iw ih c a b
def lF2 (hh:Int) (i:Nat):Frm:=
  if val c 44=0∧fixedL (val (kS F ks (a+i)) 5) ih=false then L (gI ks (a+i)) iw ih (lF1 F L ks iw ih c a b i).w (limH (kS F ks (a+i)) (max (hh - (eD (kS F ks (a+i))+mD (kS F ks (a+i)))) 0) ih+eD (kS F ks (a+i)))
  else lF1 F L ks iw ih c a b i
def lStart (i:Nat):Int:=jStart (val c 43) (subI iw (longP (lAlong F L ks iw ih c a b) (val c 46))) (val c 46) (lAlong F L ks iw ih c a b) i
def lOut (hh:Int) (i:Nat):Frm:=
  {lF2 F L ks iw ih c a b hh i with x:=lStart F L ks iw ih c a b i+mS (kS F ks (a+i)) iw 3,y:=acrossP (val c 44) ((lF2 F L ks iw ih c a b hh i).h+mD (kS F ks (a+i))) hh+mS (kS F ks (a+i)) iw 0}
def lineP (one:Bool):List Frm:=tab (b - a) (lOut F L ks iw ih c a b (lH F L ks iw ih c a b one))
end
def shiftY (n:Int) (f:Frm):Frm:={f with y:=f.y+n}
def rowN (c:List Value) (ls:List (Nat×Nat)):Nat→List Frm×Int
  | 0=>([],0)
  | m + 1 =>
    ((rowN c ls m).1 ++ (lineP F L ks iw ih c (ls.getD m (0, 0)).1 (ls.getD m (0, 0)).2 (decide (ls.length = 1))).map (shiftY (if m = 0 then (rowN c ls m).2 else (rowN c ls m).2 + val c 46)),
     (if m = 0 then (rowN c ls m).2 else (rowN c ls m).2 + val c 46) + lH F L ks iw ih c (ls.getD m (0, 0)).1 (ls.getD m (0, 0)).2 (decide (ls.length = 1)))
def rLines (c:List Value):List (Nat×Nat):=breaksP (rLong F ks iw) iw (val c 46) (bval c 45)
def rowP (id:Int):List Frm×Int:=rowN F L ks iw ih (stF F id) (rLines F ks iw (stF F id)) (rLines F ks iw (stF F id)).length
section
variable (c:List Value)
def cSet (i:Nat):Int:=if val c 44=0∨fixedL (val (kS F ks i) 3) iw=true then -1 else limW (kS F ks i) (val (kS F ks i) 53) iw+eA (kS F ks i)
def cF1 (i:Nat):Frm:=L (gI ks i) iw ih (cSet F ks iw c i) (-1)
def cItem (i:Nat):FItem:=itD (kS F ks i) ih ((cF1 F L ks iw ih c i).h - eD (kS F ks i))
def cExt (i:Nat):Int:=eD (kS F ks i)+mD (kS F ks i)
def cSizes:List Int:=if ih= -1 then tab ks.length fun i=>baseI (cItem F L ks iw ih c i) else sizes (tab ks.length (cItem F L ks iw ih c)) (ih - val c 46*((ks.length:Nat) - 1) - sumN (cExt F ks) ks.length)
def cF2 (i:Nat):Frm:=L (gI ks i) iw ih (cSet F ks iw c i) (gI (cSizes F L ks iw ih c) i+eD (kS F ks i))
def cAlong:List Int:=tab ks.length fun i=>(cF2 F L ks iw ih c i).h+mD (kS F ks i)
def cRoom:Int:=if ih= -1 then longP (cAlong F L ks iw ih c) (val c 46) else ih
def cStart (i:Nat):Int:=jStart (val c 43) (subI (cRoom F L ks iw ih c) (longP (cAlong F L ks iw ih c) (val c 46))) (val c 46) (cAlong F L ks iw ih c) i
def cOut (i:Nat):Frm:={cF2 F L ks iw ih c i with x:=acrossP (val c 44) ((cF2 F L ks iw ih c i).w+mA (kS F ks i) iw) iw+mS (kS F ks i) iw 3,y:=cStart F L ks iw ih c i+mS (kS F ks i) iw 0}
end
def columnP (id:Int):List Frm×Int:=(tab ks.length (cOut F L ks iw ih (stF F id)),longP (cAlong F L ks iw ih (stF F id)) (val (stF F id) 46))
end
section
variable (L:LayF) (k:Int) (rw rh px py:Int)
def wSetW:Int:=if fixedL (val (stF F k) 3) rw then -1 else if inF (stF F k) 3 rw=true∧inF (stF F k) 1 rw=true then max (rw - inO (stF F k) 3 rw - inO (stF F k) 1 rw - mA (stF F k) rw) 0 else limW (stF F k) (val (stF F k) 53) rw+eA (stF F k)
def wSetH:Int:=if fixedL (val (stF F k) 5) rh=false∧inF (stF F k) 0 rh=true∧inF (stF F k) 2 rh=true then max (rh - inO (stF F k) 0 rh - inO (stF F k) 2 rh - mD (stF F k)) 0 else -1
def wF:Frm:=L k rw rh (wSetW F k rw) (wSetH F k rh)
def withinP:Frm:=
  { wF F L k rw rh with
    x := (if inF (stF F k) 3 rw then inO (stF F k) 3 rw else if inF (stF F k) 1 rw then rw - inO (stF F k) 1 rw - mA (stF F k) rw - (wF F L k rw rh).w else px) + mS (stF F k) rw 3
    y := (if inF (stF F k) 0 rh then inO (stF F k) 0 rh else if inF (stF F k) 2 rh then rh - inO (stF F k) 2 rh - mD (stF F k) - (wF F L k rw rh).h else py) + mS (stF F k) rw 0 }
end
def shiftXY (dx dy:Int) (f:Frm):Frm:={f with x:=f.x+dx,y:=f.y+dy}
def apartP (ww wh:Int) (L:LayF) (s:List Value) (iw ih:Int) (k:Int):Frm:=
  if val (stF F k) 1=3 then withinP F L k ww wh 0 0
  else shiftXY (val s 38) (val s 35) (withinP F L k (iw+(val s 34+val s 32)) (ih+(val s 31+val s 33)) (val s 34) (val s 31))
def inP (L:LayF) (id iw ih:Int):List Frm×Int:=
  if kidsP F id false=[] then ([],val (stF F id) 54)
  else if val (stF F id) 0=1 then rowP F L (kidsP F id false) iw ih id
  else if val (stF F id) 0=2 then columnP F L (kidsP F id false) iw ih id
  else blockP F L (kidsP F id false) iw ih id
def ihEnd (s:List Value) (rh ih n:Int):Int:=if ih= -1 then limH s (max n 0) rh else ih
def moveF (s:List Value) (iw ih:Int) (f:Frm):Frm:={f with x:=f.x+eS s 3+movX (stF F f.id) iw,y:=f.y+eS s 0+movY (stF F f.id) ih}
def layStep (ww wh:Int) (L:LayF):LayF:=fun id rw rh sw sh=>
  { id := id, x := 0, y := 0
    w := iwP (stF F id) rw sw + eA (stF F id)
    h := ihEnd (stF F id) rh (ihP (stF F id) rh sh) (inP F L id (iwP (stF F id) rw sw) (ihP (stF F id) rh sh)).2 + eD (stF F id)
    kids := (inP F L id (iwP (stF F id) rw sw) (ihP (stF F id) rh sh)).1.map (moveF F (stF F id) (iwP (stF F id) rw sw) (ihP (stF F id) rh sh))
      ++ (kidsP F id true).map (apartP F ww wh L (stF F id) (iwP (stF F id) rw sw) (ihEnd (stF F id) rh (ihP (stF F id) rh sh) (inP F L id (iwP (stF F id) rw sw) (ihP (stF F id) rh sh)).2)) }
def layN (ww wh:Int):Nat→LayF
  | 0=>fun id _ _ _ _=>⟨id,0,0,0,0,[]⟩
  | n+1=>layStep F ww wh (layN ww wh n)
def LAY (ww wh:Int):LayF:=layN F ww wh 64
end
section
variable {F:Forest (List Value)} {L L':LayF}
theorem gI_mem {l:List Int} {i:Nat} (h:i<l.length):gI l i∈l:=by
  unfold gI;rw[List.getD_eq_getElem?_getD,List.getElem?_eq_getElem h];exact List.getElem_mem h
theorem kidsP_sub {x:Int} {a:Bool} {k:Int} (h:k∈kidsP F x a):k∈kidsF F x:=(List.mem_filter.1 h).1
theorem kidsP_le (F:Forest (List Value)) (x:Int) (a:Bool):(kidsP F x a).length≤(kidsF F x).length:=List.length_filter_le _ _
end
structure GS (s:List Value):Prop where
  ok:SOk s
  lens:∀j∈lenPos,lenOk (val s j) (val s (j+1))=true
  siz:∀j∈sizPos,0≤val s j∧val s j≤1048576
  disp:0≤val s 0∧val s 0≤3
theorem GS.of {s:List Value} (hs:SOk s) (h:validB s=true):GS s:=by
  unfold validB kindsB waysB at h;simp only[Bool.and_eq_true] at h;obtain⟨⟨⟨⟨⟨⟨⟨⟨k0,k1⟩,k2⟩,⟨⟨w43,w44⟩,w49⟩,w50⟩,hlen⟩,hsiz⟩,h39⟩,h40⟩,h48⟩:=h;refine⟨hs,?_,?_,of_decide_eq_true k0⟩
  · intro j hj
    unfold lensB lensOf at hlen;rw[←all_any (fun p:Int×Int=>lenOk p.1 p.2),List.all_eq_true] at hlen;exact hlen _ (List.mem_map.2 ⟨j,hj,rfl⟩)
  · intro j hj
    unfold sizesB sizesOf at hsiz;rw[←all_any (fun n:Int=>within n 0 1048576),List.all_eq_true] at hsiz;exact of_decide_eq_true (hsiz _ (List.mem_map.2 ⟨j,hj,rfl⟩))
theorem GS.zero:GS zeroS:=GS.of zeroS_ok (by kernel_rfl)
section
variable {s:List Value}
theorem toArr {o:Nat} {u:Value} (h:s[o]?=some u):s.toArray[o]?=some u:=by rw[List.getElem?_toArray];exact h
theorem extArr {o k:Nat} {us:List Value} (h:(s.drop o).take k=us):s.toArray.extract o (o+k)=us.toArray:=by
  apply Array.ext';simp[h]
theorem GS.eS_bd (h:GS s) (i:Nat) (hi:i<4):0≤eS s i∧eS s i≤2097152:=by
  have h1:=h.siz (31+i) (by match i,hi with | 0,_=>decide | 1,_=>decide | 2,_=>decide | 3,_=>decide);have h2:=h.siz (35+i) (by match i,hi with | 0,_=>decide | 1,_=>decide | 2,_=>decide | 3,_=>decide);unfold eS;omega
theorem GS.eA_bd (h:GS s):0≤eA s∧eA s≤4194304:=by
  have h1:=h.eS_bd 3 (by decide);have h2:=h.eS_bd 1 (by decide);unfold eA;omega
theorem GS.eD_bd (h:GS s):0≤eD s∧eD s≤4194304:=by
  have h1:=h.eS_bd 0 (by decide);have h2:=h.eS_bd 2 (by decide);unfold eD;omega
theorem mS_bd (s:List Value) (b:Int) (i:Nat):-1099511627776≤mS s b i∧mS s b i≤1099511627776:=ofL_bd _ _ _ _
theorem mA_bd (s:List Value) (b:Int):-2199023255552≤mA s b∧mA s b≤2199023255552:=by
  have h1:=mS_bd s b 3;have h2:=mS_bd s b 1;unfold mA;omega
theorem mD_bd (s:List Value):-2199023255552≤mD s∧mD s≤2199023255552:=by
  have h1:=mS_bd s 0 0;have h2:=mS_bd s 0 2;unfold mD;omega
theorem inO_bd (s:List Value) (i:Nat) (b:Int):-1099511627776≤inO s i b∧inO s i b≤1099511627776:=ofL_bd _ _ _ _
theorem limW_bd (s:List Value) (n r:Int):0≤limW s n r∧limW s n r≤1099511627776:=limitL_bd _ _ _ _ _ _
theorem limH_bd (s:List Value) (n r:Int):0≤limH s n r∧limH s n r≤1099511627776:=limitL_bd _ _ _ _ _ _
theorem GS.iwP_bd (h:GS s) (rw sw:Int):0≤iwP s rw sw∧iwP s rw sw≤max 1099511627776 sw:=by
  have h1:=h.eA_bd;have h2:=limW_bd s (ofL (val s 3) (val s 4) rw (max (rw - mA s rw - eA s) 0)) rw;unfold iwP
  split<;>omega
theorem GS.ihP_bd (h:GS s) (rh sh:Int):-1≤ihP s rh sh∧ihP s rh sh≤max 1099511627776 sh:=by
  have h1:=h.eD_bd;have h2:=limH_bd s (ofL (val s 5) (val s 6) rh 0) rh;unfold ihP
  split
  · split<;>omega
  · omega
theorem ihEnd_bd (s:List Value) (rh ih n:Int) (h:-1≤ih):0≤ihEnd s rh ih n∧ihEnd s rh ih n≤max 1099511627776 ih:=by
  have h2:=limH_bd s (max n 0) rh;unfold ihEnd
  split<;>omega
theorem movX_bd (s:List Value) (iw:Int):-1099511627776≤movX s iw∧movX s iw≤1099511627776:=by
  unfold movX;split
  · exact ofL_bd _ _ _ _
  · omega
theorem movY_bd (s:List Value) (iw:Int):-1099511627776≤movY s iw∧movY s iw≤1099511627776:=by
  unfold movY;split
  · exact ofL_bd _ _ _ _
  · omega
end
def LB (L:LayF) (k:Int):Prop:=∀rw rh sw sh,(L k rw rh sw sh).id=k∧(L k rw rh sw sh).x=0∧(L k rw rh sw sh).y=0∧(0≤(L k rw rh sw sh).w∧(L k rw rh sw sh).w≤max 1099511627776 sw+4194304)∧0≤(L k rw rh sw sh).h∧(L k rw rh sw sh).h≤max 1099511627776 sh+4194304
theorem layN_LB {F:Forest (List Value)} (ww wh:Int) {k:Int} (hs:GS (stF F k)):∀n,LB (layN F ww wh n) k
  | 0=>fun rw rh sw sh=>⟨rfl,rfl,rfl,by simp only[layN];omega,by simp only[layN];omega,by simp only[layN];omega⟩
  | n + 1 => fun rw rh sw sh => by
    have h1:=hs.iwP_bd rw sw;have h2:=hs.ihP_bd rh sh;have h3:=hs.eA_bd;have h4:=hs.eD_bd;have h5:=ihEnd_bd (stF F k) rh (ihP (stF F k) rh sh) (inP F (layN F ww wh n) k (iwP (stF F k) rw sw) (ihP (stF F k) rh sh)).2 h2.1;refine⟨rfl,rfl,rfl,?_,?_⟩
    · simp only[layN,layStep];omega
    · simp only[layN,layStep];omega
theorem baseI_bd (x:FItem):0≤baseI x∧baseI x≤1048576:=by
  have h1:=cl20_bd x.low;have h2:=cl20_bd x.high;unfold baseI FItem.fit;omega
section
variable {l:List Int} {room gap:Int} {wrap:Bool}
theorem brk_in:∀i,i≤l.length→(∀p∈(brkS l room gap wrap i).1,p.1<p.2∧p.2≤i∧p.2≤p.1+64)∧(brkS l room gap wrap i).2.1≤i∧(i≤(brkS l room gap wrap i).2.1+64)
  | 0,_=>⟨fun p hp=>by simp[brkS] at hp,Nat.le_refl _,Nat.zero_le _⟩
  | i + 1, hi => by
    obtain⟨h1,h2,h3⟩:=brk_in i (by omega);have h4:=brk_lt (l:=l) (room:=room) (gap:=gap) (wrap:=wrap) i;rw[brkS] at h4 ⊢
    split
    · exact⟨fun p hp=>by have:=h1 p hp;omega,by simp only;omega,by simp only;omega⟩
    · split
      · exact⟨fun p hp=>by have:=h1 p hp;omega,by simp only;omega,by simp only;omega⟩
      · refine ⟨fun p hp => ?_, by simp only; omega, by simp only; omega⟩
        simp only[List.mem_append,List.mem_singleton] at hp
        rcases hp with hp | rfl
        · have:=h1 p hp;omega
        · exact⟨by simp only;omega,by simp only;omega,by simp only;omega⟩
theorem breaks_in {p:Nat×Nat} (h:p∈breaksP l room gap wrap):p.1<p.2∧p.2≤l.length∧p.2≤p.1+64:=by
  obtain⟨h1,h2,h3⟩:=brk_in (l:=l) (room:=room) (gap:=gap) (wrap:=wrap) l.length (Nat.le_refl _);unfold breaksP at h
  split at h
  · rcases List.mem_append.1 h with h | h
    · exact h1 p h
    · simp only [List.mem_singleton] at h
      subst h;exact⟨by assumption,Nat.le_refl _,h3⟩
  · exact h1 p h
end
end Go.Proofs.YtpgjbbaplpdaiaaGreat
