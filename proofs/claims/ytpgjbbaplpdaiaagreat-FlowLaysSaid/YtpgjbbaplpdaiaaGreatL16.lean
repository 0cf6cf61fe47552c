/- Nums2 Nums3 -/
import Derived.Test.YtpgjbbaplpdaiaaGreatL15
set_option linter.unusedVariables false
set_option linter.unusedSimpArgs false
set_option linter.unusedSectionVars false
set_option maxRecDepth 100000
set_option maxHeartbeats 8000000
namespace Go.Proofs.YtpgjbbaplpdaiaaGreat
open Go.RowKit
theorem rmul_ct (a b:Int):Ct Tryz.prog 182 #[.int .i64 a,.int .i64 b] [] (fun _=>True) (X:=Unit) (fun _=>.int .i64 (mulI a b)) (fun _=>True) (fun _=>[]):=by
  refine Ci fun w0 _=>?_;have hca:=cut_bd a;have hcb:=cut_bd b;refine gg ?_;refine vl (vC (rcut_any _ _)) ?_;refine gg ?_;refine vl (vC (rcut_any _ _)) ?_;refine n7 ?_;refine vl (v_neB Tryz.underlying4 rfl rfl) ?_;refine n2 ?_;refine WP.midS [1,5] [(0,.int .i64 ((cut a).natAbs:Int))] ?_ (fun ρ0=>?_)
  ·refine gg ?_;refine WP.condP rfl (fun h17=>?_) (fun h17=>?_)
   ·refine n2 ?_;refine vl (v_neg rfl (by omega)) ?_;refine av ?_;exact nl fun w hw=>⟨rfl,⟨(congrArg (Value.int .i64) (by omega)),jI,jB,trivial⟩,hw⟩
   ·exact WP.skip fun w hw=>⟨rfl,⟨(congrArg (Value.int .i64) (by omega)),jI,jB,trivial⟩,hw⟩
  ·refine WP.midS [0,5] [(1,.int .i64 ((cut b).natAbs:Int))] ?_ (fun ρ0=>?_)
   ·refine gg ?_;refine WP.condP rfl (fun h21=>?_) (fun h21=>?_)
    ·refine n2 ?_;refine vl (v_neg rfl (by omega)) ?_;refine av ?_;exact nl fun w hw=>⟨rfl,⟨(congrArg (Value.int .i64) (by omega)),jI,jB,trivial⟩,hw⟩
    ·exact WP.skip fun w hw=>⟨rfl,⟨(congrArg (Value.int .i64) (by omega)),jI,jB,trivial⟩,hw⟩
   ·refine gg ?_;refine WP.loopK (X:=Int×Int×Int) [5] (fun p=>[(6,.int .i64 p.1),(0,.int .i64 p.2.1),(1,.int .i64 p.2.2)]) (fun p w=>((0≤p.1∧p.1≤1099511627776)∧(0≤p.2.1∧p.2.1≤1099511627776)∧(0≤p.2.2∧p.2.2≤1099511627776)∧min (p.1+p.2.1*p.2.2) 1099511627776=min (((cut a).natAbs:Int)*((cut b).natAbs:Int)) 1099511627776)∧St w0 (foots []) [] w) (fun p=>p.2.2.toNat) (0,((cut a).natAbs:Int),((cut b).natAbs:Int)) ⟨rfl,rfl,rfl,trivial⟩ (fun w hw=>⟨⟨by dsimp only;omega,by dsimp only;omega,by dsimp only;omega,by simp⟩,hw⟩) (fun p ρ0=>?_);refine WP.fact (fun⟨hp1,hp2,⟨hp3,hp3b⟩,hpe⟩=>?_);refine gg ?_;refine WP.condP rfl (fun h25=>?_) (fun h25=>?_)
    ·have hcm:=cut_bd (p.1+p.2.1);have hcn:=cut_bd (2*p.2.1);have hdv:p.2.2.tdiv 2=p.2.2 / 2:=Int.tdiv_eq_ediv_of_nonneg hp3;have hrm:p.2.2.tmod 2=p.2.2 % 2:=Int.tmod_eq_emod_of_nonneg hp3;refine n2 ?_;refine WP.midS [0,1,5] [(6,.int .i64 (if p.2.2 % 2=1 then min (p.1+p.2.1) 1099511627776 else p.1))] ?_ (fun ρ0=>?_)
     ·refine n2 ?_;refine vl (v_rem rfl rfl (by omega)) ?_;refine gg ?_;refine WP.condP rfl (fun h28=>?_) (fun h28=>?_)
      ·refine gg ?_;refine vl (vC (rcut_any _ _)) ?_;refine av ?_;exact nl fun w hw=>⟨rfl,⟨(congrArg (Value.int .i64) (by rw[hrm] at h28;first | (rw[if_pos h28];unfold cut;omega) | rw[if_neg h28])),jI,jI,jB,trivial⟩,hw⟩
      ·exact WP.skip fun w hw=>⟨rfl,⟨(congrArg (Value.int .i64) (by rw[hrm] at h28;first | (rw[if_pos h28];unfold cut;omega) | rw[if_neg h28])),jI,jI,jB,trivial⟩,hw⟩
     ·refine gg ?_;refine vl (vC (rcut_any _ _)) ?_;refine n4 ?_;refine vl (v_quoT rfl rfl (by omega) (by omega)) ?_;refine av ?_;exact nl fun w hw=>⟨rfl,((if p.2.2 % 2=1 then min (p.1+p.2.1) 1099511627776 else p.1),min (2*p.2.1) 1099511627776,p.2.2 / 2),(by simp only;omega),⟨rfl,(congrArg (Value.int .i64) (by simp only;unfold cut;omega)),(congrArg (Value.int .i64) hdv),jB,trivial⟩,⟨⟨by simp only;split<;>omega,by simp only;omega,by simp only;omega,by simp only;rw[mulStep hp1 hp2 h25];exact hpe⟩,hw⟩⟩
    ·have hz:p.2.2=0:=by omega
     rw[hz,Int.mul_zero,Int.add_zero] at hpe;have hp1e:p.1=min (((cut a).natAbs:Int)*((cut b).natAbs:Int)) 1099511627776:=by omega
     refine WP.exit (onto_of ?_);refine gg ?_;refine WP.cond rfl (fun h38=>?_) (fun h38=>?_)
     ·have hr:mulI a b= -p.1:=by rw[mulI,cut_mul,if_neg (fun e=>by simp[e] at h38),hp1e,Int.natCast_mul]
      refine n2 ?_;refine vl (v_neg rfl (by omega)) ?_;refine gg ?_;exact rt1 fun w hw=>⟨(),congrArg (Value.int .i64) hr.symm,trivial,hw.pk⟩
     ·have hr:mulI a b=p.1:=by rw[mulI,cut_mul,if_pos (by simpa using h38),hp1e,Int.natCast_mul]
      refine gg ?_;exact rt1 fun w hw=>⟨(),congrArg (Value.int .i64) hr.symm,trivial,hw.pk⟩
theorem ends_ct (A:Option Addr) (c:Nat) (l:List Int) (hl:l.length≤10000):Ct Tryz.prog 183 #[.slice A l.length c] [] (fun w=>RdI w A l) (X:=Unit) (fun _=>.tuple #[.int .i64 (hiP l),.int .i64 (loP l)]) (fun _=>True) (fun _=>[]):=by
  refine Ci fun w0 hz=>?_;refine gg ?_;refine WP.loopK (X:=Nat) [6,7] (fun k=>[(2,.int .i64 (hiP (l.take k))),(3,.int .i64 (loP (l.take k))),(8,.int .i64 (k:Int))]) (fun k w=>k≤l.length∧St w0 (foots []) [] w) (fun k=>l.length - k) 0 ⟨rfl,rfl,rfl,trivial⟩ (fun w hw=>⟨Nat.zero_le _,hw⟩) (fun k ρ0=>?_);refine WP.fact (fun hkl=>?_);refine gg ?_;refine WP.condP rfl (fun h9=>?_) (fun h9=>?_)
  ·obtain⟨x,hx⟩:∃x,l[k]?=some x:=⟨_,List.getElem?_eq_getElem (by omega)⟩;obtain⟨ab,ao,rfl,hc⟩:=hz k x hx;refine gg ?_;refine vl (vO hc) ?_;refine gg ?_;refine vl (vC (cut_any _ _)) ?_;refine n15 ?_;exact nl fun w hw=>⟨rfl,k+1,(by omega),⟨(congrArg (Value.int .i64) (hiP_snoc hx).symm),(congrArg (Value.int .i64) (loP_snoc hx).symm),rfl,jS,jI,trivial⟩,⟨by omega,hw⟩⟩
  ·obtain rfl:k=l.length:=by omega
   have htk:l.take l.length=l:=List.take_of_length_le (Nat.le_refl _);refine WP.exit (onto_of ?_);exact rt2 fun w hw=>⟨(),by rw[htk];rfl,trivial,hw.pk⟩
theorem collapse_ct (A:Option Addr) (c:Nat) (l:List Int) (hl:l.length≤10000):Ct Tryz.prog 173 #[.slice A l.length c] [] (fun w=>RdI w A l) (X:=Unit) (fun _=>.int .i64 (collP l)) (fun _=>True) (fun _=>[]):=by
  refine Ci fun w0 hz=>?_;have hb1:=hiP_bd l;have hb2:=loP_bd l;refine gg ?_;refine eF (xC (ends_ct A c l hl) (hF:=fun w hw=>hw.rd hz not_foots_nil)) fun _ _=>?_;refine mv rfl ?_;refine gg ?_;exact rt1 fun w hw=>⟨(),rfl,trivial,hw.pk⟩
theorem pair_ct (a b:Int):Ct Tryz.prog 175 #[.int .i64 a,.int .i64 b] [] (fun _=>True) (X:=Unit) (fun _=>.int .i64 (collP [a,b])) (fun _=>True) (fun _=>[]):=by
  refine Ci fun w0 _=>?_;have hb1:=hiP_bd [a,b];have hb2:=loP_bd [a,b];refine gg ?_;refine WPL.ef (xN (L2 rfl)) fun g10=>?_;refine eF (xC (ends_ct (some ⟨g10,0,none⟩) 2 [a,b] (by simp)) (hF:=fun w hw=>hw.rd_row1 (i:=0) (f:=Value.int .i64) rfl)) fun _ _=>?_;refine mv rfl ?_;refine gg ?_;exact rt1 fun w hw=>⟨(),rfl,trivial,hw.pk⟩
theorem auto_ct (room size bk bn ek en base:Int):Ct Tryz.prog 155 #[.int .i64 room,.int .i64 size,.agg #[.int .i64 bk,.int .i64 bn],.agg #[.int .i64 ek,.int .i64 en],.int .i64 base] [] (fun _=>True) (X:=Unit) (fun _=>.tuple #[.int .i64 (autoP room size bk bn ek en base).1,.int .i64 (autoP room size bk bn ek en base).2]) (fun _=>True) (fun _=>[]):=by
  refine Ci fun w0 _=>?_;have hal:-1099511627776≤subI (subI (subI room size) (ofL bk bn base 0)) (ofL ek en base 0)∧subI (subI (subI room size) (ofL bk bn base 0)) (ofL ek en base 0)≤1099511627776:=subI_bd _ _;have hdv:divI (subI (subI (subI room size) (ofL bk bn base 0)) (ofL ek en base 0)) 2=subI (subI (subI room size) (ofL bk bn base 0)) (ofL ek en base 0) / 2:=by unfold divI;rw[if_neg (by omega),cut_id hal.1 hal.2];rfl
  refine gg ?_;refine WPL.ef xB fun b7=>?_;refine WPL.ef xB fun b8=>?_;refine gg ?_;refine wP none [0,1] [pT 0,pT 1,pT 3,pT 4,pF 2,pF 5,pT 6,pT 7] ?_;refine gg ?_;refine dG (xC (lenof_ct bk bn base 0)) fun _ _=>?_;refine dG (xC (lenof_ct ek en base 0)) fun _ _=>?_;refine gg ?_;refine vl (vC (sub_any _ _ _)) ?_;refine gg ?_;refine vl (vC (sub_any _ _ _)) ?_;refine gg ?_;refine vl (vC (sub_any _ _ _)) ?_;refine gg ?_;refine wP none [0,1] [pT 0,pT 1,pT 4,pT 5,pF 2,pT 3,pF 6,pT 7,pT 8,pT 9] ?_;refine gg ?_;refine dG (xC (fixed_ct bk bn base)) fun _ _=>?_;refine gg ?_;refine dG (xC (fixed_ct ek en base)) fun _ _=>?_;refine gg ?_;refine WP.condP rfl (fun h38=>?_) (fun h38=>?_)
  case' _=>
   have hr:=auto_le (room:=room) (size:=size) (bn:=bn) (en:=en) h38
  rotate_left
  case' _=>
   refine n3 ?_;refine WPL.splitB 43 rfl (fun h43=>?_) (fun h43=>?_)
   case' _=>
    refine gg ?_;refine WP.cond rfl (fun h41=>?_) (fun h41=>?_)
    case' _=>
     have hr:=auto_both (room:=room) (size:=size) (bn:=bn) (en:=en) h38 (by simpa using h43) (by simpa using h41);refine n2 ?_;refine vl (v_shr1 rfl rfl) ?_
    rotate_left
    case' _=>
     have hq2:fixedL ek base=true:=by simpa using h41
     refine gg ?_;refine WP.cond rfl (fun h51=>?_) (fun h51=>?_)
     case' _=>
      have hr:=auto_first (room:=room) (size:=size) (bn:=bn) (en:=en) h38 (by simpa using h51) (by first | exact hq2 | (exfalso;simp_all;done))
     rotate_left
     case' _=>
      have hq1:fixedL bk base=true:=by simpa using h51
      refine gg ?_;refine WP.cond rfl (fun h54=>?_) (fun h54=>?_)
      case' _=>
       have hr:=auto_last (room:=room) (size:=size) (bn:=bn) (en:=en) h38 hq1 (by simpa using h54)
      rotate_left
      case' _=>
       have hr:=auto_none (room:=room) (size:=size) (bn:=bn) (en:=en) hq1 (by simpa using h54)
   rotate_left 4
   case' _=>
    refine gg ?_;refine WP.condF rfl ?_;refine gg ?_;refine WP.cond rfl (fun h51=>?_) (fun h51=>?_)
    case' _=>
     have hr:=auto_first (room:=room) (size:=size) (bn:=bn) (en:=en) h38 (by simpa using h51) (by first | exact hq2 | (exfalso;simp_all;done))
    rotate_left
    case' _=>
     have hq1:fixedL bk base=true:=by simpa using h51
     refine gg ?_;refine WP.cond rfl (fun h54=>?_) (fun h54=>?_)
     case' _=>
      have hr:=auto_last (room:=room) (size:=size) (bn:=bn) (en:=en) h38 hq1 (by simpa using h54)
     rotate_left
     case' _=>
      have hr:=auto_none (room:=room) (size:=size) (bn:=bn) (en:=en) hq1 (by simpa using h54)
  all_goals
   refine gg ?_;exact rt2 fun w hw=>⟨(),by rw[hr];first | rfl | (show Value.tuple #[.int .i64 (divI (subI (subI (subI room size) (ofL bk bn base 0)) (ofL ek en base 0)) 2),.int .i64 (subI (subI (subI room size) (ofL bk bn base 0)) (ofL ek en base 0) - divI (subI (subI (subI room size) (ofL bk bn base 0)) (ofL ek en base 0)) 2)]=_;rw[hdv];rfl),trivial,hw.pk⟩
theorem rauto_ct (room size bk bn ek en base:Int):Ct Tryz.prog 130 #[.int .i64 room,.int .i64 size,.agg #[.int .i64 bk,.int .i64 bn],.agg #[.int .i64 ek,.int .i64 en],.int .i64 base] [] (fun _=>True) (X:=Unit) (fun _=>.tuple #[.int .i64 (autoP room size bk bn ek en base).1,.int .i64 (autoP room size bk bn ek en base).2]) (fun _=>True) (fun _=>[]):=by
  refine Ci fun w0 _=>?_;have hal:-1099511627776≤subI (subI (subI room size) (ofL bk bn base 0)) (ofL ek en base 0)∧subI (subI (subI room size) (ofL bk bn base 0)) (ofL ek en base 0)≤1099511627776:=subI_bd _ _;have hdv:divI (subI (subI (subI room size) (ofL bk bn base 0)) (ofL ek en base 0)) 2=subI (subI (subI room size) (ofL bk bn base 0)) (ofL ek en base 0) / 2:=by unfold divI;rw[if_neg (by omega),cut_id hal.1 hal.2];rfl
  refine gg ?_;refine WPL.ef xB fun b7=>?_;refine WPL.ef xB fun b8=>?_;refine gg ?_;refine eF (xC (rof_ct bk bn base 0)) fun _ _=>?_;refine gg ?_;refine eF (xC (rof_ct ek en base 0)) fun _ _=>?_;refine gg ?_;refine vl (vC (rsub_any _ _ _)) ?_;refine gg ?_;refine vl (vC (rsub_any _ _ _)) ?_;refine gg ?_;refine vl (vC (rsub_any _ _ _)) ?_;refine gg ?_;refine eF (xC (rfixed_ct bk bn base)) fun _ _=>?_;refine gg ?_;refine eF (xC (rfixed_ct ek en base)) fun _ _=>?_;refine n7 ?_;refine WPL.split 39 rfl (fun h39=>?_) (fun h39=>?_)
  case' _=>
   refine gg ?_;have hr:=auto_le (room:=room) (size:=size) (bn:=bn) (en:=en) h39;refine WP.condT rfl ?_
  rotate_left
  case' _=>
   refine n2 ?_;refine WPL.splitB 41 rfl (fun h41=>?_) (fun h41=>?_)
   case' _=>
    refine gg ?_;refine WP.cond rfl (fun h44=>?_) (fun h44=>?_)
    case' _=>
     have hr:=auto_none (room:=room) (size:=size) (bn:=bn) (en:=en) (by simpa using h41) (by simpa using h44)
    rotate_left
    case' _=>
     refine n6 ?_;refine WPL.splitB 49 rfl (fun h49=>?_) (fun h49=>?_)
     case' _=>
      refine gg ?_;refine WP.cond rfl (fun h51=>?_) (fun h51=>?_)
      case' _=>
       have hr:=auto_first (room:=room) (size:=size) (bn:=bn) (en:=en) h39 (by simpa using h49) (by simpa using h51)
      rotate_left
      case' _=>
       refine gg ?_;refine WP.cond rfl (fun h54=>?_) (fun h54=>?_)
       case' _=>
        have hr:=auto_last (room:=room) (size:=size) (bn:=bn) (en:=en) h39 (by simpa using h54) (by cases hq:fixedL ek base<;>simp_all)
       rotate_left
       case' _=>
        have hr:=auto_both (room:=room) (size:=size) (bn:=bn) (en:=en) h39 (by simpa using h54) (by cases hq:fixedL ek base<;>simp_all);refine gg ?_;refine vl (vC (rdiv_any _ _ _)) ?_
     rotate_left 3
     case' _=>
      refine gg ?_;refine WP.condF rfl ?_;refine gg ?_;refine WP.cond rfl (fun h54=>?_) (fun h54=>?_)
      case' _=>
       have hr:=auto_last (room:=room) (size:=size) (bn:=bn) (en:=en) h39 (by simpa using h54) (by cases hq:fixedL ek base<;>simp_all)
      rotate_left
      case' _=>
       have hr:=auto_both (room:=room) (size:=size) (bn:=bn) (en:=en) h39 (by simpa using h54) (by cases hq:fixedL ek base<;>simp_all);refine gg ?_;refine vl (vC (rdiv_any _ _ _)) ?_
   rotate_left 6
   case' _=>
    refine gg ?_;refine WP.condF rfl ?_;refine n6 ?_;refine WPL.splitB 49 rfl (fun h49=>?_) (fun h49=>?_)
    case' _=>
     refine gg ?_;refine WP.cond rfl (fun h51=>?_) (fun h51=>?_)
     case' _=>
      have hr:=auto_first (room:=room) (size:=size) (bn:=bn) (en:=en) h39 (by simpa using h49) (by simpa using h51)
     rotate_left
     case' _=>
      refine gg ?_;refine WP.cond rfl (fun h54=>?_) (fun h54=>?_)
      case' _=>
       have hr:=auto_last (room:=room) (size:=size) (bn:=bn) (en:=en) h39 (by simpa using h54) (by cases hq:fixedL ek base<;>simp_all)
      rotate_left
      case' _=>
       have hr:=auto_both (room:=room) (size:=size) (bn:=bn) (en:=en) h39 (by simpa using h54) (by cases hq:fixedL ek base<;>simp_all);refine gg ?_;refine vl (vC (rdiv_any _ _ _)) ?_
    rotate_left 3
    case' _=>
     refine gg ?_;refine WP.condF rfl ?_;refine gg ?_;refine WP.cond rfl (fun h54=>?_) (fun h54=>?_)
     case' _=>
      have hr:=auto_last (room:=room) (size:=size) (bn:=bn) (en:=en) h39 (by simpa using h54) (by cases hq:fixedL ek base<;>simp_all)
     rotate_left
     case' _=>
      have hr:=auto_both (room:=room) (size:=size) (bn:=bn) (en:=en) h39 (by simpa using h54) (by cases hq:fixedL ek base<;>simp_all);refine gg ?_;refine vl (vC (rdiv_any _ _ _)) ?_
  all_goals
   refine gg ?_;exact rt2 fun w hw=>⟨(),by rw[hr];first | rfl | (show Value.tuple #[.int .i64 (divI (subI (subI (subI room size) (ofL bk bn base 0)) (ofL ek en base 0)) 2),.int .i64 (subI (subI (subI room size) (ofL bk bn base 0)) (ofL ek en base 0) - divI (subI (subI (subI room size) (ofL bk bn base 0)) (ofL ek en base 0)) 2)]=_;rw[hdv];rfl),trivial,hw.pk⟩
theorem rcollapse_ct (A:Option Addr) (c:Nat) (l:List Int) (hl:l.length≤10000):Ct Tryz.prog 131 #[.slice A l.length c] [] (fun w=>RdI w A l) (X:=Unit) (fun _=>.int .i64 (collP l)) (fun _=>True) (fun _=>[]):=by
  refine Ci fun w0 hz=>?_;refine gg ?_;refine WP.loopK (X:=Nat) [0] (fun k=>[(3,.int .i64 (hiP (l.take k))),(4,.int .i64 (loP (l.take k))),(5,.int .i64 (k:Int))]) (fun k w=>k≤l.length∧St w0 (foots []) [] w) (fun k=>l.length - k) 0 ⟨rfl,rfl,rfl,trivial⟩ (fun w hw=>⟨Nat.zero_le _,hw⟩) (fun k ρ0=>?_);refine WP.fact (fun hkl=>?_);refine gg ?_;refine WP.condP rfl (fun h9=>?_) (fun h9=>?_)
  ·obtain⟨x,hx⟩:∃x,l[k]?=some x:=⟨_,List.getElem?_eq_getElem (by omega)⟩;obtain⟨ab,ao,rfl,hc⟩:=hz k x hx;refine gg ?_;refine vl (vO hc) ?_;refine vl (vC (rcut_any _ _)) ?_;refine gg ?_;refine vl (vO hc) ?_;refine vl (vC (rcut_any _ _)) ?_;refine n7 ?_;exact nl fun w hw=>⟨rfl,k+1,(by omega),⟨(congrArg (Value.int .i64) (hiP_snoc hx).symm),(congrArg (Value.int .i64) (loP_snoc hx).symm),rfl,jS,trivial⟩,⟨by omega,hw⟩⟩
  ·obtain rfl:k=l.length:=by omega
   have htk:l.take l.length=l:=List.take_of_length_le (Nat.le_refl _);refine WP.exit (onto_of ?_);refine gg ?_;refine vl (vC (radd_any _ _ _)) ?_;refine gg ?_;exact rt1 fun w hw=>⟨(),congrArg (Value.int .i64) (by rw[htk,collP_cut]),trivial,hw.pk⟩
theorem long_ct (A:Option Addr) (c:Nat) (l:List Int) (gap:Int) (hl:l.length≤10000):Ct Tryz.prog 169 #[.slice A l.length c,.int .i64 gap] [] (fun w=>RdI w A l) (X:=Unit) (fun _=>.int .i64 (longP l gap)) (fun _=>True) (fun _=>[]):=by
  refine Ci fun w0 hz=>?_;refine gg ?_;refine WP.loopK (X:=Nat) [1,8,9] (fun k=>[(5,.int .i64 (longK l gap k)),(10,.int .i64 (k:Int))]) (fun k w=>k≤l.length∧St w0 (foots []) [] w) (fun k=>l.length - k) 0 ⟨rfl,rfl,trivial⟩ (fun w hw=>⟨Nat.zero_le _,hw⟩) (fun k ρ0=>?_);refine WP.fact (fun hkl=>?_);refine gg ?_;refine WP.condP rfl (fun h11=>?_) (fun h11=>?_)
  ·obtain⟨x,hx⟩:∃x,l[k]?=some x:=⟨_,List.getElem?_eq_getElem (by omega)⟩;obtain⟨ab,ao,rfl,hc⟩:=hz k x hx;refine gg ?_;refine vl (vO hc) ?_;refine gg ?_;refine WP.condP rfl (fun h16=>?_) (fun h16=>?_)
   ·have hlk:=long_gap (gap:=gap) (show k≠0 by omega) hx;refine gg ?_;refine vl (vC (add_any _ _ _)) ?_;refine gg ?_;refine vl (vC (add_any _ _ _)) ?_;refine n5 ?_;exact nl fun w hw=>⟨rfl,k+1,(by omega),⟨(congrArg (Value.int .i64) hlk),rfl,jI,jS,jI,trivial⟩,⟨by omega,hw⟩⟩
   ·have hk0:k=0:=by omega
    have hlk:addI (longK l gap k) x=longK l gap (k+1):=by subst hk0;exact long_first hx
    refine gg ?_;refine vl (vC (add_any _ _ _)) ?_;refine n5 ?_;exact nl fun w hw=>⟨rfl,k+1,(by omega),⟨(congrArg (Value.int .i64) hlk),rfl,jI,jS,jI,trivial⟩,⟨by omega,hw⟩⟩
  ·obtain rfl:k=l.length:=by omega
   refine WP.exit (onto_of ?_);refine gg ?_;exact rt1 fun w hw=>⟨(),rfl,trivial,hw.pk⟩
theorem rlong_ct (A:Option Addr) (c:Nat) (l:List Int) (gap:Int) (hl:l.length≤10000):Ct Tryz.prog 129 #[.slice A l.length c,.int .i64 gap] [] (fun w=>RdI w A l) (X:=Unit) (fun _=>.int .i64 (longP l gap)) (fun _=>True) (fun _=>[]):=by
  refine Ci fun w0 hz=>?_;refine gg ?_;refine WP.loopK (X:=Nat) [0,1] (fun k=>[(5,.int .i64 (longK l gap k)),(6,.int .i64 (k:Int))]) (fun k w=>k≤l.length∧St w0 (foots []) [] w) (fun k=>l.length - k) 0 ⟨rfl,rfl,trivial⟩ (fun w hw=>⟨Nat.zero_le _,hw⟩) (fun k ρ0=>?_);refine WP.fact (fun hkl=>?_);refine gg ?_;refine WP.condP rfl (fun h10=>?_) (fun h10=>?_)
  ·obtain⟨x,hx⟩:∃x,l[k]?=some x:=⟨_,List.getElem?_eq_getElem (by omega)⟩;obtain⟨ab,ao,rfl,hc⟩:=hz k x hx;refine gg ?_;refine WP.condP rfl (fun h14=>?_) (fun h14=>?_)
   ·have hlk:=long_gap (gap:=gap) (show k≠0 by omega) hx;refine gg ?_;refine vl (vC (radd_any _ _ _)) ?_;refine gg ?_;refine vl (vO hc) ?_;refine vl (vC (radd_any _ _ _)) ?_;refine n6 ?_;exact nl fun w hw=>⟨rfl,k+1,(by omega),⟨(congrArg (Value.int .i64) hlk),rfl,jS,jI,trivial⟩,⟨by omega,hw⟩⟩
   ·have hk0:k=0:=by omega
    have hlk:addI (longK l gap k) x=longK l gap (k+1):=by subst hk0;exact long_first hx
    refine gg ?_;refine vl (vO hc) ?_;refine vl (vC (radd_any _ _ _)) ?_;refine n6 ?_;exact nl fun w hw=>⟨rfl,k+1,(by omega),⟨(congrArg (Value.int .i64) hlk),rfl,jS,jI,trivial⟩,⟨by omega,hw⟩⟩
  ·obtain rfl:k=l.length:=by omega
   refine WP.exit (onto_of ?_);refine gg ?_;exact rt1 fun w hw=>⟨(),rfl,trivial,hw.pk⟩
theorem stack_ct (A B D:Option Addr) (ca cb cd:Nat) (sizes tops bottoms:List Int) (hl:sizes.length≤10000) (ht:tops.length=sizes.length) (hb:bottoms.length=sizes.length):Ct Tryz.prog 157 #[.slice A sizes.length ca,.slice B tops.length cb,.slice D bottoms.length cd] [] (fun w=>RdI w A sizes∧RdI w B tops∧RdI w D bottoms) (X:=Option Addr×Nat) (fun p=>.tuple #[.slice p.1 sizes.length p.2,.int .i64 (stkAt sizes tops bottoms sizes.length)]) (fun _=>True) (fun p=>[.row 3 1 p.1 sizes.length p.2 ((stkStarts sizes tops bottoms).map (Value.int .i64))]):=by
  refine Ci fun w0 ⟨hz,htp,hbt⟩=>?_;refine n10 ?_;refine vl (v_is (b:=false) (v_neq rfl rfl) (decide_eq_false (by omega))) ?_;refine n5 ?_;refine vg (v_is (b:=false) (v_neq rfl rfl) (decide_eq_false (by omega))) ?_;refine gg ?_;refine WP.condF rfl ?_;refine WP.skip (onto_of ?_);refine sq ?_;refine WP.pre ?_ (fun w hw=>hw.nilRow 3 1);refine gg ?_;refine WP.loopK (X:=Nat×Option Addr×Nat) [1,2,24,25] (fun p=>[(8,.slice p.2.1 p.1 p.2.2),(9,.int .i64 (stkAt sizes tops bottoms p.1)),(26,.int .i64 (p.1:Int))]) (fun p w=>p.1≤sizes.length∧St w0 (foots []) [.row 3 1 p.2.1 p.1 p.2.2 (((stkStarts sizes tops bottoms).take p.1).map (Value.int .i64))] w) (fun p=>sizes.length - p.1) (0,none,0) ⟨rfl,congrArg (Value.int .i64) (by rw[stkAt]),rfl,trivial⟩ (fun w hw=>⟨Nat.zero_le _,by simpa using hw⟩) (fun p ρ0=>?_);obtain⟨k,oA,oc⟩:=p;dsimp only;refine WP.fact (fun hkl=>?_);refine gg ?_;refine WP.condP rfl (fun h27=>?_) (fun h27=>?_)
  ·obtain⟨x,hx⟩:∃x,sizes[k]?=some x:=⟨_,List.getElem?_eq_getElem (by omega)⟩;obtain⟨ab,ao,rfl,hc⟩:=hz k x hx;have hbd:=stkAt_bd sizes tops bottoms k;refine gg ?_;refine vl (vO hc) ?_;refine gg ?_;refine WP.condP rfl (fun h32=>?_) (fun h32=>?_)
   case' _=>
    obtain⟨m,hm⟩:∃m,k=m+1:=⟨k - 1,by omega⟩;obtain⟨y,hy⟩:∃y,bottoms[m]?=some y:=⟨_,List.getElem?_eq_getElem (by omega)⟩;obtain⟨z,hzz⟩:∃z,tops[k]?=some z:=⟨_,List.getElem?_eq_getElem (by omega)⟩;obtain⟨yb,yo,rfl,hcy⟩:=hbt m y hy;obtain⟨zb,zo,rfl,hcz⟩:=htp k z hzz;have hst:addI (stkAt sizes tops bottoms k) (collP [y,z])=stkStart sizes tops bottoms k:=by subst hm;exact stkStart_succ hy hzz
    refine wP none [0] [pT 0,pT 1,pT 2,pT 3,pT 4,pT 5,pT 6,pT 7,pT 8,pT 9,pF 10,pT 11,pT 12] ?_;refine n4 ?_;refine tD (vX m) ?_;refine tD (vO hcy) ?_;refine gg ?_;refine tD (vO hcz) ?_;refine dG (xC (pair_ct y z)) fun _ _=>?_;refine tD (vC (add_any _ _ _)) ?_;refine n3 ?_
   rotate_left
   case' _=>
    have hk0:k=0:=by omega
    have hst:stkAt sizes tops bottoms k=stkStart sizes tops bottoms k:=by subst hk0;exact stkStart_zero
    refine n2 ?_
   all_goals
    rw[hst];refine gg ?_;refine WPL.ef (xN (L1 rfl)) fun g47=>?_;refine WPL.ef (xP 0 1) fun⟨A48,c48⟩=>?_;refine gg ?_;refine vl (vC (add_any _ _ _)) ?_;refine n5 ?_;exact nl fun w hw=>⟨rfl,(k+1,A48,c48),(by simp only;omega),⟨rfl,(congrArg (Value.int .i64) (stkAt_succ hx)),rfl,jS,jS,jS,jI,trivial⟩,⟨by simp only;omega,by simp only;rw[stk_take (by omega),List.map_append];exact(hw.sel [0] (by decide))⟩⟩
  ·obtain rfl:k=sizes.length:=by omega
   have htk:(stkStarts sizes tops bottoms).take sizes.length=stkStarts sizes tops bottoms:=List.take_of_length_le (by rw[stk_len];omega);refine WP.exit (onto_of ?_);refine gg ?_;exact rt2 fun w hw=>⟨(oA,oc),rfl,trivial,by rw[←htk];exact hw⟩
theorem rstack_ct (A B D:Option Addr) (ca cb cd:Nat) (sizes tops bottoms:List Int) (hl:sizes.length≤10000) (ht:tops.length=sizes.length) (hb:bottoms.length=sizes.length):Ct Tryz.prog 133 #[.slice A sizes.length ca,.slice B tops.length cb,.slice D bottoms.length cd] [] (fun w=>RdI w A sizes∧RdI w B tops∧RdI w D bottoms) (X:=Option Addr×Nat) (fun p=>.tuple #[.slice p.1 sizes.length p.2,.int .i64 (stkAt sizes tops bottoms sizes.length)]) (fun _=>True) (fun p=>[.row 3 1 p.1 sizes.length p.2 ((stkStarts sizes tops bottoms).map (Value.int .i64))]):=by
  refine Ci fun w0 ⟨hz,htp,hbt⟩=>?_;refine n16 ?_;refine vl (v_is (b:=false) (v_neq rfl rfl) (decide_eq_false (by omega))) ?_;refine n5 ?_;refine vg (v_is (b:=false) (v_neq rfl rfl) (decide_eq_false (by omega))) ?_;refine gg ?_;refine WP.condF rfl ?_;refine WP.skip (onto_of ?_)
  iterate 2 refine sq ?_
  refine WP.pre ?_ (fun w hw=>hw.nilRow 3 1);refine gg ?_;refine WP.loopK (X:=Nat×Option Addr×Nat) [0,1,2] (fun p=>[(8,.slice p.2.1 p.1 p.2.2),(9,.int .i64 (stkAt sizes tops bottoms p.1)),(10,.int .i64 (p.1:Int))]) (fun p w=>p.1≤sizes.length∧St w0 (foots []) [.row 3 1 p.2.1 p.1 p.2.2 (((stkStarts sizes tops bottoms).take p.1).map (Value.int .i64))] w) (fun p=>sizes.length - p.1) (0,none,0) ⟨rfl,congrArg (Value.int .i64) (by rw[stkAt]),rfl,trivial⟩ (fun w hw=>⟨Nat.zero_le _,by simpa using hw⟩) (fun p ρ0=>?_);obtain⟨k,oA,oc⟩:=p;dsimp only;refine WP.fact (fun hkl=>?_);refine gg ?_;refine WP.condP rfl (fun h26=>?_) (fun h26=>?_)
  ·obtain⟨x,hx⟩:∃x,sizes[k]?=some x:=⟨_,List.getElem?_eq_getElem (by omega)⟩;obtain⟨ab,ao,rfl,hc⟩:=hz k x hx;have hbd:=stkAt_bd sizes tops bottoms k;refine gg ?_;refine WP.condP rfl (fun h30=>?_) (fun h30=>?_)
   case' _=>
    obtain⟨m,hm⟩:∃m,k=m+1:=⟨k - 1,by omega⟩;obtain⟨y,hy⟩:∃y,bottoms[m]?=some y:=⟨_,List.getElem?_eq_getElem (by omega)⟩;obtain⟨z,hzz⟩:∃z,tops[k]?=some z:=⟨_,List.getElem?_eq_getElem (by omega)⟩;obtain⟨yb,yo,rfl,hcy⟩:=hbt m y hy;obtain⟨zb,zo,rfl,hcz⟩:=htp k z hzz;have hst:addI (stkAt sizes tops bottoms k) (collP [y,z])=stkStart sizes tops bottoms k:=by subst hm;exact stkStart_succ hy hzz
    refine wP none [0] [pT 0,pT 1,pT 2,pT 3,pT 4,pT 5,pT 6,pT 7,pT 8,pT 9,pF 10,pF 11,pT 12,pT 13] ?_;refine n4 ?_;refine tD (vX m) ?_;refine tD (vO hcy) ?_;refine gg ?_;refine tD (vO hcz) ?_;refine dE (xN (L2 rfl)) fun g41=>?_;refine dG (xC (rcollapse_ct (some ⟨g41,0,none⟩) 2 [y,z] (by simp)) (hF:=fun w hw=>hw.rd_row1 (i:=1) (f:=Value.int .i64) rfl)) fun _ _=>?_;refine tD (vC (radd_any _ _ _)) ?_;refine n3 ?_;rw[hst];refine gg ?_;refine WPL.ef (xN (L1 rfl)) fun g46=>?_;refine WPL.ef (xP 0 2) fun⟨A47,c47⟩=>?_
   rotate_left
   case' _=>
    have hk0:k=0:=by omega
    have hst:stkAt sizes tops bottoms k=stkStart sizes tops bottoms k:=by subst hk0;exact stkStart_zero
    refine n2 ?_;rw[hst];refine gg ?_;refine WPL.ef (xN (L1 rfl)) fun g46=>?_;refine WPL.ef (xP 0 1) fun⟨A47,c47⟩=>?_
   all_goals
    refine gg ?_;refine vl (vO hc) ?_;refine vl (vC (radd_any _ _ _)) ?_;refine n6 ?_;exact nl fun w hw=>⟨rfl,(k+1,A47,c47),(by simp only;omega),⟨rfl,(congrArg (Value.int .i64) (stkAt_succ hx)),rfl,jS,jS,jS,trivial⟩,⟨by simp only;omega,by simp only;rw[stk_take (by omega),List.map_append];exact(hw.sel [0] (by decide))⟩⟩
  ·obtain rfl:k=sizes.length:=by omega
   have htk:(stkStarts sizes tops bottoms).take sizes.length=stkStarts sizes tops bottoms:=List.take_of_length_le (by rw[stk_len];omega);refine WP.exit (onto_of ?_);refine gg ?_;exact rt2 fun w hw=>⟨(oA,oc),rfl,trivial,by rw[←htk];exact hw⟩
theorem across_ct (kind size room:Int):Ct Tryz.prog 168 #[.int .i64 kind,.int .i64 size,.int .i64 room] [] (fun _=>True) (X:=Unit) (fun _=>.int .i64 (acrossP kind size room)) (fun _=>True) (fun _=>[]):=by
  refine Ci fun w0 _=>?_;refine gg ?_;refine vl (vC (sub_any _ _ _)) ?_;refine gg ?_;refine WP.condP rfl (fun h12=>?_) (fun h12=>?_)
  ·have hr:acrossP kind size room=divI (subI room size) 2:=by unfold acrossP;rw[if_pos h12]
   refine gg ?_;refine vl (vC (div_any _ _ _)) ?_;refine gg ?_;exact rt1 fun w hw=>⟨(),congrArg (Value.int .i64) hr.symm,trivial,hw.pk⟩
  ·refine gg ?_;refine WP.condP rfl (fun h16=>?_) (fun h16=>?_)
   ·have hr:acrossP kind size room=subI room size:=by unfold acrossP;rw[if_neg (by omega),if_pos h16]
    refine gg ?_;exact rt1 fun w hw=>⟨(),congrArg (Value.int .i64) hr.symm,trivial,hw.pk⟩
   ·have hr:acrossP kind size room=0:=by unfold acrossP;rw[if_neg (by omega),if_neg (by omega)]
    refine gg ?_;exact rt1 fun w hw=>⟨(),congrArg (Value.int .i64) hr.symm,trivial,hw.pk⟩
theorem racross_ct (kind size room:Int):Ct Tryz.prog 128 #[.int .i64 kind,.int .i64 size,.int .i64 room] [] (fun _=>True) (X:=Unit) (fun _=>.int .i64 (acrossP kind size room)) (fun _=>True) (fun _=>[]):=by
  refine Ci fun w0 _=>?_;refine gg ?_;refine vl (vC (rsub_any _ _ _)) ?_;refine gg ?_;refine WP.condP rfl (fun h12=>?_) (fun h12=>?_)
  ·have hr:acrossP kind size room=divI (subI room size) 2:=by unfold acrossP;rw[if_pos h12]
   refine gg ?_;refine vl (vC (rdiv_any _ _ _)) ?_;refine gg ?_;exact rt1 fun w hw=>⟨(),congrArg (Value.int .i64) hr.symm,trivial,hw.pk⟩
  ·refine gg ?_;refine WP.condP rfl (fun h16=>?_) (fun h16=>?_)
   ·have hr:acrossP kind size room=subI room size:=by unfold acrossP;rw[if_neg (by omega),if_pos h16]
    refine gg ?_;exact rt1 fun w hw=>⟨(),congrArg (Value.int .i64) hr.symm,trivial,hw.pk⟩
   ·have hr:acrossP kind size room=0:=by unfold acrossP;rw[if_neg (by omega),if_neg (by omega)]
    refine gg ?_;exact rt1 fun w hw=>⟨(),congrArg (Value.int .i64) hr.symm,trivial,hw.pk⟩
theorem jof_ct (kind left n:Int):Ct Tryz.prog 190 #[.int .i64 kind,.int .i64 left,.int .i64 n] [] (fun _=>True) (X:=Unit) (fun _=>.int .i64 (kindJ kind left n)) (fun _=>True) (fun _=>[]):=by
  refine Ci fun w0 _=>?_;refine gg ?_;refine WP.condP rfl (fun h8=>?_) (fun h8=>?_)
  case' _=>
   refine gg ?_;refine WP.condP rfl (fun h8=>?_) (fun h8=>?_)
   case' _=>
    refine WP.exit (onto_of ?_);refine gg ?_;refine WP.condP rfl (fun h16=>?_) (fun h16=>?_);rotate_left
    case' _=>
     refine gg ?_;refine WP.exit (onto_of ?_)
   rotate_left 2
   case' _=>
    refine gg ?_;refine WP.condP rfl (fun h11=>?_) (fun h11=>?_)
    case' _=>
     refine WP.exit (onto_of ?_);refine n4 ?_;refine WPL.split 19 rfl (fun h19=>?_) (fun h19=>?_)
     case' _=>
      refine gg ?_;refine WP.condP rfl (fun h22=>?_) (fun h22=>?_)
      case' _=>
       refine WP.exit (onto_of ?_)
      rotate_left
     rotate_left 2
     case' _=>
      refine gg ?_;refine WP.condF rfl ?_
    rotate_left 3
    case' _=>
     refine gg ?_;refine WP.condP rfl (fun h13=>?_) (fun h13=>?_);rotate_left
     case' _=>
      refine gg ?_
     all_goals
      refine WP.exit (onto_of ?_)
  rotate_left 7
  case' _=>
   refine gg ?_;refine WP.condP rfl (fun h8=>?_) (fun h8=>?_)
   case' _=>
    refine WP.exit (onto_of ?_);refine gg ?_;refine WP.condP rfl (fun h16=>?_) (fun h16=>?_);rotate_left
    case' _=>
     refine gg ?_;refine WP.exit (onto_of ?_)
   rotate_left 2
   case' _=>
    refine gg ?_;refine WP.condP rfl (fun h11=>?_) (fun h11=>?_)
    case' _=>
     refine WP.exit (onto_of ?_);refine n4 ?_;refine WPL.split 19 rfl (fun h19=>?_) (fun h19=>?_)
     case' _=>
      refine gg ?_;refine WP.condP rfl (fun h22=>?_) (fun h22=>?_)
      case' _=>
       refine WP.exit (onto_of ?_)
      rotate_left
     rotate_left 2
     case' _=>
      refine gg ?_;refine WP.condF rfl ?_
    rotate_left 3
    case' _=>
     refine gg ?_;refine WP.condP rfl (fun h13=>?_) (fun h13=>?_);rotate_left
     case' _=>
      refine gg ?_
     all_goals
      refine WP.exit (onto_of ?_)
  all_goals
   refine gg ?_;exact rt1 fun w hw=>⟨(),congrArg (Value.int .i64) (by unfold kindJ;first | (rw[if_pos (by omega)];done) | (rw[if_neg (by omega),if_pos (by omega)];done) | (rw[if_neg (by omega),if_neg (by omega)];done) | (rw[if_neg (by omega),if_neg (by omega)];omega)),trivial,hw.pk⟩
theorem bf1_ct (b4 b5 b7:Nat) (left n:Int) (k m:Int):Ct Tryz.prog 188 #[.int .i64 k,.int .i64 m,.pointer (some ⟨b4,0,none⟩)] [.cl b4 3 [.int .i64 left],.cl b5 3 [.int .i64 n],.cl b7 96 [.func (.func 188) #[] #[.pointer (some ⟨b4,0,none⟩)]]] (fun _=>True) (X:=Unit) (fun _=>.int .i64 (partJ left k m)) (fun _=>True) (fun _=>[.cl b4 3 [.int .i64 left],.cl b5 3 [.int .i64 n],.cl b7 96 [.func (.func 188) #[] #[.pointer (some ⟨b4,0,none⟩)]]]):=by
  refine Ci fun w0 _=>?_;refine gg ?_;refine vl (vC (mul_any _ _ _)) ?_;refine gg ?_;refine vl (vC (div_any _ _ _)) ?_;refine gg ?_;exact rt1 fun w hw=>⟨(),rfl,trivial,hw.pk⟩
theorem bf2_ct (b4 b5 b7:Nat) (left n:Int) (k:Nat) (hk:k≤10000):Ct Tryz.prog 191 #[.int .i64 (k:Int),.pointer (some ⟨b4,0,none⟩)] [.cl b4 3 [.int .i64 left],.cl b5 3 [.int .i64 n],.cl b7 96 [.func (.func 188) #[] #[.pointer (some ⟨b4,0,none⟩)]]] (fun _=>True) (X:=Unit) (fun _=>.int .i64 left) (fun _=>True) (fun _=>[.cl b4 3 [.int .i64 left],.cl b5 3 [.int .i64 n],.cl b7 96 [.func (.func 188) #[] #[.pointer (some ⟨b4,0,none⟩)]]]):=by
  refine Ci fun w0 _=>?_;refine gg ?_;exact rt1 fun w hw=>⟨(),rfl,trivial,hw.pk⟩
theorem bf3_ct (b4 b5 b7:Nat) (left n:Int) (k:Nat) (hk:k≤10000):Ct Tryz.prog 192 #[.int .i64 (k:Int),.pointer (some ⟨b4,0,none⟩)] [.cl b4 3 [.int .i64 left],.cl b5 3 [.int .i64 n],.cl b7 96 [.func (.func 188) #[] #[.pointer (some ⟨b4,0,none⟩)]]] (fun _=>True) (X:=Unit) (fun _=>.int .i64 (divI left 2)) (fun _=>True) (fun _=>[.cl b4 3 [.int .i64 left],.cl b5 3 [.int .i64 n],.cl b7 96 [.func (.func 188) #[] #[.pointer (some ⟨b4,0,none⟩)]]]):=by
  refine Ci fun w0 _=>?_;refine gg ?_;refine vl (vC (div_any _ _ _)) ?_;refine gg ?_;exact rt1 fun w hw=>⟨(),rfl,trivial,hw.pk⟩
theorem bf4_ct (b4 b5 b7:Nat) (left n:Int) (k:Nat) (hk:k≤10000) (hn:0≤n∧n≤10000):Ct Tryz.prog 193 #[.int .i64 (k:Int),.pointer (some ⟨b7,0,none⟩),.pointer (some ⟨b5,0,none⟩)] [.cl b4 3 [.int .i64 left],.cl b5 3 [.int .i64 n],.cl b7 96 [.func (.func 188) #[] #[.pointer (some ⟨b4,0,none⟩)]]] (fun _=>True) (X:=Unit) (fun _=>.int .i64 (partJ left k (n - 1))) (fun _=>True) (fun _=>[.cl b4 3 [.int .i64 left],.cl b5 3 [.int .i64 n],.cl b7 96 [.func (.func 188) #[] #[.pointer (some ⟨b4,0,none⟩)]]]):=by
  refine Ci fun w0 _=>?_;refine n4 ?_;refine vl (v_load1 (u:=_) Tryz.isAgg96 rfl (fun w hw=>hw.cl_at (i:=2) rfl _ rfl)) ?_;refine gg ?_;refine eF (xV (bf1_ct b4 b5 b7 left n k (n - 1)) Tryz.call188) fun _ _=>?_;refine gg ?_;exact rt1 fun w hw=>⟨(),rfl,trivial,hw.pk⟩
theorem bf5_ct (b4 b5 b7:Nat) (left n:Int) (k:Nat) (hk:k≤10000) (hn:0≤n∧n≤10000):Ct Tryz.prog 194 #[.int .i64 (k:Int),.pointer (some ⟨b7,0,none⟩),.pointer (some ⟨b5,0,none⟩)] [.cl b4 3 [.int .i64 left],.cl b5 3 [.int .i64 n],.cl b7 96 [.func (.func 188) #[] #[.pointer (some ⟨b4,0,none⟩)]]] (fun _=>True) (X:=Unit) (fun _=>.int .i64 (partJ left (2*k+1) (2*n))) (fun _=>True) (fun _=>[.cl b4 3 [.int .i64 left],.cl b5 3 [.int .i64 n],.cl b7 96 [.func (.func 188) #[] #[.pointer (some ⟨b4,0,none⟩)]]]):=by
  refine Ci fun w0 _=>?_;refine n4 ?_;refine vl (v_load1 (u:=_) Tryz.isAgg96 rfl (fun w hw=>hw.cl_at (i:=2) rfl _ rfl)) ?_;refine gg ?_;refine eF (xV (bf1_ct b4 b5 b7 left n (2*k+1) (2*n)) Tryz.call188) fun _ _=>?_;refine gg ?_;exact rt1 fun w hw=>⟨(),rfl,trivial,hw.pk⟩
theorem bf6_ct (b4 b5 b7:Nat) (left n:Int) (k:Nat) (hk:k≤10000) (hn:0≤n∧n≤10000):Ct Tryz.prog 195 #[.int .i64 (k:Int),.pointer (some ⟨b7,0,none⟩),.pointer (some ⟨b5,0,none⟩)] [.cl b4 3 [.int .i64 left],.cl b5 3 [.int .i64 n],.cl b7 96 [.func (.func 188) #[] #[.pointer (some ⟨b4,0,none⟩)]]] (fun _=>True) (X:=Unit) (fun _=>.int .i64 (partJ left (k+1) (n+1))) (fun _=>True) (fun _=>[.cl b4 3 [.int .i64 left],.cl b5 3 [.int .i64 n],.cl b7 96 [.func (.func 188) #[] #[.pointer (some ⟨b4,0,none⟩)]]]):=by
  refine Ci fun w0 _=>?_;refine n4 ?_;refine vl (v_load1 (u:=_) Tryz.isAgg96 rfl (fun w hw=>hw.cl_at (i:=2) rfl _ rfl)) ?_;refine gg ?_;refine eF (xV (bf1_ct b4 b5 b7 left n (k+1) (n+1)) Tryz.call188) fun _ _=>?_;refine gg ?_;exact rt1 fun w hw=>⟨(),rfl,trivial,hw.pk⟩
theorem bf7_ct (b4 b5 b7:Nat) (left n:Int) (k:Nat) (hk:k≤10000):Ct Tryz.prog 196 #[.int .i64 (k:Int)] [.cl b4 3 [.int .i64 left],.cl b5 3 [.int .i64 n],.cl b7 96 [.func (.func 188) #[] #[.pointer (some ⟨b4,0,none⟩)]]] (fun _=>True) (X:=Unit) (fun _=>.int .i64 0) (fun _=>True) (fun _=>[.cl b4 3 [.int .i64 left],.cl b5 3 [.int .i64 n],.cl b7 96 [.func (.func 188) #[] #[.pointer (some ⟨b4,0,none⟩)]]]):=by
  refine Ci fun w0 _=>?_;refine gg ?_;exact rt1 fun w hw=>⟨(),rfl,trivial,hw.pk⟩
def BefOK (kind left n:Int) (p:Value×Nat×Nat×Nat):Prop:=
  ∃ (f : Nat) (cap : List Value), p.1 = .func (.func f) #[] cap.toArray ∧ (∀ args w, (callFunc f args).run Tryz.prog w = .ok (.enter f args) w) ∧
    ∀k:Nat,k≤10000→Ct Tryz.prog f (.int .i64 (k:Int)::cap).toArray [.cl p.2.1 3 [.int .i64 left],.cl p.2.2.1 3 [.int .i64 n],.cl p.2.2.2 96 [.func (.func 188) #[] #[.pointer (some ⟨p.2.1,0,none⟩)]]] (fun _=>True) (X:=Unit) (fun _=>.int .i64 (beforeP kind left n k)) (fun _=>True) (fun _=>[.cl p.2.1 3 [.int .i64 left],.cl p.2.2.1 3 [.int .i64 n],.cl p.2.2.2 96 [.func (.func 188) #[] #[.pointer (some ⟨p.2.1,0,none⟩)]]])
theorem before_ct (kind left n:Int) (hn:0≤n∧n≤10000):Ct Tryz.prog 181 #[.int .i64 kind,.int .i64 left,.int .i64 n] [] (fun _=>True) (X:=Value×Nat×Nat×Nat) (fun p=>p.1) (BefOK kind left n) (fun p=>[.cl p.2.1 3 [.int .i64 left],.cl p.2.2.1 3 [.int .i64 n],.cl p.2.2.2 96 [.func (.func 188) #[] #[.pointer (some ⟨p.2.1,0,none⟩)]]]):=by
  refine Ci fun w0 _=>?_;refine gg ?_;refine WPL.ef (x_box1 (u:=.int .i64 _) (σ':=fun _=>[_]) rfl (fun _=>rfl)) (fun b4=>?_);refine WPL.ef (x_box1 (u:=.int .i64 _) (σ':=fun _=>[_,_]) rfl (fun _=>rfl)) (fun b5=>?_);refine sg rfl ?_;refine n2 ?_;refine vl (v_func) ?_;refine WPL.ef xAl fun b7=>?_;refine WPL.ef0 (x_store (u:=_) (σ':=[_,_,.cl _ _ [_]]) Tryz.sizeOf96 rfl rfl (i:=2) rfl (Nat.lt_of_lt_of_le (Nat.lt_succ_self _) (Nat.le_of_ble_eq_true rfl)) rfl) (fun _=>?_);refine gg ?_;refine eF (xC (jof_ct kind left n)) fun _ _=>?_;refine gg ?_;refine WP.condP rfl (fun h13=>?_) (fun h13=>?_)
  ·have hq:kindJ kind left n=1:=h13;refine n1 ?_;refine vl (v_func) ?_;refine sg rfl ?_;refine gg ?_;exact WP.ret1 Tryz.results181 (fun _ h=>h) (fun w hw=>⟨(.func (.func 191) #[] ([.pointer (some ⟨b4,0,none⟩)]:List Value).toArray,b4,b5,b7),rfl,⟨_,[.pointer (some ⟨b4,0,none⟩)],rfl,Tryz.call191,fun k hk=>(by rw[bef1 _ hq];exact bf2_ct b4 b5 b7 left n k hk)⟩,(hw.sel [0,1,2] (by decide))⟩)
  ·refine gg ?_;refine WP.condP rfl (fun h16=>?_) (fun h16=>?_)
   ·have hq:kindJ kind left n=2:=h16;refine n1 ?_;refine vl (v_func) ?_;refine sg rfl ?_;refine gg ?_;exact WP.ret1 Tryz.results181 (fun _ h=>h) (fun w hw=>⟨(.func (.func 192) #[] ([.pointer (some ⟨b4,0,none⟩)]:List Value).toArray,b4,b5,b7),rfl,⟨_,[.pointer (some ⟨b4,0,none⟩)],rfl,Tryz.call192,fun k hk=>(by rw[bef2 _ hq];exact bf3_ct b4 b5 b7 left n k hk)⟩,(hw.sel [0,1,2] (by decide))⟩)
   ·refine gg ?_;refine WP.condP rfl (fun h19=>?_) (fun h19=>?_)
    ·have hq:kindJ kind left n=3:=h19;refine n1 ?_;refine vl (v_func) ?_;refine sg rfl ?_;refine gg ?_;exact WP.ret1 Tryz.results181 (fun _ h=>h) (fun w hw=>⟨(.func (.func 193) #[] ([.pointer (some ⟨b7,0,none⟩),.pointer (some ⟨b5,0,none⟩)]:List Value).toArray,b4,b5,b7),rfl,⟨_,[.pointer (some ⟨b7,0,none⟩),.pointer (some ⟨b5,0,none⟩)],rfl,Tryz.call193,fun k hk=>(by rw[bef3 _ hq];exact bf4_ct b4 b5 b7 left n k hk hn)⟩,(hw.sel [0,1,2] (by decide))⟩)
    ·refine gg ?_;refine WP.condP rfl (fun h22=>?_) (fun h22=>?_)
     ·have hq:kindJ kind left n=4:=h22;refine n1 ?_;refine vl (v_func) ?_;refine sg rfl ?_;refine gg ?_;exact WP.ret1 Tryz.results181 (fun _ h=>h) (fun w hw=>⟨(.func (.func 194) #[] ([.pointer (some ⟨b7,0,none⟩),.pointer (some ⟨b5,0,none⟩)]:List Value).toArray,b4,b5,b7),rfl,⟨_,[.pointer (some ⟨b7,0,none⟩),.pointer (some ⟨b5,0,none⟩)],rfl,Tryz.call194,fun k hk=>(by rw[bef4 _ hq];exact bf5_ct b4 b5 b7 left n k hk hn)⟩,(hw.sel [0,1,2] (by decide))⟩)
     ·refine gg ?_;refine WP.condP rfl (fun h25=>?_) (fun h25=>?_)
      ·have hq:kindJ kind left n=5:=h25;refine n1 ?_;refine vl (v_func) ?_;refine sg rfl ?_;refine gg ?_;exact WP.ret1 Tryz.results181 (fun _ h=>h) (fun w hw=>⟨(.func (.func 195) #[] ([.pointer (some ⟨b7,0,none⟩),.pointer (some ⟨b5,0,none⟩)]:List Value).toArray,b4,b5,b7),rfl,⟨_,[.pointer (some ⟨b7,0,none⟩),.pointer (some ⟨b5,0,none⟩)],rfl,Tryz.call195,fun k hk=>(by rw[bef5 _ hq];exact bf6_ct b4 b5 b7 left n k hk hn)⟩,(hw.sel [0,1,2] (by decide))⟩)
      ·have h14:=h13;have h17:=h16;have h20:=h19;have h23:=h22;have h26:=h25;refine n2 ?_;refine sg rfl ?_;refine gg ?_;exact WP.ret1 Tryz.results181 (fun _ h=>h) (fun w hw=>⟨(.func (.func 196) #[] ([]:List Value).toArray,b4,b5,b7),rfl,⟨_,[],rfl,Tryz.call196,fun k hk=>(by rw[bef0 _ h14 h17 h20 h23 h26];exact bf7_ct b4 b5 b7 left n k hk)⟩,(hw.sel [0,1,2] (by decide))⟩)
theorem starts_ct (kind:Int) (A:Option Addr) (c:Nat) (l:List Int) (room gap:Int) (hl:l.length≤10000):Ct Tryz.prog 170 #[.int .i64 kind,.slice A l.length c,.int .i64 room,.int .i64 gap] [] (fun w=>RdI w A l) (X:=Option Addr×Nat) (fun p=>.slice p.1 l.length p.2) (fun _=>True) (fun p=>[.row 3 1 p.1 l.length p.2 ((startsP kind l room gap).map (Value.int .i64))]):=by
  refine Ci fun w0 hz=>?_;refine gg ?_;refine eF (xC (long_ct A c l gap hl) (hF:=fun w hw=>hw.rd hz not_foots_nil)) fun _ _=>?_;refine vl (vC (sub_any _ _ _)) ?_;refine gg ?_;refine eF (xC (before_ct kind (subI room (longP l gap)) l.length (by omega))) fun⟨bv,b4,b5,b7⟩ ⟨sf,cap,hbv,hcf,hsh⟩=>?_;dsimp only at hbv hsh;subst hbv;refine sg (v:=.func (.func sf) #[] cap.toArray) rfl ?_;refine nl (oo ?_);refine sqR ?_;refine av ?_;refine nl (oo ?_);refine sqR ?_
  iterate 2 refine av ?_
  refine nl (oo ?_)
  iterate 2 refine sq ?_
  refine WP.pre ?_ (fun w hw=>hw.nilRow 3 1);refine gg ?_;refine WP.loopK (X:=Nat×Option Addr×Nat) [3,9,25,26] (fun p=>[(10,.slice p.2.1 p.1 p.2.2),(11,.int .i64 (jAt kind (subI room (longP l gap)) gap l p.1)),(12,.int .i64 (if p.1=0 then 0 else beforeP kind (subI room (longP l gap)) l.length ((p.1:Int) - 1))),(27,.int .i64 (p.1:Int))]) (fun p w=>p.1≤l.length∧St w0 (foots []) [.cl b4 3 [.int .i64 (subI room (longP l gap))],.cl b5 3 [.int .i64 (l.length:Int)],.cl b7 96 [.func (.func 188) #[] #[.pointer (some ⟨b4,0,none⟩)]],.row 3 1 p.2.1 p.1 p.2.2 (((startsP kind l room gap).take p.1).map (Value.int .i64))] w) (fun p=>l.length - p.1) (0,none,0) ⟨rfl,congrArg (Value.int .i64) (by rw[jAt]),rfl,rfl,trivial⟩ (fun w hw=>⟨Nat.zero_le _,by simpa using hw⟩) (fun p ρ0=>?_);obtain⟨k,oA,oc⟩:=p;dsimp only;refine WP.fact (fun hkl=>?_);refine gg ?_;refine WP.condP rfl (fun h28=>?_) (fun h28=>?_)
  ·obtain⟨x,hx⟩:∃x,l[k]?=some x:=⟨_,List.getElem?_eq_getElem (by omega)⟩;obtain⟨ab,ao,rfl,hc⟩:=hz k x hx;refine gg ?_;refine vl (vO hc) ?_;refine gg ?_;refine WP.condP rfl (fun h33=>?_) (fun h33=>?_)
   case' _=>
    have hgap:(if k=0 then jAt kind (subI room (longP l gap)) gap l k else addI (jAt kind (subI room (longP l gap)) gap l k) gap)=addI (jAt kind (subI room (longP l gap)) gap l k) gap:=by rw[if_neg (by omega)]
    refine gg ?_;refine vl (vC (add_any _ _ _)) ?_;refine n3 ?_
   rotate_left
   case' _=>
    have hgap:(if k=0 then jAt kind (subI room (longP l gap)) gap l k else addI (jAt kind (subI room (longP l gap)) gap l k) gap)=jAt kind (subI room (longP l gap)) gap l k:=by rw[if_pos (by omega)]
    refine n2 ?_
   all_goals
    refine mv rfl ?_;refine gg ?_;refine eF (xV (hsh k (by omega)) hcf) fun _ _=>?_;refine n3 ?_;have hbl:-1099511627776≤(subI room (longP l gap))∧(subI room (longP l gap))≤1099511627776:=subI_bd _ _;have hb1:=beforeP_bd (kind:=kind) (n:=(l.length:Int)) (k:=(k:Int)) hbl;have hb2:=beforeP_bd (kind:=kind) (n:=(l.length:Int)) (k:=(k:Int) - 1) hbl;rw[←hgap];refine n3 ?_;refine vl (v_sub rfl rfl (by split<;>omega)) ?_;refine vl (vC (add_any _ _ _)) ?_;refine gg ?_;refine WPL.ef (xN (L1 rfl)) fun g48=>?_;refine WPL.ef (xP 0 4) fun⟨A49,c49⟩=>?_;refine gg ?_;refine vl (vC (add_any _ _ _)) ?_;refine n5 ?_;exact nl fun w hw=>⟨rfl,(k+1,A49,c49),(by simp only;omega),⟨rfl,(congrArg (Value.int .i64) (jAt_succ hx)),(congrArg (Value.int .i64) (by simp only;rw[if_neg (by omega),show ((k+1:Nat):Int) - 1=(k:Int) by omega])),rfl,jI,rfl,jS,jI,trivial⟩,⟨by simp only;omega,by simp only;rw[starts_take kind l room gap (by omega),List.map_append];exact(hw.sel [1,2,3,0] (by decide))⟩⟩
  ·obtain rfl:k=l.length:=by omega
   have htk:(startsP kind l room gap).take l.length=startsP kind l room gap:=List.take_of_length_le (by rw[starts_len];omega);refine WP.exit (onto_of ?_);refine gg ?_;exact rt1 fun w hw=>⟨(oA,oc),rfl,trivial,by rw[←htk];exact hw.pk⟩
theorem rpart_ct (left k n:Int):Ct Tryz.prog 171 #[.int .i64 left,.int .i64 k,.int .i64 n] [] (fun _=>True) (X:=Unit) (fun _=>.int .i64 (partJ left k n)) (fun _=>True) (fun _=>[]):=by
  refine Ci fun w0 _=>?_;refine gg ?_;refine eF (xC (rmul_ct left k)) fun _ _=>?_;refine gg ?_;refine vl (vC (rdiv_any _ _ _)) ?_;refine gg ?_;exact rt1 fun w hw=>⟨(),rfl,trivial,hw.pk⟩
theorem rahead_ct (kind left n:Int) (k:Nat) (hk:k≤10000) (hn:0≤n∧n≤10000):Ct Tryz.prog 153 #[.int .i64 kind,.int .i64 left,.int .i64 (k:Int),.int .i64 n] [] (fun _=>True) (X:=Unit) (fun _=>.int .i64 (aheadP kind left n k)) (fun _=>True) (fun _=>[]):=by
  refine Ci fun w0 _=>?_;refine n3 ?_;refine WP.midS [1,2,3] [(0,.int .i64 (if (kind=4∨kind=5)∧left≤0 then 2 else kind))] ?_ (fun ρ0=>?_)
  ·refine n4 ?_;refine WPL.split 11 rfl (fun h11=>?_) (fun h11=>?_)
   ·refine gg ?_;refine WP.condP rfl (fun h18=>?_) (fun h18=>?_)
    ·refine n2 ?_;exact nl fun w hw=>⟨rfl,⟨(congrArg (Value.int .i64) (by first | (rw[if_pos (by omega)];done) | (rw[if_neg (by omega)];done))),jI,jI,jI,trivial⟩,hw⟩
    ·exact WP.skip fun w hw=>⟨rfl,⟨(congrArg (Value.int .i64) (by first | (rw[if_pos (by omega)];done) | (rw[if_neg (by omega)];done))),jI,jI,jI,trivial⟩,hw⟩
   ·refine n4 ?_;refine WPL.split 15 rfl (fun h15=>?_) (fun h15=>?_)
    ·refine gg ?_;refine WP.condP rfl (fun h18=>?_) (fun h18=>?_)
     ·refine n2 ?_;exact nl fun w hw=>⟨rfl,⟨(congrArg (Value.int .i64) (by first | (rw[if_pos (by omega)];done) | (rw[if_neg (by omega)];done))),jI,jI,jI,trivial⟩,hw⟩
     ·exact WP.skip fun w hw=>⟨rfl,⟨(congrArg (Value.int .i64) (by first | (rw[if_pos (by omega)];done) | (rw[if_neg (by omega)];done))),jI,jI,jI,trivial⟩,hw⟩
    ·refine gg ?_;refine WP.condF rfl ?_;exact WP.skip fun w hw=>⟨rfl,⟨(congrArg (Value.int .i64) (by first | (rw[if_pos (by omega)];done) | (rw[if_neg (by omega)];done))),jI,jI,jI,trivial⟩,hw⟩
  ·refine WP.midS [1,2,3] [(0,.int .i64 (kindJ kind left n))] ?_ (fun ρ0=>?_)
   ·refine n4 ?_;refine WPL.split 21 rfl (fun h21=>?_) (fun h21=>?_)
    ·refine n3 ?_;refine WPL.split 24 rfl (fun h24=>?_) (fun h24=>?_)
     ·refine gg ?_;refine WP.condT rfl ?_;refine n2 ?_;exact nl fun w hw=>⟨rfl,⟨(congrArg (Value.int .i64) (by rw[kindJ_two rfl];generalize (if (kind=4∨kind=5)∧left≤0 then 2 else kind)=k1 at*;first | (rw[if_pos (by omega)];done) | (rw[if_neg (by omega)];done))),jI,jI,jI,trivial⟩,hw⟩
     ·refine gg ?_;refine WP.condP rfl (fun h28=>?_) (fun h28=>?_)
      ·refine n2 ?_;exact nl fun w hw=>⟨rfl,⟨(congrArg (Value.int .i64) (by rw[kindJ_two rfl];generalize (if (kind=4∨kind=5)∧left≤0 then 2 else kind)=k1 at*;first | (rw[if_pos (by omega)];done) | (rw[if_neg (by omega)];done))),jI,jI,jI,trivial⟩,hw⟩
      ·exact WP.skip fun w hw=>⟨rfl,⟨(congrArg (Value.int .i64) (by rw[kindJ_two rfl];generalize (if (kind=4∨kind=5)∧left≤0 then 2 else kind)=k1 at*;first | (rw[if_pos (by omega)];done) | (rw[if_neg (by omega)];done))),jI,jI,jI,trivial⟩,hw⟩
    ·refine gg ?_;refine WP.condF rfl ?_;exact WP.skip fun w hw=>⟨rfl,⟨(congrArg (Value.int .i64) (by rw[kindJ_two rfl];generalize (if (kind=4∨kind=5)∧left≤0 then 2 else kind)=k1 at*;first | (rw[if_pos (by omega)];done) | (rw[if_neg (by omega)];done))),jI,jI,jI,trivial⟩,hw⟩
   ·refine gg ?_;refine WP.condP rfl (fun h30=>?_) (fun h30=>?_)
    case' _=>
     have hkd:k=0:=by omega
     refine gg ?_;refine WP.condP rfl (fun h32=>?_) (fun h32=>?_);rotate_left
     case' _=>
      refine gg ?_;refine WP.condP rfl (fun h35=>?_) (fun h35=>?_)
      case' _=>
       refine gg ?_;refine vl (vC (rdiv_any _ _ _)) ?_
      rotate_left
      case' _=>
       refine gg ?_;refine WP.condP rfl (fun h39=>?_) (fun h39=>?_)
       case' _=>
        refine gg ?_;refine eF (xC (rpart_ct left (1) (2*n))) fun _ _=>?_
       rotate_left
       case' _=>
        refine gg ?_;refine WP.condP rfl (fun h45=>?_) (fun h45=>?_)
        case' _=>
         refine gg ?_;refine eF (xC (rpart_ct left (1) (n+1))) fun _ _=>?_
        rotate_left
    rotate_left 5
    case' _=>
     refine gg ?_;refine WP.condP rfl (fun h52=>?_) (fun h52=>?_)
     case' _=>
      refine gg ?_;refine eF (xC (rpart_ct left (k) (n - 1))) fun _ _=>?_;refine gg ?_;refine eF (xC (rpart_ct left (k - 1) (n - 1))) fun _ _=>?_;refine vl (v_sub rfl rfl (by have h1:=divI_bd (mulI left k) (n - 1);have h2:=divI_bd (mulI left (k - 1)) (n - 1);unfold partJ;omega)) ?_
     rotate_left
     case' _=>
      refine gg ?_;refine WP.condP rfl (fun h66=>?_) (fun h66=>?_)
      case' _=>
       refine gg ?_;refine eF (xC (rpart_ct left (2*k+1) (2*n))) fun _ _=>?_;refine gg ?_;refine eF (xC (rpart_ct left (2*k - 1) (2*n))) fun _ _=>?_;refine vl (v_sub rfl rfl (by have h1:=divI_bd (mulI left (2*k+1)) (2*n);have h2:=divI_bd (mulI left (2*k - 1)) (2*n);unfold partJ;omega)) ?_
      rotate_left
      case' _=>
       refine gg ?_;refine WP.condP rfl (fun h83=>?_) (fun h83=>?_)
       case' _=>
        refine gg ?_;refine eF (xC (rpart_ct left (k+1) (n+1))) fun _ _=>?_;refine gg ?_;refine eF (xC (rpart_ct left (k) (n+1))) fun _ _=>?_;refine vl (v_sub rfl rfl (by have h1:=divI_bd (mulI left (k+1)) (n+1);have h2:=divI_bd (mulI left k) (n+1);unfold partJ;omega)) ?_
       rotate_left
    all_goals
     refine gg ?_;exact rt1 fun w hw=>⟨(),congrArg (Value.int .i64) (by first | (rw[ahead1 k (by omega)];simp_all;done) | (rw[ahead2 k (by omega)];simp_all;done) | (rw[ahead3 k (by omega)];simp_all;done) | (rw[ahead4 k (by omega)];simp_all;done) | (rw[ahead5 k (by omega)];simp_all;done) | (rw[aheadZ (by omega) (by omega) (by omega) (by omega) (by omega)];done) | (rw[aheadR (by omega) (by omega) (by omega) (by omega)])),trivial,hw.pk⟩
theorem rstarts_ct (kind:Int) (A:Option Addr) (c:Nat) (l:List Int) (room gap:Int) (hl:l.length≤10000):Ct Tryz.prog 127 #[.int .i64 kind,.slice A l.length c,.int .i64 room,.int .i64 gap] [] (fun w=>RdI w A l) (X:=Option Addr×Nat) (fun p=>.slice p.1 l.length p.2) (fun _=>True) (fun p=>[.row 3 1 p.1 l.length p.2 ((startsP kind l room gap).map (Value.int .i64))]):=by
  refine Ci fun w0 hz=>?_;refine gg ?_;refine eF (xC (rlong_ct A c l gap hl) (hF:=fun w hw=>hw.rd hz not_foots_nil)) fun _ _=>?_;refine vl (vC (rsub_any _ _ _)) ?_;refine av ?_;refine nl (oo ?_);refine sq ?_;refine WP.pre ?_ (fun w hw=>hw.nilRow 3 1);refine gg ?_;refine WP.loopK (X:=Nat×Option Addr×Nat) [0,1,3,10] (fun p=>[(9,.slice p.2.1 p.1 p.2.2),(11,.int .i64 (jAt kind (subI room (longP l gap)) gap l p.1)),(12,.int .i64 (p.1:Int))]) (fun p w=>p.1≤l.length∧St w0 (foots []) [.row 3 1 p.2.1 p.1 p.2.2 (((startsP kind l room gap).take p.1).map (Value.int .i64))] w) (fun p=>l.length - p.1) (0,none,0) ⟨rfl,congrArg (Value.int .i64) (by rw[jAt]),rfl,trivial⟩ (fun w hw=>⟨Nat.zero_le _,by simpa using hw⟩) (fun p ρ0=>?_);obtain⟨k,oA,oc⟩:=p;dsimp only;refine WP.fact (fun hkl=>?_);refine gg ?_;refine WP.condP rfl (fun h21=>?_) (fun h21=>?_)
  ·obtain⟨x,hx⟩:∃x,l[k]?=some x:=⟨_,List.getElem?_eq_getElem (by omega)⟩;obtain⟨ab,ao,rfl,hc⟩:=hz k x hx;refine gg ?_;refine WP.condP rfl (fun h25=>?_) (fun h25=>?_)
   case' _=>
    have hgap:(if k=0 then jAt kind (subI room (longP l gap)) gap l k else addI (jAt kind (subI room (longP l gap)) gap l k) gap)=addI (jAt kind (subI room (longP l gap)) gap l k) gap:=by rw[if_neg (by omega)]
    refine gg ?_;refine vl (vC (radd_any _ _ _)) ?_;refine n3 ?_
   rotate_left
   case' _=>
    have hgap:(if k=0 then jAt kind (subI room (longP l gap)) gap l k else addI (jAt kind (subI room (longP l gap)) gap l k) gap)=jAt kind (subI room (longP l gap)) gap l k:=by rw[if_pos (by omega)]
    refine n2 ?_
   all_goals
    rw[←hgap];refine gg ?_;refine eF (xC (rahead_ct kind (subI room (longP l gap)) l.length k (by omega) (by omega))) fun _ _=>?_;refine vl (vC (radd_any _ _ _)) ?_;refine gg ?_;refine WPL.ef (xN (L1 rfl)) fun g39=>?_;refine WPL.ef (xP 0 1) fun⟨A40,c40⟩=>?_;refine gg ?_;refine vl (vO hc) ?_;refine vl (vC (radd_any _ _ _)) ?_;refine n6 ?_;exact nl fun w hw=>⟨rfl,(k+1,A40,c40),(by simp only;omega),⟨rfl,(congrArg (Value.int .i64) (jAt_succ hx)),rfl,jI,jS,jI,jI,trivial⟩,⟨by simp only;omega,by simp only;rw[starts_take kind l room gap (by omega),List.map_append];exact(hw.sel [0] (by decide))⟩⟩
  ·obtain rfl:k=l.length:=by omega
   have htk:(startsP kind l room gap).take l.length=startsP kind l room gap:=List.take_of_length_le (by rw[starts_len];omega);refine WP.exit (onto_of ?_);refine gg ?_;exact rt1 fun w hw=>⟨(oA,oc),rfl,trivial,by rw[←htk];exact hw.pk⟩
end Go.Proofs.YtpgjbbaplpdaiaaGreat
