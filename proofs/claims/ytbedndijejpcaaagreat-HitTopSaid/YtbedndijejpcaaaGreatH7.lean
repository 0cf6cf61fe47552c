/- RecCat RecValid Tree RefT TreeRead -/
import Derived.Test.YtbedndijejpcaaaGreatH6
set_option linter.unusedVariables false
set_option linter.unusedSimpArgs false
set_option linter.unusedSectionVars false
set_option maxRecDepth 100000
set_option maxHeartbeats 8000000
namespace Go.Proofs.YtbedndijejpcaaaGreat
open Go.RowKit
theorem mj:(Tryz.prog.info? 33).map (fun i=>(i.zero,i.size,i.bytes))=some (some (.agg #[.int .i64 0,.int .i64 0]),2,16):=by kernel_rfl
theorem yH {α:Type} {p:α→Bool} {l:List α} {k:Nat} {x:α} (h:(l.take k).any p=false) (hx:l[k]?=some x) (hp:p x=false):(l.take (k+1)).any p=false:=by
  rw[List.take_add_one,hx,List.any_append,h];simp[hp]
theorem w4 {α:Type} {p:α→Bool} {l:List α} {k:Nat} {x:α} (hx:l[k]?=some x) (hp:p x=true):l.any p=true:=List.any_eq_true.2 ⟨x,List.mem_of_getElem? hx,hp⟩
abbrev RC (p:Int×Int):List Value:=[.int .i64 p.1,.int .i64 p.2]
theorem Er (k n:Int):Ct Tryz.prog 97 #[.agg #[.int .i64 k,.int .i64 n]] [] (fun _=>True) (X:=Unit) (fun _=>.bool (!jt k n)) (fun _=>True) (fun _=>[]):=by
  refine Ci fun w0 _=>?_;refine gg ?_;refine aj.ef xB fun b1=>?_;refine gg ?_;refine eF (xC (yj k n)) fun _ _=>?_;refine gg ?_;exact aT fun w hw=>⟨(),rfl,trivial,hw.pk⟩
theorem E7 (n:Int):Ct Tryz.prog 99 #[.int .i64 n] [] (fun _=>True) (X:=Unit) (fun _=>.bool (!within n 0 1048576)) (fun _=>True) (fun _=>[]):=by
  refine Ci fun w0 _=>?_;refine gg ?_;refine vl (vC (mW _ 0 1048576 _)) ?_;refine gg ?_;exact aT fun w hw=>⟨(),rfl,trivial,hw.pk⟩
theorem Be (n:Nat) (h0:0<n) (hn:n≤1000):Ct Tryz.prog 141 #[.slice none 0 0,.int .i64 n] [] (fun _=>True) (X:=Nat×Nat) (fun p=>.slice (some ⟨p.1,0,none⟩) 0 p.2) (fun _=>True) (fun p=>[.row 33 2 (some ⟨p.1,0,none⟩) 0 p.2 []]):=by
  refine Ci fun w0 _=>?_;refine gg ?_;refine WP.aw rfl (fun h=>absurd h (by omega)) (fun h6=>?_);refine cR ?_;refine vl (x7 Tryz.underlying156 rfl) ?_;refine gg ?_;refine WP.aw rfl (fun h16=>?_) (fun h=>absurd (by omega) h);refine cK ?_;refine vl (x7 Tryz.underlying156 rfl) ?_;refine vl (cD (kl:=0) (l:=0) (h:=0) Tryz.underlying156 Tryz.sizeOf33 rfl rfl ⟨rfl,rfl⟩ (by omega) (by omega)) ?_;refine gg ?_;refine aj.ef (Ha (n:=n) (σ':=fun _=>[_]) Tryz.underlying156 Tryz.underlying3 mj rfl (by decide) rfl rfl (by omega) h0 hn (by decide) (fun _=>rfl)) (fun⟨g,c22⟩=>?_);refine aj.fact (fun hcap=>?_);refine bW ?_;refine vl (cD (kl:=0) (l:=0) (h:=0) Tryz.underlying156 Tryz.sizeOf33 rfl rfl ⟨rfl,rfl⟩ (by omega) (by omega)) ?_;simp only[fQ];refine gg ?_;exact aT fun w hw=>⟨(g,c22),rfl,trivial,hw⟩
theorem Bc (n:Nat) (h0:0<n) (hn:n≤1000):Ct Tryz.prog 142 #[.slice none 0 0,.int .i64 n] [] (fun _=>True) (X:=Nat×Nat) (fun p=>.slice (some ⟨p.1,0,none⟩) 0 p.2) (fun _=>True) (fun p=>[.row 3 1 (some ⟨p.1,0,none⟩) 0 p.2 []]):=by
  refine Ci fun w0 _=>?_;refine gg ?_;refine WP.aw rfl (fun h=>absurd h (by omega)) (fun h6=>?_);refine cR ?_;refine vl (x7 Tryz.underlying49 rfl) ?_;refine gg ?_;refine WP.aw rfl (fun h16=>?_) (fun h=>absurd (by omega) h);refine cK ?_;refine vl (x7 Tryz.underlying49 rfl) ?_;refine vl (cD (kl:=0) (l:=0) (h:=0) Tryz.underlying49 Tryz.sizeOf3 rfl rfl ⟨rfl,rfl⟩ (by omega) (by omega)) ?_;refine gg ?_;refine aj.ef (Ha (n:=n) (σ':=fun _=>[_]) Tryz.underlying49 Tryz.underlying3 cT rfl (by decide) rfl rfl (by omega) h0 hn (by decide) (fun _=>rfl)) (fun⟨g,c22⟩=>?_);refine aj.fact (fun hcap=>?_);refine bW ?_;refine vl (cD (kl:=0) (l:=0) (h:=0) Tryz.underlying49 Tryz.sizeOf3 rfl rfl ⟨rfl,rfl⟩ (by omega) (by omega)) ?_;simp only[fQ];refine gg ?_;exact aT fun w hw=>⟨(g,c22),rfl,trivial,hw⟩
theorem Aq (A:Option Addr) (c:Nat) (l:List (Int×Int)) (hl:l.length≤1000):Ct Tryz.prog 143 #[.slice A l.length c,.func (.func 97) #[] #[]] [] (fun w=>jL w A 2 RC l) (X:=Int) (fun z=>.int .i64 z) (fun z=>(0≤z↔l.any (fun p=> !jt p.1 p.2)=true)∧z≤1000) (fun _=>[]):=by
  refine Ci fun w0 hz=>?_;refine gg ?_;refine WP.bm (X:=Nat) [0,1,7] (fun k=>[(8,.int .i64 (k:Int))]) (fun k w=>(k≤l.length∧(l.take k).any (fun p=> !jt p.1 p.2)=false)∧St w0 (ay []) [] w) (fun k=>l.length - k) 0 ⟨rfl,trivial⟩ (fun w hw=>⟨⟨by omega,by simp⟩,hw⟩) (fun k ρ0=>?_);refine WP.fact (fun⟨hk,ht⟩=>?_);refine gg ?_;refine WP.aw rfl (fun h9=>?_) (fun h9=>?_)
  ·have hk':k<l.length:=by omega
   obtain⟨x,hx⟩:∃x,l[k]?=some x:=⟨_,List.getElem?_eq_getElem hk'⟩;obtain⟨b,o,rfl,hc⟩:=hz k x hx;refine uw ?_;refine mv rfl ?_;refine cK ?_;refine vl (au (cs:=[.int .i64 _,.int .i64 _]) Tryz.isAgg33 Tryz.sizeOf33 rfl (fun w hw=>hw.cW hc (ax _))) ?_;refine eF (xV (Er x.1 x.2) Tryz.call97) fun _ _=>?_;refine gg ?_;refine WP.cond rfl (fun h16=>?_) (fun h16=>?_)
   ·refine gg ?_;exact aT fun w hw=>⟨_,rfl,by first | exact⟨⟨fun _=>w4 hx h16,fun _=>by omega⟩,by omega⟩ | exact⟨⟨fun h=>absurd h (by decide),fun h=>by rw[hall] at h;cases h⟩,by decide⟩,hw⟩
   ·refine bS ?_;exact nl fun w hw=>⟨rfl,k+1,(by omega),⟨rfl,jS,rfl,jI,trivial⟩,⟨by omega,yH ht hx h16⟩,hw⟩
  ·have hall:l.any (fun p=> !jt p.1 p.2)=false:=by rw[List.take_of_length_le (by omega)] at ht;exact ht
   refine WP.exit (an ?_);refine gg ?_;exact aT fun w hw=>⟨_,rfl,by first | exact⟨⟨fun _=>w4 hx h16,fun _=>by omega⟩,by omega⟩ | exact⟨⟨fun h=>absurd h (by decide),fun h=>by rw[hall] at h;cases h⟩,by decide⟩,hw⟩
theorem sQ (A:Option Addr) (c:Nat) (l:List (Int×Int)) (hl:l.length≤1000):Ct Tryz.prog 108 #[.slice A l.length c,.func (.func 97) #[] #[]] [] (fun w=>jL w A 2 RC l) (X:=Unit) (fun _=>.bool (l.any (fun p=> !jt p.1 p.2))) (fun _=>True) (fun _=>[]):=by
  refine Ci fun w0 hz=>?_;refine cR ?_;refine mv rfl ?_;refine eF (xC (Aq A c l hl) (hF:=fun w hw=>hw.rd hz (ax))) fun z ⟨hz1,hz2⟩=>?_;refine gg ?_;exact aT fun w hw=>⟨(),congrArg Value.bool (by rw[Bool.eq_iff_iff,decide_eq_true_iff];exact hz1),trivial,hw⟩
theorem yI (A:Option Addr) (c:Nat) (l:List Int) (hl:l.length≤1000):Ct Tryz.prog 144 #[.slice A l.length c,.func (.func 99) #[] #[]] [] (fun w=>jL w A 1 encI l) (X:=Int) (fun z=>.int .i64 z) (fun z=>(0≤z↔l.any (fun n=> !within n 0 1048576)=true)∧z≤1000) (fun _=>[]):=by
  refine Ci fun w0 hz=>?_;refine gg ?_;refine WP.bm (X:=Nat) [0,1,7] (fun k=>[(8,.int .i64 (k:Int))]) (fun k w=>(k≤l.length∧(l.take k).any (fun n=> !within n 0 1048576)=false)∧St w0 (ay []) [] w) (fun k=>l.length - k) 0 ⟨rfl,trivial⟩ (fun w hw=>⟨⟨by omega,by simp⟩,hw⟩) (fun k ρ0=>?_);refine WP.fact (fun⟨hk,ht⟩=>?_);refine gg ?_;refine WP.aw rfl (fun h9=>?_) (fun h9=>?_)
  ·have hk':k<l.length:=by omega
   obtain⟨x,hx⟩:∃x,l[k]?=some x:=⟨_,List.getElem?_eq_getElem hk'⟩;obtain⟨b,o,rfl,hc⟩:=hz k x hx;refine uw ?_;refine mv rfl ?_;refine gg ?_;refine vl (vO hc) ?_;refine eF (xV (E7 x) Tryz.call99) fun _ _=>?_;refine gg ?_;refine WP.cond rfl (fun h16=>?_) (fun h16=>?_)
   ·refine gg ?_;exact aT fun w hw=>⟨_,rfl,by first | exact⟨⟨fun _=>w4 hx h16,fun _=>by omega⟩,by omega⟩ | exact⟨⟨fun h=>absurd h (by decide),fun h=>by rw[hall] at h;cases h⟩,by decide⟩,hw⟩
   ·refine bS ?_;exact nl fun w hw=>⟨rfl,k+1,(by omega),⟨rfl,jS,rfl,jI,trivial⟩,⟨by omega,yH ht hx h16⟩,hw⟩
  ·have hall:l.any (fun n=> !within n 0 1048576)=false:=by rw[List.take_of_length_le (by omega)] at ht;exact ht
   refine WP.exit (an ?_);refine gg ?_;exact aT fun w hw=>⟨_,rfl,by first | exact⟨⟨fun _=>w4 hx h16,fun _=>by omega⟩,by omega⟩ | exact⟨⟨fun h=>absurd h (by decide),fun h=>by rw[hall] at h;cases h⟩,by decide⟩,hw⟩
theorem sK (A:Option Addr) (c:Nat) (l:List Int) (hl:l.length≤1000):Ct Tryz.prog 109 #[.slice A l.length c,.func (.func 99) #[] #[]] [] (fun w=>jL w A 1 encI l) (X:=Unit) (fun _=>.bool (l.any (fun n=> !within n 0 1048576))) (fun _=>True) (fun _=>[]):=by
  refine Ci fun w0 hz=>?_;refine cR ?_;refine mv rfl ?_;refine eF (xC (yI A c l hl) (hF:=fun w hw=>hw.rd hz (ax))) fun z ⟨hz1,hz2⟩=>?_;refine gg ?_;exact aT fun w hw=>⟨(),congrArg Value.bool (by rw[Bool.eq_iff_iff,decide_eq_true_iff];exact hz1),trivial,hw⟩
theorem zY (ob oc:Nat) (A0 A1 A2:Option Addr) (c0 c1 c2:Nat) (xs0 xs1 xs2:List Value) (hl0:xs0.length=7*2) (hl1:xs1.length=4*2) (hl2:xs2.length=4*2) (h1:∀u∈xs0++xs1++xs2,u.oneCell'=true):
    Ct Tryz.prog 95 #[.slice (some ⟨ob,0,none⟩) 3 oc] [] (fun w=>aJ w ob 0 [.slice A0 7 c0]∧aJ w ob 1 [.slice A1 4 c1]∧aJ w ob 2 [.slice A2 4 c2]∧Src w A0 7 xs0∧Src w A1 4 xs1∧Src w A2 4 xs2) (X:=Nat×Nat) (fun p=>.slice (some ⟨p.1,0,none⟩) 15 p.2) (fun _=>True) (fun p=>[.row 33 2 (some ⟨p.1,0,none⟩) 15 p.2 (xs0++xs1++xs2)]):=by
  refine Ci fun w0 ⟨ho0,ho1,ho2,hs0,hs1,hs2⟩=>?_;refine gg ?_;refine WP.jH 4 ?_;refine fS.succ ?_;refine gg ?_;refine WP.aQ rfl ?_;refine gg ?_;refine vl (vO ho0) ?_;refine gg ?_;refine WP.br rfl ?_;refine bS ?_;refine aj.nil (aI ?_);refine fS.succ ?_;refine gg ?_;refine WP.aQ rfl ?_;refine bS ?_;refine vl (bG (j:=1) Tryz.underlying202 Tryz.sizeOf156 rfl rfl rfl (by omega)) ?_;refine vl (ai (u:=.slice _ _ _) Tryz.isAgg156 rfl (fun w hw=>hw.cW ho1 (ax _))) ?_;refine gg ?_;refine WP.br rfl ?_;refine bS ?_;refine aj.nil (aI ?_);refine fS.succ ?_;refine gg ?_;refine WP.aQ rfl ?_;refine bS ?_;refine vl (bG (j:=2) Tryz.underlying202 Tryz.sizeOf156 rfl rfl rfl (by omega)) ?_;refine vl (ai (u:=.slice _ _ _) Tryz.isAgg156 rfl (fun w hw=>hw.cW ho2 (ax _))) ?_;refine gg ?_;refine WP.br rfl ?_;refine bS ?_;refine aj.nil (aI ?_);refine fS.succ ?_;refine gg ?_;refine WP.br rfl ?_;refine WP.exit (an ?_);refine gg ?_;refine eF (xC (Be 15 (by decide) (by decide))) fun⟨b24,c24⟩ _=>?_;refine gg ?_;refine WP.jH 4 ?_;refine fS.succ ?_;refine gg ?_;refine WP.aQ rfl ?_;refine gg ?_;refine vl (vO ho0) ?_;refine gg ?_;refine aj.ef (cm (sz:=2) (m:=7) (news:=xs0) (σ':=fun p=>[.row 33 2 p.1 _ p.2 _]) Tryz.underlying156 mj rfl (by decide) rfl rfl (i:=0) rfl (fun w hw=>hw.ki hs0 (fun _ _=>ax _)) hl0 (fun u hu=>h1 u (by simp[hu])) (by omega) (by omega) (fun _=>rfl)) (fun⟨B0,d0⟩=>?_);refine cR ?_;refine aj.nil (aI ?_);refine fS.succ ?_;refine gg ?_;refine WP.aQ rfl ?_;refine bS ?_;refine vl (bG (j:=1) Tryz.underlying202 Tryz.sizeOf156 rfl rfl rfl (by omega)) ?_;refine vl (ai (u:=.slice _ _ _) Tryz.isAgg156 rfl (fun w hw=>hw.cW ho1 (ax _))) ?_;refine gg ?_;refine aj.ef (cm (sz:=2) (m:=4) (news:=xs1) (σ':=fun p=>[.row 33 2 p.1 _ p.2 _]) Tryz.underlying156 mj rfl (by decide) rfl rfl (i:=0) rfl (fun w hw=>hw.ki hs1 (fun _ _=>ax _)) hl1 (fun u hu=>h1 u (by simp[hu])) (by omega) (by omega) (fun _=>rfl)) (fun⟨B1,d1⟩=>?_);refine cR ?_;refine aj.nil (aI ?_);refine fS.succ ?_;refine gg ?_;refine WP.aQ rfl ?_;refine bS ?_;refine vl (bG (j:=2) Tryz.underlying202 Tryz.sizeOf156 rfl rfl rfl (by omega)) ?_;refine vl (ai (u:=.slice _ _ _) Tryz.isAgg156 rfl (fun w hw=>hw.cW ho2 (ax _))) ?_;refine gg ?_;refine aj.ef (cm (sz:=2) (m:=4) (news:=xs2) (σ':=fun p=>[.row 33 2 p.1 _ p.2 _]) Tryz.underlying156 mj rfl (by decide) rfl rfl (i:=0) rfl (fun w hw=>hw.ki hs2 (fun _ _=>ax _)) hl2 (fun u hu=>h1 u (by simp[hu])) (by omega) (by omega) (fun _=>rfl)) (fun⟨B2,d2⟩=>?_);refine cR ?_;refine aj.nil (aI ?_);refine fS.succ ?_;refine gg ?_;refine WP.br rfl ?_;refine WP.exit (an ?_);refine gg ?_;exact aT fun w hw=>by obtain⟨bb,hbb⟩:=hw.aM (i:=0) rfl (by decide);subst hbb;exact⟨(bb,d2),rfl,trivial,hw⟩
theorem zJ (ob oc:Nat) (A0 A1 A2 A3:Option Addr) (c0 c1 c2 c3:Nat) (xs0 xs1 xs2 xs3:List Value) (hl0:xs0.length=1*1) (hl1:xs1.length=4*1) (hl2:xs2.length=4*1) (hl3:xs3.length=2*1) (h1:∀u∈xs0++xs1++xs2++xs3,u.oneCell'=true):
    Ct Tryz.prog 96 #[.slice (some ⟨ob,0,none⟩) 4 oc] [] (fun w=>aJ w ob 0 [.slice A0 1 c0]∧aJ w ob 1 [.slice A1 4 c1]∧aJ w ob 2 [.slice A2 4 c2]∧aJ w ob 3 [.slice A3 2 c3]∧Src w A0 1 xs0∧Src w A1 4 xs1∧Src w A2 4 xs2∧Src w A3 2 xs3) (X:=Nat×Nat) (fun p=>.slice (some ⟨p.1,0,none⟩) 11 p.2) (fun _=>True) (fun p=>[.row 3 1 (some ⟨p.1,0,none⟩) 11 p.2 (xs0++xs1++xs2++xs3)]):=by
  refine Ci fun w0 ⟨ho0,ho1,ho2,ho3,hs0,hs1,hs2,hs3⟩=>?_;refine gg ?_;refine WP.jH 5 ?_;refine fS.succ ?_;refine gg ?_;refine WP.aQ rfl ?_;refine gg ?_;refine vl (vO ho0) ?_;refine gg ?_;refine WP.br rfl ?_;refine bS ?_;refine aj.nil (aI ?_);refine fS.succ ?_;refine gg ?_;refine WP.aQ rfl ?_;refine bS ?_;refine vl (bG (j:=1) Tryz.underlying204 Tryz.sizeOf49 rfl rfl rfl (by omega)) ?_;refine vl (ai (u:=.slice _ _ _) Tryz.isAgg49 rfl (fun w hw=>hw.cW ho1 (ax _))) ?_;refine gg ?_;refine WP.br rfl ?_;refine bS ?_;refine aj.nil (aI ?_);refine fS.succ ?_;refine gg ?_;refine WP.aQ rfl ?_;refine bS ?_;refine vl (bG (j:=2) Tryz.underlying204 Tryz.sizeOf49 rfl rfl rfl (by omega)) ?_;refine vl (ai (u:=.slice _ _ _) Tryz.isAgg49 rfl (fun w hw=>hw.cW ho2 (ax _))) ?_;refine gg ?_;refine WP.br rfl ?_;refine bS ?_;refine aj.nil (aI ?_);refine fS.succ ?_;refine gg ?_;refine WP.aQ rfl ?_;refine bS ?_;refine vl (bG (j:=3) Tryz.underlying204 Tryz.sizeOf49 rfl rfl rfl (by omega)) ?_;refine vl (ai (u:=.slice _ _ _) Tryz.isAgg49 rfl (fun w hw=>hw.cW ho3 (ax _))) ?_;refine gg ?_;refine WP.br rfl ?_;refine bS ?_;refine aj.nil (aI ?_);refine fS.succ ?_;refine gg ?_;refine WP.br rfl ?_;refine WP.exit (an ?_);refine gg ?_;refine eF (xC (Bc 11 (by decide) (by decide))) fun⟨b24,c24⟩ _=>?_;refine gg ?_;refine WP.jH 5 ?_;refine fS.succ ?_;refine gg ?_;refine WP.aQ rfl ?_;refine gg ?_;refine vl (vO ho0) ?_;refine gg ?_;refine aj.ef (cm (sz:=1) (m:=1) (news:=xs0) (σ':=fun p=>[.row 3 1 p.1 _ p.2 _]) Tryz.underlying49 cT rfl (by decide) rfl rfl (i:=0) rfl (fun w hw=>hw.ki hs0 (fun _ _=>ax _)) hl0 (fun u hu=>h1 u (by simp[hu])) (by omega) (by omega) (fun _=>rfl)) (fun⟨B0,d0⟩=>?_);refine cR ?_;refine aj.nil (aI ?_);refine fS.succ ?_;refine gg ?_;refine WP.aQ rfl ?_;refine bS ?_;refine vl (bG (j:=1) Tryz.underlying204 Tryz.sizeOf49 rfl rfl rfl (by omega)) ?_;refine vl (ai (u:=.slice _ _ _) Tryz.isAgg49 rfl (fun w hw=>hw.cW ho1 (ax _))) ?_;refine gg ?_;refine aj.ef (cm (sz:=1) (m:=4) (news:=xs1) (σ':=fun p=>[.row 3 1 p.1 _ p.2 _]) Tryz.underlying49 cT rfl (by decide) rfl rfl (i:=0) rfl (fun w hw=>hw.ki hs1 (fun _ _=>ax _)) hl1 (fun u hu=>h1 u (by simp[hu])) (by omega) (by omega) (fun _=>rfl)) (fun⟨B1,d1⟩=>?_);refine cR ?_;refine aj.nil (aI ?_);refine fS.succ ?_;refine gg ?_;refine WP.aQ rfl ?_;refine bS ?_;refine vl (bG (j:=2) Tryz.underlying204 Tryz.sizeOf49 rfl rfl rfl (by omega)) ?_;refine vl (ai (u:=.slice _ _ _) Tryz.isAgg49 rfl (fun w hw=>hw.cW ho2 (ax _))) ?_;refine gg ?_;refine aj.ef (cm (sz:=1) (m:=4) (news:=xs2) (σ':=fun p=>[.row 3 1 p.1 _ p.2 _]) Tryz.underlying49 cT rfl (by decide) rfl rfl (i:=0) rfl (fun w hw=>hw.ki hs2 (fun _ _=>ax _)) hl2 (fun u hu=>h1 u (by simp[hu])) (by omega) (by omega) (fun _=>rfl)) (fun⟨B2,d2⟩=>?_)
  refine cR ?_;refine aj.nil (aI ?_);refine fS.succ ?_;refine gg ?_;refine WP.aQ rfl ?_;refine bS ?_;refine vl (bG (j:=3) Tryz.underlying204 Tryz.sizeOf49 rfl rfl rfl (by omega)) ?_;refine vl (ai (u:=.slice _ _ _) Tryz.isAgg49 rfl (fun w hw=>hw.cW ho3 (ax _))) ?_;refine gg ?_;refine aj.ef (cm (sz:=1) (m:=2) (news:=xs3) (σ':=fun p=>[.row 3 1 p.1 _ p.2 _]) Tryz.underlying49 cT rfl (by decide) rfl rfl (i:=0) rfl (fun w hw=>hw.ki hs3 (fun _ _=>ax _)) hl3 (fun u hu=>h1 u (by simp[hu])) (by omega) (by omega) (fun _=>rfl)) (fun⟨B3,d3⟩=>?_);refine cR ?_;refine aj.nil (aI ?_);refine fS.succ ?_;refine gg ?_;refine WP.br rfl ?_;refine WP.exit (an ?_);refine gg ?_;exact aT fun w hw=>by obtain⟨bb,hbb⟩:=hw.aM (i:=0) rfl (by decide);subst hbb;exact⟨(bb,d3),rfl,trivial,hw⟩
theorem GG (cs:List Value) (hs:bZ cs):Ct Tryz.prog 58 #[.agg cs.toArray] [] (fun _=>True) (X:=Unit) (fun _=>.bool (bg cs)) (fun _=>True) (fun _=>[]):=by
  refine Ci fun w0 _=>?_;refine gg ?_;refine aj.ef (xB (us:=cs)) fun sty=>?_;refine gg ?_;refine wP none [0] [pT 0,pT 1,pT 2,pT 3,pT 4,pT 5,pT 6,pT 7,pT 8,pT 9,pT 10,pT 11,pT 12,pT 13,pT 15,pT 16,pT 17,pT 18,pF 14,pF 19,pF 20,pT 21] ?_;refine ad ?_;refine tE rfl (au (cs:=[.int .i64 _,.int .i64 _]) Tryz.isAgg33 Tryz.sizeOf33 rfl (fun w hw=>hw.aq (i:=0) rfl 3 (hs.gu 2 3 (by decide) (by decide) rfl rfl))) ?_;refine ad ?_;refine tE rfl (au (cs:=[.int .i64 _,.int .i64 _]) Tryz.isAgg33 Tryz.sizeOf33 rfl (fun w hw=>hw.aq (i:=0) rfl 5 (hs.gu 2 5 (by decide) (by decide) rfl rfl))) ?_;refine ad ?_;refine tE rfl (au (cs:=[.int .i64 _,.int .i64 _]) Tryz.isAgg33 Tryz.sizeOf33 rfl (fun w hw=>hw.aq (i:=0) rfl 7 (hs.gu 2 7 (by decide) (by decide) rfl rfl))) ?_;refine ad ?_;refine tE rfl (au (cs:=[.int .i64 _,.int .i64 _]) Tryz.isAgg33 Tryz.sizeOf33 rfl (fun w hw=>hw.aq (i:=0) rfl 9 (hs.gu 2 9 (by decide) (by decide) rfl rfl))) ?_;refine ad ?_;refine tE rfl (au (cs:=[.int .i64 _,.int .i64 _]) Tryz.isAgg33 Tryz.sizeOf33 rfl (fun w hw=>hw.aq (i:=0) rfl 11 (hs.gu 2 11 (by decide) (by decide) rfl rfl))) ?_;refine ad ?_;refine tE rfl (au (cs:=[.int .i64 _,.int .i64 _]) Tryz.isAgg33 Tryz.sizeOf33 rfl (fun w hw=>hw.aq (i:=0) rfl 13 (hs.gu 2 13 (by decide) (by decide) rfl rfl))) ?_;refine ad ?_;refine tE rfl (au (cs:=[.int .i64 _,.int .i64 _]) Tryz.isAgg33 Tryz.sizeOf33 rfl (fun w hw=>hw.aq (i:=0) rfl 41 (hs.gu 2 41 (by decide) (by decide) rfl rfl))) ?_;refine ad ?_;refine tE rfl (mN Tryz.underlying34 Tryz.sizeOf33 rfl) ?_;refine ad ?_;refine tE rfl (mN Tryz.underlying34 Tryz.sizeOf33 rfl) ?_;refine dE (xN rfl (us:=[.int .i64 _,.int .i64 _,.int .i64 _,.int .i64 _,.int .i64 _,.int .i64 _,.int .i64 _,.int .i64 _,.int .i64 _,.int .i64 _,.int .i64 _,.int .i64 _,.int .i64 _,.int .i64 _])) fun g23=>?_;refine dE (xN rfl (us:=[.slice _ _ _,.slice _ _ _,.slice _ _ _])) fun g28=>?_;refine dG (xC (zY g28 3 _ _ _ _ _ _ ([.int .i64 (val cs 3),.int .i64 (val cs 4),.int .i64 (val cs 5),.int .i64 (val cs 6),.int .i64 (val cs 7),.int .i64 (val cs 8),.int .i64 (val cs 9),.int .i64 (val cs 10),.int .i64 (val cs 11),.int .i64 (val cs 12),.int .i64 (val cs 13),.int .i64 (val cs 14),.int .i64 (val cs 41),.int .i64 (val cs 42)]) ([.int .i64 (val cs 15),.int .i64 (val cs 16),.int .i64 (val cs 17),.int .i64 (val cs 18),.int .i64 (val cs 19),.int .i64 (val cs 20),.int .i64 (val cs 21),.int .i64 (val cs 22)]) ([.int .i64 (val cs 23),.int .i64 (val cs 24),.int .i64 (val cs 25),.int .i64 (val cs 26),.int .i64 (val cs 27),.int .i64 (val cs 28),.int .i64 (val cs 29),.int .i64 (val cs 30)]) rfl rfl rfl (by simp[Value.oneCell'])) (hF:=fun w hw=>⟨hw.bh (i:=2) rfl rfl rfl,hw.bh (i:=2) rfl rfl rfl,hw.bh (i:=2) rfl rfl rfl,hw.fk (i:=1) rfl,zy (hw.aq (i:=0) rfl 15 (hs.gu 8 15 (by decide) (by decide) rfl rfl)),zy (hw.aq (i:=0) rfl 23 (hs.gu 8 23 (by decide) (by decide) rfl rfl))⟩)) fun⟨bl,cl⟩ _=>?_
  refine gg ?_;refine wP none [0,1,2,3] [pT 0,pT 1,pT 3,pT 4,pT 5,pT 6,pT 7,pT 8,pF 2,pF 9,pF 10,pT 11] ?_;refine ad ?_;refine tE rfl (ai (u:=.int .i64 _) Tryz.isAgg3 rfl (fun w hw=>hw.aq (i:=0) rfl 46 (cell_of (hs.int 46 (by decide) (by decide))))) ?_;refine ad ?_;refine tE rfl (mN Tryz.underlying35 Tryz.sizeOf3 rfl) ?_;refine ad ?_;refine tE rfl (mN Tryz.underlying35 Tryz.sizeOf3 rfl) ?_;refine ad ?_;refine tE rfl (mN Tryz.underlying40 Tryz.sizeOf3 rfl) ?_;refine dE (xN (L1 rfl)) fun g32=>?_;refine dE (xN rfl (us:=[.slice _ _ _,.slice _ _ _,.slice _ _ _,.slice _ _ _])) fun g39=>?_;refine dG (xC (zJ g39 4 _ _ _ _ _ _ _ _ ([.int .i64 (val cs 46)]) ([.int .i64 (val cs 31),.int .i64 (val cs 32),.int .i64 (val cs 33),.int .i64 (val cs 34)]) ([.int .i64 (val cs 35),.int .i64 (val cs 36),.int .i64 (val cs 37),.int .i64 (val cs 38)]) ([.int .i64 (val cs 53),.int .i64 (val cs 54)]) rfl rfl rfl rfl (by simp[Value.oneCell'])) (hF:=fun w hw=>⟨hw.bh (i:=5) rfl rfl rfl,hw.bh (i:=5) rfl rfl rfl,hw.bh (i:=5) rfl rfl rfl,hw.bh (i:=5) rfl rfl rfl,hw.fk (i:=4) rfl,zy (hw.aq (i:=0) rfl 31 (hs.gu 4 31 (by decide) (by decide) rfl rfl)),zy (hw.aq (i:=0) rfl 35 (hs.gu 4 35 (by decide) (by decide) rfl rfl)),zy (hw.aq (i:=0) rfl 53 (hs.gu 2 53 (by decide) (by decide) rfl rfl))⟩)) fun⟨bs,cs2⟩ _=>?_;refine cK ?_;refine sg rfl ?_;refine bW ?_;refine sg rfl ?_;refine gv ?_;refine WP.uo [1,3,4,5,6] [(7,.bool (j7 cs))] ?_ (fun ρ0=>?_)
  ·refine bW ?_;refine vl (ai (u:=.int .i64 _) Tryz.isAgg28 rfl (fun w hw=>hw.aq (i:=0) rfl 0 (cell_of (hs.int 0 (by decide) (by decide))))) ?_;refine vl (vC (ED _ _ _ _)) ?_;refine av ?_;refine aj.aY 44 rfl (fun h44=>?_) (fun h44=>?_)
   ·refine ag ?_;refine vg (ai (u:=.int .i64 _) Tryz.isAgg29 rfl (fun w hw=>hw.aq (i:=0) rfl 1 (cell_of (hs.int 1 (by decide) (by decide))))) ?_;refine vg (vC (EH _ _ _ _)) ?_;refine bW ?_;refine aj.aY 49 rfl (fun h49=>?_) (fun h49=>?_)
    ·refine ag ?_;refine vg (ai (u:=.int .i64 _) Tryz.isAgg30 rfl (fun w hw=>hw.aq (i:=0) rfl 2 (cell_of (hs.int 2 (by decide) (by decide))))) ?_;refine vg (vC (EZ _ _ _ _)) ?_;refine bW ?_;exact nl fun w hw=>⟨rfl,⟨(congrArg Value.bool (by simp only[j7, *,Bool.and_true,Bool.and_false,Bool.true_and,Bool.false_and,Bool.not_true,Bool.not_false])),rfl,jS,jS,rfl,rfl,trivial⟩,hw⟩
    ·refine cR ?_;exact nl fun w hw=>⟨rfl,⟨(congrArg Value.bool (by simp only[j7, *,Bool.and_true,Bool.and_false,Bool.true_and,Bool.false_and,Bool.not_true,Bool.not_false])),rfl,jS,jS,rfl,rfl,trivial⟩,hw⟩
   ·refine Ja ?_;exact nl fun w hw=>⟨rfl,⟨(congrArg Value.bool (by simp only[j7, *,Bool.and_true,Bool.and_false,Bool.true_and,Bool.false_and,Bool.not_true,Bool.not_false])),rfl,jS,jS,rfl,rfl,trivial⟩,hw⟩
  ·refine WP.uo [1,3,4,5,6,7] [(8,.bool (mC cs))] ?_ (fun ρ0=>?_)
   ·refine bW ?_;refine vl (ai (u:=.int .i64 _) Tryz.isAgg36 rfl (fun w hw=>hw.aq (i:=0) rfl 43 (cell_of (hs.int 43 (by decide) (by decide))))) ?_;refine vl (vC (Fm _ _ _ _)) ?_;refine av ?_;refine aj.aY 57 rfl (fun h57=>?_) (fun h57=>?_)
    ·refine ag ?_;refine vg (ai (u:=.int .i64 _) Tryz.isAgg37 rfl (fun w hw=>hw.aq (i:=0) rfl 44 (cell_of (hs.int 44 (by decide) (by decide))))) ?_;refine vg (vC (DT _ _ _ _)) ?_;refine bW ?_;refine aj.aY 62 rfl (fun h62=>?_) (fun h62=>?_)
     ·refine ag ?_;refine vg (ai (u:=.int .i64 _) Tryz.isAgg38 rfl (fun w hw=>hw.aq (i:=0) rfl 49 (cell_of (hs.int 49 (by decide) (by decide))))) ?_;refine vg (vC (DR _ _ _ _)) ?_;refine bW ?_;refine aj.aY 67 rfl (fun h67=>?_) (fun h67=>?_)
      ·refine ag ?_;refine vg (ai (u:=.int .i64 _) Tryz.isAgg39 rfl (fun w hw=>hw.aq (i:=0) rfl 50 (cell_of (hs.int 50 (by decide) (by decide))))) ?_;refine vg (vC (Ex _ _ _ _)) ?_;refine bW ?_;exact nl fun w hw=>⟨rfl,⟨(congrArg Value.bool (by simp only[mC, *,Bool.and_true,Bool.and_false,Bool.true_and,Bool.false_and,Bool.not_true,Bool.not_false])),rfl,jS,jS,rfl,rfl,jB,trivial⟩,hw⟩
      ·refine cR ?_;exact nl fun w hw=>⟨rfl,⟨(congrArg Value.bool (by simp only[mC, *,Bool.and_true,Bool.and_false,Bool.true_and,Bool.false_and,Bool.not_true,Bool.not_false])),rfl,jS,jS,rfl,rfl,jB,trivial⟩,hw⟩
     ·refine Ja ?_;exact nl fun w hw=>⟨rfl,⟨(congrArg Value.bool (by simp only[mC, *,Bool.and_true,Bool.and_false,Bool.true_and,Bool.false_and,Bool.not_true,Bool.not_false])),rfl,jS,jS,rfl,rfl,jB,trivial⟩,hw⟩
    ·refine Lx ?_;exact nl fun w hw=>⟨rfl,⟨(congrArg Value.bool (by simp only[mC, *,Bool.and_true,Bool.and_false,Bool.true_and,Bool.false_and,Bool.not_true,Bool.not_false])),rfl,jS,jS,rfl,rfl,jB,trivial⟩,hw⟩
   ·refine cK ?_;refine aj.aY 73 rfl (fun h73=>?_) (fun h73=>?_)
    ·refine cK ?_;refine aj.aY 76 rfl (fun h76=>?_) (fun h76=>?_)
     ·refine vg (aC (v:=.slice _ _ _) rfl) ?_;refine vg (aC rfl) ?_;refine aj.kn (ck Tryz.call108 (sQ (some ⟨bl,0,none⟩) cl (ou cs) (by simp[ou,w5])) [] [0,1,2,3,4,5,6] rfl (fun w hw=>hw.ur (i:=3) rfl rfl (fun _=>rfl)) (τ:=fun _=>[_,_,_,_,_,_,_]) (fun _=>rfl)) (fun _=>?_);refine aj.fact (fun _=>?_);refine cK ?_;refine aj.aY 82 rfl (fun h82=>?_) (fun h82=>?_)
      ·refine vg (aC (v:=.slice _ _ _) rfl) ?_;refine vg (aC rfl) ?_;refine aj.kn (ck Tryz.call109 (sK (some ⟨bs,0,none⟩) cs2 (lN cs) (by simp[lN,xT])) [] [0,1,2,3,4,5,6] rfl (fun w hw=>hw.eO (i:=6) rfl) (τ:=fun _=>[_,_,_,_,_,_,_]) (fun _=>rfl)) (fun _=>?_);refine aj.fact (fun _=>?_);refine cK ?_;refine aj.aY 88 rfl (fun h88=>?_) (fun h88=>?_)
       ·refine ag ?_;refine vg (ai (u:=.int .i64 _) Tryz.isAgg3 rfl (fun w hw=>hw.aq (i:=0) rfl 39 (cell_of (hs.int 39 (by decide) (by decide))))) ?_;refine vg (vC (mW _ _ _ _)) ?_;refine bW ?_;refine aj.aY 93 rfl (fun h93=>?_) (fun h93=>?_)
        ·refine ag ?_;refine vg (ai (u:=.int .i64 _) Tryz.isAgg3 rfl (fun w hw=>hw.aq (i:=0) rfl 40 (cell_of (hs.int 40 (by decide) (by decide))))) ?_;refine vg (vC (mW _ _ _ _)) ?_;refine bW ?_;refine aj.aY 98 rfl (fun h98=>?_) (fun h98=>?_)
         ·refine ag ?_;refine vg (ai (u:=.int .i64 _) Tryz.isAgg3 rfl (fun w hw=>hw.aq (i:=0) rfl 48 (cell_of (hs.int 48 (by decide) (by decide))))) ?_;refine vg (vC (mW _ _ _ _)) ?_;refine gg ?_;exact aT fun w hw=>⟨(),congrArg Value.bool (by simp only[bg,lU,iQ, *,Bool.and_true,Bool.and_false,Bool.true_and,Bool.false_and,Bool.not_true,Bool.not_false]),trivial,hw.pk⟩
         ·refine gg ?_;exact aT fun w hw=>⟨(),congrArg Value.bool (by simp only[bg,lU,iQ, *,Bool.and_true,Bool.and_false,Bool.true_and,Bool.false_and,Bool.not_true,Bool.not_false]),trivial,hw.pk⟩
        ·refine gg ?_;exact aT fun w hw=>⟨(),congrArg Value.bool (by simp only[bg,lU,iQ, *,Bool.and_true,Bool.and_false,Bool.true_and,Bool.false_and,Bool.not_true,Bool.not_false]),trivial,hw.pk⟩
       ·refine gg ?_;exact aT fun w hw=>⟨(),congrArg Value.bool (by simp only[bg,lU,iQ, *,Bool.and_true,Bool.and_false,Bool.true_and,Bool.false_and,Bool.not_true,Bool.not_false]),trivial,hw.pk⟩
      ·refine gg ?_;exact aT fun w hw=>⟨(),congrArg Value.bool (by simp only[bg,lU,iQ, *,Bool.and_true,Bool.and_false,Bool.true_and,Bool.false_and,Bool.not_true,Bool.not_false]),trivial,hw.pk⟩
     ·refine gg ?_;exact aT fun w hw=>⟨(),congrArg Value.bool (by simp only[bg,lU,iQ, *,Bool.and_true,Bool.and_false,Bool.true_and,Bool.false_and,Bool.not_true,Bool.not_false]),trivial,hw.pk⟩
    ·refine gg ?_;exact aT fun w hw=>⟨(),congrArg Value.bool (by simp only[bg,lU,iQ, *,Bool.and_true,Bool.and_false,Bool.true_and,Bool.false_and,Bool.not_true,Bool.not_false]),trivial,hw.pk⟩
structure PE where
  id:Int
  bb:Nat
  A:Option Addr
  c:Nat
  up:Int
  kids:List Int
  sty:List Value
def PE.fA (e:PE):Int×Value:=(e.id,.pointer (some ⟨e.bb,0,none⟩))
def PE.cells (e:PE):List Value:=.int .i64 e.up::.slice e.A e.kids.length e.c::e.sty
abbrev az (A:Option Addr) (n c:Nat) (l:List Int):HI:=.row 3 1 A n c (l.map (Value.int .i64))
def PE.items (e:PE):List HI:=[.cl e.bb 102 e.cells,az e.A e.kids.length e.c e.kids]
def zi (tp mb:Nat) (es:List PE):List HI:=.cl tp 107 [.map (some mb)]::aP mb (es.map PE.fA)::es.flatMap PE.items
def al (tp mb:Nat) (es:List PE):HI:=cN (zi tp mb es)
def lookE:List PE→Int→Option PE
  | [],_=>none
  | e::es,x=>if e.id=x then some e else lookE es x
def ae (es:List PE):ar (List Value):=fun x=>(lookE es x).map fun e=>⟨e.up,e.kids,e.sty⟩
def pL (es:List PE) (x:Int):Option Addr:=(lookE es x).map fun e=>⟨e.bb,0,none⟩
def kA (es:List PE) (x:Int):Option Addr:=match lookE es x with | some e=>e.A | none=>none
def kC (es:List PE) (x:Int):Nat:=match lookE es x with | some e=>e.c | none=>0
def H5 (es:List PE) (x:Int):List Value:=.int .i64 (upF (ae es) x)::.slice (kA es x) (aH (ae es) x).length (kC es x)::pt aR (ae es) x
structure eG (es:List PE):Prop where
  sty:∀e∈es,bZ e.sty
  nodup:(es.map PE.id).Nodup
theorem bp:∀{es:List PE} {x:Int} {e:PE},lookE es x=some e→e∈es∧e.id=x
  | [],_,_,h=>by cases h
  | e :: es, x, e', h => by
    unfold lookE at h
    split at h
    · cases h;exact⟨by simp,‹_›⟩
    · have:=bp h;exact⟨by simp[this.1],this.2⟩
theorem y4:∀(es:List PE) (x:Int),lookM (es.map PE.fA) x=(lookE es x).map fun e=>.pointer (some ⟨e.bb,0,none⟩)
  | [],_=>rfl
  | e :: es, x => by
    simp only[List.map_cons,lookM,lookE,PE.fA]
    split
    · rfl
    · exact y4 es x
theorem Ae (es:List PE) (x:Int):(lookM (es.map PE.fA) x).getD (.pointer none)=.pointer (pL es x):=by
  rw[y4];unfold pL;cases lookE es x<;>rfl
theorem xl (es:List PE) (x:Int):(pL es x).isSome=aK (ae es) x:=by unfold pL aK ae;cases lookE es x<;>rfl
theorem sT {es:List PE} {x:Int} {e:PE} (h:lookE es x=some e):H5 es x=e.cells:=by simp[H5,PE.cells,upF,aH,pt,ae,kA,kC,h]
theorem yz {es:List PE} {x:Int} (h:lookE es x=none):H5 es x=.int .i64 (-1)::.slice none 0 0::aR:=by simp[H5,upF,aH,pt,ae,kA,kC,h]
theorem eG.aE {es:List PE} (h:eG es) (x:Int):bZ (pt aR (ae es) x):=by
  unfold pt ae;cases e:lookE es x with
  | none=>exact eQ
  | some b=>exact h.sty b (bp e).1
theorem eG.TX {es:List PE} (h:eG es) (x:Int):(H5 es x).length=57:=by
  have:=(h.aE x).len;simp[H5,this]
theorem eG.It {es:List PE} (h:eG es) (x:Int):∀u∈H5 es x,u.oneCell'=true:=by
  intro u hu;simp only[H5,List.mem_cons] at hu
  rcases hu with rfl | rfl | hu
  · rfl
  · rfl
  · exact(h.aE x).one u hu
theorem F3 {es:List PE} (hk:eG es) (x:Int):(H5 es x).toArray.extract 2 (2+55)=(pt aR (ae es) x).toArray:=by
  have h:=(hk.aE x).len;apply Array.ext';simp[H5,List.take_of_length_le,h]
section
variable {w0 w:World} {M:Nat→Prop} {σ:List HI} {i tp mb:Nat} {es:List PE}
theorem St.tree (h:St w0 M σ w) (hi:σ[i]?=some (al tp mb es)):∀j∈zi tp mb es,j.holds w:=(h.all _ (List.mem_of_getElem? hi)).2.1
theorem jY {b:Nat} {t:TypeId} {cs:List Value} (h:(HI.cl b t cs).holds w) (o:Nat) {us:List Value} (hu:(cs.drop o).take us.length=us):aJ w b o us:=by
  have h1:w.heap[b]?=some (.cells cs.toArray t (0,0)):=h;intro j u hj;rw[cell_of_row w b (o+j) _ t (0,0) h1,List.getElem?_toArray];have h2:=congrArg (·[j]?) hu;simp only[hj] at h2;rw[List.getElem?_take] at h2
  split at h2
  · rw[List.getElem?_drop] at h2;exact h2
  · cases h2
theorem St.ld (h:St w0 M σ w) (hi:σ[i]?=some (al tp mb es)):aJ w tp 0 [.map (some mb)]:=jY (h.tree hi (.cl tp 107 [.map (some mb)]) (by simp[zi])) 0 rfl
theorem St.treeMap (h:St w0 M σ w) (hi:σ[i]?=some (al tp mb es)):sV mb (es.map PE.fA) w:=(h.tree hi (aP mb (es.map PE.fA)) (by simp[zi])).2
theorem St.Kz (h:St w0 M σ w) (hi:σ[i]?=some (al tp mb es)) {e:PE} (he:e∈es):aJ w e.bb 0 e.cells:=
  jY (h.tree hi (.cl e.bb 102 e.cells) (List.mem_cons_of_mem _ (List.mem_cons_of_mem _ (List.mem_flatMap.2 ⟨e,he,by simp[PE.items]⟩)))) 0 (by simp)
theorem St.Iv (h:St w0 M σ w) (hi:σ[i]?=some (al tp mb es)) {e:PE} (he:e∈es):vd w e.A e.kids∧e.kids.length≤e.c:=by
  have h1:(az e.A e.kids.length e.c e.kids).holds w:=h.tree hi _ (List.mem_cons_of_mem _ (List.mem_cons_of_mem _ (List.mem_flatMap.2 ⟨e,he,by simp[PE.items]⟩)));obtain⟨h2,h3⟩:=h1
  rcases h3 with ⟨hv,hn⟩ | ⟨gb,cap,cur,hv,_,hh,hnc,_,hsz,htake⟩
  · have : e.kids = [] := List.eq_nil_of_length_eq_zero hn
    rw[this];exact⟨jL.nil _ _ _ _,Nat.zero_le _⟩
  · injection hv with e1 e2 e3
    refine⟨fun k x hx=>⟨gb,0,e1,fun j u hj=>?_⟩,by omega⟩
    match j,hj with
    | 0, hj =>
      cases hj;have hk:=(List.getElem?_eq_some_iff.1 hx).1;rw[cell_of_row w gb _ _ _ _ hh];have h4:(cur.toList.take (e.kids.length*1))[k]?=some (.int .i64 x):=by rw[htake,List.getElem?_map,hx];rfl
      rw[List.getElem?_take,if_pos (by omega)] at h4
      simpa using h4
    | j+1,hj=>simp at hj
theorem St.um (h:St w0 M σ w) (hi:σ[i]?=some (al tp mb es)) (x:Int):vd w (kA es x) (aH (ae es) x)∧(aH (ae es) x).length≤kC es x:=by
  unfold kA aH kC ae;cases e:lookE es x with
  | none=>exact⟨jL.nil _ _ _ _,Nat.zero_le _⟩
  | some b=>exact h.Iv hi (bp e).1
theorem St.Fo (h:St w0 M σ w) (hi:σ[i]?=some (al tp mb es)) (x:Int):Src w (kA es x) (aH (ae es) x).length ((aH (ae es) x).map (Value.int .i64)):=by
  unfold kA aH ae;cases e:lookE es x with
  | none=>exact .inl ⟨rfl,rfl⟩
  | some b =>
    have h1:(az b.A b.kids.length b.c b.kids).holds w:=h.tree hi _ (List.mem_cons_of_mem _ (List.mem_cons_of_mem _ (List.mem_flatMap.2 ⟨b,(bp e).1,by simp[PE.items]⟩)));have h2:St w (ay [az b.A b.kids.length b.c b.kids]) [az b.A b.kids.length b.c b.kids] w:=St.start (by simpa using h1) (List.pairwise_singleton _ _);exact h2.fk (i:=0) rfl
variable {P:Program} {ρ:Env} {dst:Option Tmp} {ty:TypeId} {pos:String} {af:Array Edge} {g:Option (Nat×Bool)} {t kt et:TypeId} {x y:Operand} {q:IntKind}
theorem oR {k:Int} (hi:σ[i]?=some (al tp mb es)) (ht:P.underlying t=some (.map kt et)) (hk:P.underlying kt=some (.int q)) (hz:∀w,(zeroValue et).run P w=.ok (.pointer none) w) (hx:evo ρ x=.map (some mb)) (hy:evo ρ y=.int .i64 k):
    cw P (St w0 M σ) ⟨dst,.lookup t x y false,ty,pos,af,g⟩ ρ (.pointer (pL es k)):=by
  have h:=fu (P:=P) (S:=St w0 M σ) (dst:=dst) (ty:=ty) (pos:=pos) (af:=af) (g:=g) (m:=es.map PE.fA) ht hk hz hx hy (fun w hw=>hw.treeMap hi)
  rwa [Ae] at h
theorem zq {e:TypeId} {A:Option Addr} {k c:Nat} (n:Nat) (ht:P.underlying t=some (.slice e)) (w:World):(Op.equalIn (n+1) t (.slice A k c) (.slice none 0 0)).run P w=.ok A.isNone w:=by
  cases A<;>simp[Op.equalIn,run_underlying ht]
theorem Ic {e:TypeId} {A:Option Addr} {n c:Nat} {t2:TypeId} (ht:P.underlying t=some (.slice e)) (hx:evo ρ x=.slice A n c) (hy:evo ρ y=.slice none 0 0) {S:World→Prop}:cw P S ⟨dst,.binOp .eql t x y t2,ty,pos,af,g⟩ ρ (.bool A.isNone):=ba fun w _=>by
  have e:(eqGuard .eql t x y (.slice A n c) (.slice none 0 0)).run P w=.ok () w:=rfl;have h1:(Op.equalIn 10000 t (.slice A n c) (.slice none 0 0)).run P w=.ok A.isNone w:=zq 9999 ht w;simp[execOp,hx,hy,e,binOp,Op.equal,Op.maxDepth,h1,Result.andThen]
theorem uG {r:Option Nat} {σ':Nat→List HI} {te:TypeId} {sz:Nat} (ht:P.underlying t=some (.slice te)) (hz:∀w,(sizeOf te).run P w=.ok sz w) (hσ:∀b,σ++[.row te sz (some ⟨b,0,none⟩) 0 0 []]=σ' b):
    cX P r (St w0 M σ) ⟨dst,.buildSlice t 0 #[],ty,pos,af,g⟩ ρ (X:=Nat) (fun b=>.slice (some ⟨b,0,none⟩) 0 0) (fun b=>St w0 M (σ' b)):=by
  refine mi rfl (by simp) (by unfold maxLen;omega) hσ fun w=>?_;simp[execOp,Instr.buildSlice,run_underlying ht,hz,Instr.fill,newRow,newObj,Sem.run,Result.andThen];have e:Array.map (fun _:Nat=>(default:Value)) (Array.range 0)=#[]:=Array.eq_empty_of_size_eq_zero (by simp);rw[e]
end
structure RB where
  live:Bool
  up:Int
  A:Option Addr
  c:Nat
  kids:List Int
  sty:List Value
def RB.cells (b:RB):List Value:=.bool b.live::.int .i64 b.up::.slice b.A b.kids.length b.c::b.sty
abbrev RB.row (b:RB):HI:=az b.A b.kids.length b.c b.kids
def dL:RB:=⟨false,0,none,0,[],aR⟩
def bV (bs:List RB):List Value:=bs.flatMap RB.cells
def lg (bs:List RB):Prop:=∀b∈bs,bZ b.sty
abbrev kH (bs:List RB):HI:=cN (bs.map RB.row)
abbrev EY (rp g bc:Nat) (bs:List RB):List HI:=.cl rp 155 [.slice (some ⟨g,0,none⟩) bs.length bc]::.row 152 58 (some ⟨g,0,none⟩) bs.length bc (bV bs)::bs.map RB.row
def dI (rp g bc:Nat) (bs:List RB):HI:=cN (EY rp g bc bs)
def aD (bs:List RB):ar (List Value):=fun x=>if x<0 then none else (bs[x.toNat]?).bind fun b=>if b.live then some ⟨b.up,b.kids,b.sty⟩ else none
theorem RB.il {b:RB} (h:bZ b.sty):b.cells.length=58:=by simp[RB.cells,h.len]
theorem lg.get {bs:List RB} (h:lg bs) {i:Nat} {b:RB} (hb:bs[i]?=some b):bZ b.sty:=h b (List.mem_of_getElem? hb)
theorem eJ:∀{bs:List RB},lg bs→(bV bs).length=bs.length*58
  | [],_=>rfl
  | b :: bs, h => by
    have h1:=eJ (bs:=bs) fun c hc=>h c (by simp[hc]);have h2:=RB.il (h b (by simp));rw[bV,List.flatMap_cons,List.length_append,h2,List.length_cons];unfold bV at h1;omega
theorem ow:∀{bs:List RB} (_:lg bs) {i:Nat} {b:RB} (_:bs[i]?=some b) {j:Nat} {u:Value},b.cells[j]?=some u→(bV bs)[i*58+j]?=some u
  | [],_,_,_,hb,_,_,_=>by simp at hb
  | a :: bs, h, 0, b, hb, j, u, hj => by
    obtain rfl:a=b:=by simpa using hb
    have h2:=(List.getElem?_eq_some_iff.1 hj).1;rw[bV,List.flatMap_cons,Nat.zero_mul,Nat.zero_add,List.getElem?_append_left h2];exact hj
  | a :: bs, h, i + 1, b, hb, j, u, hj => by
    have h2:=RB.il (h a (by simp));rw[bV,List.flatMap_cons,List.getElem?_append_right (by rw[h2];omega),h2,show (i+1)*58+j - 58=i*58+j by omega];exact ow (fun c hc=>h c (by simp[hc])) (by simpa using hb) hj
theorem qk (xs:List Value):∀(us ys:List Value) (o:Nat),setL (xs++ys) (xs.length+o) us=xs++setL ys o us
  | [],ys,o=>rfl
  | u :: us, ys, o => by
    rw[setL,setL,List.set_append_right _ _ (by omega),Nat.add_sub_cancel_left,Nat.add_assoc];exact qk xs us _ _
theorem eI:∀{bs:List RB} (_:lg bs) {i:Nat} {b b':RB} (_:bs[i]?=some b) {o:Nat} {us:List Value},o+us.length≤58→setL b.cells o us=b'.cells→setL (bV bs) (i*58+o) us=bV (bs.set i b')
  | [],_,_,_,_,hb,_,_,_,_=>by simp at hb
  | a :: bs, h, 0, b, b', hb, o, us, ho, he => by
    obtain rfl:a=b:=by simpa using hb
    have h2:=RB.il (h a (by simp));rw[bV,List.flatMap_cons,Nat.zero_mul,Nat.zero_add,lv [] _ us _ o (by omega),he];rfl
  | a :: bs, h, i + 1, b, b', hb, o, us, ho, he => by
    have h2:=RB.il (h a (by simp));rw[bV,List.flatMap_cons,show (i+1)*58+o=a.cells.length+(i*58+o) by omega,qk,List.set_cons_succ,bV,List.flatMap_cons];rw[show setL (bs.flatMap RB.cells) (i*58+o) us=bV (bs.set i b') from eI (fun c hc=>h c (by simp[hc])) (by simpa using hb) ho he];rfl
theorem lg.set {bs:List RB} (h:lg bs) (i:Nat) {b':RB} (hs:bZ b'.sty):lg (bs.set i b'):=fun c hc=>by
  rcases List.mem_or_eq_of_mem_set hc with h1 | h1
  · exact h c h1
  · rw[h1];exact hs
theorem c8 {bs:List RB} {i:Nat} {b:RB} (hb:bs[i]?=some b) (hl:b.live=true):aD bs i=some ⟨b.up,b.kids,b.sty⟩:=by
  unfold aD;rw[if_neg (by omega),Int.toNat_natCast,hb];simp[hl]
theorem uX {bs:List RB} {i:Nat} {b:RB} (hb:bs[i]?=some b) (hl:b.live=false):aD bs i=none:=by
  unfold aD;rw[if_neg (by omega),Int.toNat_natCast,hb];simp[hl]
theorem kE {bs:List RB} {x:Int} (h:x<0):aD bs x=none:=by rw[aD,if_pos h]
theorem kF {bs:List RB} {x:Int} (h:(bs.length:Int)≤x):aD bs x=none:=by
  unfold aD;rw[if_neg (by omega),List.getElem?_eq_none (by omega)];rfl
theorem fv {bs:List RB} {x:Int} (h:aK (aD bs) x=true):∃(i:Nat) (b:RB),x=i∧bs[i]?=some b∧b.live=true:=by
  unfold aK aD at h
  split at h
  · cases h
  · rename_i hx
    cases e:bs[x.toNat]? with
    | none=>rw[e] at h;cases h
    | some b =>
      rw[e] at h;refine⟨x.toNat,b,by omega,e,?_⟩;cases hl:b.live with
      | true=>rfl
      | false=>simp[hl] at h
theorem jC {bs:List RB} {i:Nat} (hi:i<bs.length) (b':RB) (y:Int):aD (bs.set i b') y=if y=i then (if b'.live then some ⟨b'.up,b'.kids,b'.sty⟩ else none) else aD bs y:=by
  by_cases hy:y=i
  · subst hy
    rw[if_pos rfl,aD,if_neg (by omega),Int.toNat_natCast,List.getElem?_set_self hi];rfl
  · rw [if_neg hy]
    unfold aD
    split
    · rfl
    · rw[List.getElem?_set_ne (by omega)]
theorem FZ (bs:List RB):aD (bs++[dL])=aD bs:=by
  funext y
  by_cases hy:y<0
  · rw[kE hy,kE hy]
  · obtain ⟨i, rfl⟩ : ∃ i : Nat, y = i := ⟨y.toNat, by omega⟩
    by_cases hi:i<bs.length
    · unfold aD
      rw[if_neg hy,if_neg hy,Int.toNat_natCast,List.getElem?_append_left hi]
    · rw [kF (bs := bs) (by omega)]
      by_cases h2:i=bs.length
      · exact uX (b:=dL) (by rw[h2];simp) rfl
      · exact kF (by simp;omega)
theorem nm {bs:List RB} {i:Nat} {b:RB} (hb:bs[i]?=some b):aK (aD bs) i=b.live:=by
  cases hl:b.live with
  | true=>rw[aK,c8 hb hl];rfl
  | false=>rw[aK,uX hb hl];rfl
section
variable {w0 w:World} {M:Nat→Prop} {σ F:List HI} {i rp g bc:Nat} {bs:List RB}
theorem Co {A:Option Addr} {c:Nat} {l:List Int} (h1:(az A l.length c l).holds w):vd w A l∧l.length≤c∧Src w A l.length (l.map (Value.int .i64)):=by
  have h2:St w (ay [az A l.length c l]) [az A l.length c l] w:=St.start (by simpa using h1) (List.pairwise_singleton _ _);refine⟨?_,?_,h2.fk (i:=0) rfl⟩
  · exact h2.eO (i:=0) (f:=Value.int .i64) rfl
  · rcases h1.2 with ⟨hv, hn⟩ | ⟨gb, cap, cur, hv, _, hh, hnc, _, hsz, htake⟩
    · omega
    · injection hv with e1 e2 e3;omega
theorem St.ref (h:St w0 M σ w) (hi:σ[i]?=some (dI rp g bc bs)):∀j∈EY rp g bc bs,j.holds w:=(h.all _ (List.mem_of_getElem? hi)).2.1
theorem St.lR (h:St w0 M σ w) (hi:σ[i]?=some (dI rp g bc bs)):aJ w rp 0 [.slice (some ⟨g,0,none⟩) bs.length bc]:=jY (h.ref hi (.cl rp 155 [.slice (some ⟨g,0,none⟩) bs.length bc]) (by simp[EY])) 0 rfl
theorem St.TY (h:St w0 M σ w) (hi:σ[i]?=some (dI rp g bc bs)):(HI.row 152 58 (some ⟨g,0,none⟩) bs.length bc (bV bs)).holds w:=h.ref hi _ (by simp[EY])
theorem St.wJ (h:St w0 M σ w) (hi:σ[i]?=some (dI rp g bc bs)) (hk:lg bs) {j:Nat} {b:RB} (hb:bs[j]?=some b) (o:Nat) {us:List Value} (hu:(b.cells.drop o).take us.length=us):aJ w g (0+j*58+o) us:=by
  have h1:=h.TY hi;have h2:St w (ay [HI.row 152 58 (some ⟨g,0,none⟩) bs.length bc (bV bs)]) [HI.row 152 58 (some ⟨g,0,none⟩) bs.length bc (bV bs)] w:=St.start (by simpa using h1) (List.pairwise_singleton _ _);refine h2.dH (i:=0) rfl _ fun k u hj=>?_;rw[show 0+j*58+o+k=j*58+(o+k) by omega];refine ow hk hb ?_;have h3:=congrArg (·[k]?) hu;simp only[hj] at h3;rw[List.getElem?_take] at h3
  split at h3
  · rw[List.getElem?_drop] at h3;exact h3
  · cases h3
theorem St.x5 (h:St w0 M σ w) (hi:σ[i]?=some (dI rp g bc bs)) {j:Nat} {b:RB} (hb:bs[j]?=some b):vd w b.A b.kids∧b.kids.length≤b.c∧Src w b.A b.kids.length (b.kids.map (Value.int .i64)):=
  Co (h.ref hi b.row (by simp only[EY,List.mem_cons,List.mem_map];exact .inr (.inr ⟨b,List.mem_of_getElem? hb,rfl⟩)))
theorem St.DQ (h:St w0 M (dI rp g bc bs::F) w):St w0 M (.cl rp 155 [.slice (some ⟨g,0,none⟩) bs.length bc]::.row 152 58 (some ⟨g,0,none⟩) bs.length bc (bV bs)::kH bs::F) w:=by
  have h1:=h.unpack;have h2:St w0 M (bs.map RB.row++(.cl rp 155 [.slice (some ⟨g,0,none⟩) bs.length bc]::.row 152 58 (some ⟨g,0,none⟩) bs.length bc (bV bs)::F)) w:=by
    refine h1.perm ?_;show ([HI.cl rp 155 [.slice (some ⟨g,0,none⟩) bs.length bc],HI.row 152 58 (some ⟨g,0,none⟩) bs.length bc (bV bs)]++bs.map RB.row++F).Perm (bs.map RB.row++([HI.cl rp 155 [.slice (some ⟨g,0,none⟩) bs.length bc],HI.row 152 58 (some ⟨g,0,none⟩) bs.length bc (bV bs)]++F));rw[←List.append_assoc];exact List.Perm.append_right _ List.perm_append_comm
  exact h2.pack.perm ((List.Perm.swap _ _ _).trans (List.Perm.cons _ (List.Perm.swap _ _ _)))
theorem St.IL (h:St w0 M (.cl rp 155 [.slice (some ⟨g,0,none⟩) bs.length bc]::.row 152 58 (some ⟨g,0,none⟩) bs.length bc (bV bs)::kH bs::F) w):St w0 M (dI rp g bc bs::F) w:=by
  have h1:=(h.perm ((List.Perm.cons _ (List.Perm.swap _ _ _)).trans (List.Perm.swap _ _ _))).unpack;have h2:St w0 M (EY rp g bc bs++F) w:=by
    refine h1.perm ?_;show (bs.map RB.row++([HI.cl rp 155 [.slice (some ⟨g,0,none⟩) bs.length bc],HI.row 152 58 (some ⟨g,0,none⟩) bs.length bc (bV bs)]++F)).Perm ([HI.cl rp 155 [.slice (some ⟨g,0,none⟩) bs.length bc],HI.row 152 58 (some ⟨g,0,none⟩) bs.length bc (bV bs)]++bs.map RB.row++F);rw[←List.append_assoc];exact List.Perm.append_right _ List.perm_append_comm
  exact h2.pack
theorem jT {α:Type}:∀{l:List α} {i:Nat} {x:α},l[i]?=some x→l.Perm (x::l.eraseIdx i)
  | [],i,x,h=>by simp at h
  | y :: l, 0, x, h => by
    obtain rfl:y=x:=by simpa using h
    exact List.Perm.refl _
  | y :: l, i + 1, x, h => by
    have h1:=jT (l:=l) (i:=i) (x:=x) (by simpa using h);exact(List.Perm.cons y h1).trans (List.Perm.swap x y _)
theorem wD {α:Type} {l:List α} {i:Nat} {y:α} (hi:i<l.length):(y::l.eraseIdx i).Perm (l.set i y):=by
  have h:=jT (l:=l.set i y) (i:=i) (x:=y) (by simp[hi]);rw[List.eraseIdx_set_eq] at h;exact h.symm
theorem St.qT {j:Nat} {b b':RB} (hb:bs[j]?=some b) (h:St w0 M (kH bs::b'.row::F) w):St w0 M (kH (bs.set j b')::F) w:=by
  have h1:=h.unpack;have hp:=(jT hb).map RB.row;have hlt:=(List.getElem?_eq_some_iff.1 hb).1;have hq:=(wD (y:=b') hlt).map RB.row;have h2:St w0 M (b.row::((bs.eraseIdx j).map RB.row++b'.row::F)) w:=h1.perm (List.Perm.append_right _ hp);have h3:=h2.sub (List.sublist_cons_self _ _);refine St.pack (τ:=(bs.set j b').map RB.row) (h3.perm ?_);refine List.Perm.trans ?_ (List.Perm.append_right F hq);exact List.perm_middle
end
theorem lE (tp mb:Nat) (es:List PE) (x:Int):Ct Tryz.prog 19 #[.pointer (some ⟨tp,0,none⟩),.int .i64 x] [al tp mb es] (fun _=>True) (X:=Unit) (fun _=>.bool (aK (ae es) x)) (fun _=>True) (fun _=>[al tp mb es]):=by
  refine Ci fun w0 _=>?_;refine qa ?_;refine vl (ai (u:=.map _) Tryz.isAgg105 rfl (fun w hw=>hw.ld (i:=0) rfl)) ?_;refine av ?_;refine vl (oR (i:=0) rfl Tryz.underlying105 Tryz.underlying3 Tryz.zeroValue104 rfl rfl) ?_;refine vl (Cw Tryz.underlying104 rfl rfl) ?_;refine gg ?_;exact aT fun w hw=>⟨(),congrArg Value.bool (xl es x),trivial,hw.pk⟩
theorem zM (tp mb:Nat) (es:List PE) (hk:eG es) (x:Int):Ct Tryz.prog 57 #[.pointer (some ⟨tp,0,none⟩),.int .i64 x] [al tp mb es] (fun _=>True) (X:=Unit) (fun _=>.agg (H5 es x).toArray) (fun _=>True) (fun _=>[al tp mb es]):=by
  refine Ci fun w0 _=>?_;refine gg ?_;refine aj.ef (cQ (us:=.int .i64 0::.slice none 0 0::aR) (σ':=fun _=>[_,_]) Tryz.zeroValue102 rfl (fun _=>rfl)) (fun b4=>?_);refine iX ?_;refine vl (ai (u:=.map _) Tryz.isAgg105 rfl (fun w hw=>hw.ld (i:=0) rfl)) ?_;refine av ?_;refine vl (oR (i:=0) rfl Tryz.underlying105 Tryz.underlying3 Tryz.zeroValue104 rfl rfl) ?_;refine bS ?_;refine vl (Cw Tryz.underlying104 rfl rfl) ?_;refine gg ?_;refine WP.cond rfl (fun h13=>?_) (fun h13=>?_)
  ·obtain⟨e,he⟩:∃e,lookE es x=some e:=by unfold pL at h13;cases h:lookE es x with | none=>rw[h] at h13;cases h13 | some e=>exact⟨e,rfl⟩
   have hlen:e.cells.length=57:=by rw[←sT he];exact hk.TX x
   have hone:∀u∈e.cells,u.oneCell'=true:=by rw[←sT he];exact hk.It x
   rw[show pL es x=some ⟨e.bb,0,none⟩ from by simp[pL,he]];refine cK ?_;refine vl (au (cs:=e.cells) Tryz.isAgg102 Tryz.sizeOf102 rfl (fun w hw=>hw.Kz (i:=0) rfl (bp he).1) hlen) ?_;refine aj.aX (ct (us:=e.cells) (σ':=[_,_]) Tryz.sizeOf102 rfl rfl (i:=1) rfl hlen rfl hone hlen) (fun _=>?_);refine gv ?_;simp only[sT he];exact WP.Fp (us:=e.cells) Tryz.results57 rfl Tryz.isAgg102 Tryz.sizeOf102 (fun w hw=>hw.aq (i:=1) rfl 0 (whole _)) hlen (fun _ h=>h) (fun w hw=>⟨(),rfl,trivial,hw.pk⟩)
  ·have he:lookE es x=none:=by unfold pL at h13;cases h:lookE es x with | none=>rfl | some e=>rw[h] at h13;cases h13
   have hlen:(.int .i64 (-1)::.slice none 0 0::aR).length=57:=rfl;have hone:∀u∈(.int .i64 (-1)::.slice none 0 0::aR),u.oneCell'=true:=by rw[←yz he];exact hk.It x
   refine bW ?_;refine vl (aV (us:=(.int .i64 (-1)::.slice none 0 0::aR)) (pl:=[(0,1),(1,1),(2,55)]) Tryz.underlying102 Tryz.zeroValue102 rfl (by kernel_rfl) rfl rfl (by kernel_rfl)) ?_;refine aj.aX (ct (us:=(.int .i64 (-1)::.slice none 0 0::aR)) (σ':=[_,_]) Tryz.sizeOf102 rfl rfl (i:=1) rfl hlen rfl hone hlen) (fun _=>?_);refine gv ?_;simp only[yz he];exact WP.Fp (us:=(.int .i64 (-1)::.slice none 0 0::aR)) Tryz.results57 rfl Tryz.isAgg102 Tryz.sizeOf102 (fun w hw=>hw.aq (i:=1) rfl 0 (whole _)) hlen (fun _ h=>h) (fun w hw=>⟨(),rfl,trivial,hw.pk⟩)
theorem mm (tp mb:Nat) (es:List PE) (hk:eG es) (x:Int):Ct Tryz.prog 37 #[.pointer (some ⟨tp,0,none⟩),.int .i64 x] [al tp mb es] (fun _=>True) (X:=Unit) (fun _=>.int .i64 (upF (ae es) x)) (fun _=>True) (fun _=>[al tp mb es]):=by
  refine Ci fun w0 _=>?_;refine gg ?_;refine eF (xC (zM tp mb es hk x)) fun _ _=>?_;refine vl (hR (u:=.int .i64 _) Tryz.underlying102 rfl Tryz.isAgg3 rfl rfl) ?_;refine gg ?_;exact aT fun w hw=>⟨(),rfl,trivial,hw.pk⟩
theorem a6 (tp mb:Nat) (es:List PE) (hk:eG es) (x:Int):Ct Tryz.prog 18 #[.pointer (some ⟨tp,0,none⟩),.int .i64 x] [al tp mb es] (fun _=>True) (X:=Unit) (fun _=>.agg (pt aR (ae es) x).toArray) (fun _=>True) (fun _=>[al tp mb es]):=by
  refine Ci fun w0 _=>?_;refine gg ?_;refine aj.ef cg fun b4=>?_;refine gg ?_;refine eF (xC (zM tp mb es hk x)) fun _ _=>?_;refine vl (j3 (us:=(pt aR (ae es) x).toArray) Tryz.underlying102 rfl Tryz.isAgg42 Tryz.sizeOf42 rfl (F3 hk x)) ?_;refine aj.aX (ct (us:=pt aR (ae es) x) (σ':=[_,_]) Tryz.sizeOf42 rfl rfl (i:=0) rfl (hk.aE x).len (hσ:=rfl) (hk.aE x).one (hk.aE x).len) (fun _=>?_);refine gg ?_;exact WP.Fp (us:=pt aR (ae es) x) Tryz.results18 rfl Tryz.isAgg42 Tryz.sizeOf42 (fun w hw=>hw.aq (i:=0) rfl 0 (whole _)) (hk.aE x).len (fun _ h=>h) (fun w hw=>⟨(),rfl,trivial,hw.pk⟩)
theorem SG (tp mb:Nat) (es:List PE):Ct Tryz.prog 83 #[.pointer (some ⟨tp,0,none⟩)] [al tp mb es] (fun _=>True) (X:=Unit) (fun _=>.int .i64 (es.length:Int)) (fun _=>True) (fun _=>[al tp mb es]):=by
  refine Ci fun w0 _=>?_;refine qa ?_;refine vl (ai (u:=.map _) Tryz.isAgg105 rfl (fun w hw=>hw.ld (i:=0) rfl)) ?_;refine vl (sH Tryz.underlying105 rfl (fun w hw=>hw.treeMap (i:=0) rfl)) ?_;refine gg ?_;exact aT fun w hw=>⟨(),congrArg (Value.int .i64) (by simp),trivial,hw.pk⟩
theorem AA (F:ar (List Value)):∀n x,fq F n x≤n
  | 0,_=>Nat.le_refl _
  | n + 1, x => by
    rw[fq]
    split
    · have:=AA F n (upF F x);omega
    · omega
theorem oS (tp mb:Nat) (es:List PE) (hk:eG es) {d:Int→Nat} (hF:WF (ae es) d) (x:Int):Ct Tryz.prog 84 #[.pointer (some ⟨tp,0,none⟩),.int .i64 x] [al tp mb es] (fun _=>True) (X:=Unit) (fun _=>.int .i64 (bz (ae es) x)) (fun _=>True) (fun _=>[al tp mb es]):=by
  refine Ci fun w0 _=>?_;refine gg ?_;refine WP.bm (X:=Nat×Int) [0] (fun p=>[(1,.int .i64 p.2),(5,.int .i64 (63 - (p.1:Int)))]) (fun p w=>(bz (ae es) x=63 - p.1+fq (ae es) p.1 p.2∧p.1≤64∧(aK (ae es) p.2=true→d p.2+1≤p.1))∧St w0 (ay [al tp mb es]) [al tp mb es] w) (fun p=>p.1) (64,x) ⟨rfl,rfl,trivial⟩ (fun w hw=>⟨⟨by unfold bz;dsimp only;omega,Nat.le_refl _,fun h=>by dsimp only at h ⊢;obtain⟨b,hb⟩:=aL h;have:=hF.deep x b hb;omega⟩,hw⟩) (fun p ρ0=>?_);refine WP.fact (fun⟨hd,hp,hr⟩=>?_);refine gg ?_;refine eF (xC (lE tp mb es p.2)) fun _ _=>?_;refine gg ?_;refine WP.cond rfl (fun h8=>?_) (fun h8=>?_)
  ·have hr1:=hr h8;have hd2:bz (ae es) x=63 - ((p.1 - 1:Nat):Int)+fq (ae es) (p.1 - 1) (upF (ae es) p.2):=by
     rw[show p.1=(p.1 - 1)+1 by omega,fq,if_pos h8] at hd;omega
   have hr2:aK (ae es) (upF (ae es) p.2)=true→d (upF (ae es) p.2)+1≤p.1 - 1:=fun hu=>by
     obtain⟨b,hb⟩:=aL h8;rw[ch hb] at hu ⊢
     by_cases h0:p.2=0
     · obtain ⟨r, hr0, hru⟩ := hF.root
       rw[h0,hr0] at hb;cases hb;rw[hru,kZ (hF.neg (by omega))] at hu;cases hu
     · have:=hF.rank p.2 b hb h0;omega
   refine gg ?_;refine eF (xC (mm tp mb es hk p.2)) fun _ _=>?_;refine av ?_;exact nl fun w hw=>⟨rfl,(p.1 - 1,upF (ae es) p.2),(by simp only;omega),⟨rfl,(congrArg (Value.int .i64) (by simp only;omega)),jP,trivial⟩,⟨hd2,by simp only;omega,hr2⟩,hw⟩
  ·have hc:fq (ae es) p.1 p.2=0:=by cases e:p.1 with | zero=>rfl | succ n=>rw[fq,if_neg (by simp[h8])]
   refine WP.exit (an ?_);refine gg ?_;exact aT fun w hw=>⟨(),congrArg (Value.int .i64) (by omega),trivial,hw.pk⟩
theorem Ik (A:Option Addr) (c:Nat) (l:List Int) (hl:l.length≤10000):Ct Tryz.prog 74 #[.slice A l.length c] [] (fun w=>Src w A l.length (l.map (Value.int .i64))) (X:=Option Addr×Nat) (fun p=>.slice p.1 l.length p.2) (fun _=>True) (fun p=>[az p.1 l.length p.2 l]):=by
  refine Ci fun w0 hz=>?_;refine iX ?_;refine vl (Ic Tryz.underlying49 rfl rfl) ?_;refine gg ?_;refine WP.cond rfl (fun h4=>?_) (fun h4=>?_)
  ·have hA:A=none:=Option.isNone_iff_eq_none.1 h4;subst hA;have hl0:l=[]:=by rcases hz with ⟨_,h⟩ | ⟨b,o,e,_⟩;exact List.eq_nil_of_length_eq_zero h;cases e
   subst hl0;refine gg ?_;exact aT fun w hw=>⟨(none,0),rfl,trivial,hw.bB 3 1⟩
  ·refine gg ?_;refine aj.ef (uG (σ':=fun _=>[_]) Tryz.underlying49 Tryz.sizeOf3 (fun _=>rfl)) (fun g5=>?_);refine gg ?_;refine aj.ef (cm (sz:=1) (σ':=fun _=>[_]) Tryz.underlying49 cT rfl (by decide) rfl rfl (i:=0) rfl (fun w hw=>hw.ki hz (fun _ _=>ax _)) (by simp) (by intro u hu;obtain⟨z,_,rfl⟩:=List.mem_map.1 hu;rfl) (by omega) (by omega) (fun _=>rfl)) (fun⟨A7,c7⟩=>?_);refine gg ?_;exact aT fun w hw=>⟨(A7,c7),by show Value.slice A7 (0+l.length) c7=_;rw[Nat.zero_add],trivial,by rw[az,←Nat.zero_add l.length];exact hw⟩
theorem CC (tp mb:Nat) (es:List PE) (hk:eG es) (x:Int) (hl:(aH (ae es) x).length≤10000):Ct Tryz.prog 36 #[.pointer (some ⟨tp,0,none⟩),.int .i64 x] [al tp mb es] (fun _=>True) (X:=Option Addr×Nat) (fun p=>.slice p.1 (aH (ae es) x).length p.2) (fun _=>True) (fun p=>[al tp mb es,az p.1 (aH (ae es) x).length p.2 (aH (ae es) x)]):=by
  refine Ci fun w0 _=>?_;refine gg ?_;refine eF (xC (zM tp mb es hk x)) fun _ _=>?_;refine vl (hR (u:=.slice _ _ _) Tryz.underlying102 rfl Tryz.isAgg49 rfl rfl) ?_;refine eF (xC (Ik (kA es x) (kC es x) (aH (ae es) x) hl) (hF:=fun w hw=>hw.Fo (i:=0) rfl x)) fun⟨A9,c9⟩ _=>?_;refine gg ?_;exact aT fun w hw=>⟨(A9,c9),rfl,trivial,hw.pk⟩
theorem F9 (tp mb:Nat) (es:List PE) {d:Int→Nat} (hF:WF (ae es) d):Ct Tryz.prog 85 #[.pointer (some ⟨tp,0,none⟩)] [al tp mb es] (fun _=>True) (X:=Unit) (fun _=>.int .i64 (least (ae es))) (fun _=>True) (fun _=>[al tp mb es]):=by
  refine Ci fun w0 _=>?_;refine gg ?_;refine WP.bm (X:=Nat) [0] (fun k=>[(3,.int .i64 (k:Int))]) (fun k w=>(∀j:Nat,j<k→aK (ae es) j=true)∧St w0 (ay [al tp mb es]) [al tp mb es] w) (fun k=>4096 - k) 0 ⟨rfl,trivial⟩ (fun w hw=>⟨fun j hj=>by omega,hw⟩) (fun k ρ0=>?_);refine WP.fact (fun hall=>?_);refine gg ?_;refine eF (xC (lE tp mb es (k:Int))) fun _ _=>?_;refine gg ?_;refine WP.cond rfl (fun h6=>?_) (fun h6=>?_)
  ·have hk:k<4096:=by obtain⟨b,hb⟩:=aL h6;have:=hF.range _ b hb;omega
   have hall2:∀j:Nat,j<k+1→aK (ae es) j=true:=fun j hj=>by rcases Nat.lt_or_ge j k with h | h;exact hall j h;(obtain rfl:j=k:=by omega);exact h6
   refine iX ?_;exact nl fun w hw=>⟨rfl,k+1,(by omega),⟨rfl,jP,trivial⟩,hall2,hw⟩
  ·have hle:least (ae es)=(k:Int):=by
     obtain⟨l1,l2,l3,l4⟩:=hF.k8
     rcases Int.lt_trichotomy (least (ae es)) k with h | h | h
     · have h9 := hall (least (ae es)).toNat (by omega)
       rw[show ((least (ae es)).toNat:Int)=least (ae es) by omega,l3] at h9;cases h9
     · exact h
     · rw[l4 k (by omega) h] at h6;cases h6
   refine WP.exit (an ?_);refine gg ?_;exact aT fun w hw=>⟨(),congrArg (Value.int .i64) hle.symm,trivial,hw.pk⟩
end Go.Proofs.YtbedndijejpcaaaGreat
