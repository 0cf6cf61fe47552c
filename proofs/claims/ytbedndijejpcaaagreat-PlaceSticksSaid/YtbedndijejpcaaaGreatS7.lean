/- RecCat RecValid Tree RefT -/
import Derived.Test.YtbedndijejpcaaaGreatS6
set_option linter.unusedVariables false
set_option linter.unusedSimpArgs false
set_option linter.unusedSectionVars false
set_option maxRecDepth 100000
set_option maxHeartbeats 8000000
namespace Go.Proofs.YtbedndijejpcaaaGreat
open Go.RowKit
theorem info33:(Tryz.prog.info? 33).map (fun i=>(i.zero,i.size,i.bytes))=some (some (.agg #[.int .i64 0,.int .i64 0]),2,16):=by kernel_rfl
theorem any_more {α:Type} {p:α→Bool} {l:List α} {k:Nat} {x:α} (h:(l.take k).any p=false) (hx:l[k]?=some x) (hp:p x=false):(l.take (k+1)).any p=false:=by
  rw[List.take_add_one,hx,List.any_append,h];simp[hp]
theorem any_at {α:Type} {p:α→Bool} {l:List α} {k:Nat} {x:α} (hx:l[k]?=some x) (hp:p x=true):l.any p=true:=List.any_eq_true.2 ⟨x,List.mem_of_getElem? hx,hp⟩
abbrev lenE (p:Int×Int):List Value:=[.int .i64 p.1,.int .i64 p.2]
theorem oddLen_ct (k n:Int):Ct Tryz.prog 97 #[.agg #[.int .i64 k,.int .i64 n]] [] (fun _=>True) (X:=Unit) (fun _=>.bool (!lenOk k n)) (fun _=>True) (fun _=>[]):=by
  refine Ci fun w0 _=>?_;refine gg ?_;refine WPL.ef xB fun b1=>?_;refine gg ?_;refine eF (xC (lenValid_ct k n)) fun _ _=>?_;refine gg ?_;exact rt1 fun w hw=>⟨(),rfl,trivial,hw.pk⟩
theorem farInt_ct (n:Int):Ct Tryz.prog 99 #[.int .i64 n] [] (fun _=>True) (X:=Unit) (fun _=>.bool (!within n 0 1048576)) (fun _=>True) (fun _=>[]):=by
  refine Ci fun w0 _=>?_;refine gg ?_;refine vl (vC (in100_any _ 0 1048576 _)) ?_;refine gg ?_;exact rt1 fun w hw=>⟨(),rfl,trivial,hw.pk⟩
theorem grow141_ct (n:Nat) (h0:0<n) (hn:n≤1000):Ct Tryz.prog 141 #[.slice none 0 0,.int .i64 n] [] (fun _=>True) (X:=Nat×Nat) (fun p=>.slice (some ⟨p.1,0,none⟩) 0 p.2) (fun _=>True) (fun p=>[.row 33 2 (some ⟨p.1,0,none⟩) 0 p.2 []]):=by
  refine Ci fun w0 _=>?_;refine gg ?_;refine WP.condP rfl (fun h=>absurd h (by omega)) (fun h6=>?_);refine WP.skip (onto_of ?_);refine sq ?_;refine sqR ?_
  iterate 2 refine av ?_
  refine vl (v_cap Tryz.underlying156 rfl) ?_;refine gg ?_;refine WP.condP rfl (fun h16=>?_) (fun h=>absurd (by omega) h);refine WP.region ?_
  iterate 2 refine av ?_
  refine vl (v_cap Tryz.underlying156 rfl) ?_;refine vl (v_slice (kl:=0) (l:=0) (h:=0) Tryz.underlying156 Tryz.sizeOf33 rfl rfl ⟨rfl,rfl⟩ (by omega) (by omega)) ?_;refine gg ?_;refine WPL.ef (x_grow (n:=n) (σ':=fun _=>[_]) Tryz.underlying156 Tryz.underlying3 info33 rfl (by decide) rfl rfl (by omega) h0 hn (by decide) (fun _=>rfl)) (fun⟨g,c22⟩=>?_);refine WPL.fact (fun hcap=>?_)
  iterate 2 refine av ?_
  refine vl (v_slice (kl:=0) (l:=0) (h:=0) Tryz.underlying156 Tryz.sizeOf33 rfl rfl ⟨rfl,rfl⟩ (by omega) (by omega)) ?_;simp only[cutAddr_zero];refine gg ?_;exact rt1 fun w hw=>⟨(g,c22),rfl,trivial,hw⟩
theorem grow142_ct (n:Nat) (h0:0<n) (hn:n≤1000):Ct Tryz.prog 142 #[.slice none 0 0,.int .i64 n] [] (fun _=>True) (X:=Nat×Nat) (fun p=>.slice (some ⟨p.1,0,none⟩) 0 p.2) (fun _=>True) (fun p=>[.row 3 1 (some ⟨p.1,0,none⟩) 0 p.2 []]):=by
  refine Ci fun w0 _=>?_;refine gg ?_;refine WP.condP rfl (fun h=>absurd h (by omega)) (fun h6=>?_);refine WP.skip (onto_of ?_);refine sq ?_;refine sqR ?_
  iterate 2 refine av ?_
  refine vl (v_cap Tryz.underlying49 rfl) ?_;refine gg ?_;refine WP.condP rfl (fun h16=>?_) (fun h=>absurd (by omega) h);refine WP.region ?_
  iterate 2 refine av ?_
  refine vl (v_cap Tryz.underlying49 rfl) ?_;refine vl (v_slice (kl:=0) (l:=0) (h:=0) Tryz.underlying49 Tryz.sizeOf3 rfl rfl ⟨rfl,rfl⟩ (by omega) (by omega)) ?_;refine gg ?_;refine WPL.ef (x_grow (n:=n) (σ':=fun _=>[_]) Tryz.underlying49 Tryz.underlying3 int_info rfl (by decide) rfl rfl (by omega) h0 hn (by decide) (fun _=>rfl)) (fun⟨g,c22⟩=>?_);refine WPL.fact (fun hcap=>?_)
  iterate 2 refine av ?_
  refine vl (v_slice (kl:=0) (l:=0) (h:=0) Tryz.underlying49 Tryz.sizeOf3 rfl rfl ⟨rfl,rfl⟩ (by omega) (by omega)) ?_;simp only[cutAddr_zero];refine gg ?_;exact rt1 fun w hw=>⟨(g,c22),rfl,trivial,hw⟩
theorem index143_ct (A:Option Addr) (c:Nat) (l:List (Int×Int)) (hl:l.length≤1000):Ct Tryz.prog 143 #[.slice A l.length c,.func (.func 97) #[] #[]] [] (fun w=>RdE w A 2 lenE l) (X:=Int) (fun z=>.int .i64 z) (fun z=>(0≤z↔l.any (fun p=> !lenOk p.1 p.2)=true)∧z≤1000) (fun _=>[]):=by
  refine Ci fun w0 hz=>?_;refine gg ?_;refine WP.loopK (X:=Nat) [0,1,7] (fun k=>[(8,.int .i64 (k:Int))]) (fun k w=>(k≤l.length∧(l.take k).any (fun p=> !lenOk p.1 p.2)=false)∧St w0 (foots []) [] w) (fun k=>l.length - k) 0 ⟨rfl,trivial⟩ (fun w hw=>⟨⟨by omega,by simp⟩,hw⟩) (fun k ρ0=>?_);refine WP.fact (fun⟨hk,ht⟩=>?_);refine gg ?_;refine WP.condP rfl (fun h9=>?_) (fun h9=>?_)
  ·have hk':k<l.length:=by omega
   obtain⟨x,hx⟩:∃x,l[k]?=some x:=⟨_,List.getElem?_eq_getElem hk'⟩;obtain⟨b,o,rfl,hc⟩:=hz k x hx;refine WP.skip (onto_of ?_);refine sq ?_;refine WP.block ?_;refine sqR ?_
   iterate 2 refine av ?_
   refine nl (oo ?_);refine sqR ?_;refine mv rfl ?_
   iterate 3 refine av ?_
   refine vl (v_loadA (cs:=[.int .i64 _,.int .i64 _]) Tryz.isAgg33 Tryz.sizeOf33 rfl (fun w hw=>hw.old_at hc (not_foots_nil _))) ?_;refine eF (xV (oddLen_ct x.1 x.2) Tryz.call97) fun _ _=>?_;refine gg ?_;refine WP.cond rfl (fun h16=>?_) (fun h16=>?_)
   ·refine gg ?_;exact rt1 fun w hw=>⟨_,rfl,by first | exact⟨⟨fun _=>any_at hx h16,fun _=>by omega⟩,by omega⟩ | exact⟨⟨fun h=>absurd h (by decide),fun h=>by rw[hall] at h;cases h⟩,by decide⟩,hw⟩
   ·refine WP.skip (onto_of ?_);refine WP.region ?_
    iterate 2 refine av ?_
    exact nl fun w hw=>⟨rfl,k+1,(by omega),⟨rfl,jS,rfl,jI,trivial⟩,⟨by omega,any_more ht hx h16⟩,hw⟩
  ·have hall:l.any (fun p=> !lenOk p.1 p.2)=false:=by rw[List.take_of_length_le (by omega)] at ht;exact ht
   refine WP.exit (onto_of ?_);refine gg ?_;exact rt1 fun w hw=>⟨_,rfl,by first | exact⟨⟨fun _=>any_at hx h16,fun _=>by omega⟩,by omega⟩ | exact⟨⟨fun h=>absurd h (by decide),fun h=>by rw[hall] at h;cases h⟩,by decide⟩,hw⟩
theorem contains108_ct (A:Option Addr) (c:Nat) (l:List (Int×Int)) (hl:l.length≤1000):Ct Tryz.prog 108 #[.slice A l.length c,.func (.func 97) #[] #[]] [] (fun w=>RdE w A 2 lenE l) (X:=Unit) (fun _=>.bool (l.any (fun p=> !lenOk p.1 p.2))) (fun _=>True) (fun _=>[]):=by
  refine Ci fun w0 hz=>?_;refine sqR ?_;refine av ?_;refine nl (oo ?_);refine sqR ?_;refine av ?_;refine mv rfl ?_;refine eF (xC (index143_ct A c l hl) (hF:=fun w hw=>hw.rd hz (not_foots_nil))) fun z ⟨hz1,hz2⟩=>?_;refine gg ?_;exact rt1 fun w hw=>⟨(),congrArg Value.bool (by rw[Bool.eq_iff_iff,decide_eq_true_iff];exact hz1),trivial,hw⟩
theorem index144_ct (A:Option Addr) (c:Nat) (l:List Int) (hl:l.length≤1000):Ct Tryz.prog 144 #[.slice A l.length c,.func (.func 99) #[] #[]] [] (fun w=>RdE w A 1 encI l) (X:=Int) (fun z=>.int .i64 z) (fun z=>(0≤z↔l.any (fun n=> !within n 0 1048576)=true)∧z≤1000) (fun _=>[]):=by
  refine Ci fun w0 hz=>?_;refine gg ?_;refine WP.loopK (X:=Nat) [0,1,7] (fun k=>[(8,.int .i64 (k:Int))]) (fun k w=>(k≤l.length∧(l.take k).any (fun n=> !within n 0 1048576)=false)∧St w0 (foots []) [] w) (fun k=>l.length - k) 0 ⟨rfl,trivial⟩ (fun w hw=>⟨⟨by omega,by simp⟩,hw⟩) (fun k ρ0=>?_);refine WP.fact (fun⟨hk,ht⟩=>?_);refine gg ?_;refine WP.condP rfl (fun h9=>?_) (fun h9=>?_)
  ·have hk':k<l.length:=by omega
   obtain⟨x,hx⟩:∃x,l[k]?=some x:=⟨_,List.getElem?_eq_getElem hk'⟩;obtain⟨b,o,rfl,hc⟩:=hz k x hx;refine WP.skip (onto_of ?_);refine sq ?_;refine WP.block ?_;refine sqR ?_
   iterate 2 refine av ?_
   refine nl (oo ?_);refine sqR ?_;refine mv rfl ?_;refine gg ?_;refine vl (vO hc) ?_;refine eF (xV (farInt_ct x) Tryz.call99) fun _ _=>?_;refine gg ?_;refine WP.cond rfl (fun h16=>?_) (fun h16=>?_)
   ·refine gg ?_;exact rt1 fun w hw=>⟨_,rfl,by first | exact⟨⟨fun _=>any_at hx h16,fun _=>by omega⟩,by omega⟩ | exact⟨⟨fun h=>absurd h (by decide),fun h=>by rw[hall] at h;cases h⟩,by decide⟩,hw⟩
   ·refine WP.skip (onto_of ?_);refine WP.region ?_
    iterate 2 refine av ?_
    exact nl fun w hw=>⟨rfl,k+1,(by omega),⟨rfl,jS,rfl,jI,trivial⟩,⟨by omega,any_more ht hx h16⟩,hw⟩
  ·have hall:l.any (fun n=> !within n 0 1048576)=false:=by rw[List.take_of_length_le (by omega)] at ht;exact ht
   refine WP.exit (onto_of ?_);refine gg ?_;exact rt1 fun w hw=>⟨_,rfl,by first | exact⟨⟨fun _=>any_at hx h16,fun _=>by omega⟩,by omega⟩ | exact⟨⟨fun h=>absurd h (by decide),fun h=>by rw[hall] at h;cases h⟩,by decide⟩,hw⟩
theorem contains109_ct (A:Option Addr) (c:Nat) (l:List Int) (hl:l.length≤1000):Ct Tryz.prog 109 #[.slice A l.length c,.func (.func 99) #[] #[]] [] (fun w=>RdE w A 1 encI l) (X:=Unit) (fun _=>.bool (l.any (fun n=> !within n 0 1048576))) (fun _=>True) (fun _=>[]):=by
  refine Ci fun w0 hz=>?_;refine sqR ?_;refine av ?_;refine nl (oo ?_);refine sqR ?_;refine av ?_;refine mv rfl ?_;refine eF (xC (index144_ct A c l hl) (hF:=fun w hw=>hw.rd hz (not_foots_nil))) fun z ⟨hz1,hz2⟩=>?_;refine gg ?_;exact rt1 fun w hw=>⟨(),congrArg Value.bool (by rw[Bool.eq_iff_iff,decide_eq_true_iff];exact hz1),trivial,hw⟩
theorem concat95_ct (ob oc:Nat) (A0 A1 A2:Option Addr) (c0 c1 c2:Nat) (xs0 xs1 xs2:List Value) (hl0:xs0.length=7*2) (hl1:xs1.length=4*2) (hl2:xs2.length=4*2) (h1:∀u∈xs0++xs1++xs2,u.oneCell'=true):
    Ct Tryz.prog 95 #[.slice (some ⟨ob,0,none⟩) 3 oc] [] (fun w=>CellsAt w ob 0 [.slice A0 7 c0]∧CellsAt w ob 1 [.slice A1 4 c1]∧CellsAt w ob 2 [.slice A2 4 c2]∧Src w A0 7 xs0∧Src w A1 4 xs1∧Src w A2 4 xs2) (X:=Nat×Nat) (fun p=>.slice (some ⟨p.1,0,none⟩) 15 p.2) (fun _=>True) (fun p=>[.row 33 2 (some ⟨p.1,0,none⟩) 15 p.2 (xs0++xs1++xs2)]):=by
  refine Ci fun w0 ⟨ho0,ho1,ho2,hs0,hs1,hs2⟩=>?_;refine gg ?_;refine WP.loopN 4 ?_;refine WPR.succ ?_;refine gg ?_;refine WP.condT rfl ?_;refine gg ?_;refine vl (vO ho0) ?_;refine gg ?_;refine WP.condF rfl ?_;refine WP.skip (onto_of ?_);refine WP.region ?_
  iterate 2 refine av ?_
  refine WPL.nil (rounds_of ?_);refine WPR.succ ?_;refine gg ?_;refine WP.condT rfl ?_;refine WP.skip (onto_of ?_);refine sq ?_;refine WP.block ?_;refine sqR ?_;refine vl (v_index (j:=1) Tryz.underlying202 Tryz.sizeOf156 rfl rfl rfl (by omega)) ?_;refine vl (v_load1 (u:=.slice _ _ _) Tryz.isAgg156 rfl (fun w hw=>hw.old_at ho1 (not_foots_nil _))) ?_;refine gg ?_;refine WP.condF rfl ?_;refine WP.skip (onto_of ?_);refine WP.region ?_
  iterate 2 refine av ?_
  refine WPL.nil (rounds_of ?_);refine WPR.succ ?_;refine gg ?_;refine WP.condT rfl ?_;refine WP.skip (onto_of ?_);refine sq ?_;refine WP.block ?_;refine sqR ?_;refine vl (v_index (j:=2) Tryz.underlying202 Tryz.sizeOf156 rfl rfl rfl (by omega)) ?_;refine vl (v_load1 (u:=.slice _ _ _) Tryz.isAgg156 rfl (fun w hw=>hw.old_at ho2 (not_foots_nil _))) ?_;refine gg ?_;refine WP.condF rfl ?_;refine WP.skip (onto_of ?_);refine WP.region ?_
  iterate 2 refine av ?_
  refine WPL.nil (rounds_of ?_);refine WPR.succ ?_;refine gg ?_;refine WP.condF rfl ?_;refine WP.exit (onto_of ?_);refine gg ?_;refine eF (xC (grow141_ct 15 (by decide) (by decide))) fun⟨b24,c24⟩ _=>?_;refine gg ?_;refine WP.loopN 4 ?_;refine WPR.succ ?_;refine gg ?_;refine WP.condT rfl ?_;refine gg ?_;refine vl (vO ho0) ?_;refine gg ?_;refine WPL.ef (x_append (sz:=2) (m:=7) (news:=xs0) (σ':=fun p=>[.row 33 2 p.1 _ p.2 _]) Tryz.underlying156 info33 rfl (by decide) rfl rfl (i:=0) rfl (fun w hw=>hw.oldSrc hs0 (fun _ _=>not_foots_nil _)) hl0 (fun u hu=>h1 u (by simp[hu])) (by omega) (by omega) (fun _=>rfl)) (fun⟨B0,d0⟩=>?_);refine av ?_;refine nl (oo ?_);refine WP.region ?_
  iterate 2 refine av ?_
  refine WPL.nil (rounds_of ?_);refine WPR.succ ?_;refine gg ?_;refine WP.condT rfl ?_;refine WP.skip (onto_of ?_);refine sq ?_;refine WP.block ?_;refine sqR ?_;refine vl (v_index (j:=1) Tryz.underlying202 Tryz.sizeOf156 rfl rfl rfl (by omega)) ?_;refine vl (v_load1 (u:=.slice _ _ _) Tryz.isAgg156 rfl (fun w hw=>hw.old_at ho1 (not_foots_nil _))) ?_;refine gg ?_;refine WPL.ef (x_append (sz:=2) (m:=4) (news:=xs1) (σ':=fun p=>[.row 33 2 p.1 _ p.2 _]) Tryz.underlying156 info33 rfl (by decide) rfl rfl (i:=0) rfl (fun w hw=>hw.oldSrc hs1 (fun _ _=>not_foots_nil _)) hl1 (fun u hu=>h1 u (by simp[hu])) (by omega) (by omega) (fun _=>rfl)) (fun⟨B1,d1⟩=>?_);refine av ?_;refine nl (oo ?_);refine WP.region ?_
  iterate 2 refine av ?_
  refine WPL.nil (rounds_of ?_);refine WPR.succ ?_;refine gg ?_;refine WP.condT rfl ?_;refine WP.skip (onto_of ?_);refine sq ?_;refine WP.block ?_;refine sqR ?_;refine vl (v_index (j:=2) Tryz.underlying202 Tryz.sizeOf156 rfl rfl rfl (by omega)) ?_;refine vl (v_load1 (u:=.slice _ _ _) Tryz.isAgg156 rfl (fun w hw=>hw.old_at ho2 (not_foots_nil _))) ?_;refine gg ?_;refine WPL.ef (x_append (sz:=2) (m:=4) (news:=xs2) (σ':=fun p=>[.row 33 2 p.1 _ p.2 _]) Tryz.underlying156 info33 rfl (by decide) rfl rfl (i:=0) rfl (fun w hw=>hw.oldSrc hs2 (fun _ _=>not_foots_nil _)) hl2 (fun u hu=>h1 u (by simp[hu])) (by omega) (by omega) (fun _=>rfl)) (fun⟨B2,d2⟩=>?_);refine av ?_;refine nl (oo ?_);refine WP.region ?_
  iterate 2 refine av ?_
  refine WPL.nil (rounds_of ?_);refine WPR.succ ?_;refine gg ?_;refine WP.condF rfl ?_;refine WP.exit (onto_of ?_);refine gg ?_;exact rt1 fun w hw=>by obtain⟨bb,hbb⟩:=hw.row_pos (i:=0) rfl (by decide);subst hbb;exact⟨(bb,d2),rfl,trivial,hw⟩
theorem concat96_ct (ob oc:Nat) (A0 A1 A2 A3:Option Addr) (c0 c1 c2 c3:Nat) (xs0 xs1 xs2 xs3:List Value) (hl0:xs0.length=1*1) (hl1:xs1.length=4*1) (hl2:xs2.length=4*1) (hl3:xs3.length=2*1) (h1:∀u∈xs0++xs1++xs2++xs3,u.oneCell'=true):
    Ct Tryz.prog 96 #[.slice (some ⟨ob,0,none⟩) 4 oc] [] (fun w=>CellsAt w ob 0 [.slice A0 1 c0]∧CellsAt w ob 1 [.slice A1 4 c1]∧CellsAt w ob 2 [.slice A2 4 c2]∧CellsAt w ob 3 [.slice A3 2 c3]∧Src w A0 1 xs0∧Src w A1 4 xs1∧Src w A2 4 xs2∧Src w A3 2 xs3) (X:=Nat×Nat) (fun p=>.slice (some ⟨p.1,0,none⟩) 11 p.2) (fun _=>True) (fun p=>[.row 3 1 (some ⟨p.1,0,none⟩) 11 p.2 (xs0++xs1++xs2++xs3)]):=by
  refine Ci fun w0 ⟨ho0,ho1,ho2,ho3,hs0,hs1,hs2,hs3⟩=>?_;refine gg ?_;refine WP.loopN 5 ?_;refine WPR.succ ?_;refine gg ?_;refine WP.condT rfl ?_;refine gg ?_;refine vl (vO ho0) ?_;refine gg ?_;refine WP.condF rfl ?_;refine WP.skip (onto_of ?_);refine WP.region ?_
  iterate 2 refine av ?_
  refine WPL.nil (rounds_of ?_);refine WPR.succ ?_;refine gg ?_;refine WP.condT rfl ?_;refine WP.skip (onto_of ?_);refine sq ?_;refine WP.block ?_;refine sqR ?_;refine vl (v_index (j:=1) Tryz.underlying204 Tryz.sizeOf49 rfl rfl rfl (by omega)) ?_;refine vl (v_load1 (u:=.slice _ _ _) Tryz.isAgg49 rfl (fun w hw=>hw.old_at ho1 (not_foots_nil _))) ?_;refine gg ?_;refine WP.condF rfl ?_;refine WP.skip (onto_of ?_);refine WP.region ?_
  iterate 2 refine av ?_
  refine WPL.nil (rounds_of ?_);refine WPR.succ ?_;refine gg ?_;refine WP.condT rfl ?_;refine WP.skip (onto_of ?_);refine sq ?_;refine WP.block ?_;refine sqR ?_;refine vl (v_index (j:=2) Tryz.underlying204 Tryz.sizeOf49 rfl rfl rfl (by omega)) ?_;refine vl (v_load1 (u:=.slice _ _ _) Tryz.isAgg49 rfl (fun w hw=>hw.old_at ho2 (not_foots_nil _))) ?_;refine gg ?_;refine WP.condF rfl ?_;refine WP.skip (onto_of ?_);refine WP.region ?_
  iterate 2 refine av ?_
  refine WPL.nil (rounds_of ?_);refine WPR.succ ?_;refine gg ?_;refine WP.condT rfl ?_;refine WP.skip (onto_of ?_);refine sq ?_;refine WP.block ?_;refine sqR ?_;refine vl (v_index (j:=3) Tryz.underlying204 Tryz.sizeOf49 rfl rfl rfl (by omega)) ?_;refine vl (v_load1 (u:=.slice _ _ _) Tryz.isAgg49 rfl (fun w hw=>hw.old_at ho3 (not_foots_nil _))) ?_;refine gg ?_;refine WP.condF rfl ?_;refine WP.skip (onto_of ?_);refine WP.region ?_
  iterate 2 refine av ?_
  refine WPL.nil (rounds_of ?_);refine WPR.succ ?_;refine gg ?_;refine WP.condF rfl ?_;refine WP.exit (onto_of ?_);refine gg ?_;refine eF (xC (grow142_ct 11 (by decide) (by decide))) fun⟨b24,c24⟩ _=>?_;refine gg ?_;refine WP.loopN 5 ?_;refine WPR.succ ?_;refine gg ?_;refine WP.condT rfl ?_;refine gg ?_;refine vl (vO ho0) ?_;refine gg ?_;refine WPL.ef (x_append (sz:=1) (m:=1) (news:=xs0) (σ':=fun p=>[.row 3 1 p.1 _ p.2 _]) Tryz.underlying49 int_info rfl (by decide) rfl rfl (i:=0) rfl (fun w hw=>hw.oldSrc hs0 (fun _ _=>not_foots_nil _)) hl0 (fun u hu=>h1 u (by simp[hu])) (by omega) (by omega) (fun _=>rfl)) (fun⟨B0,d0⟩=>?_);refine av ?_;refine nl (oo ?_);refine WP.region ?_
  iterate 2 refine av ?_
  refine WPL.nil (rounds_of ?_);refine WPR.succ ?_;refine gg ?_;refine WP.condT rfl ?_;refine WP.skip (onto_of ?_);refine sq ?_;refine WP.block ?_;refine sqR ?_;refine vl (v_index (j:=1) Tryz.underlying204 Tryz.sizeOf49 rfl rfl rfl (by omega)) ?_;refine vl (v_load1 (u:=.slice _ _ _) Tryz.isAgg49 rfl (fun w hw=>hw.old_at ho1 (not_foots_nil _))) ?_;refine gg ?_;refine WPL.ef (x_append (sz:=1) (m:=4) (news:=xs1) (σ':=fun p=>[.row 3 1 p.1 _ p.2 _]) Tryz.underlying49 int_info rfl (by decide) rfl rfl (i:=0) rfl (fun w hw=>hw.oldSrc hs1 (fun _ _=>not_foots_nil _)) hl1 (fun u hu=>h1 u (by simp[hu])) (by omega) (by omega) (fun _=>rfl)) (fun⟨B1,d1⟩=>?_);refine av ?_;refine nl (oo ?_);refine WP.region ?_
  iterate 2 refine av ?_
  refine WPL.nil (rounds_of ?_);refine WPR.succ ?_;refine gg ?_;refine WP.condT rfl ?_;refine WP.skip (onto_of ?_);refine sq ?_;refine WP.block ?_;refine sqR ?_;refine vl (v_index (j:=2) Tryz.underlying204 Tryz.sizeOf49 rfl rfl rfl (by omega)) ?_;refine vl (v_load1 (u:=.slice _ _ _) Tryz.isAgg49 rfl (fun w hw=>hw.old_at ho2 (not_foots_nil _))) ?_;refine gg ?_;refine WPL.ef (x_append (sz:=1) (m:=4) (news:=xs2) (σ':=fun p=>[.row 3 1 p.1 _ p.2 _]) Tryz.underlying49 int_info rfl (by decide) rfl rfl (i:=0) rfl (fun w hw=>hw.oldSrc hs2 (fun _ _=>not_foots_nil _)) hl2 (fun u hu=>h1 u (by simp[hu])) (by omega) (by omega) (fun _=>rfl)) (fun⟨B2,d2⟩=>?_);refine av ?_;refine nl (oo ?_);refine WP.region ?_
  iterate 2 refine av ?_
  refine WPL.nil (rounds_of ?_);refine WPR.succ ?_;refine gg ?_;refine WP.condT rfl ?_;refine WP.skip (onto_of ?_);refine sq ?_;refine WP.block ?_;refine sqR ?_;refine vl (v_index (j:=3) Tryz.underlying204 Tryz.sizeOf49 rfl rfl rfl (by omega)) ?_;refine vl (v_load1 (u:=.slice _ _ _) Tryz.isAgg49 rfl (fun w hw=>hw.old_at ho3 (not_foots_nil _))) ?_;refine gg ?_;refine WPL.ef (x_append (sz:=1) (m:=2) (news:=xs3) (σ':=fun p=>[.row 3 1 p.1 _ p.2 _]) Tryz.underlying49 int_info rfl (by decide) rfl rfl (i:=0) rfl (fun w hw=>hw.oldSrc hs3 (fun _ _=>not_foots_nil _)) hl3 (fun u hu=>h1 u (by simp[hu])) (by omega) (by omega) (fun _=>rfl)) (fun⟨B3,d3⟩=>?_);refine av ?_;refine nl (oo ?_);refine WP.region ?_
  iterate 2 refine av ?_
  refine WPL.nil (rounds_of ?_);refine WPR.succ ?_;refine gg ?_;refine WP.condF rfl ?_;refine WP.exit (onto_of ?_);refine gg ?_;exact rt1 fun w hw=>by obtain⟨bb,hbb⟩:=hw.row_pos (i:=0) rfl (by decide);subst hbb;exact⟨(bb,d3),rfl,trivial,hw⟩
theorem valid_ct (cs:List Value) (hs:SOk cs):Ct Tryz.prog 58 #[.agg cs.toArray] [] (fun _=>True) (X:=Unit) (fun _=>.bool (validB cs)) (fun _=>True) (fun _=>[]):=by
  refine Ci fun w0 _=>?_;refine gg ?_;refine WPL.ef (xB (us:=cs)) fun sty=>?_;refine gg ?_;refine wP none [0] [pT 0,pT 1,pT 2,pT 3,pT 4,pT 5,pT 6,pT 7,pT 8,pT 9,pT 10,pT 11,pT 12,pT 13,pT 15,pT 16,pT 17,pT 18,pF 14,pF 19,pF 20,pT 21] ?_;refine ad ?_;refine tE rfl (v_loadA (cs:=[.int .i64 _,.int .i64 _]) Tryz.isAgg33 Tryz.sizeOf33 rfl (fun w hw=>hw.cl_at (i:=0) rfl 3 (hs.segE 2 3 (by decide) (by decide) rfl rfl))) ?_;refine ad ?_;refine tE rfl (v_loadA (cs:=[.int .i64 _,.int .i64 _]) Tryz.isAgg33 Tryz.sizeOf33 rfl (fun w hw=>hw.cl_at (i:=0) rfl 5 (hs.segE 2 5 (by decide) (by decide) rfl rfl))) ?_;refine ad ?_;refine tE rfl (v_loadA (cs:=[.int .i64 _,.int .i64 _]) Tryz.isAgg33 Tryz.sizeOf33 rfl (fun w hw=>hw.cl_at (i:=0) rfl 7 (hs.segE 2 7 (by decide) (by decide) rfl rfl))) ?_;refine ad ?_;refine tE rfl (v_loadA (cs:=[.int .i64 _,.int .i64 _]) Tryz.isAgg33 Tryz.sizeOf33 rfl (fun w hw=>hw.cl_at (i:=0) rfl 9 (hs.segE 2 9 (by decide) (by decide) rfl rfl))) ?_;refine ad ?_;refine tE rfl (v_loadA (cs:=[.int .i64 _,.int .i64 _]) Tryz.isAgg33 Tryz.sizeOf33 rfl (fun w hw=>hw.cl_at (i:=0) rfl 11 (hs.segE 2 11 (by decide) (by decide) rfl rfl))) ?_;refine ad ?_;refine tE rfl (v_loadA (cs:=[.int .i64 _,.int .i64 _]) Tryz.isAgg33 Tryz.sizeOf33 rfl (fun w hw=>hw.cl_at (i:=0) rfl 13 (hs.segE 2 13 (by decide) (by decide) rfl rfl))) ?_;refine ad ?_;refine tE rfl (v_loadA (cs:=[.int .i64 _,.int .i64 _]) Tryz.isAgg33 Tryz.sizeOf33 rfl (fun w hw=>hw.cl_at (i:=0) rfl 41 (hs.segE 2 41 (by decide) (by decide) rfl rfl))) ?_;refine ad ?_;refine tE rfl (v_sliceA Tryz.underlying34 Tryz.sizeOf33 rfl) ?_;refine ad ?_;refine tE rfl (v_sliceA Tryz.underlying34 Tryz.sizeOf33 rfl) ?_;refine dE (xN rfl (us:=[.int .i64 _,.int .i64 _,.int .i64 _,.int .i64 _,.int .i64 _,.int .i64 _,.int .i64 _,.int .i64 _,.int .i64 _,.int .i64 _,.int .i64 _,.int .i64 _,.int .i64 _,.int .i64 _])) fun g23=>?_;refine dE (xN rfl (us:=[.slice _ _ _,.slice _ _ _,.slice _ _ _])) fun g28=>?_;refine dG (xC (concat95_ct g28 3 _ _ _ _ _ _ ([.int .i64 (val cs 3),.int .i64 (val cs 4),.int .i64 (val cs 5),.int .i64 (val cs 6),.int .i64 (val cs 7),.int .i64 (val cs 8),.int .i64 (val cs 9),.int .i64 (val cs 10),.int .i64 (val cs 11),.int .i64 (val cs 12),.int .i64 (val cs 13),.int .i64 (val cs 14),.int .i64 (val cs 41),.int .i64 (val cs 42)]) ([.int .i64 (val cs 15),.int .i64 (val cs 16),.int .i64 (val cs 17),.int .i64 (val cs 18),.int .i64 (val cs 19),.int .i64 (val cs 20),.int .i64 (val cs 21),.int .i64 (val cs 22)]) ([.int .i64 (val cs 23),.int .i64 (val cs 24),.int .i64 (val cs 25),.int .i64 (val cs 26),.int .i64 (val cs 27),.int .i64 (val cs 28),.int .i64 (val cs 29),.int .i64 (val cs 30)]) rfl rfl rfl (by simp[Value.oneCell'])) (hF:=fun w hw=>⟨hw.row_at1 (i:=2) rfl rfl rfl,hw.row_at1 (i:=2) rfl rfl rfl,hw.row_at1 (i:=2) rfl rfl rfl,hw.src_row (i:=1) rfl,srcAt (hw.cl_at (i:=0) rfl 15 (hs.segE 8 15 (by decide) (by decide) rfl rfl)),srcAt (hw.cl_at (i:=0) rfl 23 (hs.segE 8 23 (by decide) (by decide) rfl rfl))⟩)) fun⟨bl,cl⟩ _=>?_
  refine gg ?_;refine wP none [0,1,2,3] [pT 0,pT 1,pT 3,pT 4,pT 5,pT 6,pT 7,pT 8,pF 2,pF 9,pF 10,pT 11] ?_;refine ad ?_;refine tE rfl (v_load1 (u:=.int .i64 _) Tryz.isAgg3 rfl (fun w hw=>hw.cl_at (i:=0) rfl 46 (cell_of (hs.int 46 (by decide) (by decide))))) ?_;refine ad ?_;refine tE rfl (v_sliceA Tryz.underlying35 Tryz.sizeOf3 rfl) ?_;refine ad ?_;refine tE rfl (v_sliceA Tryz.underlying35 Tryz.sizeOf3 rfl) ?_;refine ad ?_;refine tE rfl (v_sliceA Tryz.underlying40 Tryz.sizeOf3 rfl) ?_;refine dE (xN (L1 rfl)) fun g32=>?_;refine dE (xN rfl (us:=[.slice _ _ _,.slice _ _ _,.slice _ _ _,.slice _ _ _])) fun g39=>?_;refine dG (xC (concat96_ct g39 4 _ _ _ _ _ _ _ _ ([.int .i64 (val cs 46)]) ([.int .i64 (val cs 31),.int .i64 (val cs 32),.int .i64 (val cs 33),.int .i64 (val cs 34)]) ([.int .i64 (val cs 35),.int .i64 (val cs 36),.int .i64 (val cs 37),.int .i64 (val cs 38)]) ([.int .i64 (val cs 53),.int .i64 (val cs 54)]) rfl rfl rfl rfl (by simp[Value.oneCell'])) (hF:=fun w hw=>⟨hw.row_at1 (i:=5) rfl rfl rfl,hw.row_at1 (i:=5) rfl rfl rfl,hw.row_at1 (i:=5) rfl rfl rfl,hw.row_at1 (i:=5) rfl rfl rfl,hw.src_row (i:=4) rfl,srcAt (hw.cl_at (i:=0) rfl 31 (hs.segE 4 31 (by decide) (by decide) rfl rfl)),srcAt (hw.cl_at (i:=0) rfl 35 (hs.segE 4 35 (by decide) (by decide) rfl rfl)),srcAt (hw.cl_at (i:=0) rfl 53 (hs.segE 2 53 (by decide) (by decide) rfl rfl))⟩)) fun⟨bs,cs2⟩ _=>?_;refine ad ?_;refine WPD.nil (onto_of ?_);refine sqR ?_;refine sg rfl ?_;refine nl (oo ?_);refine sqR ?_;refine sg rfl ?_;refine nl (oo ?_);refine WP.midS [1,3,4,5,6] [(7,.bool (kindsB cs))] ?_ (fun ρ0=>?_)
  ·refine WP.region ?_;refine av ?_;refine vl (v_load1 (u:=.int .i64 _) Tryz.isAgg28 rfl (fun w hw=>hw.cl_at (i:=0) rfl 0 (cell_of (hs.int 0 (by decide) (by decide))))) ?_;refine vl (vC (in101_any _ _ _ _)) ?_;refine av ?_;refine WPL.splitB 44 rfl (fun h44=>?_) (fun h44=>?_)
   ·refine ag ?_;refine vg (v_load1 (u:=.int .i64 _) Tryz.isAgg29 rfl (fun w hw=>hw.cl_at (i:=0) rfl 1 (cell_of (hs.int 1 (by decide) (by decide))))) ?_;refine vg (vC (in102_any _ _ _ _)) ?_
    iterate 2 refine av ?_
    refine WPL.splitB 49 rfl (fun h49=>?_) (fun h49=>?_)
    ·refine ag ?_;refine vg (v_load1 (u:=.int .i64 _) Tryz.isAgg30 rfl (fun w hw=>hw.cl_at (i:=0) rfl 2 (cell_of (hs.int 2 (by decide) (by decide))))) ?_;refine vg (vC (in103_any _ _ _ _)) ?_
     iterate 2 refine av ?_
     exact nl fun w hw=>⟨rfl,⟨(congrArg Value.bool (by simp only[kindsB, *,Bool.and_true,Bool.and_false,Bool.true_and,Bool.false_and,Bool.not_true,Bool.not_false])),rfl,jS,jS,rfl,rfl,trivial⟩,hw⟩
    ·iterate 3 refine sk ?_
     iterate 2 refine av ?_
     exact nl fun w hw=>⟨rfl,⟨(congrArg Value.bool (by simp only[kindsB, *,Bool.and_true,Bool.and_false,Bool.true_and,Bool.false_and,Bool.not_true,Bool.not_false])),rfl,jS,jS,rfl,rfl,trivial⟩,hw⟩
   ·iterate 3 refine sk ?_
    iterate 2 refine av ?_
    iterate 3 refine sk ?_
    iterate 2 refine av ?_
    exact nl fun w hw=>⟨rfl,⟨(congrArg Value.bool (by simp only[kindsB, *,Bool.and_true,Bool.and_false,Bool.true_and,Bool.false_and,Bool.not_true,Bool.not_false])),rfl,jS,jS,rfl,rfl,trivial⟩,hw⟩
  ·refine WP.midS [1,3,4,5,6,7] [(8,.bool (waysB cs))] ?_ (fun ρ0=>?_)
   ·refine WP.region ?_;refine av ?_;refine vl (v_load1 (u:=.int .i64 _) Tryz.isAgg36 rfl (fun w hw=>hw.cl_at (i:=0) rfl 43 (cell_of (hs.int 43 (by decide) (by decide))))) ?_;refine vl (vC (in104_any _ _ _ _)) ?_;refine av ?_;refine WPL.splitB 57 rfl (fun h57=>?_) (fun h57=>?_)
    ·refine ag ?_;refine vg (v_load1 (u:=.int .i64 _) Tryz.isAgg37 rfl (fun w hw=>hw.cl_at (i:=0) rfl 44 (cell_of (hs.int 44 (by decide) (by decide))))) ?_;refine vg (vC (in105_any _ _ _ _)) ?_
     iterate 2 refine av ?_
     refine WPL.splitB 62 rfl (fun h62=>?_) (fun h62=>?_)
     ·refine ag ?_;refine vg (v_load1 (u:=.int .i64 _) Tryz.isAgg38 rfl (fun w hw=>hw.cl_at (i:=0) rfl 49 (cell_of (hs.int 49 (by decide) (by decide))))) ?_;refine vg (vC (in106_any _ _ _ _)) ?_
      iterate 2 refine av ?_
      refine WPL.splitB 67 rfl (fun h67=>?_) (fun h67=>?_)
      ·refine ag ?_;refine vg (v_load1 (u:=.int .i64 _) Tryz.isAgg39 rfl (fun w hw=>hw.cl_at (i:=0) rfl 50 (cell_of (hs.int 50 (by decide) (by decide))))) ?_;refine vg (vC (in107_any _ _ _ _)) ?_
       iterate 2 refine av ?_
       exact nl fun w hw=>⟨rfl,⟨(congrArg Value.bool (by simp only[waysB, *,Bool.and_true,Bool.and_false,Bool.true_and,Bool.false_and,Bool.not_true,Bool.not_false])),rfl,jS,jS,rfl,rfl,jB,trivial⟩,hw⟩
      ·iterate 3 refine sk ?_
       iterate 2 refine av ?_
       exact nl fun w hw=>⟨rfl,⟨(congrArg Value.bool (by simp only[waysB, *,Bool.and_true,Bool.and_false,Bool.true_and,Bool.false_and,Bool.not_true,Bool.not_false])),rfl,jS,jS,rfl,rfl,jB,trivial⟩,hw⟩
     ·iterate 3 refine sk ?_
      iterate 2 refine av ?_
      iterate 3 refine sk ?_
      iterate 2 refine av ?_
      exact nl fun w hw=>⟨rfl,⟨(congrArg Value.bool (by simp only[waysB, *,Bool.and_true,Bool.and_false,Bool.true_and,Bool.false_and,Bool.not_true,Bool.not_false])),rfl,jS,jS,rfl,rfl,jB,trivial⟩,hw⟩
    ·iterate 3 refine sk ?_
     iterate 2 refine av ?_
     iterate 3 refine sk ?_
     iterate 2 refine av ?_
     iterate 3 refine sk ?_
     iterate 2 refine av ?_
     exact nl fun w hw=>⟨rfl,⟨(congrArg Value.bool (by simp only[waysB, *,Bool.and_true,Bool.and_false,Bool.true_and,Bool.false_and,Bool.not_true,Bool.not_false])),rfl,jS,jS,rfl,rfl,jB,trivial⟩,hw⟩
   ·refine sqR ?_
    iterate 2 refine av ?_
    refine WPL.splitB 73 rfl (fun h73=>?_) (fun h73=>?_)
    ·refine ag ?_
     iterate 2 refine av ?_
     refine WPL.splitB 76 rfl (fun h76=>?_) (fun h76=>?_)
     ·refine vg (v_move (v:=.slice _ _ _) rfl) ?_;refine vg (v_move rfl) ?_;refine WPL.efG (x_call Tryz.call108 (contains108_ct (some ⟨bl,0,none⟩) cl (lensOf cs) (by simp[lensOf,lenPos])) [] [0,1,2,3,4,5,6] rfl (fun w hw=>hw.rd_row (i:=3) rfl rfl (fun _=>rfl)) (τ:=fun _=>[_,_,_,_,_,_,_]) (fun _=>rfl)) (fun _=>?_);refine WPL.fact (fun _=>?_);refine ag ?_
      iterate 2 refine av ?_
      refine WPL.splitB 82 rfl (fun h82=>?_) (fun h82=>?_)
      ·refine vg (v_move (v:=.slice _ _ _) rfl) ?_;refine vg (v_move rfl) ?_;refine WPL.efG (x_call Tryz.call109 (contains109_ct (some ⟨bs,0,none⟩) cs2 (sizesOf cs) (by simp[sizesOf,sizPos])) [] [0,1,2,3,4,5,6] rfl (fun w hw=>hw.rd_row1 (i:=6) rfl) (τ:=fun _=>[_,_,_,_,_,_,_]) (fun _=>rfl)) (fun _=>?_);refine WPL.fact (fun _=>?_);refine ag ?_
       iterate 2 refine av ?_
       refine WPL.splitB 88 rfl (fun h88=>?_) (fun h88=>?_)
       ·refine ag ?_;refine vg (v_load1 (u:=.int .i64 _) Tryz.isAgg3 rfl (fun w hw=>hw.cl_at (i:=0) rfl 39 (cell_of (hs.int 39 (by decide) (by decide))))) ?_;refine vg (vC (in100_any _ _ _ _)) ?_
        iterate 2 refine av ?_
        refine WPL.splitB 93 rfl (fun h93=>?_) (fun h93=>?_)
        ·refine ag ?_;refine vg (v_load1 (u:=.int .i64 _) Tryz.isAgg3 rfl (fun w hw=>hw.cl_at (i:=0) rfl 40 (cell_of (hs.int 40 (by decide) (by decide))))) ?_;refine vg (vC (in100_any _ _ _ _)) ?_
         iterate 2 refine av ?_
         refine WPL.splitB 98 rfl (fun h98=>?_) (fun h98=>?_)
         ·refine ag ?_;refine vg (v_load1 (u:=.int .i64 _) Tryz.isAgg3 rfl (fun w hw=>hw.cl_at (i:=0) rfl 48 (cell_of (hs.int 48 (by decide) (by decide))))) ?_;refine vg (vC (in100_any _ _ _ _)) ?_;refine gg ?_;exact rt1 fun w hw=>⟨(),congrArg Value.bool (by simp only[validB,lensB,sizesB, *,Bool.and_true,Bool.and_false,Bool.true_and,Bool.false_and,Bool.not_true,Bool.not_false]),trivial,hw.pk⟩
         ·refine gg ?_;exact rt1 fun w hw=>⟨(),congrArg Value.bool (by simp only[validB,lensB,sizesB, *,Bool.and_true,Bool.and_false,Bool.true_and,Bool.false_and,Bool.not_true,Bool.not_false]),trivial,hw.pk⟩
        ·refine gg ?_;exact rt1 fun w hw=>⟨(),congrArg Value.bool (by simp only[validB,lensB,sizesB, *,Bool.and_true,Bool.and_false,Bool.true_and,Bool.false_and,Bool.not_true,Bool.not_false]),trivial,hw.pk⟩
       ·refine gg ?_;exact rt1 fun w hw=>⟨(),congrArg Value.bool (by simp only[validB,lensB,sizesB, *,Bool.and_true,Bool.and_false,Bool.true_and,Bool.false_and,Bool.not_true,Bool.not_false]),trivial,hw.pk⟩
      ·refine gg ?_;exact rt1 fun w hw=>⟨(),congrArg Value.bool (by simp only[validB,lensB,sizesB, *,Bool.and_true,Bool.and_false,Bool.true_and,Bool.false_and,Bool.not_true,Bool.not_false]),trivial,hw.pk⟩
     ·refine gg ?_;exact rt1 fun w hw=>⟨(),congrArg Value.bool (by simp only[validB,lensB,sizesB, *,Bool.and_true,Bool.and_false,Bool.true_and,Bool.false_and,Bool.not_true,Bool.not_false]),trivial,hw.pk⟩
    ·refine gg ?_;exact rt1 fun w hw=>⟨(),congrArg Value.bool (by simp only[validB,lensB,sizesB, *,Bool.and_true,Bool.and_false,Bool.true_and,Bool.false_and,Bool.not_true,Bool.not_false]),trivial,hw.pk⟩
structure PE where
  id:Int
  bb:Nat
  A:Option Addr
  c:Nat
  up:Int
  kids:List Int
  sty:List Value
def PE.ent (e:PE):Int×Value:=(e.id,.pointer (some ⟨e.bb,0,none⟩))
def PE.cells (e:PE):List Value:=.int .i64 e.up::.slice e.A e.kids.length e.c::e.sty
abbrev kidsI (A:Option Addr) (n c:Nat) (l:List Int):HI:=.row 3 1 A n c (l.map (Value.int .i64))
def PE.items (e:PE):List HI:=[.cl e.bb 102 e.cells,kidsI e.A e.kids.length e.c e.kids]
def ptree (tp mb:Nat) (es:List PE):List HI:=.cl tp 107 [.map (some mb)]::mapI mb (es.map PE.ent)::es.flatMap PE.items
def treeI (tp mb:Nat) (es:List PE):HI:=bundle (ptree tp mb es)
def lookE:List PE→Int→Option PE
  | [],_=>none
  | e::es,x=>if e.id=x then some e else lookE es x
def FoR (es:List PE):Forest (List Value):=fun x=>(lookE es x).map fun e=>⟨e.up,e.kids,e.sty⟩
def ptrE (es:List PE) (x:Int):Option Addr:=(lookE es x).map fun e=>⟨e.bb,0,none⟩
def kA (es:List PE) (x:Int):Option Addr:=match lookE es x with | some e=>e.A | none=>none
def kC (es:List PE) (x:Int):Nat:=match lookE es x with | some e=>e.c | none=>0
def ofV (es:List PE) (x:Int):List Value:=.int .i64 (upF (FoR es) x)::.slice (kA es x) (kidsF (FoR es) x).length (kC es x)::styF zeroS (FoR es) x
structure LOk (es:List PE):Prop where
  sty:∀e∈es,SOk e.sty
  nodup:(es.map PE.id).Nodup
theorem lookE_mem:∀{es:List PE} {x:Int} {e:PE},lookE es x=some e→e∈es∧e.id=x
  | [],_,_,h=>by cases h
  | e :: es, x, e', h => by
    unfold lookE at h
    split at h
    · cases h;exact⟨by simp,‹_›⟩
    · have:=lookE_mem h;exact⟨by simp[this.1],this.2⟩
theorem look_ent:∀(es:List PE) (x:Int),lookM (es.map PE.ent) x=(lookE es x).map fun e=>.pointer (some ⟨e.bb,0,none⟩)
  | [],_=>rfl
  | e :: es, x => by
    simp only[List.map_cons,lookM,lookE,PE.ent]
    split
    · rfl
    · exact look_ent es x
theorem look_ptr (es:List PE) (x:Int):(lookM (es.map PE.ent) x).getD (.pointer none)=.pointer (ptrE es x):=by
  rw[look_ent];unfold ptrE;cases lookE es x<;>rfl
theorem ptr_has (es:List PE) (x:Int):(ptrE es x).isSome=hasF (FoR es) x:=by unfold ptrE hasF FoR;cases lookE es x<;>rfl
theorem ofV_some {es:List PE} {x:Int} {e:PE} (h:lookE es x=some e):ofV es x=e.cells:=by simp[ofV,PE.cells,upF,kidsF,styF,FoR,kA,kC,h]
theorem ofV_none {es:List PE} {x:Int} (h:lookE es x=none):ofV es x=.int .i64 (-1)::.slice none 0 0::zeroS:=by simp[ofV,upF,kidsF,styF,FoR,kA,kC,h]
theorem LOk.styOk {es:List PE} (h:LOk es) (x:Int):SOk (styF zeroS (FoR es) x):=by
  unfold styF FoR;cases e:lookE es x with
  | none=>exact zeroS_ok
  | some b=>exact h.sty b (lookE_mem e).1
theorem LOk.of_len {es:List PE} (h:LOk es) (x:Int):(ofV es x).length=57:=by
  have:=(h.styOk x).len;simp[ofV,this]
theorem LOk.of_one {es:List PE} (h:LOk es) (x:Int):∀u∈ofV es x,u.oneCell'=true:=by
  intro u hu;simp only[ofV,List.mem_cons] at hu
  rcases hu with rfl | rfl | hu
  · rfl
  · rfl
  · exact(h.styOk x).one u hu
theorem sty_part {es:List PE} (hk:LOk es) (x:Int):(ofV es x).toArray.extract 2 (2+55)=(styF zeroS (FoR es) x).toArray:=by
  have h:=(hk.styOk x).len;apply Array.ext';simp[ofV,List.take_of_length_le,h]
section
variable {w0 w:World} {M:Nat→Prop} {σ:List HI} {i tp mb:Nat} {es:List PE}
theorem St.tree (h:St w0 M σ w) (hi:σ[i]?=some (treeI tp mb es)):∀j∈ptree tp mb es,j.holds w:=(h.all _ (List.mem_of_getElem? hi)).2.1
theorem cells_of_cl {b:Nat} {t:TypeId} {cs:List Value} (h:(HI.cl b t cs).holds w) (o:Nat) {us:List Value} (hu:(cs.drop o).take us.length=us):CellsAt w b o us:=by
  have h1:w.heap[b]?=some (.cells cs.toArray t (0,0)):=h;intro j u hj;rw[cell_of_row w b (o+j) _ t (0,0) h1,List.getElem?_toArray];have h2:=congrArg (·[j]?) hu;simp only[hj] at h2;rw[List.getElem?_take] at h2
  split at h2
  · rw[List.getElem?_drop] at h2;exact h2
  · cases h2
theorem St.treeRoot (h:St w0 M σ w) (hi:σ[i]?=some (treeI tp mb es)):CellsAt w tp 0 [.map (some mb)]:=cells_of_cl (h.tree hi (.cl tp 107 [.map (some mb)]) (by simp[ptree])) 0 rfl
theorem St.treeMap (h:St w0 M σ w) (hi:σ[i]?=some (treeI tp mb es)):mapP mb (es.map PE.ent) w:=(h.tree hi (mapI mb (es.map PE.ent)) (by simp[ptree])).2
theorem St.treeBox (h:St w0 M σ w) (hi:σ[i]?=some (treeI tp mb es)) {e:PE} (he:e∈es):CellsAt w e.bb 0 e.cells:=
  cells_of_cl (h.tree hi (.cl e.bb 102 e.cells) (List.mem_cons_of_mem _ (List.mem_cons_of_mem _ (List.mem_flatMap.2 ⟨e,he,by simp[PE.items]⟩)))) 0 (by simp)
theorem St.treeKids (h:St w0 M σ w) (hi:σ[i]?=some (treeI tp mb es)) {e:PE} (he:e∈es):RdI w e.A e.kids∧e.kids.length≤e.c:=by
  have h1:(kidsI e.A e.kids.length e.c e.kids).holds w:=h.tree hi _ (List.mem_cons_of_mem _ (List.mem_cons_of_mem _ (List.mem_flatMap.2 ⟨e,he,by simp[PE.items]⟩)));obtain⟨h2,h3⟩:=h1
  rcases h3 with ⟨hv,hn⟩ | ⟨gb,cap,cur,hv,_,hh,hnc,_,hsz,htake⟩
  · have : e.kids = [] := List.eq_nil_of_length_eq_zero hn
    rw[this];exact⟨RdE.nil _ _ _ _,Nat.zero_le _⟩
  · injection hv with e1 e2 e3
    refine⟨fun k x hx=>⟨gb,0,e1,fun j u hj=>?_⟩,by omega⟩
    match j,hj with
    | 0, hj =>
      cases hj;have hk:=(List.getElem?_eq_some_iff.1 hx).1;rw[cell_of_row w gb _ _ _ _ hh];have h4:(cur.toList.take (e.kids.length*1))[k]?=some (.int .i64 x):=by rw[htake,List.getElem?_map,hx];rfl
      rw[List.getElem?_take,if_pos (by omega)] at h4
      simpa using h4
    | j+1,hj=>simp at hj
theorem St.treeKidsOf (h:St w0 M σ w) (hi:σ[i]?=some (treeI tp mb es)) (x:Int):RdI w (kA es x) (kidsF (FoR es) x)∧(kidsF (FoR es) x).length≤kC es x:=by
  unfold kA kidsF kC FoR;cases e:lookE es x with
  | none=>exact⟨RdE.nil _ _ _ _,Nat.zero_le _⟩
  | some b=>exact h.treeKids hi (lookE_mem e).1
theorem St.treeSrcOf (h:St w0 M σ w) (hi:σ[i]?=some (treeI tp mb es)) (x:Int):Src w (kA es x) (kidsF (FoR es) x).length ((kidsF (FoR es) x).map (Value.int .i64)):=by
  unfold kA kidsF FoR;cases e:lookE es x with
  | none=>exact .inl ⟨rfl,rfl⟩
  | some b =>
    have h1:(kidsI b.A b.kids.length b.c b.kids).holds w:=h.tree hi _ (List.mem_cons_of_mem _ (List.mem_cons_of_mem _ (List.mem_flatMap.2 ⟨b,(lookE_mem e).1,by simp[PE.items]⟩)));have h2:St w (foots [kidsI b.A b.kids.length b.c b.kids]) [kidsI b.A b.kids.length b.c b.kids] w:=St.start (by simpa using h1) (List.pairwise_singleton _ _);exact h2.src_row (i:=0) rfl
variable {P:Program} {ρ:Env} {dst:Option Tmp} {ty:TypeId} {pos:String} {af:Array Edge} {g:Option (Nat×Bool)} {t kt et:TypeId} {x y:Operand} {q:IntKind}
theorem v_lookT {k:Int} (hi:σ[i]?=some (treeI tp mb es)) (ht:P.underlying t=some (.map kt et)) (hk:P.underlying kt=some (.int q)) (hz:∀w,(zeroValue et).run P w=.ok (.pointer none) w) (hx:evo ρ x=.map (some mb)) (hy:evo ρ y=.int .i64 k):
    OpV P (St w0 M σ) ⟨dst,.lookup t x y false,ty,pos,af,g⟩ ρ (.pointer (ptrE es k)):=by
  have h:=v_lookup (P:=P) (S:=St w0 M σ) (dst:=dst) (ty:=ty) (pos:=pos) (af:=af) (g:=g) (m:=es.map PE.ent) ht hk hz hx hy (fun w hw=>hw.treeMap hi)
  rwa [look_ptr] at h
theorem run_eqNilSN {e:TypeId} {A:Option Addr} {k c:Nat} (n:Nat) (ht:P.underlying t=some (.slice e)) (w:World):(Op.equalIn (n+1) t (.slice A k c) (.slice none 0 0)).run P w=.ok A.isNone w:=by
  cases A<;>simp[Op.equalIn,run_underlying ht]
theorem v_eqNilS {e:TypeId} {A:Option Addr} {n c:Nat} {t2:TypeId} (ht:P.underlying t=some (.slice e)) (hx:evo ρ x=.slice A n c) (hy:evo ρ y=.slice none 0 0) {S:World→Prop}:OpV P S ⟨dst,.binOp .eql t x y t2,ty,pos,af,g⟩ ρ (.bool A.isNone):=v_run fun w _=>by
  have e:(eqGuard .eql t x y (.slice A n c) (.slice none 0 0)).run P w=.ok () w:=rfl;have h1:(Op.equalIn 10000 t (.slice A n c) (.slice none 0 0)).run P w=.ok A.isNone w:=run_eqNilSN 9999 ht w;simp[execOp,hx,hy,e,binOp,Op.equal,Op.maxDepth,h1,Result.andThen]
theorem x_buildSlice0 {r:Option Nat} {σ':Nat→List HI} {te:TypeId} {sz:Nat} (ht:P.underlying t=some (.slice te)) (hz:∀w,(sizeOf te).run P w=.ok sz w) (hσ:∀b,σ++[.row te sz (some ⟨b,0,none⟩) 0 0 []]=σ' b):
    OpX P r (St w0 M σ) ⟨dst,.buildSlice t 0 #[],ty,pos,af,g⟩ ρ (X:=Nat) (fun b=>.slice (some ⟨b,0,none⟩) 0 0) (fun b=>St w0 M (σ' b)):=by
  refine x_newRow rfl (by simp) (by unfold maxLen;omega) hσ fun w=>?_;simp[execOp,Instr.buildSlice,run_underlying ht,hz,Instr.fill,newRow,newObj,Sem.run,Result.andThen];have e:Array.map (fun _:Nat=>(default:Value)) (Array.range 0)=#[]:=Array.eq_empty_of_size_eq_zero (by simp);rw[e]
end
structure RB where
  live:Bool
  up:Int
  A:Option Addr
  c:Nat
  kids:List Int
  sty:List Value
def RB.cells (b:RB):List Value:=.bool b.live::.int .i64 b.up::.slice b.A b.kids.length b.c::b.sty
abbrev RB.row (b:RB):HI:=kidsI b.A b.kids.length b.c b.kids
def zeroRB:RB:=⟨false,0,none,0,[],zeroS⟩
def cellsB (bs:List RB):List Value:=bs.flatMap RB.cells
def ROk (bs:List RB):Prop:=∀b∈bs,SOk b.sty
abbrev rowsI (bs:List RB):HI:=bundle (bs.map RB.row)
abbrev refL (rp g bc:Nat) (bs:List RB):List HI:=.cl rp 155 [.slice (some ⟨g,0,none⟩) bs.length bc]::.row 152 58 (some ⟨g,0,none⟩) bs.length bc (cellsB bs)::bs.map RB.row
def refI (rp g bc:Nat) (bs:List RB):HI:=bundle (refL rp g bc bs)
def absR (bs:List RB):Forest (List Value):=fun x=>if x<0 then none else (bs[x.toNat]?).bind fun b=>if b.live then some ⟨b.up,b.kids,b.sty⟩ else none
theorem RB.cells_len {b:RB} (h:SOk b.sty):b.cells.length=58:=by simp[RB.cells,h.len]
theorem ROk.get {bs:List RB} (h:ROk bs) {i:Nat} {b:RB} (hb:bs[i]?=some b):SOk b.sty:=h b (List.mem_of_getElem? hb)
theorem cellsB_len:∀{bs:List RB},ROk bs→(cellsB bs).length=bs.length*58
  | [],_=>rfl
  | b :: bs, h => by
    have h1:=cellsB_len (bs:=bs) fun c hc=>h c (by simp[hc]);have h2:=RB.cells_len (h b (by simp));rw[cellsB,List.flatMap_cons,List.length_append,h2,List.length_cons];unfold cellsB at h1;omega
theorem cellsB_get:∀{bs:List RB} (_:ROk bs) {i:Nat} {b:RB} (_:bs[i]?=some b) {j:Nat} {u:Value},b.cells[j]?=some u→(cellsB bs)[i*58+j]?=some u
  | [],_,_,_,hb,_,_,_=>by simp at hb
  | a :: bs, h, 0, b, hb, j, u, hj => by
    obtain rfl:a=b:=by simpa using hb
    have h2:=(List.getElem?_eq_some_iff.1 hj).1;rw[cellsB,List.flatMap_cons,Nat.zero_mul,Nat.zero_add,List.getElem?_append_left h2];exact hj
  | a :: bs, h, i + 1, b, hb, j, u, hj => by
    have h2:=RB.cells_len (h a (by simp));rw[cellsB,List.flatMap_cons,List.getElem?_append_right (by rw[h2];omega),h2,show (i+1)*58+j - 58=i*58+j by omega];exact cellsB_get (fun c hc=>h c (by simp[hc])) (by simpa using hb) hj
theorem setL_back (xs:List Value):∀(us ys:List Value) (o:Nat),setL (xs++ys) (xs.length+o) us=xs++setL ys o us
  | [],ys,o=>rfl
  | u :: us, ys, o => by
    rw[setL,setL,List.set_append_right _ _ (by omega),Nat.add_sub_cancel_left,Nat.add_assoc];exact setL_back xs us _ _
theorem cellsB_set:∀{bs:List RB} (_:ROk bs) {i:Nat} {b b':RB} (_:bs[i]?=some b) {o:Nat} {us:List Value},o+us.length≤58→setL b.cells o us=b'.cells→setL (cellsB bs) (i*58+o) us=cellsB (bs.set i b')
  | [],_,_,_,_,hb,_,_,_,_=>by simp at hb
  | a :: bs, h, 0, b, b', hb, o, us, ho, he => by
    obtain rfl:a=b:=by simpa using hb
    have h2:=RB.cells_len (h a (by simp));rw[cellsB,List.flatMap_cons,Nat.zero_mul,Nat.zero_add,setL_front [] _ us _ o (by omega),he];rfl
  | a :: bs, h, i + 1, b, b', hb, o, us, ho, he => by
    have h2:=RB.cells_len (h a (by simp));rw[cellsB,List.flatMap_cons,show (i+1)*58+o=a.cells.length+(i*58+o) by omega,setL_back,List.set_cons_succ,cellsB,List.flatMap_cons];rw[show setL (bs.flatMap RB.cells) (i*58+o) us=cellsB (bs.set i b') from cellsB_set (fun c hc=>h c (by simp[hc])) (by simpa using hb) ho he];rfl
theorem ROk.set {bs:List RB} (h:ROk bs) (i:Nat) {b':RB} (hs:SOk b'.sty):ROk (bs.set i b'):=fun c hc=>by
  rcases List.mem_or_eq_of_mem_set hc with h1 | h1
  · exact h c h1
  · rw[h1];exact hs
theorem absR_at {bs:List RB} {i:Nat} {b:RB} (hb:bs[i]?=some b) (hl:b.live=true):absR bs i=some ⟨b.up,b.kids,b.sty⟩:=by
  unfold absR;rw[if_neg (by omega),Int.toNat_natCast,hb];simp[hl]
theorem absR_dead {bs:List RB} {i:Nat} {b:RB} (hb:bs[i]?=some b) (hl:b.live=false):absR bs i=none:=by
  unfold absR;rw[if_neg (by omega),Int.toNat_natCast,hb];simp[hl]
theorem absR_neg {bs:List RB} {x:Int} (h:x<0):absR bs x=none:=by rw[absR,if_pos h]
theorem absR_out {bs:List RB} {x:Int} (h:(bs.length:Int)≤x):absR bs x=none:=by
  unfold absR;rw[if_neg (by omega),List.getElem?_eq_none (by omega)];rfl
theorem absR_has {bs:List RB} {x:Int} (h:hasF (absR bs) x=true):∃(i:Nat) (b:RB),x=i∧bs[i]?=some b∧b.live=true:=by
  unfold hasF absR at h
  split at h
  · cases h
  · rename_i hx
    cases e:bs[x.toNat]? with
    | none=>rw[e] at h;cases h
    | some b =>
      rw[e] at h;refine⟨x.toNat,b,by omega,e,?_⟩;cases hl:b.live with
      | true=>rfl
      | false=>simp[hl] at h
theorem absR_set {bs:List RB} {i:Nat} (hi:i<bs.length) (b':RB) (y:Int):absR (bs.set i b') y=if y=i then (if b'.live then some ⟨b'.up,b'.kids,b'.sty⟩ else none) else absR bs y:=by
  by_cases hy:y=i
  · subst hy
    rw[if_pos rfl,absR,if_neg (by omega),Int.toNat_natCast,List.getElem?_set_self hi];rfl
  · rw [if_neg hy]
    unfold absR
    split
    · rfl
    · rw[List.getElem?_set_ne (by omega)]
theorem absR_app (bs:List RB):absR (bs++[zeroRB])=absR bs:=by
  funext y
  by_cases hy:y<0
  · rw[absR_neg hy,absR_neg hy]
  · obtain ⟨i, rfl⟩ : ∃ i : Nat, y = i := ⟨y.toNat, by omega⟩
    by_cases hi:i<bs.length
    · unfold absR
      rw[if_neg hy,if_neg hy,Int.toNat_natCast,List.getElem?_append_left hi]
    · rw [absR_out (bs := bs) (by omega)]
      by_cases h2:i=bs.length
      · exact absR_dead (b:=zeroRB) (by rw[h2];simp) rfl
      · exact absR_out (by simp;omega)
theorem absR_live {bs:List RB} {i:Nat} {b:RB} (hb:bs[i]?=some b):hasF (absR bs) i=b.live:=by
  cases hl:b.live with
  | true=>rw[hasF,absR_at hb hl];rfl
  | false=>rw[hasF,absR_dead hb hl];rfl
section
variable {w0 w:World} {M:Nat→Prop} {σ F:List HI} {i rp g bc:Nat} {bs:List RB}
theorem kids_rd {A:Option Addr} {c:Nat} {l:List Int} (h1:(kidsI A l.length c l).holds w):RdI w A l∧l.length≤c∧Src w A l.length (l.map (Value.int .i64)):=by
  have h2:St w (foots [kidsI A l.length c l]) [kidsI A l.length c l] w:=St.start (by simpa using h1) (List.pairwise_singleton _ _);refine⟨?_,?_,h2.src_row (i:=0) rfl⟩
  · exact h2.rd_row1 (i:=0) (f:=Value.int .i64) rfl
  · rcases h1.2 with ⟨hv, hn⟩ | ⟨gb, cap, cur, hv, _, hh, hnc, _, hsz, htake⟩
    · omega
    · injection hv with e1 e2 e3;omega
theorem St.ref (h:St w0 M σ w) (hi:σ[i]?=some (refI rp g bc bs)):∀j∈refL rp g bc bs,j.holds w:=(h.all _ (List.mem_of_getElem? hi)).2.1
theorem St.refRoot (h:St w0 M σ w) (hi:σ[i]?=some (refI rp g bc bs)):CellsAt w rp 0 [.slice (some ⟨g,0,none⟩) bs.length bc]:=cells_of_cl (h.ref hi (.cl rp 155 [.slice (some ⟨g,0,none⟩) bs.length bc]) (by simp[refL])) 0 rfl
theorem St.refRow (h:St w0 M σ w) (hi:σ[i]?=some (refI rp g bc bs)):(HI.row 152 58 (some ⟨g,0,none⟩) bs.length bc (cellsB bs)).holds w:=h.ref hi _ (by simp[refL])
theorem St.refAt (h:St w0 M σ w) (hi:σ[i]?=some (refI rp g bc bs)) (hk:ROk bs) {j:Nat} {b:RB} (hb:bs[j]?=some b) (o:Nat) {us:List Value} (hu:(b.cells.drop o).take us.length=us):CellsAt w g (0+j*58+o) us:=by
  have h1:=h.refRow hi;have h2:St w (foots [HI.row 152 58 (some ⟨g,0,none⟩) bs.length bc (cellsB bs)]) [HI.row 152 58 (some ⟨g,0,none⟩) bs.length bc (cellsB bs)] w:=St.start (by simpa using h1) (List.pairwise_singleton _ _);refine h2.row_at (i:=0) rfl _ fun k u hj=>?_;rw[show 0+j*58+o+k=j*58+(o+k) by omega];refine cellsB_get hk hb ?_;have h3:=congrArg (·[k]?) hu;simp only[hj] at h3;rw[List.getElem?_take] at h3
  split at h3
  · rw[List.getElem?_drop] at h3;exact h3
  · cases h3
theorem St.refKids (h:St w0 M σ w) (hi:σ[i]?=some (refI rp g bc bs)) {j:Nat} {b:RB} (hb:bs[j]?=some b):RdI w b.A b.kids∧b.kids.length≤b.c∧Src w b.A b.kids.length (b.kids.map (Value.int .i64)):=
  kids_rd (h.ref hi b.row (by simp only[refL,List.mem_cons,List.mem_map];exact .inr (.inr ⟨b,List.mem_of_getElem? hb,rfl⟩)))
theorem St.openF (h:St w0 M (refI rp g bc bs::F) w):St w0 M (.cl rp 155 [.slice (some ⟨g,0,none⟩) bs.length bc]::.row 152 58 (some ⟨g,0,none⟩) bs.length bc (cellsB bs)::rowsI bs::F) w:=by
  have h1:=h.unpack;have h2:St w0 M (bs.map RB.row++(.cl rp 155 [.slice (some ⟨g,0,none⟩) bs.length bc]::.row 152 58 (some ⟨g,0,none⟩) bs.length bc (cellsB bs)::F)) w:=by
    refine h1.perm ?_;show ([HI.cl rp 155 [.slice (some ⟨g,0,none⟩) bs.length bc],HI.row 152 58 (some ⟨g,0,none⟩) bs.length bc (cellsB bs)]++bs.map RB.row++F).Perm (bs.map RB.row++([HI.cl rp 155 [.slice (some ⟨g,0,none⟩) bs.length bc],HI.row 152 58 (some ⟨g,0,none⟩) bs.length bc (cellsB bs)]++F));rw[←List.append_assoc];exact List.Perm.append_right _ List.perm_append_comm
  exact h2.pack.perm ((List.Perm.swap _ _ _).trans (List.Perm.cons _ (List.Perm.swap _ _ _)))
theorem St.shutF (h:St w0 M (.cl rp 155 [.slice (some ⟨g,0,none⟩) bs.length bc]::.row 152 58 (some ⟨g,0,none⟩) bs.length bc (cellsB bs)::rowsI bs::F) w):St w0 M (refI rp g bc bs::F) w:=by
  have h1:=(h.perm ((List.Perm.cons _ (List.Perm.swap _ _ _)).trans (List.Perm.swap _ _ _))).unpack;have h2:St w0 M (refL rp g bc bs++F) w:=by
    refine h1.perm ?_;show (bs.map RB.row++([HI.cl rp 155 [.slice (some ⟨g,0,none⟩) bs.length bc],HI.row 152 58 (some ⟨g,0,none⟩) bs.length bc (cellsB bs)]++F)).Perm ([HI.cl rp 155 [.slice (some ⟨g,0,none⟩) bs.length bc],HI.row 152 58 (some ⟨g,0,none⟩) bs.length bc (cellsB bs)]++bs.map RB.row++F);rw[←List.append_assoc];exact List.Perm.append_right _ List.perm_append_comm
  exact h2.pack
theorem perm_frontG {α:Type}:∀{l:List α} {i:Nat} {x:α},l[i]?=some x→l.Perm (x::l.eraseIdx i)
  | [],i,x,h=>by simp at h
  | y :: l, 0, x, h => by
    obtain rfl:y=x:=by simpa using h
    exact List.Perm.refl _
  | y :: l, i + 1, x, h => by
    have h1:=perm_frontG (l:=l) (i:=i) (x:=x) (by simpa using h);exact(List.Perm.cons y h1).trans (List.Perm.swap x y _)
theorem perm_setG {α:Type} {l:List α} {i:Nat} {y:α} (hi:i<l.length):(y::l.eraseIdx i).Perm (l.set i y):=by
  have h:=perm_frontG (l:=l.set i y) (i:=i) (x:=y) (by simp[hi]);rw[List.eraseIdx_set_eq] at h;exact h.symm
theorem St.rowSet {j:Nat} {b b':RB} (hb:bs[j]?=some b) (h:St w0 M (rowsI bs::b'.row::F) w):St w0 M (rowsI (bs.set j b')::F) w:=by
  have h1:=h.unpack;have hp:=(perm_frontG hb).map RB.row;have hlt:=(List.getElem?_eq_some_iff.1 hb).1;have hq:=(perm_setG (y:=b') hlt).map RB.row;have h2:St w0 M (b.row::((bs.eraseIdx j).map RB.row++b'.row::F)) w:=h1.perm (List.Perm.append_right _ hp);have h3:=h2.sub (List.sublist_cons_self _ _);refine St.pack (τ:=(bs.set j b').map RB.row) (h3.perm ?_);refine List.Perm.trans ?_ (List.Perm.append_right F hq);exact List.perm_middle
end
end Go.Proofs.YtbedndijejpcaaaGreat
