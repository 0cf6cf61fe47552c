/- Grow2 FSame Fl Cx PlPlain FSizeP PlLaw Pt -/
import Derived.Laws.BitsAllLaws
import Derived.Laws.Externs
import Derived.Laws.FloatArith
import Derived.Test.YtbedndijejpcaaaGreatH22
set_option linter.unusedVariables false
set_option linter.unusedSimpArgs false
set_option linter.unusedSectionVars false
set_option maxRecDepth 100000
set_option maxHeartbeats 8000000
namespace Go.Proofs.YtbedndijejpcaaaGreat
open Go.RowKit
theorem pH (b:Nat):¬ay [] b:=fun⟨i,h,_⟩=>by simp at h
def aex (l:List AC) (es:List PE) (bs:List RB):Prop:=l.length≤30∧ae es=AF l∧eG es∧aD bs=ae es∧lg bs
theorem mq (A:Option Addr) (c:Nat) (l:List AC):Ct Tryz.prog 17 #[.slice A l.length c] [] (fun w=>jL w A 59 s5 l) (X:=Bool×Nat×Nat×List PE×Nat×Nat×Nat×List RB) (fun p=>.tuple #[.pointer (some ⟨p.2.1,0,none⟩),.pointer (some ⟨p.2.2.2.2.1,0,none⟩),.bool p.1])
    (fun p=>p.1=true→aex l p.2.2.2.1 p.2.2.2.2.2.2.2) (fun p=>[al p.2.1 p.2.2.1 p.2.2.2.1,dI p.2.2.2.2.1 p.2.2.2.2.2.1 p.2.2.2.2.2.2.1 p.2.2.2.2.2.2.2]):=by
  refine Ci fun w0 hz=>?_;refine gg ?_;refine eF (xC Gl) fun⟨tp,mb,nb⟩ _=>?_;refine gg ?_;refine eF (xC Kh) fun⟨rp,g0⟩ _=>?_;refine uw ?_;refine aj.split 15 rfl (fun h15=>?_) (fun h15=>?_)
  ·refine bS ?_;refine WP.aQ rfl ?_;refine gg ?_;exact WP.KJ Tryz.results17 (fun _ h=>h) (fun w hw=>by first | exact⟨(false,tp,mb,[iH 0 nb (-1)],rp,g0,1,[dr (-1)]),rfl,(fun h=>by cases h),hw.pk⟩ | exact⟨(true,tp,mb,[iH 0 nb (-1)],rp,g0,1,[dr (-1)]),rfl,(fun _=>⟨hl30,hFo,hk,hab,hkr⟩),hw.pk⟩)
  ·refine ag ?_;refine vg (xJ Tryz.underlying24 rfl rfl) ?_;refine gg ?_;refine WP.br rfl ?_;refine gg ?_;refine WP.bm (X:=Nat×List PE×Nat×Nat×List RB) [0,5,6] (fun p=>[(7,.int .i64 (p.1:Int))]) (fun p w=>(p.1≤l.length∧ae p.2.1=AF (l.take p.1)∧eG p.2.1∧aD p.2.2.2.2=ae p.2.1∧lg p.2.2.2.2)∧St w0 (ay []) [al tp mb p.2.1,dI rp p.2.2.1 p.2.2.2.1 p.2.2.2.2] w) (fun p=>l.length - p.1) (0,[iH 0 nb (-1)],g0,1,[dr (-1)]) ⟨rfl,trivial⟩ (fun w hw=>⟨⟨Nat.zero_le _,(pK nb).1,(pK nb).2,DG.1.trans (pK nb).1.symm,DG.2⟩,(hw.sel [0,1] (by decide))⟩) (fun p ρ0=>?_);obtain⟨k,es,g,bc,bs⟩:=p;dsimp only;refine WP.fact (fun⟨hkl,hFo,hk,hab,hkr⟩=>?_);refine gg ?_;refine WP.aw rfl (fun h24=>?_) (fun h24=>?_)
   ·obtain⟨x,hx⟩:∃x,l[k]?=some x:=⟨_,List.getElem?_eq_getElem (by omega)⟩;obtain⟨ab,ao,rfl,hc⟩:=hz k x hx;obtain⟨d,hF⟩:=q8 (l.take k);rw[←hFo] at hF;refine JW ?_;refine vl (au (cs:=x.1.sty) Tryz.isAgg42 Tryz.sizeOf42 rfl (fun w hw=>(hw.cW hc (pH _)).part 4 (by show List.take _ x.1.sty=_;exact List.take_of_length_le (Nat.le_refl _))) x.2.len) ?_;refine eF (xC (JG x.1.sty x.2)) fun tb _=>?_;refine gg ?_;refine WP.cond rfl (fun h33=>?_) (fun h33=>?_)
    ·refine gg ?_;exact WP.KJ Tryz.results17 (fun _ h=>h) (fun w hw=>by first | exact⟨(false,tp,mb,es,rp,g,bc,bs),rfl,(fun h=>by cases h),hw.pk⟩ | exact⟨(true,tp,mb,es,rp,g,bc,bs),rfl,(fun _=>⟨hl30,hFo,hk,hab,hkr⟩),hw.pk⟩)
    ·refine qa ?_;refine vl (au (cs:=s5 x) Tryz.isAgg99 Tryz.sizeOf99 rfl (fun w hw=>hw.cW hc (pH _)) (Ig x)) ?_;refine eF (xC (Ki tp mb es hk hF rp g bc bs hkr hab x.1 x.2)) fun⟨es1,g1,bc1,bs1⟩ hf=>?_;obtain⟨f1,hk1,hab1,hkr1⟩:=hf;dsimp only at f1 hk1 hab1 hkr1;have hAF:ae es1=AF (l.take (k+1)):=by rw[rP hx,←hFo];exact f1
     refine gg ?_;refine WP.br rfl ?_;refine cR ?_;exact nl fun w hw=>⟨rfl,(k+1,es1,g1,bc1,bs1),(by simp only;omega),⟨rfl,jS,jP,jP,trivial⟩,⟨⟨by simp only;omega,hAF,hk1,hab1,hkr1⟩,hw.pk⟩⟩
   ·obtain rfl:k=l.length:=by omega
    rw[List.take_of_length_le (Nat.le_refl _)] at hFo;obtain⟨d,hF⟩:=q8 l;rw[←hFo] at hF;have hFr:WF (aD bs) d:=by rw[hab];exact hF
    have hl30:l.length≤30:=by omega
    refine WP.exit (an ?_);refine gg ?_;refine eF (xC (lC rp g bc bs hkr hFr 0)) fun⟨rA,rc⟩ _=>?_;refine gg ?_;refine WP.bm (X:=Nat) [5,6,8] (fun j=>[(9,.int .i64 (j:Int))]) (fun j w=>j≤(sub (aD bs) 0).length∧St w0 (ay []) [al tp mb es,dI rp g bc bs,az rA (sub (aD bs) 0).length rc (sub (aD bs) 0)] w) (fun j=>(sub (aD bs) 0).length - j) 0 ⟨rfl,trivial⟩ (fun w hw=>⟨Nat.zero_le _,(hw.sel [0,1,2] (by decide))⟩) (fun j ρ0=>?_);refine WP.fact (fun hjn=>?_);refine gg ?_;refine WP.aw rfl (fun h51=>?_) (fun h51=>?_)
    ·obtain⟨y,hy⟩:∃y,(sub (aD bs) 0)[j]?=some y:=⟨_,List.getElem?_eq_getElem (by omega)⟩;refine WP.holds (fun w hw=>hw.aM (i:=2) rfl (by omega)) (fun⟨ib,hA⟩=>?_);subst hA;have hll:=hFr.e6 0;refine gg ?_;refine vl (vR 2 (by rw[List.getElem?_map,hy];rfl)) ?_;refine eF (xC (ky rp g bc bs hkr hFr y)) fun _ _=>?_;refine gg ?_;refine WP.aw rfl (fun h60=>?_) (fun h60=>?_)
     ·refine gg ?_;exact WP.KJ Tryz.results17 (fun _ h=>h) (fun w hw=>by first | exact⟨(false,tp,mb,es,rp,g,bc,bs),rfl,(fun h=>by cases h),hw.pk⟩ | exact⟨(true,tp,mb,es,rp,g,bc,bs),rfl,(fun _=>⟨hl30,hFo,hk,hab,hkr⟩),hw.pk⟩)
     ·refine cR ?_;exact nl fun w hw=>⟨rfl,j+1,(by omega),⟨rfl,jP,jP,jS,trivial⟩,⟨by omega,hw.pk⟩⟩
    ·refine WP.exit (an ?_);refine gg ?_;exact WP.KJ Tryz.results17 (fun _ h=>h) (fun w hw=>by first | exact⟨(false,tp,mb,es,rp,g,bc,bs),rfl,(fun h=>by cases h),hw.pk⟩ | exact⟨(true,tp,mb,es,rp,g,bc,bs),rfl,(fun _=>⟨hl30,hFo,hk,hab,hkr⟩),hw.pk⟩)
theorem kJ (k:Int) (v:Value) (k':Int):∀m:List (Int×Value),lookM (putM m k v) k'=if k=k' then some v else lookM m k'
  | []=>by simp[putM,lookM]
  | p :: m => by
    unfold putM
    split
    · rename_i e
      simp only[lookM]
      split
      · rfl
      · rename_i h
        rw[if_neg (by rw[e];exact h)]
    · rename_i e
      simp only[lookM];rw[kJ k v k' m]
      split
      · rename_i h
        rw[if_neg (fun h2=>e (h.trans h2.symm))]
      · rfl
theorem ym (k:Int) (v:Value):∀m:List (Int×Value),lookM m k=none→(putM m k v).length=m.length+1
  | [],_=>rfl
  | p :: m, h => by
    unfold putM;simp only[lookM] at h
    split at h
    · cases h
    · rename_i e
      rw[if_neg e,List.length_cons,ym k v m h,List.length_cons]
theorem ya:∀(ps:List ew) (m:List (Int×Value)),(ps.map ew.id).Nodup→(∀f∈ps,lookM m f.id=none)→
    (ps.foldl (fun m f=>putM m f.id (oQ f)) m).length=m.length+ps.length∧(∀f∈ps,lookM (ps.foldl (fun m f=>putM m f.id (oQ f)) m) f.id=some (oQ f))∧∀k,(∀f∈ps,f.id≠k)→lookM (ps.foldl (fun m f=>putM m f.id (oQ f)) m) k=lookM m k
  | [],m,_,_=>⟨rfl,fun f hf=>by simp at hf,fun _ _=>rfl⟩
  | f :: ps, m, hn, hm => by
    rw[List.map_cons,List.nodup_cons] at hn;have hnf:∀g∈ps,g.id≠f.id:=fun g hg e=>hn.1 (by rw[←e];exact List.mem_map.2 ⟨g,hg,rfl⟩);obtain⟨h1,h2,h3⟩:=ya ps (putM m f.id (oQ f)) hn.2 fun g hg=>by
      rw[kJ,if_neg (fun e=>hnf g hg e.symm)];exact hm g (by simp[hg])
    rw[List.foldl_cons];refine⟨?_,fun g hg=>?_,fun k hk=>?_⟩
    · rw[h1,ym _ _ _ (hm f (by simp)),List.length_cons];omega
    · rcases List.mem_cons.1 hg with rfl | hg
      · rw[h3 _ hnf,kJ,if_pos rfl]
      · exact h2 g hg
    · rw[h3 k fun g hg=>hk g (by simp[hg]),kJ,if_neg (hk f (by simp))]
def uT (m:List (Int×Value)) (l:List ew):Prop:=m.length=l.length∧(∀f∈l,lookM m f.id=some (oQ f))∧∀k,(∀f∈l,f.id≠k)→lookM m k=none
theorem mapOf {ps l:List ew} (hp:ps.Perm l) (hn:(l.map ew.id).Nodup):uT (bO ps) l:=by
  obtain⟨h1,h2,h3⟩:=ya ps [] ((hp.map ew.id).nodup_iff.2 hn) fun f _=>rfl;refine⟨?_,fun f hf=>h2 f (hp.mem_iff.2 hf),fun k hk=>h3 k fun f hf=>hk f (hp.mem_iff.1 hf)⟩;have:=hp.length_eq;unfold bO;simp only[List.length_nil] at h1;omega
theorem jl {F:ar (List Value)} {d:Int→Nat} (hF:WF F d) (hg:∀x,GS (ah F x)) (w h:Int):((nB F w h).map ew.id).Nodup:=
  (xd hF hg w h).nodup_iff.2 (hF.fB.sublist List.filter_sublist)
theorem u1 (neg:Bool) (a d:Nat) (h:a≠0):Ieee.Toward.even.cut neg (a*2 ^ d) d=a:=by
  have hl:d≤(a*2 ^ d).log2:=by
    rw[Nat.le_log2 (by exact Nat.mul_ne_zero h (Nat.pos_iff_ne_zero.1 (Nat.two_pow_pos d)))];exact Nat.le_mul_of_pos_left _ (Nat.pos_of_ne_zero h)
  have hm:min d ((a*2 ^ d).log2+2)=d:=by omega
  unfold Ieee.Toward.cut;rw[hm,Nat.one_shiftLeft];have h1:a*2 ^ d / 2 ^ d=a:=Nat.mul_div_cancel _ (Nat.two_pow_pos d);have h2:a*2 ^ d % 2 ^ d=0:=Nat.mul_mod_left _ _;simp only[h1,h2];have h3:=Nat.two_pow_pos d;simp
theorem BI (a k:Nat) (h:a≠0):(a*2 ^ k).log2=a.log2+k:=by
  induction k with
  | zero=>simp
  | succ k ih =>
    rw[Nat.pow_succ,←Nat.mul_assoc,Nat.mul_comm (a*2 ^ k) 2,Nat.log2_two_mul (Nat.mul_ne_zero h (Nat.pos_iff_ne_zero.1 (Nat.two_pow_pos k))),ih];omega
theorem wZ (a:Nat) (h0:a≠0) (ha:a<2 ^ 52):a.log2≤51∧4503599627370496≤a*2 ^ (52 - a.log2)∧a*2 ^ (52 - a.log2)<9007199254740992:=by
  have h1:a.log2<52:=(Nat.log2_lt h0).2 ha;have h2:2 ^ a.log2≤a:=Nat.log2_self_le h0;have h3:a<2 ^ (a.log2+1):=Nat.lt_log2_self;have h4:2 ^ a.log2*2 ^ (52 - a.log2)=4503599627370496:=by rw[←Nat.pow_add,show a.log2+(52 - a.log2)=52 by omega]
  have h5:2 ^ (a.log2+1)*2 ^ (52 - a.log2)=9007199254740992:=by rw[←Nat.pow_add,show a.log2+1+(52 - a.log2)=53 by omega]
  refine⟨by omega,?_,?_⟩
  · rw[←h4];exact Nat.mul_le_mul_right _ h2
  · rw[←h5];exact Nat.mul_lt_mul_of_pos_right h3 (Nat.two_pow_pos _)
def oU (a:Nat):Nat:=(a.log2+1022)*4503599627370496+a*2 ^ (52 - a.log2)
theorem qY (neg:Bool) (a k:Nat) (h0:a≠0) (ha:a<2 ^ 52):Ieee.double.nearest neg (a*2 ^ k) (-(k:Int))=Ieee.double.word neg (oU a):=by
  obtain⟨h1,h2,h3⟩:=wZ a h0 ha;have hp:a*2 ^ k≠0:=Nat.mul_ne_zero h0 (Nat.pos_iff_ne_zero.1 (Nat.two_pow_pos k));have hl:Ieee.double.leastPlace= -1074:=rfl;have hb:Ieee.double.binade=4503599627370496:=rfl;have hi:Ieee.double.infRung=2047*4503599627370496:=rfl;have hf:Ieee.double.fractionBits=52:=rfl;unfold Ieee.Format.nearest;rw[if_neg hp,BI a k h0,hl,hb,hi,hf];have hlast:max (-(k:Int)+((a.log2+k:Nat):Int) - ((52:Nat):Int)) (-1074)=(a.log2:Int) - 52:=by omega
  simp only[hlast];have hcut:Ieee.Toward.even.cut neg ((a*2 ^ k) <<<(-(k:Int) - ((a.log2:Int) - 52)).toNat) ((a.log2:Int) - 52 - -(k:Int)).toNat=a*2 ^ (52 - a.log2):=by
    by_cases hk:k+a.log2≤52
    · rw [show (-(k : Int) - ((a.log2 : Int) - 52)).toNat = 52 - a.log2 - k by omega, show ((a.log2 : Int) - 52 - -(k : Int)).toNat = 0 by omega, Nat.shiftLeft_eq, Nat.mul_assoc, ← Nat.pow_add, show k + (52 - a.log2 - k) = 52 - a.log2 by omega]
      have:=u1 neg (a*2 ^ (52 - a.log2)) 0 (by omega)
      simpa using this
    · rw [show (-(k : Int) - ((a.log2 : Int) - 52)).toNat = 0 by omega, show ((a.log2 : Int) - 52 - -(k : Int)).toNat = k - (52 - a.log2) by omega, Nat.shiftLeft_zero]
      have:=u1 neg (a*2 ^ (52 - a.log2)) (k - (52 - a.log2)) (by omega);rw[Nat.mul_assoc,←Nat.pow_add,show 52 - a.log2+(k - (52 - a.log2))=k by omega] at this;exact this
  rw[hcut]
  congr 1
  unfold oU;omega
theorem F7 (neg:Bool) (a:Nat) (h0:a≠0) (ha:a<2 ^ 52):Ieee.double.read (Ieee.double.word neg (oU a))=.number neg (a*2 ^ (52 - a.log2)) (-((52 - a.log2:Nat):Int)):=by
  obtain⟨h1,h2,h3⟩:=wZ a h0 ha;have hl:Ieee.double.leastPlace= -1074:=rfl;have hb:Ieee.double.binade=4503599627370496:=rfl;have hi:Ieee.double.infRung=2047*4503599627370496:=rfl;have hs:Ieee.double.signWeight=9223372036854775808:=rfl
  generalize hK:a*2 ^ (52 - a.log2)=K at*
  have hr:oU a=(a.log2+1022)*4503599627370496+K:=by unfold oU;rw[hK]
  rw[hr]
  generalize a.log2=L at*
  have hw:(Ieee.double.word neg ((L+1022)*4503599627370496+K)) / 9223372036854775808 % 2=neg.toNat∧(Ieee.double.word neg ((L+1022)*4503599627370496+K)) % 9223372036854775808=(L+1022)*4503599627370496+K:=by
    unfold Ieee.Format.word;rw[hs];cases neg
    · simp only[Bool.false_eq_true,if_false,Bool.toNat_false];omega
    · simp only[if_true,Bool.toNat_true];omega
  unfold Ieee.Format.read;rw[hs,hb,hi,hl];simp only[hw.1,hw.2];rw[if_neg (by omega),if_pos (by omega)];have e1:(neg.toNat==1)=neg:=by cases neg<;>rfl
  rw[e1,show ((L+1022)*4503599627370496+K) % 4503599627370496=K - 4503599627370496 by omega,show ((L+1022)*4503599627370496+K) / 4503599627370496=L+1023 by omega,show 4503599627370496+(K - 4503599627370496)=K by omega,show (-1074:Int)+((L+1023 - 1:Nat):Int)= -((52 - L:Nat):Int) by omega]
def a8 (z:Int):Nat:=Ieee.double.nearest (decide (z<0)) z.natAbs 0
theorem rT {z:Int} (h:z≠0) (hb:z.natAbs<2 ^ 52):a8 z=Ieee.double.word (decide (z<0)) (oU z.natAbs):=by
  have:=qY (decide (z<0)) z.natAbs 0 (by omega) hb
  simpa [a8] using this
theorem vj:a8 0=0:=rfl
theorem EK:Ieee.double.read 0=.number false 0 (-1074):=by decide+kernel
set_option exponentiation.threshold 2000 in
theorem fM {z:Int} (hb:z.natAbs<2 ^ 52):∃k:Nat,Ieee.double.read (a8 z)=.number (decide (z<0)) (z.natAbs*2 ^ k) (-(k:Int)):=by
  by_cases h:z=0
  · subst h
    exact⟨1074,by rw[vj,EK,Int.natAbs_zero,Nat.zero_mul];rfl⟩
  · exact⟨52 - z.natAbs.log2,by rw[rT h hb];exact F7 _ _ (by omega) hb⟩
theorem gz (z:Int) (k j:Nat):Ieee.signed (decide (z<0)) (z.natAbs*2 ^ k) j=z*((2 ^ (k+j):Nat):Int):=by
  unfold Ieee.signed;rw[Nat.shiftLeft_eq,Nat.mul_assoc,←Nat.pow_add]
  by_cases h:z<0
  · rw [decide_eq_true h, if_pos rfl, Int.natCast_mul, ← Int.neg_mul]
    congr 1
    omega
  · rw [decide_eq_false h, if_neg (by decide), Int.natCast_mul]
    congr 1
    omega
theorem JY (t:Int) (k:Nat):(t*((2 ^ k:Nat):Int)<0↔t<0)∧(t*((2 ^ k:Nat):Int)=0↔t=0)∧(t*((2 ^ k:Nat):Int)).natAbs=t.natAbs*2 ^ k:=by
  have hp:(0:Int)<((2 ^ k:Nat):Int):=Int.natCast_pos.2 (Nat.two_pow_pos k);refine⟨⟨fun h=>?_,fun h=>Int.mul_neg_of_neg_of_pos h hp⟩,⟨fun h=>?_,fun h=>by rw[h];simp⟩,by rw[Int.natAbs_mul,Int.natAbs_natCast]⟩
  · rcases Int.lt_or_le t 0 with h1 | h1
    · exact h1
    · have:=Int.mul_nonneg h1 (Int.le_of_lt hp);omega
  · rcases Int.mul_eq_zero.1 h with h1 | h1
    · exact h1
    · omega
theorem Dt {a b:Int} {s:Bool} {j k:Nat} {m:Nat} (hm:Ieee.signed s m 0=b*((2 ^ k:Nat):Int)) (hs:a=0→b=0→s=false∨True) (ha:a.natAbs<2 ^ 51) (hb:b.natAbs<2 ^ 51) (hz:a+b=0→(decide (a<0)&&s)=false) (hm2:∀q,Ieee.signed s m q=b*((2 ^ (k+q):Nat):Int)):
    ((Ieee.Datum.number (decide (a<0)) (a.natAbs*2 ^ j) (-(j:Int))).sum (.number s m (-(k:Int)))).map Ieee.double.write=some (a8 (a+b)):=by
  unfold Ieee.Datum.sum;simp only[Option.map_some]
  congr 1
  have e1:j+(-(j:Int) - min (-(j:Int)) (-(k:Int))).toNat=max j k:=by omega
  have e2:k+(-(k:Int) - min (-(j:Int)) (-(k:Int))).toNat=max j k:=by omega
  have e3:min (-(j:Int)) (-(k:Int))= -((max j k:Nat):Int):=by omega
  rw[gz,hm2,e1,e2,←Int.add_mul,e3];obtain⟨p1,p2,p3⟩:=JY (a+b) (max j k);unfold Ieee.Format.write;simp only;rw[p3]
  by_cases h:a+b=0
  · rw [if_pos (p2.2 h), hz h, h]
    simp[Ieee.Format.nearest,a8]
  · rw[if_neg (fun e=>h (p2.1 e)),show decide ((a+b)*((2 ^ max j k:Nat):Int)<0)=decide (a+b<0) from decide_eq_decide.2 p1,qY _ _ _ (by omega) (by omega),rT h (by omega)]
theorem Yr {a b:Int} (ha:a.natAbs<2 ^ 51) (hb:b.natAbs<2 ^ 51):Ieee.double.add (a8 a) (a8 b)=some (a8 (a+b)):=by
  obtain⟨j,h1⟩:=fM (z:=a) (by omega);obtain⟨k,h2⟩:=fM (z:=b) (by omega);unfold Ieee.Format.add;rw[h1,h2];refine Dt (by simpa using gz b k 0) (fun _ _=>.inr trivial) ha hb (fun h=>?_) (gz b k)
  by_cases h3:a<0
  · rw[decide_eq_false (show ¬b<0 by omega)];simp
  · rw[decide_eq_false h3];rfl
theorem Bv (s:Bool) (m q:Nat):Ieee.signed (!s) m q= -Ieee.signed s m q:=by cases s<;>simp[Ieee.signed]
theorem ael {a b:Int} (ha:a.natAbs<2 ^ 51) (hb:b.natAbs<2 ^ 51):Ieee.double.sub (a8 a) (a8 b)=some (a8 (a - b)):=by
  obtain⟨j,h1⟩:=fM (z:=a) (by omega);obtain⟨k,h2⟩:=fM (z:=b) (by omega);have hn:∀q,Ieee.signed (!decide (b<0)) (b.natAbs*2 ^ k) q= -b*((2 ^ (k+q):Nat):Int):=fun q=>by rw[Bv,gz,Int.neg_mul]
  unfold Ieee.Format.sub;rw[h1,h2]
  exact Dt (b := -b) (by simpa using hn 0) (fun _ _ => .inr trivial) ha (by omega) (fun h => by
    by_cases h3 : a < 0
    · rw [decide_eq_true (show b < 0 by omega)]; simp
    · rw [decide_eq_false h3]; rfl) hn
theorem zW (neg:Bool) (a d:Nat):Ieee.Toward.zero.cut neg (a*2 ^ d) d=a:=by
  by_cases h:a=0
  · subst h
    unfold Ieee.Toward.cut;simp
  · have hl:d≤(a*2 ^ d).log2:=by
      rw[Nat.le_log2 (by exact Nat.mul_ne_zero h (Nat.pos_iff_ne_zero.1 (Nat.two_pow_pos d)))];exact Nat.le_mul_of_pos_left _ (Nat.pos_of_ne_zero h)
    have hm:min d ((a*2 ^ d).log2+2)=d:=by omega
    unfold Ieee.Toward.cut;rw[hm,Nat.one_shiftLeft];simp only[Nat.mul_div_cancel _ (Nat.two_pow_pos d)];simp
theorem aeV {z:Int} (hb:z.natAbs<2 ^ 52):(Ieee.double.read (a8 z)).toInt .zero=some z:=by
  obtain⟨k,h⟩:=fM hb;rw[h];unfold Ieee.Datum.toInt Ieee.Datum.integral;simp only[show (-(k:Int)).toNat=0 by omega,show (- -(k:Int)).toNat=k by omega,Nat.shiftLeft_zero,zW];have:=gz z 0 0
  simpa using this
theorem MX {z:Int} (hb:z.natAbs<2 ^ 52):floatToIntVal .f64 (a8 z) .i64=some z:=by
  unfold floatToIntVal FloatKind.decode;rw[show FloatKind.f64.format=Ieee.double from rfl,aeV hb];have e1:IntKind.i64.min= -9223372036854775808:=rfl;have e2:IntKind.i64.max=9223372036854775807:=rfl;simp only[e1,e2];rw[if_pos (by omega)]
theorem Tq {z:Int} (hb:z.natAbs<2 ^ 52):Ieee.double.write ((Ieee.double.read (a8 z)).integral .zero)=a8 z:=by
  obtain⟨k,h⟩:=fM hb;rw[h];unfold Ieee.Datum.integral;simp only[show (-(k:Int)).toNat=0 by omega,show (- -(k:Int)).toNat=k by omega,Nat.shiftLeft_zero,zW];rfl
theorem Kb (a b:Int) (k:Nat):compare (a*((2 ^ k:Nat):Int)) (b*((2 ^ k:Nat):Int))=compare a b:=by
  have hp:(0:Int)<((2 ^ k:Nat):Int):=Int.natCast_pos.2 (Nat.two_pow_pos k);simp only[compare,compareOfLessAndEq];have h1:a*((2 ^ k:Nat):Int)<b*((2 ^ k:Nat):Int)↔a<b:=⟨fun h=>Int.lt_of_mul_lt_mul_right h (Int.le_of_lt hp),fun h=>Int.mul_lt_mul_of_pos_right h hp⟩;have h2:a*((2 ^ k:Nat):Int)=b*((2 ^ k:Nat):Int)↔a=b:=⟨fun h=>Int.eq_of_mul_eq_mul_right (by omega) h,fun h=>by rw[h]⟩;simp only[h1,h2]
theorem AT {a b:Int} (ha:a.natAbs<2 ^ 52) (hb:b.natAbs<2 ^ 52):Ieee.double.order (a8 a) (a8 b)=some (compare a b):=by
  obtain⟨j,h1⟩:=fM ha;obtain⟨k,h2⟩:=fM hb;unfold Ieee.Format.order;rw[h1,h2];unfold Ieee.Datum.order;simp only;rw[gz,gz,show j+(-(j:Int) - min (-(j:Int)) (-(k:Int))).toNat=max j k by omega,show k+(-(k:Int) - min (-(j:Int)) (-(k:Int))).toNat=max j k by omega,Kb]
theorem agp {z:Int} (hb:z.natAbs<2 ^ 52):a8 z % 9223372036854775808=a8 (z.natAbs:Int)∧a8 z<18446744073709551616:=by
  by_cases h:z=0
  · subst h;exact⟨rfl,by decide⟩
  · obtain ⟨h1, h2, h3⟩ := wZ z.natAbs (by omega) hb
    have hr:oU z.natAbs<9223372036854775808:=by unfold oU;omega
    have e:a8 (z.natAbs:Int)=oU z.natAbs:=by
      rw[rT (by omega) (by simpa using hb),decide_eq_false (by omega),Int.natAbs_natCast];rfl
    have hs:Ieee.double.signWeight=9223372036854775808:=rfl;rw[e,rT h hb];unfold Ieee.Format.word;rw[hs]
    split<;>omega
def cJ (x y:Int):Value:=.complex .f64 (a8 x) (a8 y)
section
variable {P:Program} {S:World→Prop} {ρ:Env} {dst:Option Tmp} {ty:TypeId} {pos:String} {af:Array Edge} {g:Option (Nat×Bool)} {t t2:TypeId} {x y:Operand} {a b c d:Int}
theorem jA:FloatKind.f64.format=Ieee.double:=rfl
theorem lG (w:World) (ha:a.natAbs<2 ^ 51) (hb:b.natAbs<2 ^ 51):(Op.Complex.arith .add .f64 (a8 a) (a8 b)).run P w=.ok (a8 (a+b)) w∧(Op.Complex.arith .sub .f64 (a8 a) (a8 b)).run P w=.ok (a8 (a - b)) w:=by
  have h1:=Yr ha hb;have h2:=ael ha hb;constructor
  · simp[Op.Complex.arith,Op.floatArith,jA,h1]
  · simp[Op.Complex.arith,Op.floatArith,jA,h2]
theorem Nn (hx:evo ρ x=cJ a b) (hy:evo ρ y=cJ c d) (h1:a.natAbs<2 ^ 51) (h2:b.natAbs<2 ^ 51) (h3:c.natAbs<2 ^ 51) (h4:d.natAbs<2 ^ 51):cw P S ⟨dst,.binOp .add t x y t2,ty,pos,af,g⟩ ρ (cJ (a+c) (b+d)):=ba fun w _=>by
  have r1:=(lG (P:=P) w h1 h3).1;have r2:=(lG (P:=P) w h2 h4).1;unfold cJ at*;have e:(eqGuard .add t x y (.complex .f64 (a8 a) (a8 b)) (.complex .f64 (a8 c) (a8 d))).run P w=.ok () w:=rfl;simp[execOp,hx,hy,e,binOp,Op.complexOp,r1,r2,Result.andThen]
theorem R5 (hx:evo ρ x=cJ a b) (hy:evo ρ y=cJ c d) (h1:a.natAbs<2 ^ 51) (h2:b.natAbs<2 ^ 51) (h3:c.natAbs<2 ^ 51) (h4:d.natAbs<2 ^ 51):cw P S ⟨dst,.binOp .sub t x y t2,ty,pos,af,g⟩ ρ (cJ (a - c) (b - d)):=ba fun w _=>by
  have r1:=(lG (P:=P) w h1 h3).2;have r2:=(lG (P:=P) w h2 h4).2;unfold cJ at*;have e:(eqGuard .sub t x y (.complex .f64 (a8 a) (a8 b)) (.complex .f64 (a8 c) (a8 d))).run P w=.ok () w:=rfl;simp[execOp,hx,hy,e,binOp,Op.complexOp,r1,r2,Result.andThen]
theorem w9 {ats:Array TypeId} (hx:evo ρ x=cJ a b):cw P S ⟨dst,.call ⟨.builtin .real,#[x],ats⟩,ty,pos,af,g⟩ ρ (.float .f64 (a8 a)):=ba fun w _=>by
  unfold cJ at hx;have h:Builtin.real_ ats ty #[.complex .f64 (a8 a) (a8 b)]=pure (.float .f64 (a8 a)):=rfl;simp[execOp,resolve,invoke,builtin,hx,h,Result.andThen]
theorem xK {ats:Array TypeId} (hx:evo ρ x=cJ a b):cw P S ⟨dst,.call ⟨.builtin .imag,#[x],ats⟩,ty,pos,af,g⟩ ρ (.float .f64 (a8 b)):=ba fun w _=>by
  unfold cJ at hx;have h:Builtin.imag_ ats ty #[.complex .f64 (a8 a) (a8 b)]=pure (.float .f64 (a8 b)):=rfl;simp[execOp,resolve,invoke,builtin,hx,h,Result.andThen]
theorem wy {ats:Array TypeId} (hx:evo ρ x=.float .f64 (a8 a)) (hy:evo ρ y=.float .f64 (a8 b)):cw P S ⟨dst,.call ⟨.builtin .complex,#[x,y],ats⟩,ty,pos,af,g⟩ ρ (cJ a b):=ba fun w _=>by
  unfold cJ;have h:Builtin.complex_ ats ty #[.float .f64 (a8 a),.float .f64 (a8 b)]=pure (.complex .f64 (a8 a) (a8 b)):=rfl;simp[execOp,resolve,invoke,builtin,hx,hy,h,Result.andThen]
theorem US (w:World) (ha:a.natAbs<2 ^ 52) (hb:b.natAbs<2 ^ 52):(Op.Complex.cmp .eql .f64 (a8 a) (a8 b)).run P w=.ok (decide (a=b)) w:=by
  have h:=AT ha hb;have e:(compare a b==Ordering.eq)=decide (a=b):=by
    simp only[compare,compareOfLessAndEq]
    by_cases h1:a<b
    · rw[if_pos h1,decide_eq_false (show ¬a=b by omega)];rfl
    · rw [if_neg h1]
      by_cases h2:a=b
      · rw[if_pos h2,decide_eq_true h2];rfl
      · rw[if_neg h2,decide_eq_false h2];rfl
  simp[Op.Complex.cmp,Op.floatCmp,jA,h,asBool,e]
theorem K0 {t t2:TypeId} {q:IntKind} (hx:evo ρ x=.int q a) (hs:(P.underlying t).isSome=true) (hd:P.underlying t2=some (.float .f64)):cw P S ⟨dst,.convert t t2 x,ty,pos,af,g⟩ ρ (.float .f64 (a8 a)):=ba fun w _=>by
  have h:=run_convert_int_float (P:=P) w t t2 q .f64 a hs hd;have e:floatOfInt .f64 a=a8 a:=rfl;simp[execOp,hx,h,e,Result.andThen]
theorem C7 {t t2:TypeId} (hx:evo ρ x=.float .f64 (a8 a)) (hs:(P.underlying t).isSome=true) (hd:P.underlying t2=some (.int .i64)) (ha:a.natAbs<2 ^ 52):cw P S ⟨dst,.convert t t2 x,ty,pos,af,g⟩ ρ (.int .i64 a):=ba fun w _=>by
  have h:=run_convert_float_int (P:=P) w t t2 .f64 .i64 (a8 a) a hs hd (MX ha);simp[execOp,hx,h,Result.andThen]
theorem RX (a b:Int):(some (compare a b)==some Ordering.lt||some (compare a b)==some Ordering.eq)=decide (a≤b):=by
  simp only[compare,compareOfLessAndEq]
  by_cases h1:a<b
  · rw[if_pos h1,decide_eq_true (show a≤b by omega)];rfl
  · rw [if_neg h1]
    by_cases h2:a=b
    · rw[if_pos h2,decide_eq_true (show a≤b by omega)];rfl
    · rw[if_neg h2,decide_eq_false (show ¬a≤b by omega)];rfl
theorem SM (a b:Int):(some (compare a b)==some Ordering.eq)=decide (a=b):=by
  simp only[compare,compareOfLessAndEq]
  by_cases h1:a<b
  · rw[if_pos h1,decide_eq_false (show ¬a=b by omega)];rfl
  · rw [if_neg h1]
    by_cases h2:a=b
    · rw[if_pos h2,decide_eq_true h2];rfl
    · rw[if_neg h2,decide_eq_false h2];rfl
theorem Sn (hx:evo ρ x=.float .f64 (a8 a)) (hy:evo ρ y=.float .f64 (a8 b)) (ha:a.natAbs<2 ^ 52) (hb:b.natAbs<2 ^ 52):cw P S ⟨dst,.binOp .leq t x y t2,ty,pos,af,g⟩ ρ (.bool (decide (a≤b))):=ba fun w _=>by
  have h:=AT ha hb;have e:(eqGuard .leq t x y (.float .f64 (a8 a)) (.float .f64 (a8 b))).run P w=.ok () w:=rfl;have e2:(binOp .leq t (.float .f64 (a8 a)) (.float .f64 (a8 b))).run P w=.ok (.bool (decide (a≤b))) w:=by
    simp only[binOp,Op.floatCmp,jA,h,RX];rfl
  simp[execOp,hx,hy,e,e2,Result.andThen]
theorem UU (hx:evo ρ x=.float .f64 (a8 a)) (hy:evo ρ y=.float .f64 (a8 b)) (ha:a.natAbs<2 ^ 52) (hb:b.natAbs<2 ^ 52):cw P S ⟨dst,.binOp .eql t x y t2,ty,pos,af,g⟩ ρ (.bool (decide (a=b))):=ba fun w _=>by
  have h:=AT ha hb;have e:(eqGuard .eql t x y (.float .f64 (a8 a)) (.float .f64 (a8 b))).run P w=.ok () w:=rfl;have e2:(binOp .eql t (.float .f64 (a8 a)) (.float .f64 (a8 b))).run P w=.ok (.bool (decide (a=b))) w:=by
    simp only[binOp,Op.floatCmp,jA,h,SM];rfl
  simp[execOp,hx,hy,e,e2,Result.andThen]
end
structure Rc where
  x:Int
  y:Int
  w:Int
  h:Int
structure Sp where
  lo:Int
  hi:Int
abbrev Pt:=Int×Int
structure Bj where
  r:Rc
  c:Rc
abbrev Rc.v (r:Rc):Value:=q4 r.x r.y r.w r.h
abbrev Sp.v (s:Sp):Value:=q2 s.lo s.hi
abbrev Bj.v (s:Bj):Value:=.agg #[.int .i64 s.r.x,.int .i64 s.r.y,.int .i64 s.r.w,.int .i64 s.r.h,.int .i64 s.c.x,.int .i64 s.c.y,.int .i64 s.c.w,.int .i64 s.c.h]
def Bn (n:Int):Prop:=-1099511627776≤n∧n≤1099511627776
def PB (p:Pt):Prop:=Bn p.1∧Bn p.2
theorem cn (n:Int):Bn (cut n):=dT n
theorem Bn.cut {n:Int} (h:Bn n):cut n=n:=w7 h.1 h.2
theorem Bn.zero:Bn 0:=⟨by decide,by decide⟩
theorem o8 (n lo hi:Int):Bn (jq n lo hi):=by unfold jq cut Bn;omega
def Hc (a n:Int):Sp:=⟨cut a,db a (max n 0)⟩
def GL (s:Sp):Int:=max (cr s.hi s.lo) 0
def qF (s:Sp):Sp:=if s.hi≤s.lo then ⟨0,0⟩ else s
def sa (a b:Sp):Sp:=qF ⟨max a.lo b.lo,min a.hi b.hi⟩
def nJ (a b:Sp):Sp:=if a.hi≤a.lo then qF b else if b.hi≤b.lo then a else ⟨min a.lo b.lo,max a.hi b.hi⟩
def zR:Rc:=⟨0,0,0,0⟩
def wQ (r:Rc):Bool:=decide (min r.w r.h≤0)
def qL (r:Rc):Rc:=if wQ r=true then zR else r
def bC (r:Rc):Sp:=Hc r.x r.w
def dh (r:Rc):Sp:=Hc r.y r.h
def Wj (x y:Sp):Rc:=⟨x.lo,y.lo,GL x,GL y⟩
def eH (x y w h:Int):Rc:=⟨cut x,cut y,max (cut w) 0,max (cut h) 0⟩
def Hv (a b:Rc):Rc:=qL (Wj (sa (bC a) (bC b)) (sa (dh a) (dh b)))
def sG (a b:Rc):Rc:=if wQ a=true then qL b else if wQ b=true then a else Wj (nJ (bC a) (bC b)) (nJ (dh a) (dh b))
def inS (a b:Sp):Bool:=decide (a.hi≤a.lo)||(decide (b.lo≤a.lo)&&decide (a.hi≤b.hi))
def inR (a b:Rc):Bool:=wQ a||(inS (bC a) (bC b)&&inS (dh a) (dh b))
def l0 (r:Rc) (p:Pt):Rc:=⟨cut (cut r.x+p.1),cut (cut r.y+p.2),r.w,r.h⟩
def BH (r:Rc) (t ri b l:Int):Rc:=⟨db r.x l,db r.y t,max (cr (cr r.w l) ri) 0,max (cr (cr r.h t) b) 0⟩
def j1 (r:Rc) (s:List Value):Rc:=BH r (val s 35) (val s 36) (val s 37) (val s 38)
def jy (r:Rc):Pt:=(cut r.x,cut r.y)
theorem yT (r:Rc):PB (jy r):=⟨cn _,cn _⟩
def mG (a b:Int):Int:=max (cr a b) 0
abbrev Sd:=Bool×Int
def eZ (box inn port:Sp) (b e:Sd):Int:=
  if b.1=true∧0<mG (db port.lo b.2) box.lo then min (mG (db port.lo b.2) box.lo) (mG inn.hi box.hi)
  else if e.1=false then 0
  else -min (if b.1=true then min (mG box.hi (cr port.hi e.2)) (mG box.lo (db port.lo b.2)) else mG box.hi (cr port.hi e.2)) (mG box.lo inn.lo)
theorem gd (a b:Int):0≤mG a b∧mG a b≤1099511627776:=by have:=na a b;unfold mG;omega
theorem pS (box inn port:Sp) (b e:Sd):Bn (eZ box inn port b e):=by
  have h1:=gd (db port.lo b.2) box.lo;have h2:=gd inn.hi box.hi;have h3:=gd box.hi (cr port.hi e.2);have h4:=gd box.lo (db port.lo b.2);have h5:=gd box.lo inn.lo;unfold eZ Bn
  split
  · omega
  · split
    · omega
    · split<;>omega
def dp (k n base:Int):Sd:=if bE k base=true then (true,cC k n base 0) else (false,0)
def q9 (s:List Value) (i:Nat) (base:Int):Sd:=dp (val s (23+2*i)) (val s (24+2*i)) base
def aa6 (box inn port:Rc) (s:List Value) (w h:Int):Pt:=
  (eZ (bC box) (bC inn) (bC port) (q9 s 3 w) (q9 s 1 w),eZ (dh box) (dh inn) (dh port) (q9 s 0 h) (q9 s 2 h))
section
variable (F:ar (List Value)) (g:Int→Option Rc)
def scrollN:Nat→Int→Int
  | 0,_=>-1
  | n+1,x=>if 0≤upF F x then (if val (ah F (upF F x)) 2=2 then upF F x else scrollN n (upF F x)) else upF F x
def bD (x:Int):Int:=scrollN F 65 x
def pR (R:Int→Rc) (r:Rc) (k:Int):Rc:=
  match g k with
  | some a=>if val (ah F k) 1=3 then r else sG r (l0 (R k) (jy a))
  | none=>r
def eX (R:Int→Rc) (ks:List Int) (r:Rc):Rc:=ks.foldl (pR F g R) r
def reachN:Nat→Int→Rc
  | 0,_=>zR
  | n + 1, x =>
    match g x with
    | none=>zR
    | some r=>if val (ah F x) 2=0 then eX F g (reachN n) (aH F x) ⟨0,0,r.w,r.h⟩ else ⟨0,0,r.w,r.h⟩
def dJ (x:Int):Rc:=reachN F g 64 x
def gD (x:Int) (r:Rc):Rc:=eX F g (dJ F g) (aH F x) r
def rD (a n border room:Int):Int:=max (cr (cr (db a n) border) room) 0
def gW (x:Int):Pt:=
  match g x with
  | none=>(0,0)
  | some r=>if val (ah F x) 2=2 then (rD (gD F g x zR).x (gD F g x zR).w (val (ah F x) 38) (j1 r (ah F x)).w,rD (gD F g x zR).y (gD F g x zR).h (val (ah F x) 35) (j1 r (ah F x)).h) else (0,0)
def jm (p lo hi:Pt):Pt:=(jq p.1 lo.1 hi.1,jq p.2 lo.2 hi.2)
variable (o:Int→Pt) (win:Rc)
def gh (x:Int):Pt:=(cut (0 - (jm (o x) (0,0) (gW F g x)).1),cut (0 - (jm (o x) (0,0) (gW F g x)).2))
def iY (S:Int→Bj) (x:Int):Rc:=if bD F x<0 then win else j1 (S (bD F x)).r (ah F (bD F x))
def nX (r:Rc) (s:List Value):Rc:=BH r (eS s 0) (eS s 1) (eS s 2) (eS s 3)
def qo (S:Int→Bj) (x:Int) (r:Rc) (b:Pt):Pt:=
  aa6 r (l0 (nX (S (upF F x)).r (ah F (upF F x))) b) (iY F win S x) (ah F x) (iY F win S x).w (iY F win S x).h
def qB (m:Rc) (u:Rc) (b:Pt):Rc:=l0 (l0 m (jy u)) b
def oG (u:Bj) (s:List Value):Rc:=if val s 2=0 then u.c else Hv u.c (j1 u.r s)
def lW (S:Int→Bj) (x:Int) (m:Rc):Bj:=
  if x=0∨val (ah F x) 1=3 then ⟨m,win⟩
  else ⟨if val (ah F x) 1 = 4 then l0 (qB m (S (upF F x)).r (gh F g o (upF F x))) (qo F win S x (qB m (S (upF F x)).r (gh F g o (upF F x))) (gh F g o (upF F x))) else qB m (S (upF F x)).r (gh F g o (upF F x)),
    oG (S (upF F x)) (ah F (upF F x))⟩
def iD:Bj:=⟨zR,zR⟩
def oI (S:Int→Bj) (x:Int):Bj:=match g x with | none=>iD | some m=>lW F g o win S x m
def qV:Nat→Int→Bj
  | 0,_=>iD
  | n+1,x=>oI F g o win (qV n) x
def fz (x:Int):Bj:=qV F g o win 64 x
end
theorem xo (a n b r:Int):0≤rD a n b r∧rD a n b r≤1099511627776:=by have:=na (cr (db a n) b) r;unfold rD;omega
theorem np (a n b r:Int):cut (rD a n b r)=rD a n b r:=Bn.cut ⟨by have:=xo a n b r;omega,(xo a n b r).2⟩
section
variable {F:ar (List Value)} {d:Int→Nat} {g:Int→Option Rc} {o:Int→Pt} {win:Rc}
theorem Kn (x:Int):(0≤(gW F g x).1∧(gW F g x).1≤1099511627776)∧0≤(gW F g x).2∧(gW F g x).2≤1099511627776:=by
  unfold gW
  split
  · dsimp only;omega
  · split
    · exact⟨xo _ _ _ _,xo _ _ _ _⟩
    · dsimp only;omega
theorem Jo (x:Int):PB (gW F g x):=by have:=Kn (F:=F) (g:=g) x;unfold PB Bn;omega
theorem Ef (p q r:Pt):PB (jm p q r):=⟨o8 _ _ _,o8 _ _ _⟩
theorem rI:PB (0,0):=⟨Bn.zero,Bn.zero⟩
theorem Da (x:Int):PB (gh F g o x):=⟨cn _,cn _⟩
theorem tP {R R':Int→Rc}:∀(ks:List Int) (r:Rc),(∀k∈ks,R k=R' k)→eX F g R ks r=eX F g R' ks r
  | [],_,_=>rfl
  | k :: ks, r, h => by
    unfold eX;rw[List.foldl_cons,List.foldl_cons];have e:pR F g R r k=pR F g R' r k:=by unfold pR;rw[h k (by simp)]
    rw[e];exact tP ks _ fun j hj=>h j (by simp[hj])
theorem ta (hF:WF F d):∀(n m:Nat) (x:Int),aK F x=true→63<n+d x→63<m+d x→reachN F g n x=reachN F g m x
  | 0,_,x,hx,h,_=>by obtain⟨b,hb⟩:=aL hx;have:=hF.deep x b hb;omega
  | n+1,0,x,hx,_,h=>by obtain⟨b,hb⟩:=aL hx;have:=hF.deep x b hb;omega
  | n + 1, m + 1, x, hx, h1, h2 => by
    unfold reachN;cases g x with
    | none=>rfl
    | some r =>
      dsimp only;rw[tP (aH F x) _ fun k hk=>?_];obtain⟨h3,h4,_,_⟩:=dA hF hk;exact ta hF n m k h3 (by omega) (by omega)
theorem Aa (hF:WF F d) {x:Int} (hx:aK F x=true) {r:Rc} (hg:g x=some r):dJ F g x=if val (ah F x) 2=0 then gD F g x ⟨0,0,r.w,r.h⟩ else ⟨0,0,r.w,r.h⟩:=by
  have h0:dJ F g x=reachN F g 65 x:=ta hF 64 65 x hx (by omega) (by omega);rw[h0,reachN,hg];rfl
theorem AL {x:Int} (hg:g x=none):dJ F g x=zR:=by unfold dJ reachN;rw[hg]
theorem qf {R:Int→Rc} {ks:List Int} {i:Nat} {k:Int} (h:ks[i]?=some k) (r:Rc):eX F g R (ks.take (i+1)) r=pR F g R (eX F g R (ks.take i) r) k:=by
  unfold eX;rw[l6 h,List.foldl_append];rfl
theorem re (hF:WF F d):∀(n m:Nat) (x:Int),aK F x=true→d x<n→d x<m→scrollN F n x=scrollN F m x
  | 0,_,_,_,h,_=>by omega
  | _+1,0,_,_,_,h=>by omega
  | n + 1, m + 1, x, hx, h1, h2 => by
    unfold scrollN
    by_cases h0:x=0
    · obtain ⟨b, hb, hu⟩ := hF.root
      rw[h0,ch hb,hu];rfl
    · obtain ⟨h3, _, _, h4⟩ := hF.iV hx h0
      rw[re hF n m (upF F x) h3 (by omega) (by omega)]
theorem vx (hF:WF F d) {x:Int} (hx:aK F x=true):bD F x=if 0≤upF F x then (if val (ah F (upF F x)) 2=2 then upF F x else bD F (upF F x)) else upF F x:=by
  have hd:∀y,aK F y=true→d y≤63:=fun y hy=>by obtain⟨b,hb⟩:=aL hy;exact hF.deep y b hb
  have h0:bD F x=scrollN F 66 x:=re hF 65 66 x hx (by have:=hd x hx;omega) (by have:=hd x hx;omega);rw[h0,scrollN];rfl
theorem s4 (hF:WF F d):∀(n:Nat) (x:Int),aK F x=true→d x<n→0≤scrollN F n x→aK F (scrollN F n x)=true∧d (scrollN F n x)<d x
  | 0,_,_,h,_=>by omega
  | n + 1, x, hx, h1, h => by
    unfold scrollN at h ⊢
    by_cases h0:x=0
    · obtain ⟨b, hb, hu⟩ := hF.root
      rw[h0,ch hb,hu] at h;rw[if_neg (by decide)] at h;omega
    · obtain ⟨h3, _, _, h4⟩ := hF.iV hx h0
      obtain⟨b,hb⟩:=aL h3;have h5:=(hF.range _ b hb).1;rw[if_pos h5] at h ⊢
      split
      · exact⟨h3,by omega⟩
      · rename_i hs
        rw[if_neg hs] at h;obtain⟨h6,h7⟩:=s4 hF n (upF F x) h3 (by omega) h;exact⟨h6,by omega⟩
theorem HX (hF:WF F d) {x:Int} (hx:aK F x=true) (h:0≤bD F x):aK F (bD F x)=true∧d (bD F x)<d x:=
  s4 hF 65 x hx (by obtain⟨b,hb⟩:=aL hx;have:=hF.deep x b hb;omega) h
theorem nL (hF:WF F d):∀(n i:Nat) (x:Int),(order F)[i]?=some x→0≤scrollN F n x→scrollN F n x∈(order F).take i
  | 0,_,_,_,h=>by simp[scrollN] at h
  | n + 1, i, x, hi, h => by
    unfold scrollN at h ⊢
    by_cases h0:x=0
    · obtain ⟨b, hb, hu⟩ := hF.root
      rw[h0,ch hb,hu] at h;rw[if_neg (by decide)] at h;omega
    · have h1 := hF.before hi h0
      split
      · rename_i h2
        rw[if_pos h2] at h
        split
        · exact h1
        · rename_i h3
          rw[if_neg h3] at h;obtain⟨j,hj,he⟩:=List.mem_take_iff_getElem.1 h1;have hj2:(order F)[j]?=some (upF F x):=by rw[List.getElem?_eq_getElem (by omega),he]
          have h4:=nL hF n j (upF F x) hj2 h;have h5:(order F).take j=((order F).take i).take j:=by rw[List.take_take];congr 1;omega
          rw[h5] at h4;exact List.mem_of_mem_take h4
      · rename_i h2
        rw[if_neg h2] at h;exact absurd h h2
theorem An (hF:WF F d) {S S':Int→Bj} {x:Int} (hx:aK F x=true) (h:∀y,aK F y=true→d y<d x→S y=S' y) (m:Rc):lW F g o win S x m=lW F g o win S' x m:=by
  unfold lW
  split
  · rfl
  · rename_i h0
    have h0':x≠0:=fun e=>h0 (.inl e);obtain⟨h3,_,_,h4⟩:=hF.iV hx h0';have e1:=h _ h3 (by omega);have e2:iY F win S x=iY F win S' x:=by
      unfold iY
      split
      · rfl
      · rename_i hs
        obtain⟨h5,h6⟩:=HX hF hx (by omega);rw[h _ h5 h6]
    unfold qo;rw[e1,e2]
theorem vY (hF:WF F d):∀(n m:Nat) (x:Int),aK F x=true→d x<n→d x<m→qV F g o win n x=qV F g o win m x
  | 0,_,_,_,h,_=>by omega
  | _+1,0,_,_,_,h=>by omega
  | n + 1, m + 1, x, hx, h1, h2 => by
    unfold qV oI;cases g x with
    | none=>rfl
    | some r=>exact An hF hx (fun y hy hd=>vY hF n m y hy (by omega) (by omega)) r
theorem J6 (hF:WF F d) {x:Int} (hx:aK F x=true) {m:Rc} (hg:g x=some m):fz F g o win x=lW F g o win (fz F g o win) x m:=by
  have hd:d x≤63:=by obtain⟨b,hb⟩:=aL hx;exact hF.deep x b hb
  have h0:fz F g o win x=qV F g o win 65 x:=vY hF 64 65 x hx (by omega) (by omega);rw[h0,qV,oI,hg];rfl
theorem u6 {x:Int} (hg:g x=none):fz F g o win x=iD:=by unfold fz qV oI;rw[hg]
def RM (F:ar (List Value)) (m:List (Int×Value)) (g:Int→Option Rc):Prop:=(∀k,lookM m k=(g k).map Rc.v)∧∀k r,g k=some r→aK F k=true
def OM (m:List (Int×Value)) (o:Int→Pt):Prop:=∀k,(lookM m k).getD (cJ 0 0)=cJ (o k).1 (o k).2∧PB (o k)
theorem RM.val {F:ar (List Value)} {m:List (Int×Value)} {g:Int→Option Rc} (h:RM F m g) (y:Int):(lookM m y).getD zR.v=((g y).getD zR).v:=by rw[h.1 y];cases g y<;>rfl
theorem RM.is {F:ar (List Value)} {m:List (Int×Value)} {g:Int→Option Rc} (h:RM F m g) (y:Int):(lookM m y).isSome=(g y).isSome:=by rw[h.1 y];cases g y<;>rfl
theorem ll {a:Option Rc} (h:a.isSome=true):a=some (a.getD zR):=by cases a with | none=>cases h | some r=>rfl
theorem RM.has {F:ar (List Value)} {m:List (Int×Value)} {g:Int→Option Rc} (h:RM F m g) {y:Int} (hy:(g y).isSome=true):aK F y=true:=h.2 y _ (ll hy)
theorem CB {a:Option Rc} (h:a.isSome=false):a=none:=by cases a with | none=>rfl | some r=>cases h
section
variable {F:ar (List Value)} {g:Int→Option Rc}
theorem Ea {R:Int→Rc} {r:Rc} {k:Int} (h:(g k).isSome=true) (hp:val (ah F k) 1≠3):pR F g R r k=sG r (l0 (R k) (jy ((g k).getD zR))):=by
  unfold pR;rw[ll h];simp[hp]
theorem Ag {R:Int→Rc} {r:Rc} {k:Int} (h:(g k).isSome=false∨val (ah F k) 1=3):pR F g R r k=r:=by
  unfold pR;cases e:g k with
  | none=>rfl
  | some a=>rcases h with h | h;rw[e] at h;cases h;simp[h]
theorem CM {x:Int} (h:(g x).isSome=false∨val (ah F x) 2≠2):gW F g x=(0,0):=by
  unfold gW;cases e:g x with
  | none=>rfl
  | some a=>rcases h with h | h;rw[e] at h;cases h;simp[h]
theorem Ho {x:Int} (h:(g x).isSome=true) (hp:val (ah F x) 2=2):gW F g x=(rD (gD F g x zR).x (gD F g x zR).w (val (ah F x) 38) (j1 ((g x).getD zR) (ah F x)).w,rD (gD F g x zR).y (gD F g x zR).h (val (ah F x) 35) (j1 ((g x).getD zR) (ah F x)).h):=by
  unfold gW;rw[ll h];simp[hp]
end
def frR (f:ew):Rc:=⟨cut f.x,cut f.y,cut f.w,cut f.h⟩
def J2 (l:List ew) (k:Int):Option Rc:=(l.find? fun f=>f.id==k).map frR
theorem Dd {F:ar (List Value)} {m:List (Int×Value)} {l:List ew} (h:uT m l) (hh:∀f∈l,aK F f.id=true):RM F m (J2 l):=by
  obtain⟨_,h2,h3⟩:=h;refine⟨fun k=>?_,fun k r hr=>?_⟩
  · unfold J2
    cases e:l.find? fun f=>f.id==k with
    | none=>exact h3 k fun f hf=>by have:=List.find?_eq_none.1 e f hf;simpa using this
    | some f =>
      have h5:=List.find?_some e;have h6:f.id=k:=by simpa using h5
      rw[←h6,h2 f (List.mem_of_find?_eq_some e)];rfl
  · unfold J2 at hr
    obtain⟨f,hf,_⟩:=Option.map_eq_some_iff.1 hr;have h5:=List.find?_some hf;have h6:f.id=k:=by simpa using h5
    rw[←h6];exact hh f (List.mem_of_find?_eq_some hf)
def lS (F:ar (List Value)) (g:Int→Option Rc) (o:Int→Pt) (win:Rc) (l:List Int):List (Int×Value):=l.filterMap fun y=>(g y).map fun _=>(y,(fz F g o win y).v)
theorem zk (k:Int) (v:Value):∀(m:List (Int×Value)),lookM m k=none→putM m k v=m++[(k,v)]
  | [],_=>rfl
  | p :: m, h => by
    simp only[lookM] at h;unfold putM
    split at h
    · cases h
    · rename_i e
      rw[if_neg e,zk k v m h,List.cons_append]
theorem mP (k:Int):∀(l:List Int),lookM (lS F g o win l) k=if k∈l then (g k).map fun _=>(fz F g o win k).v else none
  | []=>rfl
  | y :: l => by
    have ih:=mP k l;unfold lS at ih ⊢;rw[List.filterMap_cons];cases e:g y with
    | none =>
      simp only[Option.map_none];rw[ih]
      by_cases h:k=y
      · rw[h,e];simp
      · simp[h]
    | some r =>
      simp only[Option.map_some,lookM]
      by_cases h:y=k
      · subst h;rw[if_pos rfl];simp[e]
      · rw [if_neg h, ih]
        have h':¬k=y:=fun q=>h q.symm;simp[h']
theorem uB {l:List Int} {i:Nat} {y:Int} (h:l[i]?=some y) (hg:g y=none):lS F g o win (l.take (i+1))=lS F g o win (l.take i):=by
  unfold lS;rw[l6 h,List.filterMap_append];simp[hg]
theorem Gv {l:List Int} {i:Nat} {y:Int} {r:Rc} (h:l[i]?=some y) (hn:l.Nodup) (hg:g y=some r):lS F g o win (l.take (i+1))=putM (lS F g o win (l.take i)) y (fz F g o win y).v:=by
  have hy:y∉l.take i:=fun hm=>by
    obtain⟨j,hj,he⟩:=List.mem_take_iff_getElem.1 hm;obtain⟨hi,he2⟩:=List.getElem?_eq_some_iff.1 h;have:=List.pairwise_iff_getElem.1 hn j i (by omega) hi (by omega);exact this (he.trans he2.symm)
  rw[zk _ _ _ (by rw[mP,if_neg hy])];unfold lS;rw[l6 h,List.filterMap_append];simp[hg]
theorem w6 {l:List Int} {y:Int} (h:y∈l):(lookM (lS F g o win l) y).getD iD.v=(fz F g o win y).v:=by
  rw[mP,if_pos h];cases e:g y with
  | none=>rw[u6 e];rfl
  | some r=>rfl
end
section
variable {F:ar (List Value)} {d:Int→Nat}
theorem vG (hF:WF F d) (hg:∀x,GS (ah F x)) {ww wh:Int}:∀(n:Nat) (f:ew),Good F ww wh f→∀g∈flatN n f,Good F ww wh g
  | 0,f,_,g,hm=>by simp[flatN] at hm
  | n + 1, f, h, g, hm => by
    rw[flatN] at hm
    rcases List.mem_cons.1 hm with rfl | hm
    · exact h
    · obtain ⟨k, hk, hm⟩ := List.mem_flatMap.1 hm
      exact vG hF hg n k (h.kids hF hg k hk).1 g hm
theorem ua (hF:WF F d) (hg:∀x,GS (ah F x)) (w h:Int):∀f∈nB F w h,Good F (max w 0) (max h 0) f:=fun f hf=>by
  unfold nB at hf
  split at hf
  · exact vG hF hg 64 _ (qM hF hg _ _ _ _) f hf
  · simp at hf
end
theorem xq:OM [] (fun _=>(0,0)):=fun _=>⟨rfl,rI⟩
section
variable {F:ar (List Value)} {d:Int→Nat}
def gm (F:ar (List Value)) (w h:Int):Int→Option Rc:=J2 (nB F w h)
theorem zu (hF:WF F d) (hg:∀x,GS (ah F x)) {m:List (Int×Value)} {w h:Int} (hm:uT m (nB F w h)):RM F m (gm F w h):=Dd hm fun f hf=>(ua hF hg w h f hf).1
theorem KO (hF:WF F d) (hg:∀x,GS (ah F x)) (w h:Int) {y:Int} (hy:y∈order F):((gm F w h) y).isSome=cM F y:=by
  have hp:=xd hF hg w h;unfold gm J2;rw[Option.isSome_map];cases hs:cM F y with
  | true =>
    have hi:=hp.mem_iff.2 (List.mem_filter.2 ⟨hy,hs⟩);obtain⟨f,hf,e⟩:=List.mem_map.1 hi;exact List.find?_isSome.2 ⟨f,hf,by simpa using e⟩
  | false =>
    cases e:(nB F w h).find? fun f=>f.id==y with
    | none=>rfl
    | some f =>
      have h5:=List.find?_some e;have h6:f.id=y:=by simpa using h5
      have hi:=hp.mem_iff.1 (List.mem_map.2 ⟨f,List.mem_of_find?_eq_some e,h6⟩);rw[(List.mem_filter.1 hi).2] at hs;cases hs
theorem ahO (hF:WF F d) (hg:∀x,GS (ah F x)) (w h:Int):((order F).filter fun y=>((gm F w h) y).isSome).length=(nB F w h).length:=by
  have e:(order F).filter (fun y=>((gm F w h) y).isSome)=(order F).filter (cM F):=List.filter_congr fun y hy=>KO hF hg w h hy;rw[e,←(xd hF hg w h).length_eq,List.length_map]
theorem Yw (hF:WF F d) (hg:∀x,GS (ah F x)) {w h:Int} {y:Int} (hy:(gm F w h y).isSome=true) (h0:y≠0):(gm F w h (upF F y)).isSome=true:=by
  have hhas:aK F y=true:=by
    unfold gm J2 at hy;rw[Option.isSome_map] at hy;obtain⟨f,hf⟩:=Option.isSome_iff_exists.1 hy;have h5:=List.find?_some hf;have h6:f.id=y:=by simpa using h5
    rw[←h6];exact(ua hF hg w h f (List.mem_of_find?_eq_some hf)).1
  obtain⟨h1,h2,_,_⟩:=hF.iV hhas h0;rw[KO hF hg w h (hF.bw.2 hhas),uY hF h2] at hy;rw[KO hF hg w h (hF.bw.2 h1)];simp only[Bool.and_eq_true] at hy;exact hy.2
variable {g:Int→Option Rc} {o o':Int→Pt} {win:Rc}
theorem ahj (hF:WF F d) {y:Int} (hs:(g y).isSome=true) (hh:aK F y=true) (h:y=0∨val (ah F y) 1=3):fz F g o win y=⟨(g y).getD zR,win⟩:=by
  rw[J6 hF hh (ll hs)];exact if_pos h
theorem ahm (hF:WF F d) {y:Int} (hs:(g y).isSome=true) (hh:aK F y=true) (h0:y≠0) (h3:val (ah F y) 1≠3):
    fz F g o win y = ⟨if val (ah F y) 1 = 4 then l0 (qB ((g y).getD zR) (fz F g o win (upF F y)).r (gh F g o (upF F y))) (qo F win (fz F g o win) y (qB ((g y).getD zR) (fz F g o win (upF F y)).r (gh F g o (upF F y))) (gh F g o (upF F y))) else qB ((g y).getD zR) (fz F g o win (upF F y)).r (gh F g o (upF F y)),
      oG (fz F g o win (upF F y)) (ah F (upF F y))⟩ := by
  rw[J6 hF hh (ll hs)];exact if_neg (by omega)
end
section
variable {P:Program} {S:World→Prop} {ρ:Env} {dst:Option Tmp} {ty:TypeId} {pos:String} {af:Array Edge} {g:Option (Nat×Bool)} {t t2:TypeId} {x y:Operand} {a b:Int}
theorem CV (hx:evo ρ x=.float .f64 (a8 a)) (hy:evo ρ y=.float .f64 0) (ha:a.natAbs<2 ^ 51):cw P S ⟨dst,.binOp .add t x y t2,ty,pos,af,g⟩ ρ (.float .f64 (a8 a)):=ba fun w _=>by
  have h:floatBits .add .f64 (a8 a) 0=some (a8 a):=by
    have h1:=Yr (a:=a) (b:=0) ha (by decide);rw[Int.add_zero,vj] at h1;exact h1
  have e:(eqGuard .add t x y (.float .f64 (a8 a)) (.float .f64 0)).run P w=.ok () w:=rfl;have e2:=run_float_arith (P:=P) w .add t .f64 (a8 a) 0 (a8 a) h;simp[execOp,hx,hy,e,e2,Result.andThen]
theorem Es:a8 1099511627776=4787326403894837248:=by decide+kernel
theorem JC (hx:evo ρ x=.float .f64 (a8 a)) (hy:evo ρ y=.float .f64 4787326403894837248) (ha:a≤1099511627776) (h0:0≤a):cw P S ⟨dst,.binOp .leq t x y t2,ty,pos,af,g⟩ ρ (.bool true):=by
  have h:=Sn (P:=P) (S:=S) (dst:=dst) (ty:=ty) (pos:=pos) (af:=af) (g:=g) (t:=t) (t2:=t2) hx (by rw[hy,←Es]) (b:=1099511627776) (by omega) (by decide)
  rwa [decide_eq_true ha] at h
theorem Ke (hx:evo ρ x=.float .f64 (a8 a)) (hy:evo ρ y=.float .f64 (a8 a)) (ha:a.natAbs<2 ^ 52):cw P S ⟨dst,.binOp .eql t x y t2,ty,pos,af,g⟩ ρ (.bool true):=by
  have h:=UU (P:=P) (S:=S) (dst:=dst) (ty:=ty) (pos:=pos) (af:=af) (g:=g) (t:=t) (t2:=t2) hx hy ha ha
  rwa [decide_eq_true rfl] at h
theorem Gz {f:FuncId} {e:Array Value→Sem Value} {v v':Value} {ats:Array TypeId} (hrun:∀args w,(callFunc f args).run P w=((e args).run P w).andThen fun v w'=>.ok (.value v) w') (hx:evo ρ x=v) (he:e #[v]=pure v'):cw P S ⟨dst,.call ⟨.value (.func f),#[x],ats⟩,ty,pos,af,g⟩ ρ v':=ba fun w _=>by
  have e0:evo ρ (.func f)=.func (.func f) #[] #[]:=rfl;simp[execOp,resolve,e0,Deferred.ofValue,invoke,hrun,hx,he,Result.andThen]
theorem Gy:Extern.MathFloatBits.float64bits #[.float .f64 (a8 a)]=pure (.int .u64 (a8 a:Nat)):=rfl
theorem Hq (n:Nat):Extern.MathFloatBits.float64frombits #[.int .u64 (n:Nat)]=pure (.float .f64 n):=rfl
theorem EA (ha : a.natAbs < 2 ^ 52) : Extern.MathFloor.toIntegral "math.archTrunc" .zero #[.float .f64 (a8 a)] = pure (.float .f64 (a8 a)) := by
  obtain⟨k,h⟩:=fM ha;have h1:=Tq ha;have h2:FloatKind.f64.decode (a8 a)=.number (decide (a<0)) (a.natAbs*2 ^ k) (-(k:Int)):=h;have h3:FloatKind.f64.encode ((Ieee.Datum.number (decide (a<0)) (a.natAbs*2 ^ k) (-(k:Int))).integral .zero)=a8 a:=by rw[←h];exact h1
  have key : ∀ d, FloatKind.f64.decode (a8 a) = d → (∀ s t, d ≠ .nan s t) → Extern.MathFloor.toIntegral "math.archTrunc" .zero #[.float .f64 (a8 a)] = pure (.float .f64 (FloatKind.f64.encode (d.integral .zero))) := by
    delta Extern.MathFloor.toIntegral
    intro d hd hn
    conv=>lhs;whnf
    rw[hd];cases d with
    | nan s t=>exact absurd rfl (hn s t)
    | infinity s=>rfl
    | number s m k=>rfl
  rw[key _ h2 (fun s t h=>by cases h),h3]
theorem Gh (hx:evo ρ x=.int .u64 (a8 a:Nat)) (hy:evo ρ y=.int .u64 9223372036854775808) (ha:a.natAbs<2 ^ 52):cw P S ⟨dst,.binOp .andNot t x y t2,ty,pos,af,g⟩ ρ (.int .u64 (a8 (a.natAbs:Int):Nat)):=ba fun w _=>by
  obtain⟨h1,h2⟩:=agp ha;have e:(eqGuard .andNot t x y (.int .u64 (a8 a:Nat)) (.int .u64 9223372036854775808)).run P w=.ok () w:=rfl;have e3:bits .andNot .u64 ((a8 a:Nat):Int) 9223372036854775808=((a8 (a.natAbs:Int):Nat):Int):=by
    have:=u64_andNot_nat (a8 a) 9223372036854775808 h2 (by decide);rw[←h1];refine this.trans ?_;rw[show 18446744073709551615 - 9223372036854775808=2 ^ 63 - 1 from rfl,Nat.and_two_pow_sub_one_eq_mod]
  have e2:(binOp .andNot t (.int .u64 (a8 a:Nat)) (.int .u64 9223372036854775808)).run P w=.ok (.int .u64 (bits .andNot .u64 ((a8 a:Nat):Int) 9223372036854775808)) w:=rfl;rw[e3] at e2;simp[execOp,hx,hy,e,e2,Result.andThen]
end
theorem N6 (a:Int) (ha:a.natAbs<2 ^ 52):Ct Tryz.prog 185 #[.float .f64 (a8 a)] [] (fun _=>True) (X:=Unit) (fun _=>.float .f64 (a8 (a.natAbs:Int))) (fun _=>True) (fun _=>[]):=by
  refine Ci fun w0 _=>?_;refine gv ?_;refine sg rfl ?_;refine bW ?_;refine mv (v:=.float .f64 (a8 _)) rfl ?_;refine vl (Gz (f:=219) (e:=Extern.MathFloatBits.float64bits) (run_callFunc_extern Tryz.func219 (by kernel_rfl) (by kernel_rfl) (by kernel_rfl) (by kernel_rfl)) rfl Gy) ?_;refine vl (Gh rfl rfl ha) ?_;refine vl (Gz (f:=218) (e:=Extern.MathFloatBits.float64frombits) (run_callFunc_extern Tryz.func218 (by kernel_rfl) (by kernel_rfl) (by kernel_rfl) (by kernel_rfl)) rfl (Hq _)) ?_;refine sg (v:=.float .f64 (a8 _)) rfl ?_;refine gg ?_;exact aT fun w hw=>⟨(),rfl,trivial,hw.pk⟩
theorem H4 (a:Int) (ha:a.natAbs<2 ^ 52):Ct Tryz.prog 186 #[.float .f64 (a8 a)] [] (fun _=>True) (X:=Unit) (fun _=>.float .f64 (a8 a)) (fun _=>True) (fun _=>[]):=by
  refine Ci fun w0 _=>?_;refine gv ?_;refine sg rfl ?_;refine gg ?_;refine WP.aQ rfl ?_;refine gv ?_;refine mv (v:=.float .f64 (a8 _)) rfl ?_;refine vl (Gz (f := 220) (e := Extern.MathFloor.toIntegral "math.archTrunc" .zero) (run_callFunc_extern Tryz.func220 (by kernel_rfl) (by kernel_rfl) (by kernel_rfl) (by kernel_rfl)) rfl (EA ha)) ?_;refine sg (v:=.float .f64 (a8 _)) rfl ?_;refine gg ?_;exact aT fun w hw=>⟨(),rfl,trivial,hw.pk⟩
theorem zf (a:Int) (ha:Bn a):Ct Tryz.prog 161 #[.float .f64 (a8 a)] [] (fun _=>True) (X:=Unit) (fun _=>.bool true) (fun _=>True) (fun _=>[]):=by
  obtain⟨ha1,ha2⟩:=ha;refine Ci fun w0 _=>?_;refine bS ?_;refine mv (v:=.float .f64 (a8 _)) rfl ?_;refine eF (xC (N6 a (by omega))) fun _ _=>?_;refine vl (JC rfl rfl (by omega) (by omega)) ?_;refine av ?_;refine vg (aC (v:=.float .f64 (a8 _)) rfl) ?_;refine aj.kn (xC (H4 a (by omega))) (fun _=>?_);refine aj.fact (fun _=>?_);refine vg (aC (v:=.float .f64 (a8 _)) rfl) ?_;refine vg (Ke rfl rfl (by omega)) ?_;refine gg ?_;exact aT fun w hw=>⟨(),rfl,trivial,hw.pk⟩
theorem Fx (a b:Int) (ha:Bn a) (hb:Bn b):Ct Tryz.prog 118 #[cJ a b] [] (fun _=>True) (X:=Unit) (fun _=>.bool true) (fun _=>True) (fun _=>[]):=by
  refine Ci fun w0 _=>?_;refine bS ?_;refine mv (v:=cJ _ _) rfl ?_;refine vl (w9 rfl) ?_;refine eF (xC (zf a ha)) fun _ _=>?_;refine av ?_;refine vg (aC (v:=cJ _ _) rfl) ?_;refine vg (xK rfl) ?_;refine aj.kn (xC (zf b hb)) (fun _=>?_);refine aj.fact (fun _=>?_);refine gg ?_;exact aT fun w hw=>⟨(),rfl,trivial,hw.pk⟩
theorem jk (a b:Int) (ha:Bn a) (hb:Bn b):Ct Tryz.prog 72 #[cJ a b] [] (fun _=>True) (X:=Unit) (fun _=>cJ a b) (fun _=>True) (fun _=>[]):=by
  have ha':=ha;have hb':=hb;obtain⟨ha1,ha2⟩:=ha';obtain⟨hb1,hb2⟩:=hb';refine Ci fun w0 _=>?_;refine gv ?_;refine sg rfl ?_;refine cK ?_;refine mv (v:=cJ _ _) rfl ?_;refine eF (xC (Fx a b ha hb)) fun _ _=>?_;refine gg ?_;refine WP.br rfl ?_;refine bW ?_;refine mv (v:=cJ _ _) rfl ?_;refine vl (w9 rfl) ?_;refine vl (CV rfl rfl (by omega)) ?_;refine mv (v:=cJ _ _) rfl ?_;refine vl (xK rfl) ?_;refine vl (CV rfl rfl (by omega)) ?_;refine vl (wy rfl rfl) ?_;refine sg (v:=cJ _ _) rfl ?_;refine gg ?_;exact aT fun w hw=>⟨(),rfl,trivial,hw.pk⟩
theorem FH (a b:Int) (ha:Bn a) (hb:Bn b):Ct Tryz.prog 32 #[cJ a b] [] (fun _=>True) (X:=Unit) (fun _=>.int .i64 a) (fun _=>True) (fun _=>[]):=by
  have ha':=ha;obtain⟨ha1,ha2⟩:=ha';refine Ci fun w0 _=>?_;refine bS ?_;refine mv (v:=cJ _ _) rfl ?_;refine eF (xC (jk a b ha hb)) fun _ _=>?_;refine vl (w9 rfl) ?_;refine vl (C7 rfl (by rw[Tryz.underlying122];rfl) Tryz.underlying3 (by omega)) ?_;refine gg ?_;exact aT fun w hw=>⟨(),rfl,trivial,hw.pk⟩
theorem Ii (a b:Int) (ha:Bn a) (hb:Bn b):Ct Tryz.prog 33 #[cJ a b] [] (fun _=>True) (X:=Unit) (fun _=>.int .i64 b) (fun _=>True) (fun _=>[]):=by
  have hb':=hb;obtain⟨hb1,hb2⟩:=hb';refine Ci fun w0 _=>?_;refine bS ?_;refine mv (v:=cJ _ _) rfl ?_;refine eF (xC (jk a b ha hb)) fun _ _=>?_;refine vl (xK rfl) ?_;refine vl (C7 rfl (by rw[Tryz.underlying122];rfl) Tryz.underlying3 (by omega)) ?_;refine gg ?_;exact aT fun w hw=>⟨(),rfl,trivial,hw.pk⟩
theorem fa (a b:Int):Ct Tryz.prog 25 #[.int .i64 a,.int .i64 b] [] (fun _=>True) (X:=Unit) (fun _=>cJ (cut a) (cut b)) (fun _=>True) (fun _=>[]):=by
  refine Ci fun w0 _=>?_;refine gv ?_;refine sg rfl ?_;refine gg ?_;refine vl (vC (bI _ _)) ?_;refine vl (K0 rfl (by rw[Tryz.underlying3];rfl) Tryz.underlying122) ?_;refine gg ?_;refine vl (vC (bI _ _)) ?_;refine vl (K0 rfl (by rw[Tryz.underlying3];rfl) Tryz.underlying122) ?_;refine vl (wy rfl rfl) ?_;refine sg (v:=cJ _ _) rfl ?_;refine gg ?_;exact aT fun w hw=>⟨(),rfl,trivial,hw.pk⟩
theorem C0 (a b:Int) (ha:-2199023255552≤a∧a≤2199023255552) (hb:-2199023255552≤b∧b≤2199023255552):Ct Tryz.prog 71 #[cJ a b] [] (fun _=>True) (X:=Unit) (fun _=>cJ (cut a) (cut b)) (fun _=>True) (fun _=>[]):=by
  refine Ci fun w0 _=>?_;refine gv ?_;refine sg rfl ?_;refine bW ?_;refine mv (v:=cJ _ _) rfl ?_;refine vl (w9 rfl) ?_;refine vl (C7 rfl (by rw[Tryz.underlying122];rfl) Tryz.underlying3 (by omega)) ?_;refine mv (v:=cJ _ _) rfl ?_;refine vl (xK rfl) ?_;refine vl (C7 rfl (by rw[Tryz.underlying122];rfl) Tryz.underlying3 (by omega)) ?_;refine eF (xC (fa a b)) fun _ _=>?_;refine sg (v:=cJ _ _) rfl ?_;refine gg ?_;exact aT fun w hw=>⟨(),rfl,trivial,hw.pk⟩
theorem Jn (p q:Pt) (hp:PB p) (hq:PB q):Ct Tryz.prog 70 #[cJ p.1 p.2,cJ q.1 q.2] [] (fun _=>True) (X:=Unit) (fun _=>cJ (cut (p.1+q.1)) (cut (p.2+q.2))) (fun _=>True) (fun _=>[]):=by
  obtain⟨p1,p2⟩:=hp;obtain⟨q1,q2⟩:=hq;have b1:=p1;have b2:=p2;have b3:=q1;have b4:=q2;unfold Bn at b1 b2 b3 b4;refine Ci fun w0 _=>?_;refine gv ?_;refine sg rfl ?_;refine bW ?_;refine mv (v:=cJ _ _) rfl ?_;refine eF (xC (jk _ _ p1 p2)) fun _ _=>?_;refine mv (v:=cJ _ _) rfl ?_;refine eF (xC (jk _ _ q1 q2)) fun _ _=>?_;refine vl (Nn rfl rfl (by omega) (by omega) (by omega) (by omega)) ?_;refine eF (xC (C0 (p.1+q.1) (p.2+q.2) (by omega) (by omega))) fun _ _=>?_;refine sg (v:=cJ _ _) rfl ?_;refine gg ?_;exact aT fun w hw=>⟨(),rfl,trivial,hw.pk⟩
theorem JO (p q:Pt) (hp:PB p) (hq:PB q):Ct Tryz.prog 31 #[cJ p.1 p.2,cJ q.1 q.2] [] (fun _=>True) (X:=Unit) (fun _=>cJ (cut (p.1 - q.1)) (cut (p.2 - q.2))) (fun _=>True) (fun _=>[]):=by
  obtain⟨p1,p2⟩:=hp;obtain⟨q1,q2⟩:=hq;have b1:=p1;have b2:=p2;have b3:=q1;have b4:=q2;unfold Bn at b1 b2 b3 b4;refine Ci fun w0 _=>?_;refine gv ?_;refine sg rfl ?_;refine bW ?_;refine mv (v:=cJ _ _) rfl ?_;refine eF (xC (jk _ _ p1 p2)) fun _ _=>?_;refine mv (v:=cJ _ _) rfl ?_;refine eF (xC (jk _ _ q1 q2)) fun _ _=>?_;refine vl (R5 rfl rfl (by omega) (by omega) (by omega) (by omega)) ?_;refine eF (xC (C0 (p.1 - q.1) (p.2 - q.2) (by omega) (by omega))) fun _ _=>?_;refine sg (v:=cJ _ _) rfl ?_;refine gg ?_;exact aT fun w hw=>⟨(),rfl,trivial,hw.pk⟩
theorem Ej (p q r:Pt) (hp:PB p) (hq:PB q) (hr:PB r):Ct Tryz.prog 24 #[cJ p.1 p.2,cJ q.1 q.2,cJ r.1 r.2] [] (fun _=>True) (X:=Unit) (fun _=>cJ (jm p q r).1 (jm p q r).2) (fun _=>True) (fun _=>[]):=by
  obtain⟨p1,p2⟩:=hp;obtain⟨q1,q2⟩:=hq;obtain⟨r1,r2⟩:=hr;refine Ci fun w0 _=>?_;refine gv ?_;refine sg rfl ?_;refine bW ?_;refine mv (v:=cJ _ _) rfl ?_;refine eF (xC (FH _ _ p1 p2)) fun _ _=>?_;refine mv (v:=cJ _ _) rfl ?_;refine eF (xC (FH _ _ q1 q2)) fun _ _=>?_;refine mv (v:=cJ _ _) rfl ?_;refine eF (xC (FH _ _ r1 r2)) fun _ _=>?_;refine vl (vC (kN _ _ _ _)) ?_;refine mv (v:=cJ _ _) rfl ?_;refine eF (xC (Ii _ _ p1 p2)) fun _ _=>?_;refine mv (v:=cJ _ _) rfl ?_;refine eF (xC (Ii _ _ q1 q2)) fun _ _=>?_;refine mv (v:=cJ _ _) rfl ?_;refine eF (xC (Ii _ _ r1 r2)) fun _ _=>?_;refine vl (vC (kN _ _ _ _)) ?_;refine eF (xC (fa _ _)) fun _ _=>?_;refine sg (v:=cJ _ _) rfl ?_;refine gg ?_;exact aT fun w hw=>⟨(),by unfold jm;dsimp only;rw[(o8 p.1 q.1 r.1).cut,(o8 p.2 q.2 r.2).cut];rfl,trivial,hw.pk⟩
end Go.Proofs.YtbedndijejpcaaaGreat
