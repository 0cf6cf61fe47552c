/- Fl Cx PlPlain Pt -/
import Derived.Laws.BitsAllLaws
import Derived.Laws.Externs
import Derived.Laws.FloatArith
import Derived.Test.YtbedndijejpcaaaGreatS22
set_option linter.unusedVariables false
set_option linter.unusedSimpArgs false
set_option linter.unusedSectionVars false
set_option maxRecDepth 100000
set_option maxHeartbeats 8000000
namespace Go.Proofs.YtbedndijejpcaaaGreat
open Go.RowKit
theorem cut_exact (neg:Bool) (a d:Nat) (h:a≠0):Ieee.Toward.even.cut neg (a*2 ^ d) d=a:=by
  have hl:d≤(a*2 ^ d).log2:=by
    rw[Nat.le_log2 (by exact Nat.mul_ne_zero h (Nat.pos_iff_ne_zero.1 (Nat.two_pow_pos d)))];exact Nat.le_mul_of_pos_left _ (Nat.pos_of_ne_zero h)
  have hm:min d ((a*2 ^ d).log2+2)=d:=by omega
  unfold Ieee.Toward.cut;rw[hm,Nat.one_shiftLeft];have h1:a*2 ^ d / 2 ^ d=a:=Nat.mul_div_cancel _ (Nat.two_pow_pos d);have h2:a*2 ^ d % 2 ^ d=0:=Nat.mul_mod_left _ _;simp only[h1,h2];have h3:=Nat.two_pow_pos d;simp
theorem log2_shift (a k:Nat) (h:a≠0):(a*2 ^ k).log2=a.log2+k:=by
  induction k with
  | zero=>simp
  | succ k ih =>
    rw[Nat.pow_succ,←Nat.mul_assoc,Nat.mul_comm (a*2 ^ k) 2,Nat.log2_two_mul (Nat.mul_ne_zero h (Nat.pos_iff_ne_zero.1 (Nat.two_pow_pos k))),ih];omega
theorem full_bd (a:Nat) (h0:a≠0) (ha:a<2 ^ 52):a.log2≤51∧4503599627370496≤a*2 ^ (52 - a.log2)∧a*2 ^ (52 - a.log2)<9007199254740992:=by
  have h1:a.log2<52:=(Nat.log2_lt h0).2 ha;have h2:2 ^ a.log2≤a:=Nat.log2_self_le h0;have h3:a<2 ^ (a.log2+1):=Nat.lt_log2_self;have h4:2 ^ a.log2*2 ^ (52 - a.log2)=4503599627370496:=by rw[←Nat.pow_add,show a.log2+(52 - a.log2)=52 by omega]
  have h5:2 ^ (a.log2+1)*2 ^ (52 - a.log2)=9007199254740992:=by rw[←Nat.pow_add,show a.log2+1+(52 - a.log2)=53 by omega]
  refine⟨by omega,?_,?_⟩
  · rw[←h4];exact Nat.mul_le_mul_right _ h2
  · rw[←h5];exact Nat.mul_lt_mul_of_pos_right h3 (Nat.two_pow_pos _)
def rungW (a:Nat):Nat:=(a.log2+1022)*4503599627370496+a*2 ^ (52 - a.log2)
theorem nearest_val (neg:Bool) (a k:Nat) (h0:a≠0) (ha:a<2 ^ 52):Ieee.double.nearest neg (a*2 ^ k) (-(k:Int))=Ieee.double.word neg (rungW a):=by
  obtain⟨h1,h2,h3⟩:=full_bd a h0 ha;have hp:a*2 ^ k≠0:=Nat.mul_ne_zero h0 (Nat.pos_iff_ne_zero.1 (Nat.two_pow_pos k));have hl:Ieee.double.leastPlace= -1074:=rfl;have hb:Ieee.double.binade=4503599627370496:=rfl;have hi:Ieee.double.infRung=2047*4503599627370496:=rfl;have hf:Ieee.double.fractionBits=52:=rfl;unfold Ieee.Format.nearest;rw[if_neg hp,log2_shift a k h0,hl,hb,hi,hf];have hlast:max (-(k:Int)+((a.log2+k:Nat):Int) - ((52:Nat):Int)) (-1074)=(a.log2:Int) - 52:=by omega
  simp only[hlast];have hcut:Ieee.Toward.even.cut neg ((a*2 ^ k) <<<(-(k:Int) - ((a.log2:Int) - 52)).toNat) ((a.log2:Int) - 52 - -(k:Int)).toNat=a*2 ^ (52 - a.log2):=by
    by_cases hk:k+a.log2≤52
    · rw [show (-(k : Int) - ((a.log2 : Int) - 52)).toNat = 52 - a.log2 - k by omega, show ((a.log2 : Int) - 52 - -(k : Int)).toNat = 0 by omega, Nat.shiftLeft_eq, Nat.mul_assoc, ← Nat.pow_add, show k + (52 - a.log2 - k) = 52 - a.log2 by omega]
      have:=cut_exact neg (a*2 ^ (52 - a.log2)) 0 (by omega)
      simpa using this
    · rw [show (-(k : Int) - ((a.log2 : Int) - 52)).toNat = 0 by omega, show ((a.log2 : Int) - 52 - -(k : Int)).toNat = k - (52 - a.log2) by omega, Nat.shiftLeft_zero]
      have:=cut_exact neg (a*2 ^ (52 - a.log2)) (k - (52 - a.log2)) (by omega);rw[Nat.mul_assoc,←Nat.pow_add,show 52 - a.log2+(k - (52 - a.log2))=k by omega] at this;exact this
  rw[hcut]
  congr 1
  unfold rungW;omega
theorem read_val (neg:Bool) (a:Nat) (h0:a≠0) (ha:a<2 ^ 52):Ieee.double.read (Ieee.double.word neg (rungW a))=.number neg (a*2 ^ (52 - a.log2)) (-((52 - a.log2:Nat):Int)):=by
  obtain⟨h1,h2,h3⟩:=full_bd a h0 ha;have hl:Ieee.double.leastPlace= -1074:=rfl;have hb:Ieee.double.binade=4503599627370496:=rfl;have hi:Ieee.double.infRung=2047*4503599627370496:=rfl;have hs:Ieee.double.signWeight=9223372036854775808:=rfl
  generalize hK:a*2 ^ (52 - a.log2)=K at*
  have hr:rungW a=(a.log2+1022)*4503599627370496+K:=by unfold rungW;rw[hK]
  rw[hr]
  generalize a.log2=L at*
  have hw:(Ieee.double.word neg ((L+1022)*4503599627370496+K)) / 9223372036854775808 % 2=neg.toNat∧(Ieee.double.word neg ((L+1022)*4503599627370496+K)) % 9223372036854775808=(L+1022)*4503599627370496+K:=by
    unfold Ieee.Format.word;rw[hs];cases neg
    · simp only[Bool.false_eq_true,if_false,Bool.toNat_false];omega
    · simp only[if_true,Bool.toNat_true];omega
  unfold Ieee.Format.read;rw[hs,hb,hi,hl];simp only[hw.1,hw.2];rw[if_neg (by omega),if_pos (by omega)];have e1:(neg.toNat==1)=neg:=by cases neg<;>rfl
  rw[e1,show ((L+1022)*4503599627370496+K) % 4503599627370496=K - 4503599627370496 by omega,show ((L+1022)*4503599627370496+K) / 4503599627370496=L+1023 by omega,show 4503599627370496+(K - 4503599627370496)=K by omega,show (-1074:Int)+((L+1023 - 1:Nat):Int)= -((52 - L:Nat):Int) by omega]
def fltW (z:Int):Nat:=Ieee.double.nearest (decide (z<0)) z.natAbs 0
theorem fltW_ne {z:Int} (h:z≠0) (hb:z.natAbs<2 ^ 52):fltW z=Ieee.double.word (decide (z<0)) (rungW z.natAbs):=by
  have:=nearest_val (decide (z<0)) z.natAbs 0 (by omega) hb
  simpa [fltW] using this
theorem fltW_zero:fltW 0=0:=rfl
theorem read_zero:Ieee.double.read 0=.number false 0 (-1074):=by decide+kernel
set_option exponentiation.threshold 2000 in
theorem fltW_read {z:Int} (hb:z.natAbs<2 ^ 52):∃k:Nat,Ieee.double.read (fltW z)=.number (decide (z<0)) (z.natAbs*2 ^ k) (-(k:Int)):=by
  by_cases h:z=0
  · subst h
    exact⟨1074,by rw[fltW_zero,read_zero,Int.natAbs_zero,Nat.zero_mul];rfl⟩
  · exact⟨52 - z.natAbs.log2,by rw[fltW_ne h hb];exact read_val _ _ (by omega) hb⟩
theorem signed_val (z:Int) (k j:Nat):Ieee.signed (decide (z<0)) (z.natAbs*2 ^ k) j=z*((2 ^ (k+j):Nat):Int):=by
  unfold Ieee.signed;rw[Nat.shiftLeft_eq,Nat.mul_assoc,←Nat.pow_add]
  by_cases h:z<0
  · rw [decide_eq_true h, if_pos rfl, Int.natCast_mul, ← Int.neg_mul]
    congr 1
    omega
  · rw [decide_eq_false h, if_neg (by decide), Int.natCast_mul]
    congr 1
    omega
theorem pow_neg (t:Int) (k:Nat):(t*((2 ^ k:Nat):Int)<0↔t<0)∧(t*((2 ^ k:Nat):Int)=0↔t=0)∧(t*((2 ^ k:Nat):Int)).natAbs=t.natAbs*2 ^ k:=by
  have hp:(0:Int)<((2 ^ k:Nat):Int):=Int.natCast_pos.2 (Nat.two_pow_pos k);refine⟨⟨fun h=>?_,fun h=>Int.mul_neg_of_neg_of_pos h hp⟩,⟨fun h=>?_,fun h=>by rw[h];simp⟩,by rw[Int.natAbs_mul,Int.natAbs_natCast]⟩
  · rcases Int.lt_or_le t 0 with h1 | h1
    · exact h1
    · have:=Int.mul_nonneg h1 (Int.le_of_lt hp);omega
  · rcases Int.mul_eq_zero.1 h with h1 | h1
    · exact h1
    · omega
theorem sum_val {a b:Int} {s:Bool} {j k:Nat} {m:Nat} (hm:Ieee.signed s m 0=b*((2 ^ k:Nat):Int)) (hs:a=0→b=0→s=false∨True) (ha:a.natAbs<2 ^ 51) (hb:b.natAbs<2 ^ 51) (hz:a+b=0→(decide (a<0)&&s)=false) (hm2:∀q,Ieee.signed s m q=b*((2 ^ (k+q):Nat):Int)):
    ((Ieee.Datum.number (decide (a<0)) (a.natAbs*2 ^ j) (-(j:Int))).sum (.number s m (-(k:Int)))).map Ieee.double.write=some (fltW (a+b)):=by
  unfold Ieee.Datum.sum;simp only[Option.map_some]
  congr 1
  have e1:j+(-(j:Int) - min (-(j:Int)) (-(k:Int))).toNat=max j k:=by omega
  have e2:k+(-(k:Int) - min (-(j:Int)) (-(k:Int))).toNat=max j k:=by omega
  have e3:min (-(j:Int)) (-(k:Int))= -((max j k:Nat):Int):=by omega
  rw[signed_val,hm2,e1,e2,←Int.add_mul,e3];obtain⟨p1,p2,p3⟩:=pow_neg (a+b) (max j k);unfold Ieee.Format.write;simp only;rw[p3]
  by_cases h:a+b=0
  · rw [if_pos (p2.2 h), hz h, h]
    simp[Ieee.Format.nearest,fltW]
  · rw[if_neg (fun e=>h (p2.1 e)),show decide ((a+b)*((2 ^ max j k:Nat):Int)<0)=decide (a+b<0) from decide_eq_decide.2 p1,nearest_val _ _ _ (by omega) (by omega),fltW_ne h (by omega)]
theorem addF {a b:Int} (ha:a.natAbs<2 ^ 51) (hb:b.natAbs<2 ^ 51):Ieee.double.add (fltW a) (fltW b)=some (fltW (a+b)):=by
  obtain⟨j,h1⟩:=fltW_read (z:=a) (by omega);obtain⟨k,h2⟩:=fltW_read (z:=b) (by omega);unfold Ieee.Format.add;rw[h1,h2];refine sum_val (by simpa using signed_val b k 0) (fun _ _=>.inr trivial) ha hb (fun h=>?_) (signed_val b k)
  by_cases h3:a<0
  · rw[decide_eq_false (show ¬b<0 by omega)];simp
  · rw[decide_eq_false h3];rfl
theorem signed_not (s:Bool) (m q:Nat):Ieee.signed (!s) m q= -Ieee.signed s m q:=by cases s<;>simp[Ieee.signed]
theorem subF {a b:Int} (ha:a.natAbs<2 ^ 51) (hb:b.natAbs<2 ^ 51):Ieee.double.sub (fltW a) (fltW b)=some (fltW (a - b)):=by
  obtain⟨j,h1⟩:=fltW_read (z:=a) (by omega);obtain⟨k,h2⟩:=fltW_read (z:=b) (by omega);have hn:∀q,Ieee.signed (!decide (b<0)) (b.natAbs*2 ^ k) q= -b*((2 ^ (k+q):Nat):Int):=fun q=>by rw[signed_not,signed_val,Int.neg_mul]
  unfold Ieee.Format.sub;rw[h1,h2]
  exact sum_val (b := -b) (by simpa using hn 0) (fun _ _ => .inr trivial) ha (by omega) (fun h => by
    by_cases h3 : a < 0
    · rw [decide_eq_true (show b < 0 by omega)]; simp
    · rw [decide_eq_false h3]; rfl) hn
theorem cut_zero (neg:Bool) (a d:Nat):Ieee.Toward.zero.cut neg (a*2 ^ d) d=a:=by
  by_cases h:a=0
  · subst h
    unfold Ieee.Toward.cut;simp
  · have hl:d≤(a*2 ^ d).log2:=by
      rw[Nat.le_log2 (by exact Nat.mul_ne_zero h (Nat.pos_iff_ne_zero.1 (Nat.two_pow_pos d)))];exact Nat.le_mul_of_pos_left _ (Nat.pos_of_ne_zero h)
    have hm:min d ((a*2 ^ d).log2+2)=d:=by omega
    unfold Ieee.Toward.cut;rw[hm,Nat.one_shiftLeft];simp only[Nat.mul_div_cancel _ (Nat.two_pow_pos d)];simp
theorem intF {z:Int} (hb:z.natAbs<2 ^ 52):(Ieee.double.read (fltW z)).toInt .zero=some z:=by
  obtain⟨k,h⟩:=fltW_read hb;rw[h];unfold Ieee.Datum.toInt Ieee.Datum.integral;simp only[show (-(k:Int)).toNat=0 by omega,show (- -(k:Int)).toNat=k by omega,Nat.shiftLeft_zero,cut_zero];have:=signed_val z 0 0
  simpa using this
theorem toIntF {z:Int} (hb:z.natAbs<2 ^ 52):floatToIntVal .f64 (fltW z) .i64=some z:=by
  unfold floatToIntVal FloatKind.decode;rw[show FloatKind.f64.format=Ieee.double from rfl,intF hb];have e1:IntKind.i64.min= -9223372036854775808:=rfl;have e2:IntKind.i64.max=9223372036854775807:=rfl;simp only[e1,e2];rw[if_pos (by omega)]
theorem truncF {z:Int} (hb:z.natAbs<2 ^ 52):Ieee.double.write ((Ieee.double.read (fltW z)).integral .zero)=fltW z:=by
  obtain⟨k,h⟩:=fltW_read hb;rw[h];unfold Ieee.Datum.integral;simp only[show (-(k:Int)).toNat=0 by omega,show (- -(k:Int)).toNat=k by omega,Nat.shiftLeft_zero,cut_zero];rfl
theorem cmp_mul (a b:Int) (k:Nat):compare (a*((2 ^ k:Nat):Int)) (b*((2 ^ k:Nat):Int))=compare a b:=by
  have hp:(0:Int)<((2 ^ k:Nat):Int):=Int.natCast_pos.2 (Nat.two_pow_pos k);simp only[compare,compareOfLessAndEq];have h1:a*((2 ^ k:Nat):Int)<b*((2 ^ k:Nat):Int)↔a<b:=⟨fun h=>Int.lt_of_mul_lt_mul_right h (Int.le_of_lt hp),fun h=>Int.mul_lt_mul_of_pos_right h hp⟩;have h2:a*((2 ^ k:Nat):Int)=b*((2 ^ k:Nat):Int)↔a=b:=⟨fun h=>Int.eq_of_mul_eq_mul_right (by omega) h,fun h=>by rw[h]⟩;simp only[h1,h2]
theorem orderF {a b:Int} (ha:a.natAbs<2 ^ 52) (hb:b.natAbs<2 ^ 52):Ieee.double.order (fltW a) (fltW b)=some (compare a b):=by
  obtain⟨j,h1⟩:=fltW_read ha;obtain⟨k,h2⟩:=fltW_read hb;unfold Ieee.Format.order;rw[h1,h2];unfold Ieee.Datum.order;simp only;rw[signed_val,signed_val,show j+(-(j:Int) - min (-(j:Int)) (-(k:Int))).toNat=max j k by omega,show k+(-(k:Int) - min (-(j:Int)) (-(k:Int))).toNat=max j k by omega,cmp_mul]
theorem absF {z:Int} (hb:z.natAbs<2 ^ 52):fltW z % 9223372036854775808=fltW (z.natAbs:Int)∧fltW z<18446744073709551616:=by
  by_cases h:z=0
  · subst h;exact⟨rfl,by decide⟩
  · obtain ⟨h1, h2, h3⟩ := full_bd z.natAbs (by omega) hb
    have hr:rungW z.natAbs<9223372036854775808:=by unfold rungW;omega
    have e:fltW (z.natAbs:Int)=rungW z.natAbs:=by
      rw[fltW_ne (by omega) (by simpa using hb),decide_eq_false (by omega),Int.natAbs_natCast];rfl
    have hs:Ieee.double.signWeight=9223372036854775808:=rfl;rw[e,fltW_ne h hb];unfold Ieee.Format.word;rw[hs]
    split<;>omega
def ptV (x y:Int):Value:=.complex .f64 (fltW x) (fltW y)
section
variable {P:Program} {S:World→Prop} {ρ:Env} {dst:Option Tmp} {ty:TypeId} {pos:String} {af:Array Edge} {g:Option (Nat×Bool)} {t t2:TypeId} {x y:Operand} {a b c d:Int}
theorem f64_format:FloatKind.f64.format=Ieee.double:=rfl
theorem run_arithF (w:World) (ha:a.natAbs<2 ^ 51) (hb:b.natAbs<2 ^ 51):(Op.Complex.arith .add .f64 (fltW a) (fltW b)).run P w=.ok (fltW (a+b)) w∧(Op.Complex.arith .sub .f64 (fltW a) (fltW b)).run P w=.ok (fltW (a - b)) w:=by
  have h1:=addF ha hb;have h2:=subF ha hb;constructor
  · simp[Op.Complex.arith,Op.floatArith,f64_format,h1]
  · simp[Op.Complex.arith,Op.floatArith,f64_format,h2]
theorem v_cadd (hx:evo ρ x=ptV a b) (hy:evo ρ y=ptV c d) (h1:a.natAbs<2 ^ 51) (h2:b.natAbs<2 ^ 51) (h3:c.natAbs<2 ^ 51) (h4:d.natAbs<2 ^ 51):OpV P S ⟨dst,.binOp .add t x y t2,ty,pos,af,g⟩ ρ (ptV (a+c) (b+d)):=v_run fun w _=>by
  have r1:=(run_arithF (P:=P) w h1 h3).1;have r2:=(run_arithF (P:=P) w h2 h4).1;unfold ptV at*;have e:(eqGuard .add t x y (.complex .f64 (fltW a) (fltW b)) (.complex .f64 (fltW c) (fltW d))).run P w=.ok () w:=rfl;simp[execOp,hx,hy,e,binOp,Op.complexOp,r1,r2,Result.andThen]
theorem v_csub (hx:evo ρ x=ptV a b) (hy:evo ρ y=ptV c d) (h1:a.natAbs<2 ^ 51) (h2:b.natAbs<2 ^ 51) (h3:c.natAbs<2 ^ 51) (h4:d.natAbs<2 ^ 51):OpV P S ⟨dst,.binOp .sub t x y t2,ty,pos,af,g⟩ ρ (ptV (a - c) (b - d)):=v_run fun w _=>by
  have r1:=(run_arithF (P:=P) w h1 h3).2;have r2:=(run_arithF (P:=P) w h2 h4).2;unfold ptV at*;have e:(eqGuard .sub t x y (.complex .f64 (fltW a) (fltW b)) (.complex .f64 (fltW c) (fltW d))).run P w=.ok () w:=rfl;simp[execOp,hx,hy,e,binOp,Op.complexOp,r1,r2,Result.andThen]
theorem v_real {ats:Array TypeId} (hx:evo ρ x=ptV a b):OpV P S ⟨dst,.call ⟨.builtin .real,#[x],ats⟩,ty,pos,af,g⟩ ρ (.float .f64 (fltW a)):=v_run fun w _=>by
  unfold ptV at hx;have h:Builtin.real_ ats ty #[.complex .f64 (fltW a) (fltW b)]=pure (.float .f64 (fltW a)):=rfl;simp[execOp,resolve,invoke,builtin,hx,h,Result.andThen]
theorem v_imag {ats:Array TypeId} (hx:evo ρ x=ptV a b):OpV P S ⟨dst,.call ⟨.builtin .imag,#[x],ats⟩,ty,pos,af,g⟩ ρ (.float .f64 (fltW b)):=v_run fun w _=>by
  unfold ptV at hx;have h:Builtin.imag_ ats ty #[.complex .f64 (fltW a) (fltW b)]=pure (.float .f64 (fltW b)):=rfl;simp[execOp,resolve,invoke,builtin,hx,h,Result.andThen]
theorem v_complex {ats:Array TypeId} (hx:evo ρ x=.float .f64 (fltW a)) (hy:evo ρ y=.float .f64 (fltW b)):OpV P S ⟨dst,.call ⟨.builtin .complex,#[x,y],ats⟩,ty,pos,af,g⟩ ρ (ptV a b):=v_run fun w _=>by
  unfold ptV;have h:Builtin.complex_ ats ty #[.float .f64 (fltW a),.float .f64 (fltW b)]=pure (.complex .f64 (fltW a) (fltW b)):=rfl;simp[execOp,resolve,invoke,builtin,hx,hy,h,Result.andThen]
theorem run_cmpF (w:World) (ha:a.natAbs<2 ^ 52) (hb:b.natAbs<2 ^ 52):(Op.Complex.cmp .eql .f64 (fltW a) (fltW b)).run P w=.ok (decide (a=b)) w:=by
  have h:=orderF ha hb;have e:(compare a b==Ordering.eq)=decide (a=b):=by
    simp only[compare,compareOfLessAndEq]
    by_cases h1:a<b
    · rw[if_pos h1,decide_eq_false (show ¬a=b by omega)];rfl
    · rw [if_neg h1]
      by_cases h2:a=b
      · rw[if_pos h2,decide_eq_true h2];rfl
      · rw[if_neg h2,decide_eq_false h2];rfl
  simp[Op.Complex.cmp,Op.floatCmp,f64_format,h,asBool,e]
theorem v_ceq (hx:evo ρ x=ptV a b) (hy:evo ρ y=ptV c d) (h1:a.natAbs<2 ^ 52) (h2:b.natAbs<2 ^ 52) (h3:c.natAbs<2 ^ 52) (h4:d.natAbs<2 ^ 52):OpV P S ⟨dst,.binOp .eql t x y t2,ty,pos,af,g⟩ ρ (.bool (decide (a=c)&&decide (b=d))):=v_run fun w _=>by
  have r1:=run_cmpF (P:=P) w h1 h3;have r2:=run_cmpF (P:=P) w h2 h4;unfold ptV at*;have e:(eqGuard .eql t x y (.complex .f64 (fltW a) (fltW b)) (.complex .f64 (fltW c) (fltW d))).run P w=.ok () w:=rfl;have h:binOp .eql t (.complex .f64 (fltW a) (fltW b)) (.complex .f64 (fltW c) (fltW d))=Op.complexOp .eql .f64 (fltW a) (fltW b) (fltW c) (fltW d):=rfl;simp[execOp,hx,hy,e,h,Op.complexOp,r1,r2,Result.andThen]
theorem v_toF {t t2:TypeId} {q:IntKind} (hx:evo ρ x=.int q a) (hs:(P.underlying t).isSome=true) (hd:P.underlying t2=some (.float .f64)):OpV P S ⟨dst,.convert t t2 x,ty,pos,af,g⟩ ρ (.float .f64 (fltW a)):=v_run fun w _=>by
  have h:=run_convert_int_float (P:=P) w t t2 q .f64 a hs hd;have e:floatOfInt .f64 a=fltW a:=rfl;simp[execOp,hx,h,e,Result.andThen]
theorem v_toI {t t2:TypeId} (hx:evo ρ x=.float .f64 (fltW a)) (hs:(P.underlying t).isSome=true) (hd:P.underlying t2=some (.int .i64)) (ha:a.natAbs<2 ^ 52):OpV P S ⟨dst,.convert t t2 x,ty,pos,af,g⟩ ρ (.int .i64 a):=v_run fun w _=>by
  have h:=run_convert_float_int (P:=P) w t t2 .f64 .i64 (fltW a) a hs hd (toIntF ha);simp[execOp,hx,h,Result.andThen]
theorem cmp_le (a b:Int):(some (compare a b)==some Ordering.lt||some (compare a b)==some Ordering.eq)=decide (a≤b):=by
  simp only[compare,compareOfLessAndEq]
  by_cases h1:a<b
  · rw[if_pos h1,decide_eq_true (show a≤b by omega)];rfl
  · rw [if_neg h1]
    by_cases h2:a=b
    · rw[if_pos h2,decide_eq_true (show a≤b by omega)];rfl
    · rw[if_neg h2,decide_eq_false (show ¬a≤b by omega)];rfl
theorem cmp_eq (a b:Int):(some (compare a b)==some Ordering.eq)=decide (a=b):=by
  simp only[compare,compareOfLessAndEq]
  by_cases h1:a<b
  · rw[if_pos h1,decide_eq_false (show ¬a=b by omega)];rfl
  · rw [if_neg h1]
    by_cases h2:a=b
    · rw[if_pos h2,decide_eq_true h2];rfl
    · rw[if_neg h2,decide_eq_false h2];rfl
theorem v_fleq (hx:evo ρ x=.float .f64 (fltW a)) (hy:evo ρ y=.float .f64 (fltW b)) (ha:a.natAbs<2 ^ 52) (hb:b.natAbs<2 ^ 52):OpV P S ⟨dst,.binOp .leq t x y t2,ty,pos,af,g⟩ ρ (.bool (decide (a≤b))):=v_run fun w _=>by
  have h:=orderF ha hb;have e:(eqGuard .leq t x y (.float .f64 (fltW a)) (.float .f64 (fltW b))).run P w=.ok () w:=rfl;have e2:(binOp .leq t (.float .f64 (fltW a)) (.float .f64 (fltW b))).run P w=.ok (.bool (decide (a≤b))) w:=by
    simp only[binOp,Op.floatCmp,f64_format,h,cmp_le];rfl
  simp[execOp,hx,hy,e,e2,Result.andThen]
theorem v_feq (hx:evo ρ x=.float .f64 (fltW a)) (hy:evo ρ y=.float .f64 (fltW b)) (ha:a.natAbs<2 ^ 52) (hb:b.natAbs<2 ^ 52):OpV P S ⟨dst,.binOp .eql t x y t2,ty,pos,af,g⟩ ρ (.bool (decide (a=b))):=v_run fun w _=>by
  have h:=orderF ha hb;have e:(eqGuard .eql t x y (.float .f64 (fltW a)) (.float .f64 (fltW b))).run P w=.ok () w:=rfl;have e2:(binOp .eql t (.float .f64 (fltW a)) (.float .f64 (fltW b))).run P w=.ok (.bool (decide (a=b))) w:=by
    simp only[binOp,Op.floatCmp,f64_format,h,cmp_eq];rfl
  simp[execOp,hx,hy,e,e2,Result.andThen]
end
structure Rc where
  x:Int
  y:Int
  w:Int
  h:Int
structure Sp where
  lo:Int
  hi:Int
abbrev Pt:=Int×Int
structure Spt where
  r:Rc
  c:Rc
abbrev Rc.v (r:Rc):Value:=q4 r.x r.y r.w r.h
abbrev Sp.v (s:Sp):Value:=q2 s.lo s.hi
abbrev Spt.v (s:Spt):Value:=.agg #[.int .i64 s.r.x,.int .i64 s.r.y,.int .i64 s.r.w,.int .i64 s.r.h,.int .i64 s.c.x,.int .i64 s.c.y,.int .i64 s.c.w,.int .i64 s.c.h]
def Bn (n:Int):Prop:=-1099511627776≤n∧n≤1099511627776
def PB (p:Pt):Prop:=Bn p.1∧Bn p.2
theorem cut_Bn (n:Int):Bn (cut n):=cut_bd n
theorem Bn.cut {n:Int} (h:Bn n):cut n=n:=cut_id h.1 h.2
theorem Bn.zero:Bn 0:=⟨by decide,by decide⟩
theorem clamp_Bn (n lo hi:Int):Bn (clamp n lo hi):=by unfold clamp cut Bn;omega
def spanP (a n:Int):Sp:=⟨cut a,addI a (max n 0)⟩
def sizeS (s:Sp):Int:=max (subI s.hi s.lo) 0
def soundS (s:Sp):Sp:=if s.hi≤s.lo then ⟨0,0⟩ else s
def meetS (a b:Sp):Sp:=soundS ⟨max a.lo b.lo,min a.hi b.hi⟩
def joinS (a b:Sp):Sp:=if a.hi≤a.lo then soundS b else if b.hi≤b.lo then a else ⟨min a.lo b.lo,max a.hi b.hi⟩
def zR:Rc:=⟨0,0,0,0⟩
def emptyR (r:Rc):Bool:=decide (min r.w r.h≤0)
def soundR (r:Rc):Rc:=if emptyR r=true then zR else r
def acrossR (r:Rc):Sp:=spanP r.x r.w
def downR (r:Rc):Sp:=spanP r.y r.h
def byR (x y:Sp):Rc:=⟨x.lo,y.lo,sizeS x,sizeS y⟩
def ofR (x y w h:Int):Rc:=⟨cut x,cut y,max (cut w) 0,max (cut h) 0⟩
def meetR (a b:Rc):Rc:=soundR (byR (meetS (acrossR a) (acrossR b)) (meetS (downR a) (downR b)))
def joinR (a b:Rc):Rc:=if emptyR a=true then soundR b else if emptyR b=true then a else byR (joinS (acrossR a) (acrossR b)) (joinS (downR a) (downR b))
def inS (a b:Sp):Bool:=decide (a.hi≤a.lo)||(decide (b.lo≤a.lo)&&decide (a.hi≤b.hi))
def inR (a b:Rc):Bool:=emptyR a||(inS (acrossR a) (acrossR b)&&inS (downR a) (downR b))
def moveR (r:Rc) (p:Pt):Rc:=⟨cut (cut r.x+p.1),cut (cut r.y+p.2),r.w,r.h⟩
def insetR (r:Rc) (t ri b l:Int):Rc:=⟨addI r.x l,addI r.y t,max (subI (subI r.w l) ri) 0,max (subI (subI r.h t) b) 0⟩
def portR (r:Rc) (s:List Value):Rc:=insetR r (val s 35) (val s 36) (val s 37) (val s 38)
def beginR (r:Rc):Pt:=(cut r.x,cut r.y)
theorem begin_PB (r:Rc):PB (beginR r):=⟨cut_Bn _,cut_Bn _⟩
def overI (a b:Int):Int:=max (subI a b) 0
abbrev Sd:=Bool×Int
def shiftP (box inn port:Sp) (b e:Sd):Int:=
  if b.1=true∧0<overI (addI port.lo b.2) box.lo then min (overI (addI port.lo b.2) box.lo) (overI inn.hi box.hi)
  else if e.1=false then 0
  else -min (if b.1=true then min (overI box.hi (subI port.hi e.2)) (overI box.lo (addI port.lo b.2)) else overI box.hi (subI port.hi e.2)) (overI box.lo inn.lo)
theorem overI_bd (a b:Int):0≤overI a b∧overI a b≤1099511627776:=by have:=subI_bd a b;unfold overI;omega
theorem shift_Bn (box inn port:Sp) (b e:Sd):Bn (shiftP box inn port b e):=by
  have h1:=overI_bd (addI port.lo b.2) box.lo;have h2:=overI_bd inn.hi box.hi;have h3:=overI_bd box.hi (subI port.hi e.2);have h4:=overI_bd box.lo (addI port.lo b.2);have h5:=overI_bd box.lo inn.lo;unfold shiftP Bn
  split
  · omega
  · split
    · omega
    · split<;>omega
def sideQ (k n base:Int):Sd:=if fixedL k base=true then (true,ofL k n base 0) else (false,0)
def sideP (s:List Value) (i:Nat) (base:Int):Sd:=sideQ (val s (23+2*i)) (val s (24+2*i)) base
def bothP (box inn port:Rc) (s:List Value) (w h:Int):Pt:=
  (shiftP (acrossR box) (acrossR inn) (acrossR port) (sideP s 3 w) (sideP s 1 w),shiftP (downR box) (downR inn) (downR port) (sideP s 0 h) (sideP s 2 h))
section
variable (F:Forest (List Value)) (g:Int→Option Rc)
def scrollN:Nat→Int→Int
  | 0,_=>-1
  | n+1,x=>if 0≤upF F x then (if val (stF F (upF F x)) 2=2 then upF F x else scrollN n (upF F x)) else upF F x
def scrollP (x:Int):Int:=scrollN F 65 x
def joinK (R:Int→Rc) (r:Rc) (k:Int):Rc:=
  match g k with
  | some a=>if val (stF F k) 1=3 then r else joinR r (moveR (R k) (beginR a))
  | none=>r
def joinOf (R:Int→Rc) (ks:List Int) (r:Rc):Rc:=ks.foldl (joinK F g R) r
def reachN:Nat→Int→Rc
  | 0,_=>zR
  | n + 1, x =>
    match g x with
    | none=>zR
    | some r=>if val (stF F x) 2=0 then joinOf F g (reachN n) (kidsF F x) ⟨0,0,r.w,r.h⟩ else ⟨0,0,r.w,r.h⟩
def reachP (x:Int):Rc:=reachN F g 64 x
def joinP (x:Int) (r:Rc):Rc:=joinOf F g (reachP F g) (kidsF F x) r
def farP (a n border room:Int):Int:=max (subI (subI (addI a n) border) room) 0
def mostP (x:Int):Pt:=
  match g x with
  | none=>(0,0)
  | some r=>if val (stF F x) 2=2 then (farP (joinP F g x zR).x (joinP F g x zR).w (val (stF F x) 38) (portR r (stF F x)).w,farP (joinP F g x zR).y (joinP F g x zR).h (val (stF F x) 35) (portR r (stF F x)).h) else (0,0)
def withinP2 (p lo hi:Pt):Pt:=(clamp p.1 lo.1 hi.1,clamp p.2 lo.2 hi.2)
variable (o:Int→Pt) (win:Rc)
def backP (x:Int):Pt:=(cut (0 - (withinP2 (o x) (0,0) (mostP F g x)).1),cut (0 - (withinP2 (o x) (0,0) (mostP F g x)).2))
def portP (S:Int→Spt) (x:Int):Rc:=if scrollP F x<0 then win else portR (S (scrollP F x)).r (stF F (scrollP F x))
def edgesR (r:Rc) (s:List Value):Rc:=insetR r (eS s 0) (eS s 1) (eS s 2) (eS s 3)
def stuckP (S:Int→Spt) (x:Int) (r:Rc) (b:Pt):Pt:=
  bothP r (moveR (edgesR (S (upF F x)).r (stF F (upF F x))) b) (portP F win S x) (stF F x) (portP F win S x).w (portP F win S x).h
def wasP (m:Rc) (u:Rc) (b:Pt):Rc:=moveR (moveR m (beginR u)) b
def clipP (u:Spt) (s:List Value):Rc:=if val s 2=0 then u.c else meetR u.c (portR u.r s)
def spotR (S:Int→Spt) (x:Int) (m:Rc):Spt:=
  if x=0∨val (stF F x) 1=3 then ⟨m,win⟩
  else ⟨if val (stF F x) 1 = 4 then moveR (wasP m (S (upF F x)).r (backP F g o (upF F x))) (stuckP F win S x (wasP m (S (upF F x)).r (backP F g o (upF F x))) (backP F g o (upF F x))) else wasP m (S (upF F x)).r (backP F g o (upF F x)),
    clipP (S (upF F x)) (stF F (upF F x))⟩
def spotZ:Spt:=⟨zR,zR⟩
def spotStep (S:Int→Spt) (x:Int):Spt:=match g x with | none=>spotZ | some m=>spotR F g o win S x m
def spotN:Nat→Int→Spt
  | 0,_=>spotZ
  | n+1,x=>spotStep F g o win (spotN n) x
def spotP (x:Int):Spt:=spotN F g o win 64 x
end
theorem far_Bn (a n b r:Int):0≤farP a n b r∧farP a n b r≤1099511627776:=by have:=subI_bd (subI (addI a n) b) r;unfold farP;omega
theorem far_cut (a n b r:Int):cut (farP a n b r)=farP a n b r:=Bn.cut ⟨by have:=far_Bn a n b r;omega,(far_Bn a n b r).2⟩
section
variable {F:Forest (List Value)} {d:Int→Nat} {g:Int→Option Rc} {o:Int→Pt} {win:Rc}
theorem most_Bn (x:Int):(0≤(mostP F g x).1∧(mostP F g x).1≤1099511627776)∧0≤(mostP F g x).2∧(mostP F g x).2≤1099511627776:=by
  unfold mostP
  split
  · dsimp only;omega
  · split
    · exact⟨far_Bn _ _ _ _,far_Bn _ _ _ _⟩
    · dsimp only;omega
theorem most_PB (x:Int):PB (mostP F g x):=by have:=most_Bn (F:=F) (g:=g) x;unfold PB Bn;omega
theorem within_PB (p q r:Pt):PB (withinP2 p q r):=⟨clamp_Bn _ _ _,clamp_Bn _ _ _⟩
theorem zero_PB:PB (0,0):=⟨Bn.zero,Bn.zero⟩
theorem back_PB (x:Int):PB (backP F g o x):=⟨cut_Bn _,cut_Bn _⟩
theorem join_congr {R R':Int→Rc}:∀(ks:List Int) (r:Rc),(∀k∈ks,R k=R' k)→joinOf F g R ks r=joinOf F g R' ks r
  | [],_,_=>rfl
  | k :: ks, r, h => by
    unfold joinOf;rw[List.foldl_cons,List.foldl_cons];have e:joinK F g R r k=joinK F g R' r k:=by unfold joinK;rw[h k (by simp)]
    rw[e];exact join_congr ks _ fun j hj=>h j (by simp[hj])
theorem reach_fuel (hF:WF F d):∀(n m:Nat) (x:Int),hasF F x=true→63<n+d x→63<m+d x→reachN F g n x=reachN F g m x
  | 0,_,x,hx,h,_=>by obtain⟨b,hb⟩:=some_has hx;have:=hF.deep x b hb;omega
  | n+1,0,x,hx,_,h=>by obtain⟨b,hb⟩:=some_has hx;have:=hF.deep x b hb;omega
  | n + 1, m + 1, x, hx, h1, h2 => by
    unfold reachN;cases g x with
    | none=>rfl
    | some r =>
      dsimp only;rw[join_congr (kidsF F x) _ fun k hk=>?_];obtain⟨h3,h4,_,_⟩:=kid_rank' hF hk;exact reach_fuel hF n m k h3 (by omega) (by omega)
theorem reach_eq (hF:WF F d) {x:Int} (hx:hasF F x=true) {r:Rc} (hg:g x=some r):reachP F g x=if val (stF F x) 2=0 then joinP F g x ⟨0,0,r.w,r.h⟩ else ⟨0,0,r.w,r.h⟩:=by
  have h0:reachP F g x=reachN F g 65 x:=reach_fuel hF 64 65 x hx (by omega) (by omega);rw[h0,reachN,hg];rfl
theorem reach_none {x:Int} (hg:g x=none):reachP F g x=zR:=by unfold reachP reachN;rw[hg]
theorem join_snoc {R:Int→Rc} {ks:List Int} {i:Nat} {k:Int} (h:ks[i]?=some k) (r:Rc):joinOf F g R (ks.take (i+1)) r=joinK F g R (joinOf F g R (ks.take i) r) k:=by
  unfold joinOf;rw[takeS h,List.foldl_append];rfl
theorem scroll_fuel (hF:WF F d):∀(n m:Nat) (x:Int),hasF F x=true→d x<n→d x<m→scrollN F n x=scrollN F m x
  | 0,_,_,_,h,_=>by omega
  | _+1,0,_,_,_,h=>by omega
  | n + 1, m + 1, x, hx, h1, h2 => by
    unfold scrollN
    by_cases h0:x=0
    · obtain ⟨b, hb, hu⟩ := hF.root
      rw[h0,up_some hb,hu];rfl
    · obtain ⟨h3, _, _, h4⟩ := hF.up_has hx h0
      rw[scroll_fuel hF n m (upF F x) h3 (by omega) (by omega)]
theorem scroll_eq (hF:WF F d) {x:Int} (hx:hasF F x=true):scrollP F x=if 0≤upF F x then (if val (stF F (upF F x)) 2=2 then upF F x else scrollP F (upF F x)) else upF F x:=by
  have hd:∀y,hasF F y=true→d y≤63:=fun y hy=>by obtain⟨b,hb⟩:=some_has hy;exact hF.deep y b hb
  have h0:scrollP F x=scrollN F 66 x:=scroll_fuel hF 65 66 x hx (by have:=hd x hx;omega) (by have:=hd x hx;omega);rw[h0,scrollN];rfl
theorem scroll_has (hF:WF F d):∀(n:Nat) (x:Int),hasF F x=true→d x<n→0≤scrollN F n x→hasF F (scrollN F n x)=true∧d (scrollN F n x)<d x
  | 0,_,_,h,_=>by omega
  | n + 1, x, hx, h1, h => by
    unfold scrollN at h ⊢
    by_cases h0:x=0
    · obtain ⟨b, hb, hu⟩ := hF.root
      rw[h0,up_some hb,hu] at h;rw[if_neg (by decide)] at h;omega
    · obtain ⟨h3, _, _, h4⟩ := hF.up_has hx h0
      obtain⟨b,hb⟩:=some_has h3;have h5:=(hF.range _ b hb).1;rw[if_pos h5] at h ⊢
      split
      · exact⟨h3,by omega⟩
      · rename_i hs
        rw[if_neg hs] at h;obtain⟨h6,h7⟩:=scroll_has hF n (upF F x) h3 (by omega) h;exact⟨h6,by omega⟩
theorem scroller (hF:WF F d) {x:Int} (hx:hasF F x=true) (h:0≤scrollP F x):hasF F (scrollP F x)=true∧d (scrollP F x)<d x:=
  scroll_has hF 65 x hx (by obtain⟨b,hb⟩:=some_has hx;have:=hF.deep x b hb;omega) h
theorem scroll_before (hF:WF F d):∀(n i:Nat) (x:Int),(order F)[i]?=some x→0≤scrollN F n x→scrollN F n x∈(order F).take i
  | 0,_,_,_,h=>by simp[scrollN] at h
  | n + 1, i, x, hi, h => by
    unfold scrollN at h ⊢
    by_cases h0:x=0
    · obtain ⟨b, hb, hu⟩ := hF.root
      rw[h0,up_some hb,hu] at h;rw[if_neg (by decide)] at h;omega
    · have h1 := hF.before hi h0
      split
      · rename_i h2
        rw[if_pos h2] at h
        split
        · exact h1
        · rename_i h3
          rw[if_neg h3] at h;obtain⟨j,hj,he⟩:=List.mem_take_iff_getElem.1 h1;have hj2:(order F)[j]?=some (upF F x):=by rw[List.getElem?_eq_getElem (by omega),he]
          have h4:=scroll_before hF n j (upF F x) hj2 h;have h5:(order F).take j=((order F).take i).take j:=by rw[List.take_take];congr 1;omega
          rw[h5] at h4;exact List.mem_of_mem_take h4
      · rename_i h2
        rw[if_neg h2] at h;exact absurd h h2
theorem spotR_congr (hF:WF F d) {S S':Int→Spt} {x:Int} (hx:hasF F x=true) (h:∀y,hasF F y=true→d y<d x→S y=S' y) (m:Rc):spotR F g o win S x m=spotR F g o win S' x m:=by
  unfold spotR
  split
  · rfl
  · rename_i h0
    have h0':x≠0:=fun e=>h0 (.inl e);obtain⟨h3,_,_,h4⟩:=hF.up_has hx h0';have e1:=h _ h3 (by omega);have e2:portP F win S x=portP F win S' x:=by
      unfold portP
      split
      · rfl
      · rename_i hs
        obtain⟨h5,h6⟩:=scroller hF hx (by omega);rw[h _ h5 h6]
    unfold stuckP;rw[e1,e2]
theorem spot_fuel (hF:WF F d):∀(n m:Nat) (x:Int),hasF F x=true→d x<n→d x<m→spotN F g o win n x=spotN F g o win m x
  | 0,_,_,_,h,_=>by omega
  | _+1,0,_,_,_,h=>by omega
  | n + 1, m + 1, x, hx, h1, h2 => by
    unfold spotN spotStep;cases g x with
    | none=>rfl
    | some r=>exact spotR_congr hF hx (fun y hy hd=>spot_fuel hF n m y hy (by omega) (by omega)) r
theorem spot_eq (hF:WF F d) {x:Int} (hx:hasF F x=true) {m:Rc} (hg:g x=some m):spotP F g o win x=spotR F g o win (spotP F g o win) x m:=by
  have hd:d x≤63:=by obtain⟨b,hb⟩:=some_has hx;exact hF.deep x b hb
  have h0:spotP F g o win x=spotN F g o win 65 x:=spot_fuel hF 64 65 x hx (by omega) (by omega);rw[h0,spotN,spotStep,hg];rfl
theorem spot_none {x:Int} (hg:g x=none):spotP F g o win x=spotZ:=by unfold spotP spotN spotStep;rw[hg]
def RM (F:Forest (List Value)) (m:List (Int×Value)) (g:Int→Option Rc):Prop:=(∀k,lookM m k=(g k).map Rc.v)∧∀k r,g k=some r→hasF F k=true
def OM (m:List (Int×Value)) (o:Int→Pt):Prop:=∀k,(lookM m k).getD (ptV 0 0)=ptV (o k).1 (o k).2∧PB (o k)
theorem RM.val {F:Forest (List Value)} {m:List (Int×Value)} {g:Int→Option Rc} (h:RM F m g) (y:Int):(lookM m y).getD zR.v=((g y).getD zR).v:=by rw[h.1 y];cases g y<;>rfl
theorem RM.is {F:Forest (List Value)} {m:List (Int×Value)} {g:Int→Option Rc} (h:RM F m g) (y:Int):(lookM m y).isSome=(g y).isSome:=by rw[h.1 y];cases g y<;>rfl
theorem getD_of {a:Option Rc} (h:a.isSome=true):a=some (a.getD zR):=by cases a with | none=>cases h | some r=>rfl
theorem RM.has {F:Forest (List Value)} {m:List (Int×Value)} {g:Int→Option Rc} (h:RM F m g) {y:Int} (hy:(g y).isSome=true):hasF F y=true:=h.2 y _ (getD_of hy)
theorem none_of {a:Option Rc} (h:a.isSome=false):a=none:=by cases a with | none=>rfl | some r=>cases h
section
variable {F:Forest (List Value)} {g:Int→Option Rc}
theorem joinK_yes {R:Int→Rc} {r:Rc} {k:Int} (h:(g k).isSome=true) (hp:val (stF F k) 1≠3):joinK F g R r k=joinR r (moveR (R k) (beginR ((g k).getD zR))):=by
  unfold joinK;rw[getD_of h];simp[hp]
theorem joinK_no {R:Int→Rc} {r:Rc} {k:Int} (h:(g k).isSome=false∨val (stF F k) 1=3):joinK F g R r k=r:=by
  unfold joinK;cases e:g k with
  | none=>rfl
  | some a=>rcases h with h | h;rw[e] at h;cases h;simp[h]
theorem most_no {x:Int} (h:(g x).isSome=false∨val (stF F x) 2≠2):mostP F g x=(0,0):=by
  unfold mostP;cases e:g x with
  | none=>rfl
  | some a=>rcases h with h | h;rw[e] at h;cases h;simp[h]
theorem most_yes {x:Int} (h:(g x).isSome=true) (hp:val (stF F x) 2=2):mostP F g x=(farP (joinP F g x zR).x (joinP F g x zR).w (val (stF F x) 38) (portR ((g x).getD zR) (stF F x)).w,farP (joinP F g x zR).y (joinP F g x zR).h (val (stF F x) 35) (portR ((g x).getD zR) (stF F x)).h):=by
  unfold mostP;rw[getD_of h];simp[hp]
end
def frR (f:Frm):Rc:=⟨cut f.x,cut f.y,cut f.w,cut f.h⟩
def gOf (l:List Frm) (k:Int):Option Rc:=(l.find? fun f=>f.id==k).map frR
theorem gOf_map {F:Forest (List Value)} {m:List (Int×Value)} {l:List Frm} (h:MapOf m l) (hh:∀f∈l,hasF F f.id=true):RM F m (gOf l):=by
  obtain⟨_,h2,h3⟩:=h;refine⟨fun k=>?_,fun k r hr=>?_⟩
  · unfold gOf
    cases e:l.find? fun f=>f.id==k with
    | none=>exact h3 k fun f hf=>by have:=List.find?_eq_none.1 e f hf;simpa using this
    | some f =>
      have h5:=List.find?_some e;have h6:f.id=k:=by simpa using h5
      rw[←h6,h2 f (List.mem_of_find?_eq_some e)];rfl
  · unfold gOf at hr
    obtain⟨f,hf,_⟩:=Option.map_eq_some_iff.1 hr;have h5:=List.find?_some hf;have h6:f.id=k:=by simpa using h5
    rw[←h6];exact hh f (List.mem_of_find?_eq_some hf)
def spL (F:Forest (List Value)) (g:Int→Option Rc) (o:Int→Pt) (win:Rc) (l:List Int):List (Int×Value):=l.filterMap fun y=>(g y).map fun _=>(y,(spotP F g o win y).v)
theorem putM_new (k:Int) (v:Value):∀(m:List (Int×Value)),lookM m k=none→putM m k v=m++[(k,v)]
  | [],_=>rfl
  | p :: m, h => by
    simp only[lookM] at h;unfold putM
    split at h
    · cases h
    · rename_i e
      rw[if_neg e,putM_new k v m h,List.cons_append]
theorem look_spL (k:Int):∀(l:List Int),lookM (spL F g o win l) k=if k∈l then (g k).map fun _=>(spotP F g o win k).v else none
  | []=>rfl
  | y :: l => by
    have ih:=look_spL k l;unfold spL at ih ⊢;rw[List.filterMap_cons];cases e:g y with
    | none =>
      simp only[Option.map_none];rw[ih]
      by_cases h:k=y
      · rw[h,e];simp
      · simp[h]
    | some r =>
      simp only[Option.map_some,lookM]
      by_cases h:y=k
      · subst h;rw[if_pos rfl];simp[e]
      · rw [if_neg h, ih]
        have h':¬k=y:=fun q=>h q.symm;simp[h']
theorem spL_snoc_none {l:List Int} {i:Nat} {y:Int} (h:l[i]?=some y) (hg:g y=none):spL F g o win (l.take (i+1))=spL F g o win (l.take i):=by
  unfold spL;rw[takeS h,List.filterMap_append];simp[hg]
theorem spL_snoc {l:List Int} {i:Nat} {y:Int} {r:Rc} (h:l[i]?=some y) (hn:l.Nodup) (hg:g y=some r):spL F g o win (l.take (i+1))=putM (spL F g o win (l.take i)) y (spotP F g o win y).v:=by
  have hy:y∉l.take i:=fun hm=>by
    obtain⟨j,hj,he⟩:=List.mem_take_iff_getElem.1 hm;obtain⟨hi,he2⟩:=List.getElem?_eq_some_iff.1 h;have:=List.pairwise_iff_getElem.1 hn j i (by omega) hi (by omega);exact this (he.trans he2.symm)
  rw[putM_new _ _ _ (by rw[look_spL,if_neg hy])];unfold spL;rw[takeS h,List.filterMap_append];simp[hg]
theorem spL_len (l:List Int):(spL F g o win l).length=(l.filter fun y=>(g y).isSome).length:=by
  unfold spL;induction l with
  | nil=>rfl
  | cons y l ih =>
    rw[List.filterMap_cons,List.filter_cons];cases e:g y with
    | none=>simpa using ih
    | some r=>simpa using ih
theorem spL_get {l:List Int} {y:Int} (h:y∈l):(lookM (spL F g o win l) y).getD spotZ.v=(spotP F g o win y).v:=by
  rw[look_spL,if_pos h];cases e:g y with
  | none=>rw[spot_none e];rfl
  | some r=>rfl
end
section
variable {P:Program} {S:World→Prop} {ρ:Env} {dst:Option Tmp} {ty:TypeId} {pos:String} {af:Array Edge} {g:Option (Nat×Bool)} {t t2:TypeId} {x y:Operand} {a b:Int}
theorem v_fadd0 (hx:evo ρ x=.float .f64 (fltW a)) (hy:evo ρ y=.float .f64 0) (ha:a.natAbs<2 ^ 51):OpV P S ⟨dst,.binOp .add t x y t2,ty,pos,af,g⟩ ρ (.float .f64 (fltW a)):=v_run fun w _=>by
  have h:floatBits .add .f64 (fltW a) 0=some (fltW a):=by
    have h1:=addF (a:=a) (b:=0) ha (by decide);rw[Int.add_zero,fltW_zero] at h1;exact h1
  have e:(eqGuard .add t x y (.float .f64 (fltW a)) (.float .f64 0)).run P w=.ok () w:=rfl;have e2:=run_float_arith (P:=P) w .add t .f64 (fltW a) 0 (fltW a) h;simp[execOp,hx,hy,e,e2,Result.andThen]
theorem fltW_most:fltW 1099511627776=4787326403894837248:=by decide+kernel
theorem v_fmost (hx:evo ρ x=.float .f64 (fltW a)) (hy:evo ρ y=.float .f64 4787326403894837248) (ha:a≤1099511627776) (h0:0≤a):OpV P S ⟨dst,.binOp .leq t x y t2,ty,pos,af,g⟩ ρ (.bool true):=by
  have h:=v_fleq (P:=P) (S:=S) (dst:=dst) (ty:=ty) (pos:=pos) (af:=af) (g:=g) (t:=t) (t2:=t2) hx (by rw[hy,←fltW_most]) (b:=1099511627776) (by omega) (by decide)
  rwa [decide_eq_true ha] at h
theorem v_ftrue (hx:evo ρ x=.float .f64 (fltW a)) (hy:evo ρ y=.float .f64 (fltW a)) (ha:a.natAbs<2 ^ 52):OpV P S ⟨dst,.binOp .eql t x y t2,ty,pos,af,g⟩ ρ (.bool true):=by
  have h:=v_feq (P:=P) (S:=S) (dst:=dst) (ty:=ty) (pos:=pos) (af:=af) (g:=g) (t:=t) (t2:=t2) hx hy ha ha
  rwa [decide_eq_true rfl] at h
theorem v_ext {f:FuncId} {e:Array Value→Sem Value} {v v':Value} {ats:Array TypeId} (hrun:∀args w,(callFunc f args).run P w=((e args).run P w).andThen fun v w'=>.ok (.value v) w') (hx:evo ρ x=v) (he:e #[v]=pure v'):OpV P S ⟨dst,.call ⟨.value (.func f),#[x],ats⟩,ty,pos,af,g⟩ ρ v':=v_run fun w _=>by
  have e0:evo ρ (.func f)=.func (.func f) #[] #[]:=rfl;simp[execOp,resolve,e0,Deferred.ofValue,invoke,hrun,hx,he,Result.andThen]
theorem ext_bits:Extern.MathFloatBits.float64bits #[.float .f64 (fltW a)]=pure (.int .u64 (fltW a:Nat)):=rfl
theorem ext_from (n:Nat):Extern.MathFloatBits.float64frombits #[.int .u64 (n:Nat)]=pure (.float .f64 n):=rfl
theorem ext_trunc (ha : a.natAbs < 2 ^ 52) : Extern.MathFloor.toIntegral "math.archTrunc" .zero #[.float .f64 (fltW a)] = pure (.float .f64 (fltW a)) := by
  obtain⟨k,h⟩:=fltW_read ha;have h1:=truncF ha;have h2:FloatKind.f64.decode (fltW a)=.number (decide (a<0)) (a.natAbs*2 ^ k) (-(k:Int)):=h;have h3:FloatKind.f64.encode ((Ieee.Datum.number (decide (a<0)) (a.natAbs*2 ^ k) (-(k:Int))).integral .zero)=fltW a:=by rw[←h];exact h1
  have key : ∀ d, FloatKind.f64.decode (fltW a) = d → (∀ s t, d ≠ .nan s t) → Extern.MathFloor.toIntegral "math.archTrunc" .zero #[.float .f64 (fltW a)] = pure (.float .f64 (FloatKind.f64.encode (d.integral .zero))) := by
    delta Extern.MathFloor.toIntegral
    intro d hd hn
    conv=>lhs;whnf
    rw[hd];cases d with
    | nan s t=>exact absurd rfl (hn s t)
    | infinity s=>rfl
    | number s m k=>rfl
  rw[key _ h2 (fun s t h=>by cases h),h3]
theorem v_andNot (hx:evo ρ x=.int .u64 (fltW a:Nat)) (hy:evo ρ y=.int .u64 9223372036854775808) (ha:a.natAbs<2 ^ 52):OpV P S ⟨dst,.binOp .andNot t x y t2,ty,pos,af,g⟩ ρ (.int .u64 (fltW (a.natAbs:Int):Nat)):=v_run fun w _=>by
  obtain⟨h1,h2⟩:=absF ha;have e:(eqGuard .andNot t x y (.int .u64 (fltW a:Nat)) (.int .u64 9223372036854775808)).run P w=.ok () w:=rfl;have e3:bits .andNot .u64 ((fltW a:Nat):Int) 9223372036854775808=((fltW (a.natAbs:Int):Nat):Int):=by
    have:=u64_andNot_nat (fltW a) 9223372036854775808 h2 (by decide);rw[←h1];refine this.trans ?_;rw[show 18446744073709551615 - 9223372036854775808=2 ^ 63 - 1 from rfl,Nat.and_two_pow_sub_one_eq_mod]
  have e2:(binOp .andNot t (.int .u64 (fltW a:Nat)) (.int .u64 9223372036854775808)).run P w=.ok (.int .u64 (bits .andNot .u64 ((fltW a:Nat):Int) 9223372036854775808)) w:=rfl;rw[e3] at e2;simp[execOp,hx,hy,e,e2,Result.andThen]
end
theorem abs_ct (a:Int) (ha:a.natAbs<2 ^ 52):Ct Tryz.prog 185 #[.float .f64 (fltW a)] [] (fun _=>True) (X:=Unit) (fun _=>.float .f64 (fltW (a.natAbs:Int))) (fun _=>True) (fun _=>[]):=by
  refine Ci fun w0 _=>?_;refine sqR ?_;refine sg rfl ?_;refine nl (oo ?_);refine sqR ?_;refine mv (v:=.float .f64 (fltW _)) rfl ?_;refine vl (v_ext (f:=219) (e:=Extern.MathFloatBits.float64bits) (run_callFunc_extern Tryz.func219 (by kernel_rfl) (by kernel_rfl) (by kernel_rfl) (by kernel_rfl)) rfl ext_bits) ?_;refine vl (v_andNot rfl rfl ha) ?_;refine vl (v_ext (f:=218) (e:=Extern.MathFloatBits.float64frombits) (run_callFunc_extern Tryz.func218 (by kernel_rfl) (by kernel_rfl) (by kernel_rfl) (by kernel_rfl)) rfl (ext_from _)) ?_;refine sg (v:=.float .f64 (fltW _)) rfl ?_;refine gg ?_;exact rt1 fun w hw=>⟨(),rfl,trivial,hw.pk⟩
theorem trunc_ct (a:Int) (ha:a.natAbs<2 ^ 52):Ct Tryz.prog 186 #[.float .f64 (fltW a)] [] (fun _=>True) (X:=Unit) (fun _=>.float .f64 (fltW a)) (fun _=>True) (fun _=>[]):=by
  refine Ci fun w0 _=>?_;refine sqR ?_;refine sg rfl ?_;refine gg ?_;refine WP.condT rfl ?_;refine sqR ?_;refine mv (v:=.float .f64 (fltW _)) rfl ?_;refine vl (v_ext (f := 220) (e := Extern.MathFloor.toIntegral "math.archTrunc" .zero) (run_callFunc_extern Tryz.func220 (by kernel_rfl) (by kernel_rfl) (by kernel_rfl) (by kernel_rfl)) rfl (ext_trunc ha)) ?_;refine sg (v:=.float .f64 (fltW _)) rfl ?_;refine gg ?_;exact rt1 fun w hw=>⟨(),rfl,trivial,hw.pk⟩
theorem whole_ct (a:Int) (ha:Bn a):Ct Tryz.prog 161 #[.float .f64 (fltW a)] [] (fun _=>True) (X:=Unit) (fun _=>.bool true) (fun _=>True) (fun _=>[]):=by
  obtain⟨ha1,ha2⟩:=ha;refine Ci fun w0 _=>?_;refine sqR ?_;refine av ?_;refine nl (oo ?_);refine sqR ?_;refine mv (v:=.float .f64 (fltW _)) rfl ?_;refine eF (xC (abs_ct a (by omega))) fun _ _=>?_;refine vl (v_fmost rfl rfl (by omega) (by omega)) ?_;refine av ?_;refine vg (v_move (v:=.float .f64 (fltW _)) rfl) ?_;refine WPL.efG (xC (trunc_ct a (by omega))) (fun _=>?_);refine WPL.fact (fun _=>?_);refine vg (v_move (v:=.float .f64 (fltW _)) rfl) ?_;refine vg (v_ftrue rfl rfl (by omega)) ?_;refine gg ?_;exact rt1 fun w hw=>⟨(),rfl,trivial,hw.pk⟩
theorem Whole_ct (a b:Int) (ha:Bn a) (hb:Bn b):Ct Tryz.prog 118 #[ptV a b] [] (fun _=>True) (X:=Unit) (fun _=>.bool true) (fun _=>True) (fun _=>[]):=by
  refine Ci fun w0 _=>?_;refine sqR ?_;refine av ?_;refine nl (oo ?_);refine sqR ?_;refine mv (v:=ptV _ _) rfl ?_;refine vl (v_real rfl) ?_;refine eF (xC (whole_ct a ha)) fun _ _=>?_;refine av ?_;refine vg (v_move (v:=ptV _ _) rfl) ?_;refine vg (v_imag rfl) ?_;refine WPL.efG (xC (whole_ct b hb)) (fun _=>?_);refine WPL.fact (fun _=>?_);refine gg ?_;exact rt1 fun w hw=>⟨(),rfl,trivial,hw.pk⟩
theorem psound_ct (a b:Int) (ha:Bn a) (hb:Bn b):Ct Tryz.prog 72 #[ptV a b] [] (fun _=>True) (X:=Unit) (fun _=>ptV a b) (fun _=>True) (fun _=>[]):=by
  have ha':=ha;have hb':=hb;obtain⟨ha1,ha2⟩:=ha';obtain⟨hb1,hb2⟩:=hb';refine Ci fun w0 _=>?_;refine sqR ?_;refine sg rfl ?_;refine nl (oo ?_);refine sq ?_;refine sqR ?_;refine mv (v:=ptV _ _) rfl ?_;refine eF (xC (Whole_ct a b ha hb)) fun _ _=>?_;refine gg ?_;refine WP.condF rfl ?_;refine WP.skip (onto_of ?_);refine sqR ?_;refine mv (v:=ptV _ _) rfl ?_;refine vl (v_real rfl) ?_;refine vl (v_fadd0 rfl rfl (by omega)) ?_;refine mv (v:=ptV _ _) rfl ?_;refine vl (v_imag rfl) ?_;refine vl (v_fadd0 rfl rfl (by omega)) ?_;refine vl (v_complex rfl rfl) ?_;refine sg (v:=ptV _ _) rfl ?_;refine gg ?_;exact rt1 fun w hw=>⟨(),rfl,trivial,hw.pk⟩
theorem X_ct (a b:Int) (ha:Bn a) (hb:Bn b):Ct Tryz.prog 32 #[ptV a b] [] (fun _=>True) (X:=Unit) (fun _=>.int .i64 a) (fun _=>True) (fun _=>[]):=by
  have ha':=ha;obtain⟨ha1,ha2⟩:=ha';refine Ci fun w0 _=>?_;refine sqR ?_;refine av ?_;refine nl (oo ?_);refine sqR ?_;refine mv (v:=ptV _ _) rfl ?_;refine eF (xC (psound_ct a b ha hb)) fun _ _=>?_;refine vl (v_real rfl) ?_;refine vl (v_toI rfl (by rw[Tryz.underlying122];rfl) Tryz.underlying3 (by omega)) ?_;refine gg ?_;exact rt1 fun w hw=>⟨(),rfl,trivial,hw.pk⟩
theorem Y_ct (a b:Int) (ha:Bn a) (hb:Bn b):Ct Tryz.prog 33 #[ptV a b] [] (fun _=>True) (X:=Unit) (fun _=>.int .i64 b) (fun _=>True) (fun _=>[]):=by
  have hb':=hb;obtain⟨hb1,hb2⟩:=hb';refine Ci fun w0 _=>?_;refine sqR ?_;refine av ?_;refine nl (oo ?_);refine sqR ?_;refine mv (v:=ptV _ _) rfl ?_;refine eF (xC (psound_ct a b ha hb)) fun _ _=>?_;refine vl (v_imag rfl) ?_;refine vl (v_toI rfl (by rw[Tryz.underlying122];rfl) Tryz.underlying3 (by omega)) ?_;refine gg ?_;exact rt1 fun w hw=>⟨(),rfl,trivial,hw.pk⟩
theorem ptof_ct (a b:Int):Ct Tryz.prog 25 #[.int .i64 a,.int .i64 b] [] (fun _=>True) (X:=Unit) (fun _=>ptV (cut a) (cut b)) (fun _=>True) (fun _=>[]):=by
  refine Ci fun w0 _=>?_;refine sqR ?_;refine sg rfl ?_;refine gg ?_;refine vl (vC (cut_any _ _)) ?_;refine vl (v_toF rfl (by rw[Tryz.underlying3];rfl) Tryz.underlying122) ?_;refine gg ?_;refine vl (vC (cut_any _ _)) ?_;refine vl (v_toF rfl (by rw[Tryz.underlying3];rfl) Tryz.underlying122) ?_;refine vl (v_complex rfl rfl) ?_;refine sg (v:=ptV _ _) rfl ?_;refine gg ?_;exact rt1 fun w hw=>⟨(),rfl,trivial,hw.pk⟩
theorem pcut_ct (a b:Int) (ha:-2199023255552≤a∧a≤2199023255552) (hb:-2199023255552≤b∧b≤2199023255552):Ct Tryz.prog 71 #[ptV a b] [] (fun _=>True) (X:=Unit) (fun _=>ptV (cut a) (cut b)) (fun _=>True) (fun _=>[]):=by
  refine Ci fun w0 _=>?_;refine sqR ?_;refine sg rfl ?_;refine nl (oo ?_);refine sqR ?_;refine mv (v:=ptV _ _) rfl ?_;refine vl (v_real rfl) ?_;refine vl (v_toI rfl (by rw[Tryz.underlying122];rfl) Tryz.underlying3 (by omega)) ?_;refine mv (v:=ptV _ _) rfl ?_;refine vl (v_imag rfl) ?_;refine vl (v_toI rfl (by rw[Tryz.underlying122];rfl) Tryz.underlying3 (by omega)) ?_;refine eF (xC (ptof_ct a b)) fun _ _=>?_;refine sg (v:=ptV _ _) rfl ?_;refine gg ?_;exact rt1 fun w hw=>⟨(),rfl,trivial,hw.pk⟩
theorem padd_ct (p q:Pt) (hp:PB p) (hq:PB q):Ct Tryz.prog 70 #[ptV p.1 p.2,ptV q.1 q.2] [] (fun _=>True) (X:=Unit) (fun _=>ptV (cut (p.1+q.1)) (cut (p.2+q.2))) (fun _=>True) (fun _=>[]):=by
  obtain⟨p1,p2⟩:=hp;obtain⟨q1,q2⟩:=hq;have b1:=p1;have b2:=p2;have b3:=q1;have b4:=q2;unfold Bn at b1 b2 b3 b4;refine Ci fun w0 _=>?_;refine sqR ?_;refine sg rfl ?_;refine nl (oo ?_);refine sqR ?_;refine mv (v:=ptV _ _) rfl ?_;refine eF (xC (psound_ct _ _ p1 p2)) fun _ _=>?_;refine mv (v:=ptV _ _) rfl ?_;refine eF (xC (psound_ct _ _ q1 q2)) fun _ _=>?_;refine vl (v_cadd rfl rfl (by omega) (by omega) (by omega) (by omega)) ?_;refine eF (xC (pcut_ct (p.1+q.1) (p.2+q.2) (by omega) (by omega))) fun _ _=>?_;refine sg (v:=ptV _ _) rfl ?_;refine gg ?_;exact rt1 fun w hw=>⟨(),rfl,trivial,hw.pk⟩
theorem psub_ct (p q:Pt) (hp:PB p) (hq:PB q):Ct Tryz.prog 31 #[ptV p.1 p.2,ptV q.1 q.2] [] (fun _=>True) (X:=Unit) (fun _=>ptV (cut (p.1 - q.1)) (cut (p.2 - q.2))) (fun _=>True) (fun _=>[]):=by
  obtain⟨p1,p2⟩:=hp;obtain⟨q1,q2⟩:=hq;have b1:=p1;have b2:=p2;have b3:=q1;have b4:=q2;unfold Bn at b1 b2 b3 b4;refine Ci fun w0 _=>?_;refine sqR ?_;refine sg rfl ?_;refine nl (oo ?_);refine sqR ?_;refine mv (v:=ptV _ _) rfl ?_;refine eF (xC (psound_ct _ _ p1 p2)) fun _ _=>?_;refine mv (v:=ptV _ _) rfl ?_;refine eF (xC (psound_ct _ _ q1 q2)) fun _ _=>?_;refine vl (v_csub rfl rfl (by omega) (by omega) (by omega) (by omega)) ?_;refine eF (xC (pcut_ct (p.1 - q.1) (p.2 - q.2) (by omega) (by omega))) fun _ _=>?_;refine sg (v:=ptV _ _) rfl ?_;refine gg ?_;exact rt1 fun w hw=>⟨(),rfl,trivial,hw.pk⟩
theorem within_ct (p q r:Pt) (hp:PB p) (hq:PB q) (hr:PB r):Ct Tryz.prog 24 #[ptV p.1 p.2,ptV q.1 q.2,ptV r.1 r.2] [] (fun _=>True) (X:=Unit) (fun _=>ptV (withinP2 p q r).1 (withinP2 p q r).2) (fun _=>True) (fun _=>[]):=by
  obtain⟨p1,p2⟩:=hp;obtain⟨q1,q2⟩:=hq;obtain⟨r1,r2⟩:=hr;refine Ci fun w0 _=>?_;refine sqR ?_;refine sg rfl ?_;refine nl (oo ?_);refine sqR ?_;refine mv (v:=ptV _ _) rfl ?_;refine eF (xC (X_ct _ _ p1 p2)) fun _ _=>?_;refine mv (v:=ptV _ _) rfl ?_;refine eF (xC (X_ct _ _ q1 q2)) fun _ _=>?_;refine mv (v:=ptV _ _) rfl ?_;refine eF (xC (X_ct _ _ r1 r2)) fun _ _=>?_;refine vl (vC (clamp_any _ _ _ _)) ?_;refine mv (v:=ptV _ _) rfl ?_;refine eF (xC (Y_ct _ _ p1 p2)) fun _ _=>?_;refine mv (v:=ptV _ _) rfl ?_;refine eF (xC (Y_ct _ _ q1 q2)) fun _ _=>?_;refine mv (v:=ptV _ _) rfl ?_;refine eF (xC (Y_ct _ _ r1 r2)) fun _ _=>?_;refine vl (vC (clamp_any _ _ _ _)) ?_;refine eF (xC (ptof_ct _ _)) fun _ _=>?_;refine sg (v:=ptV _ _) rfl ?_;refine gg ?_;exact rt1 fun w hw=>⟨(),by unfold withinP2;dsimp only;rw[(clamp_Bn p.1 q.1 r.1).cut,(clamp_Bn p.2 q.2 r.2).cut];rfl,trivial,hw.pk⟩
end Go.Proofs.YtbedndijejpcaaaGreat
