/- Nums Lens FlowNum2 -/
import Derived.Test.YtpgjbbaplpdaiaaGreatL14
set_option linter.unusedVariables false
set_option linter.unusedSimpArgs false
set_option linter.unusedSectionVars false
set_option maxRecDepth 100000
set_option maxHeartbeats 8000000
namespace Go.Proofs.YtpgjbbaplpdaiaaGreat
open Go.RowKit
theorem add_any (a b:Int) (w:World):Calls Tryz.prog 174 #[.int .i64 a,.int .i64 b] w fun e w'=>e=.returned (.int .i64 (addI a b))∧w=w':=by
  have h1:=cut_bd a;have h2:=cut_bd b;refine enter_pure Tryz.func174 rfl Tryz.ntmps174 (by simp) ?_;refine gg ?_;refine vl (vC (cut_any _ _)) ?_;refine gg ?_;refine vl (vC (cut_any _ _)) ?_;refine gg ?_;refine vl (vC (cut_any _ _)) ?_;refine gg ?_;exact rt1 fun w hw=>⟨rfl,hw.symm⟩
theorem sub_any (a b:Int) (w:World):Calls Tryz.prog 172 #[.int .i64 a,.int .i64 b] w fun e w'=>e=.returned (.int .i64 (subI a b))∧w=w':=by
  have h1:=cut_bd a;have h2:=cut_bd b;refine enter_pure Tryz.func172 rfl Tryz.ntmps172 (by simp) ?_;refine gg ?_;refine vl (vC (cut_any _ _)) ?_;refine gg ?_;refine vl (vC (cut_any _ _)) ?_;refine gg ?_;refine vl (vC (cut_any _ _)) ?_;refine gg ?_;exact rt1 fun w hw=>⟨rfl,hw.symm⟩
theorem size_any (a:Int) (h:-1099511627776≤a∧a≤1099511627776) (w:World):Calls Tryz.prog 203 #[.int .i64 a] w fun e w'=>e=.returned (.int .u64 (a.natAbs:Int))∧w=w':=by
  refine enter_pure Tryz.func203 rfl Tryz.ntmps203 (by simp) ?_;refine n1 ?_;refine sg (v:=.int .u64 (0)) rfl ?_;refine gg ?_;refine WP.condP rfl (fun h4=>?_) (fun h4=>?_)
  ·have hr:(a.natAbs:Int)= -a:=by omega
   refine n2 ?_;refine vl (v_neg rfl (by omega)) ?_;refine vl (v_conv (m':=-a) Tryz.underlying3 Tryz.underlying226 rfl (IntWalk.u64_in _ (by omega))) ?_;refine sg (v:=.int .u64 _) rfl ?_;refine gg ?_;exact rt1 fun w hw=>⟨by rw[hr];rfl,hw.symm⟩
  ·have hr:(a.natAbs:Int)=a:=by omega
   refine n3 ?_;refine vl (v_conv (m':=a) Tryz.underlying3 Tryz.underlying226 rfl (IntWalk.u64_in _ (by omega))) ?_;refine sg (v:=.int .u64 _) rfl ?_;refine gg ?_;exact rt1 fun w hw=>⟨by rw[hr];rfl,hw.symm⟩
theorem times_any (a b:Int) (ha:0≤a∧a≤1099511627776) (hb:0≤b∧b≤1099511627776) (w:World):Calls Tryz.prog 202 #[.int .u64 a,.int .u64 b] w fun e w'=>e=.returned (.int .i64 (min (a*b) 1099511627776))∧w=w':=by
  have hid:=times_id a b;have hb1:0≤a / 4294967296∧a / 4294967296≤256:=by omega
  have hb2:0≤b / 4294967296∧b / 4294967296≤256:=by omega
  have hb3:0≤a % 4294967296∧a % 4294967296≤4294967295:=by omega
  have hb4:0≤b % 4294967296∧b % 4294967296≤4294967295:=by omega
  have h22:0≤a % 4294967296*(b / 4294967296)∧a % 4294967296*(b / 4294967296)≤18446744073709551615:=⟨Int.mul_nonneg hb3.1 hb2.1,Int.le_trans (Int.mul_le_mul hb3.2 hb2.2 hb2.1 (by decide)) (by decide)⟩;have h25:0≤a / 4294967296*(b % 4294967296)∧a / 4294967296*(b % 4294967296)≤18446744073709551615:=⟨Int.mul_nonneg hb1.1 hb4.1,Int.le_trans (Int.mul_le_mul hb1.2 hb4.2 hb4.1 (by decide)) (by decide)⟩;have h22':a % 4294967296*(b / 4294967296)≤1099511627776:=Int.le_trans (Int.mul_le_mul hb3.2 hb2.2 hb2.1 (by decide)) (by decide);have h25':a / 4294967296*(b % 4294967296)≤1099511627776:=Int.le_trans (Int.mul_le_mul hb1.2 hb4.2 hb4.1 (by decide)) (by decide);have h29:0≤a / 4294967296*(b / 4294967296)∧a / 4294967296*(b / 4294967296)≤18446744073709551615:=⟨Int.mul_nonneg hb1.1 hb2.1,Int.le_trans (Int.mul_le_mul hb1.2 hb2.2 hb2.1 (by decide)) (by decide)⟩;have h38:0≤a % 4294967296*(b % 4294967296)∧a % 4294967296*(b % 4294967296)≤18446744073709551615:=⟨Int.mul_nonneg hb3.1 hb4.1,Int.le_trans (Int.mul_le_mul hb3.2 hb4.2 hb4.1 (by decide)) (by decide)⟩;refine enter_pure Tryz.func202 rfl Tryz.ntmps202 (by simp) ?_;refine n4 ?_;refine mv (v:=.int .u64 _) rfl ?_;refine vl (v_lowU rfl rfl (by omega)) ?_;refine mv (v:=.int .u64 _) rfl ?_;refine vl (v_shrU rfl rfl) ?_;refine sg (v:=.int .u64 _) rfl ?_;refine sg (v:=.int .u64 _) rfl ?_;refine n2 ?_;refine mv (v:=.int .u64 _) rfl ?_;refine vl (v_lowU rfl rfl (by omega)) ?_;refine mv (v:=.int .u64 _) rfl ?_;refine vl (v_shrU rfl rfl) ?_;refine sg (v:=.int .u64 _) rfl ?_;refine sg (v:=.int .u64 _) rfl ?_;refine n2 ?_;refine mv (v:=.int .u64 _) rfl ?_;refine mv (v:=.int .u64 _) rfl ?_;refine vl (v_mulU rfl rfl h22) ?_;refine mv (v:=.int .u64 _) rfl ?_;refine mv (v:=.int .u64 _) rfl ?_;refine vl (v_mulU rfl rfl h25) ?_;refine vl (v_addU rfl rfl (by omega)) ?_;refine sg (v:=.int .u64 _) rfl ?_;refine n3 ?_;refine mv (v:=.int .u64 _) rfl ?_;refine mv (v:=.int .u64 _) rfl ?_;refine vl (v_mulU rfl rfl h29) ?_;refine vl (v_gtrU rfl rfl) ?_;refine av ?_;refine WPL.split 31 rfl (fun h31=>?_) (fun h31=>?_)
  ·refine gg ?_;have hr:min (a*b) 1099511627776=1099511627776:=by omega
   refine WP.condT rfl ?_;refine gg ?_;exact rt1 fun w hw=>⟨by rw[hr];rfl,hw.symm⟩
  ·refine vg (v_move (v:=.int .u64 _) rfl) ?_;refine vg (v_shrU rfl rfl) ?_;refine vg (v_gtrU rfl rfl) ?_;refine gg ?_;refine WP.condP rfl (fun h35=>?_) (fun h35=>?_)
   ·have hr:min (a*b) 1099511627776=1099511627776:=by omega
    refine gg ?_;exact rt1 fun w hw=>⟨by rw[hr];rfl,hw.symm⟩
   ·refine n2 ?_;refine mv (v:=.int .u64 _) rfl ?_;refine mv (v:=.int .u64 _) rfl ?_;refine vl (v_mulU rfl rfl h38) ?_;refine sg (v:=.int .u64 _) rfl ?_;refine n2 ?_;refine mv (v:=.int .u64 _) rfl ?_;refine vl (v_shlU rfl rfl (by omega)) ?_;refine mv (v:=.int .u64 _) rfl ?_;refine vl (v_addUw rfl rfl) ?_;refine sg (v:=.int .u64 _) rfl ?_;refine n3 ?_;refine mv (v:=.int .u64 _) rfl ?_;refine mv (v:=.int .u64 _) rfl ?_;refine vl (v_lssU rfl rfl) ?_;refine av ?_;refine WPL.split 46 rfl (fun h46=>?_) (fun h46=>?_)
    ·refine gg ?_;have hr:min (a*b) 1099511627776=1099511627776:=by omega
     refine WP.condT rfl ?_;refine gg ?_;exact rt1 fun w hw=>⟨by rw[hr];rfl,hw.symm⟩
    ·refine vg (v_move (v:=.int .u64 _) rfl) ?_;refine vg (v_gtrU rfl rfl) ?_;refine gg ?_;refine WP.condP rfl (fun h49=>?_) (fun h49=>?_)
     ·have hr:min (a*b) 1099511627776=1099511627776:=by omega
      refine gg ?_;exact rt1 fun w hw=>⟨by rw[hr];rfl,hw.symm⟩
     ·have hr:min (a*b) 1099511627776=a*b:=by omega
      refine n2 ?_;refine mv (v:=.int .u64 _) rfl ?_;refine vl (v_conv (m':=a*b) Tryz.underlying226 Tryz.underlying3 rfl (by rw[IntWalk.i64_in _ (by omega)];omega)) ?_;refine gg ?_;exact rt1 fun w hw=>⟨by rw[hr];rfl,hw.symm⟩
theorem mul_any (a b:Int) (w:World):Calls Tryz.prog 189 #[.int .i64 a,.int .i64 b] w fun e w'=>e=.returned (.int .i64 (mulI a b))∧w=w':=by
  have h1:=cut_bd a;have h2:=cut_bd b;have hm:0≤((cut a).natAbs:Int)*((cut b).natAbs:Int):=Int.mul_nonneg (by omega) (by omega);refine enter_pure Tryz.func189 rfl Tryz.ntmps189 (by simp) ?_;refine gg ?_;refine vl (vC (cut_any _ _)) ?_;refine gg ?_;refine vl (vC (cut_any _ _)) ?_;refine gg ?_;refine vl (vC (size_any _ (cut_bd a) _)) ?_;refine gg ?_;refine vl (vC (size_any _ (cut_bd b) _)) ?_;refine vl (vC (times_any ((cut a).natAbs:Int) ((cut b).natAbs:Int) (by omega) (by omega) _)) ?_;refine n8 ?_;refine vl (v_neB Tryz.underlying4 rfl rfl) ?_;refine gg ?_;refine WP.cond rfl (fun h19=>?_) (fun h19=>?_)
  ·have hr:mulI a b= -min (((cut a).natAbs:Int)*((cut b).natAbs:Int)) 1099511627776:=by
     rw[mulI,cut_mul,if_neg (fun e=>by simp[e] at h19)];rw[Int.natCast_mul]
   refine n2 ?_;refine vl (v_neg rfl (by omega)) ?_;refine gg ?_;exact rt1 fun w hw=>⟨by rw[hr];rfl,hw.symm⟩
  ·have hr:mulI a b=min (((cut a).natAbs:Int)*((cut b).natAbs:Int)) 1099511627776:=by
     rw[mulI,cut_mul,if_pos (by simpa using h19)];rw[Int.natCast_mul]
   refine gg ?_;exact rt1 fun w hw=>⟨by rw[hr];rfl,hw.symm⟩
theorem tdiv_bd {a b:Int} (ha:-1099511627776000000≤a∧a≤1099511627776000000) (hb:0<b):(-1099511627776000000≤a.tdiv b∧a.tdiv b≤1099511627776000000)∧(-1099511627776000000≤a.tdiv b*b∧a.tdiv b*b≤1099511627776000000):=by
  have h1:=Int.natAbs_tdiv_le_natAbs a b;have h2:=Int.mul_tdiv_add_tmod a b;have h3:a.tdiv b*b=b*a.tdiv b:=Int.mul_comm _ _;have h4:(0≤a→0≤a.tmod b)∧(a≤0→a.tmod b≤0):=⟨fun h=>Int.tmod_nonneg b h,fun h=>by have:=Int.tmod_nonneg (a:=-a) b (by omega);rw[Int.neg_tmod] at this;omega⟩
  have h5 : (0 ≤ a → 0 ≤ b * a.tdiv b) ∧ (a ≤ 0 → b * a.tdiv b ≤ 0) := ⟨fun h => Int.mul_nonneg (by omega) (Int.tdiv_nonneg h (by omega)), fun h => by
    have h6 := Int.tdiv_nonneg (a := -a) (b := b) (by omega) (by omega)
    rw [Int.neg_tdiv] at h6
    exact Int.mul_nonpos_of_nonneg_of_nonpos (by omega) (by omega)⟩
  rw[h3];omega
theorem down_any (a b:Int) (ha:-1099511627776000000≤a∧a≤1099511627776000000) (hb:0<b) (w:World):Calls Tryz.prog 77 #[.int .i64 a,.int .i64 b] w fun e w'=>e=.returned (.int .i64 (a / b))∧w=w':=by
  have hd:=down_eq a hb;have hq:=Int.mul_tdiv_add_tmod a b;have hl:=tdiv_bd ha hb;refine enter_pure Tryz.func77 rfl Tryz.ntmps77 (by simp) ?_;refine n6 ?_;refine vl (v_quoT rfl rfl (by omega) (by omega)) ?_;refine gg ?_;refine WP.condP rfl (fun h13=>?_) (fun h13=>?_)
  ·rw[if_pos h13] at hd;refine gg ?_;exact rt1 fun w hw=>⟨by rw[←hd];rfl,hw.symm⟩
  ·rw[if_neg h13] at hd;refine gg ?_;exact rt1 fun w hw=>⟨by rw[←hd];rfl,hw.symm⟩
theorem div_any (a b:Int) (w:World):Calls Tryz.prog 180 #[.int .i64 a,.int .i64 b] w fun e w'=>e=.returned (.int .i64 (divI a b))∧w=w':=by
  have h1:=cut_bd a;have h2:=cut_bd b;refine enter_pure Tryz.func180 rfl Tryz.ntmps180 (by simp) ?_;refine gg ?_;refine WP.condP rfl (fun h6=>?_) (fun h6=>?_)
  ·have hr:divI a b=0:=by rw[divI,if_pos h6]
   refine gg ?_;exact rt1 fun w hw=>⟨by rw[hr];rfl,hw.symm⟩
  ·have hr:divI a b=cut a / cut b:=by rw[divI,if_neg h6]
   refine gg ?_;refine vl (vC (cut_any _ _)) ?_;refine gg ?_;refine vl (vC (cut_any _ _)) ?_;refine vl (vC (down_any (cut a) (cut b) (by omega) (by unfold cut;omega) _)) ?_;refine gg ?_;exact rt1 fun w hw=>⟨by rw[hr];rfl,hw.symm⟩
theorem mul_bd1 {a m:Int} (ha:-1099511627776≤a∧a≤1099511627776) (hm:0≤m∧m≤1000000):-1099511627776000000≤a*m∧a*m≤1099511627776000000:=by
  have h1:a*m≤1099511627776*m:=Int.mul_le_mul_of_nonneg_right ha.2 hm.1;have h2:-1099511627776*m≤a*m:=Int.mul_le_mul_of_nonneg_right ha.1 hm.1;omega
theorem part_any (a n:Int) (w:World):Calls Tryz.prog 40 #[.int .i64 a,.int .i64 n] w fun e w'=>e=.returned (.int .i64 (partI a n))∧w=w':=by
  have h1:=cut_bd a;have h2:0≤min (max n 0) 1000000∧min (max n 0) 1000000≤1000000:=by omega
  have h3:=mul_bd1 h1 h2;refine enter_pure Tryz.func40 rfl Tryz.ntmps40 (by simp) ?_;refine gg ?_;refine vl (vC (cut_any _ _)) ?_;refine gg ?_;refine vl (vC (down_any (cut a*min (max n 0) 1000000) 10000 h3 (by decide) _)) ?_;refine vl (vC (cut_any _ _)) ?_;refine gg ?_;exact rt1 fun w hw=>⟨rfl,hw.symm⟩
theorem rcut_any (n:Int) (w:World):Calls Tryz.prog 86 #[.int .i64 n] w fun e w'=>e=.returned (.int .i64 (cut n))∧w=w':=by
  refine enter_pure Tryz.func86 rfl Tryz.ntmps86 (by simp) ?_;refine gg ?_;refine WP.condP rfl (fun h4=>?_) (fun h4=>?_)
  ·have hr:cut n=1099511627776:=by unfold cut;omega
   refine gg ?_;exact rt1 fun w hw=>⟨by rw[hr];rfl,hw.symm⟩
  ·refine gg ?_;refine WP.condP rfl (fun h6=>?_) (fun h6=>?_)
   ·have hr:cut n= -1099511627776:=by unfold cut;omega
    refine gg ?_;exact rt1 fun w hw=>⟨by rw[hr];rfl,hw.symm⟩
   ·have hr:cut n=n:=by unfold cut;omega
    refine gg ?_;exact rt1 fun w hw=>⟨by rw[hr];rfl,hw.symm⟩
theorem radd_any (a b:Int) (w:World):Calls Tryz.prog 152 #[.int .i64 a,.int .i64 b] w fun e w'=>e=.returned (.int .i64 (addI a b))∧w=w':=by
  have h1:=cut_bd a;have h2:=cut_bd b;refine enter_pure Tryz.func152 rfl Tryz.ntmps152 (by simp) ?_;refine gg ?_;refine vl (vC (rcut_any _ _)) ?_;refine gg ?_;refine vl (vC (rcut_any _ _)) ?_;refine gg ?_;refine vl (vC (rcut_any _ _)) ?_;refine gg ?_;exact rt1 fun w hw=>⟨rfl,hw.symm⟩
theorem rsub_any (a b:Int) (w:World):Calls Tryz.prog 151 #[.int .i64 a,.int .i64 b] w fun e w'=>e=.returned (.int .i64 (subI a b))∧w=w':=by
  have h1:=cut_bd a;have h2:=cut_bd b;refine enter_pure Tryz.func151 rfl Tryz.ntmps151 (by simp) ?_;refine gg ?_;refine vl (vC (rcut_any _ _)) ?_;refine gg ?_;refine vl (vC (rcut_any _ _)) ?_;refine gg ?_;refine vl (vC (rcut_any _ _)) ?_;refine gg ?_;exact rt1 fun w hw=>⟨rfl,hw.symm⟩
theorem rdown_any (a b:Int) (ha:-1099511627776000000≤a∧a≤1099511627776000000) (hb:0<b) (w:World):Calls Tryz.prog 147 #[.int .i64 a,.int .i64 b] w fun e w'=>e=.returned (.int .i64 (a / b))∧w=w':=by
  have hd:=down_eq2 a hb;have hq:=Int.mul_tdiv_add_tmod a b;have hl:=tdiv_bd ha hb;refine enter_pure Tryz.func147 rfl Tryz.ntmps147 (by simp) ?_;refine n6 ?_;refine vl (v_quoT rfl rfl (by omega) (by omega)) ?_;refine n6 ?_;refine vl (v_rem rfl rfl (by omega)) ?_;refine gg ?_;refine WP.condP rfl (fun h12=>?_) (fun h12=>?_)
  ·rw[if_pos h12] at hd;refine gg ?_;exact rt1 fun w hw=>⟨by rw[←hd];rfl,hw.symm⟩
  ·rw[if_neg h12] at hd;refine gg ?_;exact rt1 fun w hw=>⟨by rw[←hd];rfl,hw.symm⟩
theorem rdiv_any (a b:Int) (w:World):Calls Tryz.prog 154 #[.int .i64 a,.int .i64 b] w fun e w'=>e=.returned (.int .i64 (divI a b))∧w=w':=by
  have h1:=cut_bd a;have h2:=cut_bd b;refine enter_pure Tryz.func154 rfl Tryz.ntmps154 (by simp) ?_;refine gg ?_;refine WP.condP rfl (fun h6=>?_) (fun h6=>?_)
  ·have hr:divI a b=0:=by rw[divI,if_pos h6]
   refine gg ?_;exact rt1 fun w hw=>⟨by rw[hr];rfl,hw.symm⟩
  ·have hr:divI a b=cut a / cut b:=by rw[divI,if_neg h6]
   refine gg ?_;refine vl (vC (rcut_any _ _)) ?_;refine gg ?_;refine vl (vC (rcut_any _ _)) ?_;refine vl (vC (rdown_any (cut a) (cut b) (by omega) (by unfold cut;omega) _)) ?_;refine gg ?_;exact rt1 fun w hw=>⟨by rw[hr];rfl,hw.symm⟩
theorem rpart_any (a n:Int) (w:World):Calls Tryz.prog 122 #[.int .i64 a,.int .i64 n] w fun e w'=>e=.returned (.int .i64 (partI a n))∧w=w':=by
  have h1:=cut_bd a;have h2:0≤min (max n 0) 1000000∧min (max n 0) 1000000≤1000000:=by omega
  have h3:=mul_bd1 h1 h2;refine enter_pure Tryz.func122 rfl Tryz.ntmps122 (by simp) ?_;refine gg ?_;refine vl (vC (rcut_any _ _)) ?_;refine gg ?_;refine vl (vC (rdown_any (cut a*min (max n 0) 1000000) 10000 h3 (by decide) _)) ?_;refine vl (vC (rcut_any _ _)) ?_;refine gg ?_;exact rt1 fun w hw=>⟨rfl,hw.symm⟩
theorem fixed_ct (k n base:Int):Ct Tryz.prog 18 #[.agg #[.int .i64 k,.int .i64 n],.int .i64 base] [] (fun _=>True) (X:=Unit) (fun _=>.bool (fixedL k base)) (fun _=>True) (fun _=>[]):=by
  refine Ci fun w0 _=>?_;refine gg ?_;refine WPL.ef xB fun b2=>?_;refine gg ?_;refine WP.condP rfl (fun h7=>?_) (fun h7=>?_)
  ·have hr:fixedL k base=true:=by unfold fixedL;first | exact decide_eq_true (by omega) | exact decide_eq_false (by omega)
   refine gg ?_;exact rt1 fun w hw=>⟨(),congrArg Value.bool (by rw[hr]),trivial,hw.pk⟩
  ·refine gg ?_;refine WP.condP rfl (fun h9=>?_) (fun h9=>?_)
   ·have hr:fixedL k base=decide (0≤base):=by unfold fixedL;exact decide_eq_decide.2 (by omega)
    refine gg ?_;exact rt1 fun w hw=>⟨(),congrArg Value.bool (by rw[hr]),trivial,hw.pk⟩
   ·have hr:fixedL k base=false:=by unfold fixedL;first | exact decide_eq_true (by omega) | exact decide_eq_false (by omega)
    refine gg ?_;exact rt1 fun w hw=>⟨(),congrArg Value.bool (by rw[hr]),trivial,hw.pk⟩
theorem lenof_ct (k n base d0:Int):Ct Tryz.prog 19 #[.agg #[.int .i64 k,.int .i64 n],.int .i64 base,.int .i64 d0] [] (fun _=>True) (X:=Unit) (fun _=>.int .i64 (ofL k n base d0)) (fun _=>True) (fun _=>[]):=by
  refine Ci fun w0 _=>?_;refine gg ?_;refine WPL.ef xB fun b3=>?_;refine gg ?_;refine eF (xC (fixed_ct k n base)) fun _ _=>?_;refine gg ?_;refine WP.cond rfl (fun h7=>?_) (fun h7=>?_)
  ·have hf:fixedL k base=false:=by simpa using h7
   have hr:ofL k n base d0=cut d0:=(by unfold ofL;rw[if_pos hf]);refine gg ?_;refine vl (vC (cut_any _ _)) ?_;refine gg ?_;exact rt1 fun w hw=>⟨(),congrArg (Value.int .i64) (by rw[hr]),trivial,hw.pk⟩
  ·refine gg ?_;refine WP.condP rfl (fun h14=>?_) (fun h14=>?_)
   ·have hr:ofL k n base d0=cut n:=by unfold ofL;rw[if_neg (by simp[show fixedL k base=true by simpa using h7]),if_pos h14]
    refine gg ?_;refine vl (vC (cut_any _ _)) ?_;refine gg ?_;exact rt1 fun w hw=>⟨(),congrArg (Value.int .i64) (by rw[hr]),trivial,hw.pk⟩
   ·have hr:ofL k n base d0=partI base n:=by unfold ofL;rw[if_neg (by simp[show fixedL k base=true by simpa using h7]),if_neg h14]
    refine gg ?_;refine vl (vC (part_any _ _ _)) ?_;refine gg ?_;exact rt1 fun w hw=>⟨(),congrArg (Value.int .i64) (by rw[hr]),trivial,hw.pk⟩
theorem limit1_ct (k n base d0:Int) (bb:Nat):Ct Tryz.prog 41 #[.agg #[.int .i64 k,.int .i64 n],.int .i64 d0,.pointer (some ⟨bb,0,none⟩)] [] (fun w=>CellsAt w bb 0 [.int .i64 base]) (X:=Unit) (fun _=>.int .i64 (ofL k n base d0)) (fun _=>True) (fun _=>[]):=by
  refine Ci fun w0 hb=>?_;refine gg ?_;refine WPL.ef xB fun b3=>?_;refine gg ?_;refine vl (vO hb) ?_;refine gg ?_;refine eF (xC (lenof_ct k n base d0)) fun _ _=>?_;refine gg ?_;exact rt1 fun w hw=>⟨(),rfl,trivial,hw.pk⟩
theorem limit_ct (n lk ln hk hn base:Int):Ct Tryz.prog 20 #[.int .i64 n,.agg #[.int .i64 lk,.int .i64 ln],.agg #[.int .i64 hk,.int .i64 hn],.int .i64 base] [] (fun _=>True) (X:=Unit) (fun _=>.int .i64 (limitL n lk ln hk hn base)) (fun _=>True) (fun _=>[]):=by
  refine Ci fun w0 _=>?_;refine gg ?_;refine WPL.ef xB fun b5=>?_;refine WPL.ef xB fun b6=>?_;refine WPL.ef (x_box1 (u:=.int .i64 _) (σ':=fun _=>[_,_,_]) rfl (fun _=>rfl)) (fun b7=>?_);refine n3 ?_;refine vl (v_func) ?_;refine sg rfl ?_;refine gg ?_;refine wP none [0,1,2] [pT 0,pT 1,pT 2,pT 4,pT 5,pF 3,pF 6,pT 7,pT 8,pT 9] ?_;refine WPD.take rfl (v_move (v:=.int .i64 _) rfl) ?_ (fun _ h=>h.sel [0,1,2] (by decide));refine WPD.take rfl (v_move rfl) ?_ (fun _ h=>h.sel [0,1,2] (by decide));refine WPD.take rfl (v_loadA (cs:=[.int .i64 _,.int .i64 _]) Tryz.isAgg27 Tryz.sizeOf27 rfl (fun w hw=>hw.cl_at (i:=0) rfl _ rfl)) ?_ (fun _ h=>h.sel [0,1,2] (by decide));refine WPD.take rfl (v_move rfl) ?_ (fun _ h=>h.sel [0,1,2] (by decide));refine WPD.take rfl (v_loadA (cs:=[.int .i64 _,.int .i64 _]) Tryz.isAgg27 Tryz.sizeOf27 rfl (fun w hw=>hw.cl_at (i:=1) rfl _ rfl)) ?_ (fun _ h=>h.sel [0,1,2] (by decide));refine WPD.ef rfl (x_callV Tryz.call41 (limit1_ct lk ln base (-1099511627776) b7) [] [0,1,2] rfl (fun w hw=>hw.cl_at (i:=2) rfl 0 rfl) (τ:=fun _=>[_,_,_]) (fun _=>rfl)) (fun _ _ _ h=>h.2.sel [0,1,2] (by decide)) (fun _=>?_);refine WPD.fact (fun _=>?_);refine dG (xV (limit1_ct hk hn base (1099511627776) b7) Tryz.call41 (hF:=fun w hw=>hw.cl_at (i:=2) rfl 0 rfl)) fun _ _=>?_;refine tD (vC (clamp_any _ _ _ _)) ?_;refine gg ?_;exact rt1 fun w hw=>⟨(),rfl,trivial,hw.pk⟩
theorem sides_ct (k0 n0 k1 n1 k2 n2 k3 n3 base:Int):Ct Tryz.prog 17 #[.agg #[.int .i64 k0,.int .i64 n0,.int .i64 k1,.int .i64 n1,.int .i64 k2,.int .i64 n2,.int .i64 k3,.int .i64 n3],.int .i64 base] [] (fun _=>True) (X:=Unit) (fun _=>.agg #[.int .i64 (ofL k0 n0 base 0),.int .i64 (ofL k1 n1 base 0),.int .i64 (ofL k2 n2 base 0),.int .i64 (ofL k3 n3 base 0)]) (fun _=>True) (fun _=>[]):=by
  refine Ci fun w0 _=>?_;refine gg ?_;refine WPL.ef xB fun b2=>?_;refine WPL.ef xAl fun b4=>?_;refine gg ?_;refine WPL.ef xAl fun b5=>?_;refine nl (oo ?_);refine sq ?_;refine sqR ?_;refine vl (v_loadA (cs:=[.int .i64 _,.int .i64 _,.int .i64 _,.int .i64 _,.int .i64 _,.int .i64 _,.int .i64 _,.int .i64 _]) Tryz.isAgg28 Tryz.sizeOf28 rfl (fun w hw=>hw.cl_at (i:=0) rfl _ rfl)) ?_;refine mv (v:=.int .i64 (0)) rfl ?_;refine gg ?_;refine WP.loopN 5 ?_;refine WPR.succ ?_;refine gg ?_;refine WP.condT rfl ?_;refine WP.skip (onto_of ?_);refine sq ?_;refine WP.block ?_;refine sqR ?_;refine av ?_;refine vl (v_idxA (j:=0) (us:=#[.int .i64 _,.int .i64 _]) Tryz.underlying28 Tryz.isAgg27 Tryz.sizeOf27 rfl rfl rfl (by decide) rfl) ?_;refine WPL.ef xAl fun b7=>?_;refine gg ?_;refine WPL.ef0 (xW rfl) fun _=>?_;refine gg ?_;refine eF (xC (lenof_ct _ _ base 0)) fun _ _=>?_;refine gg ?_;refine WPL.ef0 (xS rfl (isI rfl)) fun _=>?_;refine nl (oo ?_);refine WP.region ?_
  iterate 2 refine av ?_
  refine WPL.nil (rounds_of ?_);refine WPR.succ ?_;refine gg ?_;refine WP.condT rfl ?_;refine WP.skip (onto_of ?_);refine sq ?_;refine WP.block ?_;refine sqR ?_;refine av ?_;refine vl (v_idxA (j:=1) (us:=#[.int .i64 _,.int .i64 _]) Tryz.underlying28 Tryz.isAgg27 Tryz.sizeOf27 rfl rfl rfl (by decide) rfl) ?_;refine WPL.ef xAl fun b7=>?_;refine gg ?_;refine WPL.ef0 (xW rfl) fun _=>?_;refine gg ?_;refine eF (xC (lenof_ct _ _ base 0)) fun _ _=>?_;refine gg ?_;refine WPL.ef0 (xS rfl (isI rfl)) fun _=>?_;refine nl (oo ?_);refine WP.region ?_
  iterate 2 refine av ?_
  refine WPL.nil (rounds_of ?_);refine WPR.succ ?_;refine gg ?_;refine WP.condT rfl ?_;refine WP.skip (onto_of ?_);refine sq ?_;refine WP.block ?_;refine sqR ?_;refine av ?_;refine vl (v_idxA (j:=2) (us:=#[.int .i64 _,.int .i64 _]) Tryz.underlying28 Tryz.isAgg27 Tryz.sizeOf27 rfl rfl rfl (by decide) rfl) ?_;refine WPL.ef xAl fun b7=>?_;refine gg ?_;refine WPL.ef0 (xW rfl) fun _=>?_;refine gg ?_;refine eF (xC (lenof_ct _ _ base 0)) fun _ _=>?_;refine gg ?_;refine WPL.ef0 (xS rfl (isI rfl)) fun _=>?_;refine nl (oo ?_);refine WP.region ?_
  iterate 2 refine av ?_
  refine WPL.nil (rounds_of ?_);refine WPR.succ ?_;refine gg ?_;refine WP.condT rfl ?_;refine WP.skip (onto_of ?_);refine sq ?_;refine WP.block ?_;refine sqR ?_;refine av ?_;refine vl (v_idxA (j:=3) (us:=#[.int .i64 _,.int .i64 _]) Tryz.underlying28 Tryz.isAgg27 Tryz.sizeOf27 rfl rfl rfl (by decide) rfl) ?_;refine WPL.ef xAl fun b7=>?_;refine gg ?_;refine WPL.ef0 (xW rfl) fun _=>?_;refine gg ?_;refine eF (xC (lenof_ct _ _ base 0)) fun _ _=>?_;refine gg ?_;refine WPL.ef0 (xS rfl (isI rfl)) fun _=>?_;refine nl (oo ?_);refine WP.region ?_
  iterate 2 refine av ?_
  refine WPL.nil (rounds_of ?_);refine WPR.succ ?_;refine gg ?_;refine WP.condF rfl ?_;refine WP.exit (onto_of ?_);refine gg ?_;refine WPL.ef0 (xW rfl) fun _=>?_;refine gg ?_;exact rtC rfl fun w hw=>⟨(),rfl,trivial,hw.pk⟩
theorem rfixed_ct (k n base:Int):Ct Tryz.prog 89 #[.agg #[.int .i64 k,.int .i64 n],.int .i64 base] [] (fun _=>True) (X:=Unit) (fun _=>.bool (fixedL k base)) (fun _=>True) (fun _=>[]):=by
  refine Ci fun w0 _=>?_;refine gg ?_;refine WPL.ef xB fun b2=>?_;refine n7 ?_;refine WPL.split 8 rfl (fun h8=>?_) (fun h8=>?_)
  ·refine gg ?_;exact rt1 fun w hw=>⟨(),congrArg Value.bool (by unfold fixedL;first | exact decide_eq_decide.2 (by omega) | exact(decide_eq_true (by omega)).symm | exact(decide_eq_false (by omega)).symm),trivial,hw.pk⟩
  ·refine n4 ?_;refine WPL.split 12 rfl (fun h12=>?_) (fun h12=>?_)
   ·refine gg ?_;exact rt1 fun w hw=>⟨(),congrArg Value.bool (by unfold fixedL;first | exact decide_eq_decide.2 (by omega) | exact(decide_eq_true (by omega)).symm | exact(decide_eq_false (by omega)).symm),trivial,hw.pk⟩
   ·refine gg ?_;exact rt1 fun w hw=>⟨(),congrArg Value.bool (by unfold fixedL;first | exact decide_eq_decide.2 (by omega) | exact(decide_eq_true (by omega)).symm | exact(decide_eq_false (by omega)).symm),trivial,hw.pk⟩
theorem rof_ct (k n base d0:Int):Ct Tryz.prog 90 #[.agg #[.int .i64 k,.int .i64 n],.int .i64 base,.int .i64 d0] [] (fun _=>True) (X:=Unit) (fun _=>.int .i64 (ofL k n base d0)) (fun _=>True) (fun _=>[]):=by
  refine Ci fun w0 _=>?_;refine gg ?_;refine WPL.ef xB fun b3=>?_;refine gg ?_;refine WP.condP rfl (fun h9=>?_) (fun h9=>?_)
  ·have hr:ofL k n base d0=cut n:=by unfold ofL;rw[if_neg (by unfold fixedL;simp[h9]),if_pos h9]
   refine gg ?_;refine vl (vC (rcut_any _ _)) ?_;refine gg ?_;exact rt1 fun w hw=>⟨(),congrArg (Value.int .i64) (by rw[hr]),trivial,hw.pk⟩
  ·refine n7 ?_;refine WPL.split 16 rfl (fun h16=>?_) (fun h16=>?_)
   ·refine gg ?_;refine WP.condP rfl (fun h19=>?_) (fun h19=>?_)
    ·have hr:ofL k n base d0=partI base n:=by unfold ofL;rw[if_neg (by unfold fixedL;simp;omega),if_neg h9]
     refine gg ?_;refine vl (vC (rpart_any _ _ _)) ?_;refine gg ?_;exact rt1 fun w hw=>⟨(),congrArg (Value.int .i64) (by rw[hr]),trivial,hw.pk⟩
    ·have hr:ofL k n base d0=cut d0:=by unfold ofL;rw[if_pos (by unfold fixedL;exact decide_eq_false (by omega))]
     refine gg ?_;refine vl (vC (rcut_any _ _)) ?_;refine gg ?_;exact rt1 fun w hw=>⟨(),congrArg (Value.int .i64) (by rw[hr]),trivial,hw.pk⟩
   ·refine gg ?_;have hr:ofL k n base d0=cut d0:=by unfold ofL;rw[if_pos (by unfold fixedL;exact decide_eq_false (by omega))]
    refine WP.condF rfl ?_;refine gg ?_;refine vl (vC (rcut_any _ _)) ?_;refine gg ?_;exact rt1 fun w hw=>⟨(),congrArg (Value.int .i64) (by rw[hr]),trivial,hw.pk⟩
theorem ofL_none {k base:Int} (h:fixedL k base=true) (n a b:Int):ofL k n base a=ofL k n base b:=by
  unfold ofL;simp[h]
theorem ofL_free {k base:Int} (h:fixedL k base=false) (n a:Int):ofL k n base a=cut a:=by
  unfold ofL;simp[h]
theorem limit_way (n lk ln hk hn base:Int):limitL n lk ln hk hn base=max (if fixedL lk base then max (if fixedL hk base then min (cut n) (ofL hk hn base 0) else cut n) (ofL lk ln base 0) else (if fixedL hk base then min (cut n) (ofL hk hn base 0) else cut n)) 0:=by
  have h1:=cut_bd n;have h2:=ofL_bd lk ln base 0;have h3:=ofL_bd hk hn base 0;unfold limitL clamp;cases e1:fixedL lk base<;>cases e2:fixedL hk base
  · rw [ofL_free e1, ofL_free e2]
    simp only[Bool.false_eq_true,if_false];unfold cut;omega
  · rw [ofL_free e1, ofL_none e2 hn _ 0, cut_id h3.1 h3.2]
    simp only[Bool.false_eq_true,if_false,if_true];unfold cut at*;omega
  · rw [ofL_free e2, ofL_none e1 ln _ 0, cut_id h2.1 h2.2]
    simp only[Bool.false_eq_true,if_false,if_true];unfold cut at*;omega
  · rw [ofL_none e1 ln _ 0, ofL_none e2 hn _ 0, cut_id h2.1 h2.2, cut_id h3.1 h3.2]
    simp only[if_true];omega
theorem rlimit_ct (n lk ln hk hn base:Int):Ct Tryz.prog 91 #[.int .i64 n,.agg #[.int .i64 lk,.int .i64 ln],.agg #[.int .i64 hk,.int .i64 hn],.int .i64 base] [] (fun _=>True) (X:=Unit) (fun _=>.int .i64 (limitL n lk ln hk hn base)) (fun _=>True) (fun _=>[]):=by
  have hlw:=limit_way n lk ln hk hn base;refine Ci fun w0 _=>?_;refine gg ?_;refine WPL.ef xB fun b5=>?_;refine WPL.ef xB fun b6=>?_;refine gg ?_;refine vl (vC (rcut_any _ _)) ?_;refine gg ?_;refine eF (xC (rfixed_ct hk hn base)) fun _ _=>?_;refine gg ?_;refine WP.cond rfl (fun h13=>?_) (fun h13=>?_)
  case' _=>
   refine gg ?_;refine eF (xC (rof_ct hk hn base 0)) fun _ _=>?_
  rotate_left
  all_goals
   refine gg ?_;refine eF (xC (rfixed_ct lk ln base)) fun _ _=>?_;refine gg ?_;refine WP.cond rfl (fun h21=>?_) (fun h21=>?_)
   ·refine gg ?_;refine eF (xC (rof_ct lk ln base 0)) fun _ _=>?_;refine gg ?_;exact rt1 fun w hw=>⟨(),congrArg (Value.int .i64) (by rw[hlw,h13,h21];rfl),trivial,hw.pk⟩
   ·refine gg ?_;exact rt1 fun w hw=>⟨(),congrArg (Value.int .i64) (by rw[hlw,h13,h21];rfl),trivial,hw.pk⟩
theorem rsides_ct (k0 n0 k1 n1 k2 n2 k3 n3 base:Int):Ct Tryz.prog 121 #[.agg #[.int .i64 k0,.int .i64 n0,.int .i64 k1,.int .i64 n1,.int .i64 k2,.int .i64 n2,.int .i64 k3,.int .i64 n3],.int .i64 base] [] (fun _=>True) (X:=Unit) (fun _=>.agg #[.int .i64 (ofL k0 n0 base 0),.int .i64 (ofL k1 n1 base 0),.int .i64 (ofL k2 n2 base 0),.int .i64 (ofL k3 n3 base 0)]) (fun _=>True) (fun _=>[]):=by
  refine Ci fun w0 _=>?_;refine gg ?_;refine WPL.ef xB fun b2=>?_;refine WPL.ef xAl fun b4=>?_;refine gg ?_;refine wP (some 17) [0,1] [pT 0,pT 1,pT 2,pT 4,pT 5,pT 6,pT 8,pT 9,pT 10,pT 12,pT 13,pT 14,pF 3,pF 7,pF 11,pF 15,pT 16,pF 17] ?_;refine gg ?_;refine dG (xC (rof_ct _ _ base 0)) fun _ _=>?_;refine dG (xC (rof_ct _ _ base 0)) fun _ _=>?_;refine dG (xC (rof_ct _ _ base 0)) fun _ _=>?_;refine dG (xC (rof_ct _ _ base 0)) fun _ _=>?_;refine tE rfl (v_array (us:=[.int .i64 _,.int .i64 _,.int .i64 _,.int .i64 _]) Tryz.underlying29 Tryz.zeroValue29 Tryz.sizeOf3 rfl rfl rfl) ?_;refine dE0 (xW rfl) fun _=>?_;refine gg ?_;exact rtC rfl fun w hw=>⟨(),rfl,trivial,hw.pk⟩
end Go.Proofs.YtpgjbbaplpdaiaaGreat
namespace Go.Proofs.YtpgjbbaplpdaiaaGreat
theorem takeS {α:Type} {l:List α} {i:Nat} {e:α} (h:l[i]?=some e):l.take (i+1)=l.take i++[e]:=by
  rw[List.take_add_one,h];rfl
section
variable {room size bk bn ek en base:Int}
theorem auto_le (h:autoLeft room size (ofL bk bn base 0) (ofL ek en base 0)≤0):autoP room size bk bn ek en base=(ofL bk bn base 0,ofL ek en base 0):=by
  simp only[autoP];rw[if_pos h]
theorem auto_both (h:¬autoLeft room size (ofL bk bn base 0) (ofL ek en base 0)≤0) (h1:fixedL bk base=false) (h2:fixedL ek base=false):autoP room size bk bn ek en base=(autoLeft room size (ofL bk bn base 0) (ofL ek en base 0) / 2,autoLeft room size (ofL bk bn base 0) (ofL ek en base 0) - autoLeft room size (ofL bk bn base 0) (ofL ek en base 0) / 2):=by
  simp only[autoP];rw[if_neg h,if_pos ⟨h1,h2⟩]
theorem auto_first (h:¬autoLeft room size (ofL bk bn base 0) (ofL ek en base 0)≤0) (h1:fixedL bk base=false) (h2:fixedL ek base=true):autoP room size bk bn ek en base=(autoLeft room size (ofL bk bn base 0) (ofL ek en base 0),ofL ek en base 0):=by
  simp only[autoP];rw[if_neg h,if_neg (by simp[h2]),if_pos h1]
theorem auto_last (h:¬autoLeft room size (ofL bk bn base 0) (ofL ek en base 0)≤0) (h1:fixedL bk base=true) (h2:fixedL ek base=false):autoP room size bk bn ek en base=(ofL bk bn base 0,autoLeft room size (ofL bk bn base 0) (ofL ek en base 0)):=by
  simp only[autoP];rw[if_neg h,if_neg (by simp[h1]),if_neg (by simp[h1]),if_pos h2]
theorem auto_none (h1:fixedL bk base=true) (h2:fixedL ek base=true):autoP room size bk bn ek en base=(ofL bk bn base 0,ofL ek en base 0):=by
  simp only[autoP]
  split
  · rfl
  · rw[if_neg (by simp[h1]),if_neg (by simp[h1]),if_neg (by simp[h2])]
end
section
variable {sizes tops bottoms:List Int} {k:Nat} {x y z:Int}
theorem stk_len:(stkStarts sizes tops bottoms).length=sizes.length:=by simp[stkStarts]
theorem stk_get (h:k<sizes.length):(stkStarts sizes tops bottoms)[k]?=some (stkStart sizes tops bottoms k):=by
  simp[stkStarts,h]
theorem stk_take (h:k<sizes.length):(stkStarts sizes tops bottoms).take (k+1)=(stkStarts sizes tops bottoms).take k++[stkStart sizes tops bottoms k]:=takeS (stk_get h)
theorem stkAt_succ (hx:sizes[k]?=some x):addI (stkStart sizes tops bottoms k) x=stkAt sizes tops bottoms (k+1):=by rw[stkAt,gI_at hx]
theorem stkStart_succ (hy:bottoms[k]?=some y) (hz:tops[k+1]?=some z):addI (stkAt sizes tops bottoms (k+1)) (collP [y,z])=stkStart sizes tops bottoms (k+1):=by rw[stkAt,stkStart,gI_at hy,gI_at hz]
theorem stkStart_zero:stkAt sizes tops bottoms 0=stkStart sizes tops bottoms 0:=by rw[stkAt,stkStart]
theorem stkAt_bd (sizes tops bottoms:List Int) (k:Nat):-1099511627776≤stkAt sizes tops bottoms k∧stkAt sizes tops bottoms k≤1099511627776:=by
  cases k with
  | zero=>rw[stkAt];omega
  | succ k=>rw[stkAt];exact addI_bd _ _
theorem stkStart_bd (sizes tops bottoms:List Int) (k:Nat):-1099511627776≤stkStart sizes tops bottoms k∧stkStart sizes tops bottoms k≤1099511627776:=by
  cases k with
  | zero=>rw[stkStart];omega
  | succ k=>rw[stkStart];exact addI_bd _ _
end
theorem long_gap {l:List Int} {gap x:Int} {k:Nat} (h:k≠0) (hx:l[k]?=some x):addI (addI (longK l gap k) gap) x=longK l gap (k+1):=by rw[longK,if_neg h,gI_at hx]
theorem long_first {l:List Int} {gap x:Int} (hx:l[0]?=some x):addI (longK l gap 0) x=longK l gap (0+1):=by rw[longK.eq_2,if_pos rfl,gI_at hx]
theorem longK_take (l:List Int) (gap:Int):∀(k m:Nat),k≤m→longK (l.take m) gap k=longK l gap k
  | 0,_,_=>by rw[longK,longK]
  | k + 1, m, h => by
    have e:gI (l.take m) k=gI l k:=by unfold gI;simp only[List.getD_eq_getElem?_getD];rw[List.getElem?_take,if_pos (by omega)]
    rw[longK,longK,longK_take l gap k m (by omega),e]
theorem longP_snoc {l:List Int} (gap x:Int) (h:l≠[]):longP (l++[x]) gap=addI (addI (longP l gap) gap) x:=by
  have h1:=longK_take (l++[x]) gap l.length l.length (Nat.le_refl _);rw[List.take_left' rfl] at h1;have h2:l.length≠0:=fun e=>h (List.eq_nil_of_length_eq_zero e);unfold longP;rw[List.length_append,List.length_singleton,longK,if_neg h2,←h1]
  congr 1
  unfold gI;simp[List.getD_eq_getElem?_getD]
theorem addI_zero (x:Int):addI 0 x=cut x:=by
  unfold addI;rw[cut_id (n:=0) (by omega) (by omega),Int.zero_add,cut_cut]
theorem longP_one (gap x:Int):longP [x] gap=cut x:=by
  unfold longP;show longK [x] gap (0+1)=_;rw[←long_first (l:=[x]) (gap:=gap) (x:=x) (by rfl),longK,addI_zero]
theorem longK_bd (l:List Int) (gap:Int) (k:Nat):-1099511627776≤longK l gap k∧longK l gap k≤1099511627776:=by
  cases k with
  | zero=>rw[longK];omega
  | succ k=>rw[longK];exact addI_bd _ _
section
variable (l:List Int) (room gap:Int) (wrap:Bool)
def brkS:Nat→List (Nat×Nat)×Nat×Int
  | 0=>([],0,0)
  | i + 1 =>
    if i=(brkS i).2.1 then ((brkS i).1,(brkS i).2.1,cut (gI l i))
    else if i<(brkS i).2.1+64∧(wrap=false∨addI (addI (brkS i).2.2 gap) (gI l i)≤room) then ((brkS i).1,(brkS i).2.1,addI (addI (brkS i).2.2 gap) (gI l i))
    else ((brkS i).1++[((brkS i).2.1,i)],i,cut (gI l i))
def breaksP:List (Nat×Nat):=if (brkS l room gap wrap l.length).2.1<l.length then (brkS l room gap wrap l.length).1++[((brkS l room gap wrap l.length).2.1,l.length)] else (brkS l room gap wrap l.length).1
variable {l room gap wrap} {i f:Nat} {o:List (Nat×Nat)} {n x:Int}
theorem brk_same (h:brkS l room gap wrap i=(o,f,n)) (hx:l[i]?=some x) (he:i=f):brkS l room gap wrap (i+1)=(o,f,cut x):=by
  rw[brkS,h,gI_at hx];simp[he]
theorem brk_more (h:brkS l room gap wrap i=(o,f,n)) (hx:l[i]?=some x) (he:i≠f) (h1:i<f+64) (h2:wrap=false∨addI (addI n gap) x≤room):brkS l room gap wrap (i+1)=(o,f,addI (addI n gap) x):=by
  rw[brkS,h,gI_at hx];simp only;rw[if_neg he,if_pos ⟨h1,h2⟩]
theorem brk_next (h:brkS l room gap wrap i=(o,f,n)) (hx:l[i]?=some x) (he:i≠f) (h2:¬(i<f+64∧(wrap=false∨addI (addI n gap) x≤room))):brkS l room gap wrap (i+1)=(o++[(f,i)],i,cut x):=by
  rw[brkS,h,gI_at hx];simp only;rw[if_neg he,if_neg h2]
theorem brk_le:∀i,(brkS l room gap wrap i).2.1≤i
  | 0=>Nat.le_refl _
  | i + 1 => by
    have h:=brk_le i;rw[brkS]
    repeat' split
    all_goals simp only;omega
theorem brk_lt:∀i,(brkS l room gap wrap (i+1)).2.1≤i:=fun i=>by
  have h:=brk_le (l:=l) (room:=room) (gap:=gap) (wrap:=wrap) i;rw[brkS]
  repeat' split
  all_goals simp only;omega
theorem breaks_all (h:brkS l room gap wrap l.length=(o,f,n)) (hf:f<l.length):breaksP l room gap wrap=o++[(f,l.length)]:=by
  unfold breaksP;rw[h];simp[hf]
theorem breaks_nil (h:l.length=0):breaksP l room gap wrap=[]:=by
  have:l=[]:=List.eq_nil_of_length_eq_zero h;subst this;rfl
theorem brk_mono:∀(i:Nat) (m:Nat),m≤(brkS l room gap wrap i).1.length→∀j,i≤j→(brkS l room gap wrap j).1.take m=(brkS l room gap wrap i).1.take m∧(brkS l room gap wrap i).1.length≤(brkS l room gap wrap j).1.length:=by
  intro i m hm j hj;induction j with
  | zero => obtain rfl : i = 0 := by omega
            exact⟨rfl,Nat.le_refl _⟩
  | succ j ih =>
    by_cases e:i=j+1
    · subst e;exact⟨rfl,Nat.le_refl _⟩
    · obtain ⟨h1, h2⟩ := ih (by omega)
      rw[brkS]
      split
      · exact⟨h1,h2⟩
      · split
        · exact⟨h1,h2⟩
        · simp only
          refine⟨?_,by rw[List.length_append];omega⟩;rw[List.take_append_of_le_length (by omega)];exact h1
theorem breaks_get (h:brkS l room gap wrap (i+1)=(o++[(f,i)],i,n)) (hi:i<l.length):(breaksP l room gap wrap)[o.length]?=some (f,i):=by
  have h1:=brk_mono (l:=l) (room:=room) (gap:=gap) (wrap:=wrap) (i+1) (o.length+1) (by rw[h];simp) l.length (by omega);rw[h] at h1;simp only[List.length_append,List.length_singleton] at h1;have h2:(brkS l room gap wrap l.length).1[o.length]?=some (f,i):=by
    have h3:((brkS l room gap wrap l.length).1.take (o.length+1))[o.length]?=some (f,i):=by
      rw[h1.1,List.take_of_length_le (by simp),List.getElem?_append_right (Nat.le_refl _)];simp
    rw[List.getElem?_take,if_pos (by omega)] at h3;exact h3
  unfold breaksP
  split
  · rw[List.getElem?_append_left (List.getElem?_eq_some_iff.1 h2).1];exact h2
  · exact h2
theorem breaks_last (h:brkS l room gap wrap l.length=(o,f,n)) (hf:f<l.length):(breaksP l room gap wrap)[o.length]?=some (f,l.length)∧(breaksP l room gap wrap).length=o.length+1:=by
  rw[breaks_all h hf];constructor
  · rw[List.getElem?_append_right (Nat.le_refl _)];simp
  · simp
theorem brk_count:∀i,(brkS l room gap wrap i).1.length≤(brkS l room gap wrap i).2.1
  | 0=>Nat.le_refl _
  | i + 1 => by
    have h:=brk_count i;have h2:=brk_le (l:=l) (room:=room) (gap:=gap) (wrap:=wrap) i;rw[brkS]
    split
    · exact h
    · split
      · exact h
      · simp only[List.length_append,List.length_singleton];omega
theorem breaks_count:(breaksP l room gap wrap).length≤l.length:=by
  have h:=brk_count (l:=l) (room:=room) (gap:=gap) (wrap:=wrap) l.length;have h2:=brk_le (l:=l) (room:=room) (gap:=gap) (wrap:=wrap) l.length;unfold breaksP
  split
  · simp only[List.length_append,List.length_singleton];omega
  · omega
end
def encP2 (p:Nat×Nat):List Value:=[.int .i64 (p.1:Int),.int .i64 (p.2:Int)]
section
variable {kind left n:Int}
theorem mulI_zero (a:Int):mulI a 0=0:=by
  unfold mulI;rw[cut_id (n:=0) (by omega) (by omega),Int.mul_zero];rfl
theorem divI_zero (a:Int):divI 0 a=0:=by
  unfold divI
  split
  · rfl
  · rw[cut_id (n:=0) (by omega) (by omega),Int.zero_ediv]
theorem beforeP_bd {k:Int} (h:-1099511627776≤left∧left≤1099511627776):-1099511627776≤beforeP kind left n k∧beforeP kind left n k≤1099511627776:=by
  unfold beforeP partJ
  repeat' split
  all_goals first | exact h | exact divI_bd _ _ | omega
theorem kindJ_two {k1:Int} (h:(if (kind=4∨kind=5)∧left≤0 then 2 else kind)=k1):kindJ kind left n=if k1=3∧(left≤0∨n<2) then 0 else k1:=by
  subst h;unfold kindJ
  by_cases hq:(kind=4∨kind=5)∧left≤0
  · rw[if_pos hq,if_pos hq,if_neg (by omega)]
  · rw[if_neg hq,if_neg hq]
def aheadP (kind left n:Int) (k:Nat):Int:=beforeP kind left n k - (if k=0 then 0 else beforeP kind left n ((k:Int) - 1))
theorem bef1 (k:Int) (h:kindJ kind left n=1):beforeP kind left n k=left:=by unfold beforeP;rw[if_pos h]
theorem bef2 (k:Int) (h:kindJ kind left n=2):beforeP kind left n k=divI left 2:=by unfold beforeP;rw[if_neg (by omega),if_pos h]
theorem bef3 (k:Int) (h:kindJ kind left n=3):beforeP kind left n k=partJ left k (n - 1):=by unfold beforeP;rw[if_neg (by omega),if_neg (by omega),if_pos h]
theorem bef4 (k:Int) (h:kindJ kind left n=4):beforeP kind left n k=partJ left (2*k+1) (2*n):=by unfold beforeP;rw[if_neg (by omega),if_neg (by omega),if_neg (by omega),if_pos h]
theorem bef5 (k:Int) (h:kindJ kind left n=5):beforeP kind left n k=partJ left (k+1) (n+1):=by unfold beforeP;rw[if_neg (by omega),if_neg (by omega),if_neg (by omega),if_neg (by omega),if_pos h]
theorem bef0 (k:Int) (h1:kindJ kind left n≠1) (h2:kindJ kind left n≠2) (h3:kindJ kind left n≠3) (h4:kindJ kind left n≠4) (h5:kindJ kind left n≠5):beforeP kind left n k=0:=by unfold beforeP;rw[if_neg h1,if_neg h2,if_neg h3,if_neg h4,if_neg h5]
theorem ahead1 (k:Nat) (h:kindJ kind left n=1):aheadP kind left n k=if k=0 then left else 0:=by
  unfold aheadP;rw[bef1 _ h,bef1 _ h];split<;>omega
theorem ahead2 (k:Nat) (h:kindJ kind left n=2):aheadP kind left n k=if k=0 then divI left 2 else 0:=by
  unfold aheadP;rw[bef2 _ h,bef2 _ h];split<;>omega
theorem ahead3 (k:Nat) (h:kindJ kind left n=3):aheadP kind left n k=if k=0 then 0 else partJ left k (n - 1) - partJ left ((k:Int) - 1) (n - 1):=by
  unfold aheadP;rw[bef3 _ h,bef3 _ h]
  split
  · rename_i e;subst e;simp[partJ,mulI_zero,divI_zero]
  · rfl
theorem ahead4 (k:Nat) (h:kindJ kind left n=4):aheadP kind left n k=if k=0 then partJ left 1 (2*n) else partJ left (2*k+1) (2*n) - partJ left (2*k - 1) (2*n):=by
  unfold aheadP;rw[bef4 _ h,bef4 _ h]
  split
  · rename_i e;subst e;simp
  · rw[show 2*((k:Int) - 1)+1=2*k - 1 by omega]
theorem ahead5 (k:Nat) (h:kindJ kind left n=5):aheadP kind left n k=if k=0 then partJ left 1 (n+1) else partJ left (k+1) (n+1) - partJ left k (n+1):=by
  unfold aheadP;rw[bef5 _ h,bef5 _ h]
  split
  · rename_i e;subst e;simp
  · rw[show (k:Int) - 1+1=k by omega]
theorem aheadR {k:Nat} (h0:k≠0) (h3:kindJ kind left n≠3) (h4:kindJ kind left n≠4) (h5:kindJ kind left n≠5):aheadP kind left n k=0:=by
  by_cases h1:kindJ kind left n=1
  · rw[ahead1 k h1,if_neg h0]
  · by_cases h2 : kindJ kind left n = 2
    · rw[ahead2 k h2,if_neg h0]
    · unfold aheadP;rw[bef0 _ h1 h2 h3 h4 h5,bef0 _ h1 h2 h3 h4 h5];split<;>rfl
theorem aheadZ {k:Nat} (h0:k=0) (h1:kindJ kind left n≠1) (h2:kindJ kind left n≠2) (h4:kindJ kind left n≠4) (h5:kindJ kind left n≠5):aheadP kind left n k=0:=by
  by_cases h3:kindJ kind left n=3
  · rw[ahead3 k h3,if_pos h0]
  · unfold aheadP;rw[bef0 _ h1 h2 h3 h4 h5,bef0 _ h1 h2 h3 h4 h5];split<;>rfl
end
section
variable {kind left gap:Int} {l:List Int} {k:Nat} {x:Int}
theorem starts_len (kind:Int) (l:List Int) (room gap:Int):(startsP kind l room gap).length=l.length:=by simp[startsP]
theorem jAt_succ (hx:l[k]?=some x):addI (jStart kind left gap l k) x=jAt kind left gap l (k+1):=by rw[jAt,gI_at hx];rfl
theorem starts_get {kind:Int} {l:List Int} {room gap:Int} {k:Nat} (h:k<l.length):(startsP kind l room gap)[k]?=some (jStart kind (subI room (longP l gap)) gap l k):=by simp[startsP,h]
theorem starts_take (kind:Int) (l:List Int) (room gap:Int) {k:Nat} (h:k<l.length):(startsP kind l room gap).take (k+1)=(startsP kind l room gap).take k++[jStart kind (subI room (longP l gap)) gap l k]:=takeS (by simp[startsP,h])
end
end Go.Proofs.YtpgjbbaplpdaiaaGreat
