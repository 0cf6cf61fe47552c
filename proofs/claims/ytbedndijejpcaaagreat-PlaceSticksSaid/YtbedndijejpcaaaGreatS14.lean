/- Nums Lens FlowNum2 Nums2 Nums3 -/
import Derived.Test.YtbedndijejpcaaaGreatS13
set_option linter.unusedVariables false
set_option linter.unusedSimpArgs false
set_option linter.unusedSectionVars false
set_option maxRecDepth 100000
set_option maxHeartbeats 8000000
namespace Go.Proofs.YtbedndijejpcaaaGreat
open Go.RowKit
theorem add_any (a b:Int) (w:World):Calls Tryz.prog 68 #[.int .i64 a,.int .i64 b] w fun e w'=>e=.returned (.int .i64 (addI a b))∧w=w':=by
  have h1:=cut_bd a;have h2:=cut_bd b;refine enter_pure Tryz.func68 rfl Tryz.ntmps68 (by simp) ?_;refine gg ?_;refine vl (vC (cut_any _ _)) ?_;refine gg ?_;refine vl (vC (cut_any _ _)) ?_;refine gg ?_;refine vl (vC (cut_any _ _)) ?_;refine gg ?_;exact rt1 fun w hw=>⟨rfl,hw.symm⟩
theorem sub_any (a b:Int) (w:World):Calls Tryz.prog 67 #[.int .i64 a,.int .i64 b] w fun e w'=>e=.returned (.int .i64 (subI a b))∧w=w':=by
  have h1:=cut_bd a;have h2:=cut_bd b;refine enter_pure Tryz.func67 rfl Tryz.ntmps67 (by simp) ?_;refine gg ?_;refine vl (vC (cut_any _ _)) ?_;refine gg ?_;refine vl (vC (cut_any _ _)) ?_;refine gg ?_;refine vl (vC (cut_any _ _)) ?_;refine gg ?_;exact rt1 fun w hw=>⟨rfl,hw.symm⟩
theorem size_any (a:Int) (h:-1099511627776≤a∧a≤1099511627776) (w:World):Calls Tryz.prog 258 #[.int .i64 a] w fun e w'=>e=.returned (.int .u64 (a.natAbs:Int))∧w=w':=by
  refine enter_pure Tryz.func258 rfl Tryz.ntmps258 (by simp) ?_;refine sqR ?_;refine sg (v:=.int .u64 (0)) rfl ?_;refine gg ?_;refine WP.condP rfl (fun h4=>?_) (fun h4=>?_)
  ·have hr:(a.natAbs:Int)= -a:=by omega
   refine sqR ?_;refine av ?_;refine vl (v_neg rfl (by omega)) ?_;refine vl (v_conv (m':=-a) Tryz.underlying3 Tryz.underlying253 rfl (IntWalk.u64_in _ (by omega))) ?_;refine sg (v:=.int .u64 _) rfl ?_;refine gg ?_;exact rt1 fun w hw=>⟨by rw[hr];rfl,hw.symm⟩
  ·have hr:(a.natAbs:Int)=a:=by omega
   refine WP.skip (onto_of ?_);refine sqR ?_;refine av ?_;refine vl (v_conv (m':=a) Tryz.underlying3 Tryz.underlying253 rfl (IntWalk.u64_in _ (by omega))) ?_;refine sg (v:=.int .u64 _) rfl ?_;refine gg ?_;exact rt1 fun w hw=>⟨by rw[hr];rfl,hw.symm⟩
theorem times_any (a b:Int) (ha:0≤a∧a≤1099511627776) (hb:0≤b∧b≤1099511627776) (w:World):Calls Tryz.prog 257 #[.int .u64 a,.int .u64 b] w fun e w'=>e=.returned (.int .i64 (min (a*b) 1099511627776))∧w=w':=by
  have hid:=times_id a b;have hb1:0≤a / 4294967296∧a / 4294967296≤256:=by omega
  have hb2:0≤b / 4294967296∧b / 4294967296≤256:=by omega
  have hb3:0≤a % 4294967296∧a % 4294967296≤4294967295:=by omega
  have hb4:0≤b % 4294967296∧b % 4294967296≤4294967295:=by omega
  have h22:0≤a % 4294967296*(b / 4294967296)∧a % 4294967296*(b / 4294967296)≤18446744073709551615:=⟨Int.mul_nonneg hb3.1 hb2.1,Int.le_trans (Int.mul_le_mul hb3.2 hb2.2 hb2.1 (by decide)) (by decide)⟩;have h25:0≤a / 4294967296*(b % 4294967296)∧a / 4294967296*(b % 4294967296)≤18446744073709551615:=⟨Int.mul_nonneg hb1.1 hb4.1,Int.le_trans (Int.mul_le_mul hb1.2 hb4.2 hb4.1 (by decide)) (by decide)⟩;have h22':a % 4294967296*(b / 4294967296)≤1099511627776:=Int.le_trans (Int.mul_le_mul hb3.2 hb2.2 hb2.1 (by decide)) (by decide);have h25':a / 4294967296*(b % 4294967296)≤1099511627776:=Int.le_trans (Int.mul_le_mul hb1.2 hb4.2 hb4.1 (by decide)) (by decide);have h29:0≤a / 4294967296*(b / 4294967296)∧a / 4294967296*(b / 4294967296)≤18446744073709551615:=⟨Int.mul_nonneg hb1.1 hb2.1,Int.le_trans (Int.mul_le_mul hb1.2 hb2.2 hb2.1 (by decide)) (by decide)⟩;have h38:0≤a % 4294967296*(b % 4294967296)∧a % 4294967296*(b % 4294967296)≤18446744073709551615:=⟨Int.mul_nonneg hb3.1 hb4.1,Int.le_trans (Int.mul_le_mul hb3.2 hb4.2 hb4.1 (by decide)) (by decide)⟩;refine enter_pure Tryz.func257 rfl Tryz.ntmps257 (by simp) ?_;refine sqR ?_;refine av ?_;refine nl (oo ?_);refine sqR ?_;refine mv (v:=.int .u64 _) rfl ?_;refine vl (v_lowU rfl rfl (by omega)) ?_;refine mv (v:=.int .u64 _) rfl ?_;refine vl (v_shrU rfl rfl) ?_;refine sg (v:=.int .u64 _) rfl ?_;refine sg (v:=.int .u64 _) rfl ?_;refine nl (oo ?_);refine sqR ?_;refine mv (v:=.int .u64 _) rfl ?_;refine vl (v_lowU rfl rfl (by omega)) ?_;refine mv (v:=.int .u64 _) rfl ?_;refine vl (v_shrU rfl rfl) ?_;refine sg (v:=.int .u64 _) rfl ?_;refine sg (v:=.int .u64 _) rfl ?_;refine nl (oo ?_);refine sqR ?_;refine mv (v:=.int .u64 _) rfl ?_;refine mv (v:=.int .u64 _) rfl ?_;refine vl (v_mulU rfl rfl h22) ?_;refine mv (v:=.int .u64 _) rfl ?_;refine mv (v:=.int .u64 _) rfl ?_;refine vl (v_mulU rfl rfl h25) ?_;refine vl (v_addU rfl rfl (by omega)) ?_;refine sg (v:=.int .u64 _) rfl ?_;refine nl (oo ?_);refine sq ?_;refine sqR ?_;refine mv (v:=.int .u64 _) rfl ?_;refine mv (v:=.int .u64 _) rfl ?_;refine vl (v_mulU rfl rfl h29) ?_;refine vl (v_gtrU rfl rfl) ?_;refine av ?_;refine WPL.split 31 rfl (fun h31=>?_) (fun h31=>?_)
  ·refine gg ?_;have hr:min (a*b) 1099511627776=1099511627776:=by omega
   refine WP.condT rfl ?_;refine gg ?_;exact rt1 fun w hw=>⟨by rw[hr];rfl,hw.symm⟩
  ·refine vg (v_move (v:=.int .u64 _) rfl) ?_;refine vg (v_shrU rfl rfl) ?_;refine vg (v_gtrU rfl rfl) ?_;refine gg ?_;refine WP.condP rfl (fun h35=>?_) (fun h35=>?_)
   ·have hr:min (a*b) 1099511627776=1099511627776:=by omega
    refine gg ?_;exact rt1 fun w hw=>⟨by rw[hr];rfl,hw.symm⟩
   ·refine WP.skip (onto_of ?_);refine sqR ?_;refine mv (v:=.int .u64 _) rfl ?_;refine mv (v:=.int .u64 _) rfl ?_;refine vl (v_mulU rfl rfl h38) ?_;refine sg (v:=.int .u64 _) rfl ?_;refine nl (oo ?_);refine sqR ?_;refine mv (v:=.int .u64 _) rfl ?_;refine vl (v_shlU rfl rfl (by omega)) ?_;refine mv (v:=.int .u64 _) rfl ?_;refine vl (v_addUw rfl rfl) ?_;refine sg (v:=.int .u64 _) rfl ?_;refine nl (oo ?_);refine sq ?_;refine sqR ?_;refine mv (v:=.int .u64 _) rfl ?_;refine mv (v:=.int .u64 _) rfl ?_;refine vl (v_lssU rfl rfl) ?_;refine av ?_;refine WPL.split 46 rfl (fun h46=>?_) (fun h46=>?_)
    ·refine gg ?_;have hr:min (a*b) 1099511627776=1099511627776:=by omega
     refine WP.condT rfl ?_;refine gg ?_;exact rt1 fun w hw=>⟨by rw[hr];rfl,hw.symm⟩
    ·refine vg (v_move (v:=.int .u64 _) rfl) ?_;refine vg (v_gtrU rfl rfl) ?_;refine gg ?_;refine WP.condP rfl (fun h49=>?_) (fun h49=>?_)
     ·have hr:min (a*b) 1099511627776=1099511627776:=by omega
      refine gg ?_;exact rt1 fun w hw=>⟨by rw[hr];rfl,hw.symm⟩
     ·have hr:min (a*b) 1099511627776=a*b:=by omega
      refine WP.skip (onto_of ?_);refine sqR ?_;refine mv (v:=.int .u64 _) rfl ?_;refine vl (v_conv (m':=a*b) Tryz.underlying253 Tryz.underlying3 rfl (by rw[IntWalk.i64_in _ (by omega)];omega)) ?_;refine gg ?_;exact rt1 fun w hw=>⟨by rw[hr];rfl,hw.symm⟩
theorem mul_any (a b:Int) (w:World):Calls Tryz.prog 244 #[.int .i64 a,.int .i64 b] w fun e w'=>e=.returned (.int .i64 (mulI a b))∧w=w':=by
  have h1:=cut_bd a;have h2:=cut_bd b;have hm:0≤((cut a).natAbs:Int)*((cut b).natAbs:Int):=Int.mul_nonneg (by omega) (by omega);refine enter_pure Tryz.func244 rfl Tryz.ntmps244 (by simp) ?_;refine gg ?_;refine vl (vC (cut_any _ _)) ?_;refine gg ?_;refine vl (vC (cut_any _ _)) ?_;refine gg ?_;refine vl (vC (size_any _ (cut_bd a) _)) ?_;refine gg ?_;refine vl (vC (size_any _ (cut_bd b) _)) ?_;refine vl (vC (times_any ((cut a).natAbs:Int) ((cut b).natAbs:Int) (by omega) (by omega) _)) ?_;refine av ?_;refine nl (oo ?_);refine sq ?_;refine sqR ?_
  iterate 4 refine av ?_
  refine vl (v_neB Tryz.underlying4 rfl rfl) ?_;refine gg ?_;refine WP.cond rfl (fun h19=>?_) (fun h19=>?_)
  ·have hr:mulI a b= -min (((cut a).natAbs:Int)*((cut b).natAbs:Int)) 1099511627776:=by
     rw[mulI,cut_mul,if_neg (fun e=>by simp[e] at h19)];rw[Int.natCast_mul]
   refine sqR ?_;refine av ?_;refine vl (v_neg rfl (by omega)) ?_;refine gg ?_;exact rt1 fun w hw=>⟨by rw[hr];rfl,hw.symm⟩
  ·have hr:mulI a b=min (((cut a).natAbs:Int)*((cut b).natAbs:Int)) 1099511627776:=by
     rw[mulI,cut_mul,if_pos (by simpa using h19)];rw[Int.natCast_mul]
   refine gg ?_;exact rt1 fun w hw=>⟨by rw[hr];rfl,hw.symm⟩
theorem tdiv_bd {a b:Int} (ha:-1099511627776000000≤a∧a≤1099511627776000000) (hb:0<b):(-1099511627776000000≤a.tdiv b∧a.tdiv b≤1099511627776000000)∧(-1099511627776000000≤a.tdiv b*b∧a.tdiv b*b≤1099511627776000000):=by
  have h1:=Int.natAbs_tdiv_le_natAbs a b;have h2:=Int.mul_tdiv_add_tmod a b;have h3:a.tdiv b*b=b*a.tdiv b:=Int.mul_comm _ _;have h4:(0≤a→0≤a.tmod b)∧(a≤0→a.tmod b≤0):=⟨fun h=>Int.tmod_nonneg b h,fun h=>by have:=Int.tmod_nonneg (a:=-a) b (by omega);rw[Int.neg_tmod] at this;omega⟩
  have h5 : (0 ≤ a → 0 ≤ b * a.tdiv b) ∧ (a ≤ 0 → b * a.tdiv b ≤ 0) := ⟨fun h => Int.mul_nonneg (by omega) (Int.tdiv_nonneg h (by omega)), fun h => by
    have h6 := Int.tdiv_nonneg (a := -a) (b := b) (by omega) (by omega)
    rw [Int.neg_tdiv] at h6
    exact Int.mul_nonpos_of_nonneg_of_nonpos (by omega) (by omega)⟩
  rw[h3];omega
theorem down_any (a b:Int) (ha:-1099511627776000000≤a∧a≤1099511627776000000) (hb:0<b) (w:World):Calls Tryz.prog 227 #[.int .i64 a,.int .i64 b] w fun e w'=>e=.returned (.int .i64 (a / b))∧w=w':=by
  have hd:=down_eq a hb;have hq:=Int.mul_tdiv_add_tmod a b;have hl:=tdiv_bd ha hb;refine enter_pure Tryz.func227 rfl Tryz.ntmps227 (by simp) ?_;refine sqR ?_;refine av ?_;refine nl (oo ?_);refine sqR ?_
  iterate 2 refine av ?_
  refine vl (v_quoT rfl rfl (by omega) (by omega)) ?_;refine gg ?_;refine WP.condP rfl (fun h13=>?_) (fun h13=>?_)
  ·rw[if_pos h13] at hd;refine gg ?_;exact rt1 fun w hw=>⟨by rw[←hd];rfl,hw.symm⟩
  ·rw[if_neg h13] at hd;refine gg ?_;exact rt1 fun w hw=>⟨by rw[←hd];rfl,hw.symm⟩
theorem div_any (a b:Int) (w:World):Calls Tryz.prog 234 #[.int .i64 a,.int .i64 b] w fun e w'=>e=.returned (.int .i64 (divI a b))∧w=w':=by
  have h1:=cut_bd a;have h2:=cut_bd b;refine enter_pure Tryz.func234 rfl Tryz.ntmps234 (by simp) ?_;refine gg ?_;refine WP.condP rfl (fun h6=>?_) (fun h6=>?_)
  ·have hr:divI a b=0:=by rw[divI,if_pos h6]
   refine gg ?_;exact rt1 fun w hw=>⟨by rw[hr];rfl,hw.symm⟩
  ·have hr:divI a b=cut a / cut b:=by rw[divI,if_neg h6]
   refine gg ?_;refine vl (vC (cut_any _ _)) ?_;refine gg ?_;refine vl (vC (cut_any _ _)) ?_;refine vl (vC (down_any (cut a) (cut b) (by omega) (by unfold cut;omega) _)) ?_;refine gg ?_;exact rt1 fun w hw=>⟨by rw[hr];rfl,hw.symm⟩
theorem mul_bd1 {a m:Int} (ha:-1099511627776≤a∧a≤1099511627776) (hm:0≤m∧m≤1000000):-1099511627776000000≤a*m∧a*m≤1099511627776000000:=by
  have h1:a*m≤1099511627776*m:=Int.mul_le_mul_of_nonneg_right ha.2 hm.1;have h2:-1099511627776*m≤a*m:=Int.mul_le_mul_of_nonneg_right ha.1 hm.1;omega
theorem part_any (a n:Int) (w:World):Calls Tryz.prog 200 #[.int .i64 a,.int .i64 n] w fun e w'=>e=.returned (.int .i64 (partI a n))∧w=w':=by
  have h1:=cut_bd a;have h2:0≤min (max n 0) 1000000∧min (max n 0) 1000000≤1000000:=by omega
  have h3:=mul_bd1 h1 h2;refine enter_pure Tryz.func200 rfl Tryz.ntmps200 (by simp) ?_;refine gg ?_;refine vl (vC (cut_any _ _)) ?_;refine gg ?_;refine vl (vC (down_any (cut a*min (max n 0) 1000000) 10000 h3 (by decide) _)) ?_;refine vl (vC (cut_any _ _)) ?_;refine gg ?_;exact rt1 fun w hw=>⟨rfl,hw.symm⟩
theorem fixed_ct (k n base:Int):Ct Tryz.prog 175 #[.agg #[.int .i64 k,.int .i64 n],.int .i64 base] [] (fun _=>True) (X:=Unit) (fun _=>.bool (fixedL k base)) (fun _=>True) (fun _=>[]):=by
  refine Ci fun w0 _=>?_;refine gg ?_;refine WPL.ef xB fun b2=>?_;refine gg ?_;refine WP.condP rfl (fun h7=>?_) (fun h7=>?_)
  ·have hr:fixedL k base=true:=by unfold fixedL;first | exact decide_eq_true (by omega) | exact decide_eq_false (by omega)
   refine gg ?_;exact rt1 fun w hw=>⟨(),congrArg Value.bool (by rw[hr]),trivial,hw.pk⟩
  ·refine gg ?_;refine WP.condP rfl (fun h9=>?_) (fun h9=>?_)
   ·have hr:fixedL k base=decide (0≤base):=by unfold fixedL;exact decide_eq_decide.2 (by omega)
    refine gg ?_;exact rt1 fun w hw=>⟨(),congrArg Value.bool (by rw[hr]),trivial,hw.pk⟩
   ·have hr:fixedL k base=false:=by unfold fixedL;first | exact decide_eq_true (by omega) | exact decide_eq_false (by omega)
    refine gg ?_;exact rt1 fun w hw=>⟨(),congrArg Value.bool (by rw[hr]),trivial,hw.pk⟩
theorem lenof_ct (k n base d0:Int):Ct Tryz.prog 174 #[.agg #[.int .i64 k,.int .i64 n],.int .i64 base,.int .i64 d0] [] (fun _=>True) (X:=Unit) (fun _=>.int .i64 (ofL k n base d0)) (fun _=>True) (fun _=>[]):=by
  refine Ci fun w0 _=>?_;refine gg ?_;refine WPL.ef xB fun b3=>?_;refine gg ?_;refine eF (xC (fixed_ct k n base)) fun _ _=>?_;refine gg ?_;refine WP.cond rfl (fun h7=>?_) (fun h7=>?_)
  ·have hf:fixedL k base=false:=by simpa using h7
   have hr:ofL k n base d0=cut d0:=(by unfold ofL;rw[if_pos hf]);refine gg ?_;refine vl (vC (cut_any _ _)) ?_;refine gg ?_;exact rt1 fun w hw=>⟨(),congrArg (Value.int .i64) (by rw[hr]),trivial,hw.pk⟩
  ·refine gg ?_;refine WP.condP rfl (fun h14=>?_) (fun h14=>?_)
   ·have hr:ofL k n base d0=cut n:=by unfold ofL;rw[if_neg (by simp[show fixedL k base=true by simpa using h7]),if_pos h14]
    refine gg ?_;refine vl (vC (cut_any _ _)) ?_;refine gg ?_;exact rt1 fun w hw=>⟨(),congrArg (Value.int .i64) (by rw[hr]),trivial,hw.pk⟩
   ·have hr:ofL k n base d0=partI base n:=by unfold ofL;rw[if_neg (by simp[show fixedL k base=true by simpa using h7]),if_neg h14]
    refine gg ?_;refine vl (vC (part_any _ _ _)) ?_;refine gg ?_;exact rt1 fun w hw=>⟨(),congrArg (Value.int .i64) (by rw[hr]),trivial,hw.pk⟩
theorem limit1_ct (k n base d0:Int) (bb:Nat):Ct Tryz.prog 199 #[.agg #[.int .i64 k,.int .i64 n],.int .i64 d0,.pointer (some ⟨bb,0,none⟩)] [] (fun w=>CellsAt w bb 0 [.int .i64 base]) (X:=Unit) (fun _=>.int .i64 (ofL k n base d0)) (fun _=>True) (fun _=>[]):=by
  refine Ci fun w0 hb=>?_;refine gg ?_;refine WPL.ef xB fun b3=>?_;refine gg ?_;refine vl (vO hb) ?_;refine gg ?_;refine eF (xC (lenof_ct k n base d0)) fun _ _=>?_;refine gg ?_;exact rt1 fun w hw=>⟨(),rfl,trivial,hw.pk⟩
theorem limit_ct (n lk ln hk hn base:Int):Ct Tryz.prog 173 #[.int .i64 n,.agg #[.int .i64 lk,.int .i64 ln],.agg #[.int .i64 hk,.int .i64 hn],.int .i64 base] [] (fun _=>True) (X:=Unit) (fun _=>.int .i64 (limitL n lk ln hk hn base)) (fun _=>True) (fun _=>[]):=by
  refine Ci fun w0 _=>?_;refine gg ?_;refine WPL.ef xB fun b5=>?_;refine WPL.ef xB fun b6=>?_;refine WPL.ef (x_box1 (u:=.int .i64 _) (σ':=fun _=>[_,_,_]) rfl (fun _=>rfl)) (fun b7=>?_);refine av ?_;refine nl (oo ?_);refine sqR ?_;refine vl (v_func) ?_;refine sg rfl ?_;refine gg ?_;refine wP none [0,1,2] [pT 0,pT 1,pT 2,pT 4,pT 5,pF 3,pF 6,pT 7,pT 8,pT 9] ?_;refine WPD.take rfl (v_move (v:=.int .i64 _) rfl) ?_ (fun _ h=>h.sel [0,1,2] (by decide));refine WPD.take rfl (v_move rfl) ?_ (fun _ h=>h.sel [0,1,2] (by decide));refine WPD.take rfl (v_loadA (cs:=[.int .i64 _,.int .i64 _]) Tryz.isAgg33 Tryz.sizeOf33 rfl (fun w hw=>hw.cl_at (i:=0) rfl _ rfl)) ?_ (fun _ h=>h.sel [0,1,2] (by decide));refine WPD.take rfl (v_move rfl) ?_ (fun _ h=>h.sel [0,1,2] (by decide));refine WPD.take rfl (v_loadA (cs:=[.int .i64 _,.int .i64 _]) Tryz.isAgg33 Tryz.sizeOf33 rfl (fun w hw=>hw.cl_at (i:=1) rfl _ rfl)) ?_ (fun _ h=>h.sel [0,1,2] (by decide));refine WPD.ef rfl (x_callV Tryz.call199 (limit1_ct lk ln base (-1099511627776) b7) [] [0,1,2] rfl (fun w hw=>hw.cl_at (i:=2) rfl 0 rfl) (τ:=fun _=>[_,_,_]) (fun _=>rfl)) (fun _ _ _ h=>h.2.sel [0,1,2] (by decide)) (fun _=>?_);refine WPD.fact (fun _=>?_);refine dG (xV (limit1_ct hk hn base (1099511627776) b7) Tryz.call199 (hF:=fun w hw=>hw.cl_at (i:=2) rfl 0 rfl)) fun _ _=>?_;refine tD (vC (clamp_any _ _ _ _)) ?_;refine gg ?_;exact rt1 fun w hw=>⟨(),rfl,trivial,hw.pk⟩
theorem sides_ct (k0 n0 k1 n1 k2 n2 k3 n3 base:Int):Ct Tryz.prog 198 #[.agg #[.int .i64 k0,.int .i64 n0,.int .i64 k1,.int .i64 n1,.int .i64 k2,.int .i64 n2,.int .i64 k3,.int .i64 n3],.int .i64 base] [] (fun _=>True) (X:=Unit) (fun _=>.agg #[.int .i64 (ofL k0 n0 base 0),.int .i64 (ofL k1 n1 base 0),.int .i64 (ofL k2 n2 base 0),.int .i64 (ofL k3 n3 base 0)]) (fun _=>True) (fun _=>[]):=by
  refine Ci fun w0 _=>?_;refine gg ?_;refine WPL.ef xB fun b2=>?_;refine WPL.ef xAl fun b4=>?_;refine gg ?_;refine WPL.ef xAl fun b5=>?_;refine nl (oo ?_);refine sq ?_;refine sqR ?_;refine vl (v_loadA (cs:=[.int .i64 _,.int .i64 _,.int .i64 _,.int .i64 _,.int .i64 _,.int .i64 _,.int .i64 _,.int .i64 _]) Tryz.isAgg34 Tryz.sizeOf34 rfl (fun w hw=>hw.cl_at (i:=0) rfl _ rfl)) ?_;refine mv (v:=.int .i64 (0)) rfl ?_;refine gg ?_;refine WP.loopN 5 ?_;refine WPR.succ ?_;refine gg ?_;refine WP.condT rfl ?_;refine WP.skip (onto_of ?_);refine sq ?_;refine WP.block ?_;refine sqR ?_;refine av ?_;refine vl (v_idxA (j:=0) (us:=#[.int .i64 _,.int .i64 _]) Tryz.underlying34 Tryz.isAgg33 Tryz.sizeOf33 rfl rfl rfl (by decide) rfl) ?_;refine WPL.ef xAl fun b7=>?_;refine gg ?_;refine WPL.ef0 (xW rfl) fun _=>?_;refine gg ?_;refine eF (xC (lenof_ct _ _ base 0)) fun _ _=>?_;refine gg ?_;refine WPL.ef0 (xS rfl (isI rfl)) fun _=>?_;refine nl (oo ?_);refine WP.region ?_
  iterate 2 refine av ?_
  refine WPL.nil (rounds_of ?_);refine WPR.succ ?_;refine gg ?_;refine WP.condT rfl ?_;refine WP.skip (onto_of ?_);refine sq ?_;refine WP.block ?_;refine sqR ?_;refine av ?_;refine vl (v_idxA (j:=1) (us:=#[.int .i64 _,.int .i64 _]) Tryz.underlying34 Tryz.isAgg33 Tryz.sizeOf33 rfl rfl rfl (by decide) rfl) ?_;refine WPL.ef xAl fun b7=>?_;refine gg ?_;refine WPL.ef0 (xW rfl) fun _=>?_;refine gg ?_;refine eF (xC (lenof_ct _ _ base 0)) fun _ _=>?_;refine gg ?_;refine WPL.ef0 (xS rfl (isI rfl)) fun _=>?_;refine nl (oo ?_);refine WP.region ?_
  iterate 2 refine av ?_
  refine WPL.nil (rounds_of ?_);refine WPR.succ ?_;refine gg ?_;refine WP.condT rfl ?_;refine WP.skip (onto_of ?_);refine sq ?_;refine WP.block ?_;refine sqR ?_;refine av ?_;refine vl (v_idxA (j:=2) (us:=#[.int .i64 _,.int .i64 _]) Tryz.underlying34 Tryz.isAgg33 Tryz.sizeOf33 rfl rfl rfl (by decide) rfl) ?_;refine WPL.ef xAl fun b7=>?_;refine gg ?_;refine WPL.ef0 (xW rfl) fun _=>?_;refine gg ?_;refine eF (xC (lenof_ct _ _ base 0)) fun _ _=>?_;refine gg ?_;refine WPL.ef0 (xS rfl (isI rfl)) fun _=>?_;refine nl (oo ?_);refine WP.region ?_
  iterate 2 refine av ?_
  refine WPL.nil (rounds_of ?_);refine WPR.succ ?_;refine gg ?_;refine WP.condT rfl ?_;refine WP.skip (onto_of ?_);refine sq ?_;refine WP.block ?_;refine sqR ?_;refine av ?_;refine vl (v_idxA (j:=3) (us:=#[.int .i64 _,.int .i64 _]) Tryz.underlying34 Tryz.isAgg33 Tryz.sizeOf33 rfl rfl rfl (by decide) rfl) ?_;refine WPL.ef xAl fun b7=>?_;refine gg ?_;refine WPL.ef0 (xW rfl) fun _=>?_;refine gg ?_;refine eF (xC (lenof_ct _ _ base 0)) fun _ _=>?_;refine gg ?_;refine WPL.ef0 (xS rfl (isI rfl)) fun _=>?_;refine nl (oo ?_);refine WP.region ?_
  iterate 2 refine av ?_
  refine WPL.nil (rounds_of ?_);refine WPR.succ ?_;refine gg ?_;refine WP.condF rfl ?_;refine WP.exit (onto_of ?_);refine gg ?_;refine WPL.ef0 (xW rfl) fun _=>?_;refine gg ?_;exact rtC rfl fun w hw=>⟨(),rfl,trivial,hw.pk⟩
end Go.Proofs.YtbedndijejpcaaaGreat
namespace Go.Proofs.YtbedndijejpcaaaGreat
theorem takeS {α:Type} {l:List α} {i:Nat} {e:α} (h:l[i]?=some e):l.take (i+1)=l.take i++[e]:=by
  rw[List.take_add_one,h];rfl
section
variable {room size bk bn ek en base:Int}
theorem auto_le (h:autoLeft room size (ofL bk bn base 0) (ofL ek en base 0)≤0):autoP room size bk bn ek en base=(ofL bk bn base 0,ofL ek en base 0):=by
  simp only[autoP];rw[if_pos h]
theorem auto_both (h:¬autoLeft room size (ofL bk bn base 0) (ofL ek en base 0)≤0) (h1:fixedL bk base=false) (h2:fixedL ek base=false):autoP room size bk bn ek en base=(autoLeft room size (ofL bk bn base 0) (ofL ek en base 0) / 2,autoLeft room size (ofL bk bn base 0) (ofL ek en base 0) - autoLeft room size (ofL bk bn base 0) (ofL ek en base 0) / 2):=by
  simp only[autoP];rw[if_neg h,if_pos ⟨h1,h2⟩]
theorem auto_first (h:¬autoLeft room size (ofL bk bn base 0) (ofL ek en base 0)≤0) (h1:fixedL bk base=false) (h2:fixedL ek base=true):autoP room size bk bn ek en base=(autoLeft room size (ofL bk bn base 0) (ofL ek en base 0),ofL ek en base 0):=by
  simp only[autoP];rw[if_neg h,if_neg (by simp[h2]),if_pos h1]
theorem auto_last (h:¬autoLeft room size (ofL bk bn base 0) (ofL ek en base 0)≤0) (h1:fixedL bk base=true) (h2:fixedL ek base=false):autoP room size bk bn ek en base=(ofL bk bn base 0,autoLeft room size (ofL bk bn base 0) (ofL ek en base 0)):=by
  simp only[autoP];rw[if_neg h,if_neg (by simp[h1]),if_neg (by simp[h1]),if_pos h2]
theorem auto_none (h1:fixedL bk base=true) (h2:fixedL ek base=true):autoP room size bk bn ek en base=(ofL bk bn base 0,ofL ek en base 0):=by
  simp only[autoP]
  split
  · rfl
  · rw[if_neg (by simp[h1]),if_neg (by simp[h1]),if_neg (by simp[h2])]
end
section
variable {sizes tops bottoms:List Int} {k:Nat} {x y z:Int}
theorem stk_len:(stkStarts sizes tops bottoms).length=sizes.length:=by simp[stkStarts]
theorem stk_get (h:k<sizes.length):(stkStarts sizes tops bottoms)[k]?=some (stkStart sizes tops bottoms k):=by
  simp[stkStarts,h]
theorem stk_take (h:k<sizes.length):(stkStarts sizes tops bottoms).take (k+1)=(stkStarts sizes tops bottoms).take k++[stkStart sizes tops bottoms k]:=takeS (stk_get h)
theorem stkAt_succ (hx:sizes[k]?=some x):addI (stkStart sizes tops bottoms k) x=stkAt sizes tops bottoms (k+1):=by rw[stkAt,gI_at hx]
theorem stkStart_succ (hy:bottoms[k]?=some y) (hz:tops[k+1]?=some z):addI (stkAt sizes tops bottoms (k+1)) (collP [y,z])=stkStart sizes tops bottoms (k+1):=by rw[stkAt,stkStart,gI_at hy,gI_at hz]
theorem stkStart_zero:stkAt sizes tops bottoms 0=stkStart sizes tops bottoms 0:=by rw[stkAt,stkStart]
theorem stkAt_bd (sizes tops bottoms:List Int) (k:Nat):-1099511627776≤stkAt sizes tops bottoms k∧stkAt sizes tops bottoms k≤1099511627776:=by
  cases k with
  | zero=>rw[stkAt];omega
  | succ k=>rw[stkAt];exact addI_bd _ _
theorem stkStart_bd (sizes tops bottoms:List Int) (k:Nat):-1099511627776≤stkStart sizes tops bottoms k∧stkStart sizes tops bottoms k≤1099511627776:=by
  cases k with
  | zero=>rw[stkStart];omega
  | succ k=>rw[stkStart];exact addI_bd _ _
end
theorem long_gap {l:List Int} {gap x:Int} {k:Nat} (h:k≠0) (hx:l[k]?=some x):addI (addI (longK l gap k) gap) x=longK l gap (k+1):=by rw[longK,if_neg h,gI_at hx]
theorem long_first {l:List Int} {gap x:Int} (hx:l[0]?=some x):addI (longK l gap 0) x=longK l gap (0+1):=by rw[longK.eq_2,if_pos rfl,gI_at hx]
theorem longK_bd (l:List Int) (gap:Int) (k:Nat):-1099511627776≤longK l gap k∧longK l gap k≤1099511627776:=by
  cases k with
  | zero=>rw[longK];omega
  | succ k=>rw[longK];exact addI_bd _ _
section
variable (l:List Int) (room gap:Int) (wrap:Bool)
def brkS:Nat→List (Nat×Nat)×Nat×Int
  | 0=>([],0,0)
  | i + 1 =>
    if i=(brkS i).2.1 then ((brkS i).1,(brkS i).2.1,cut (gI l i))
    else if i<(brkS i).2.1+64∧(wrap=false∨addI (addI (brkS i).2.2 gap) (gI l i)≤room) then ((brkS i).1,(brkS i).2.1,addI (addI (brkS i).2.2 gap) (gI l i))
    else ((brkS i).1++[((brkS i).2.1,i)],i,cut (gI l i))
def breaksP:List (Nat×Nat):=if (brkS l room gap wrap l.length).2.1<l.length then (brkS l room gap wrap l.length).1++[((brkS l room gap wrap l.length).2.1,l.length)] else (brkS l room gap wrap l.length).1
variable {l room gap wrap} {i f:Nat} {o:List (Nat×Nat)} {n x:Int}
theorem brk_same (h:brkS l room gap wrap i=(o,f,n)) (hx:l[i]?=some x) (he:i=f):brkS l room gap wrap (i+1)=(o,f,cut x):=by
  rw[brkS,h,gI_at hx];simp[he]
theorem brk_more (h:brkS l room gap wrap i=(o,f,n)) (hx:l[i]?=some x) (he:i≠f) (h1:i<f+64) (h2:wrap=false∨addI (addI n gap) x≤room):brkS l room gap wrap (i+1)=(o,f,addI (addI n gap) x):=by
  rw[brkS,h,gI_at hx];simp only;rw[if_neg he,if_pos ⟨h1,h2⟩]
theorem brk_next (h:brkS l room gap wrap i=(o,f,n)) (hx:l[i]?=some x) (he:i≠f) (h2:¬(i<f+64∧(wrap=false∨addI (addI n gap) x≤room))):brkS l room gap wrap (i+1)=(o++[(f,i)],i,cut x):=by
  rw[brkS,h,gI_at hx];simp only;rw[if_neg he,if_neg h2]
theorem brk_le:∀i,(brkS l room gap wrap i).2.1≤i
  | 0=>Nat.le_refl _
  | i + 1 => by
    have h:=brk_le i;rw[brkS]
    repeat' split
    all_goals simp only;omega
theorem brk_lt:∀i,(brkS l room gap wrap (i+1)).2.1≤i:=fun i=>by
  have h:=brk_le (l:=l) (room:=room) (gap:=gap) (wrap:=wrap) i;rw[brkS]
  repeat' split
  all_goals simp only;omega
theorem breaks_all (h:brkS l room gap wrap l.length=(o,f,n)) (hf:f<l.length):breaksP l room gap wrap=o++[(f,l.length)]:=by
  unfold breaksP;rw[h];simp[hf]
theorem brk_mono:∀(i:Nat) (m:Nat),m≤(brkS l room gap wrap i).1.length→∀j,i≤j→(brkS l room gap wrap j).1.take m=(brkS l room gap wrap i).1.take m∧(brkS l room gap wrap i).1.length≤(brkS l room gap wrap j).1.length:=by
  intro i m hm j hj;induction j with
  | zero => obtain rfl : i = 0 := by omega
            exact⟨rfl,Nat.le_refl _⟩
  | succ j ih =>
    by_cases e:i=j+1
    · subst e;exact⟨rfl,Nat.le_refl _⟩
    · obtain ⟨h1, h2⟩ := ih (by omega)
      rw[brkS]
      split
      · exact⟨h1,h2⟩
      · split
        · exact⟨h1,h2⟩
        · simp only
          refine⟨?_,by rw[List.length_append];omega⟩;rw[List.take_append_of_le_length (by omega)];exact h1
theorem breaks_get (h:brkS l room gap wrap (i+1)=(o++[(f,i)],i,n)) (hi:i<l.length):(breaksP l room gap wrap)[o.length]?=some (f,i):=by
  have h1:=brk_mono (l:=l) (room:=room) (gap:=gap) (wrap:=wrap) (i+1) (o.length+1) (by rw[h];simp) l.length (by omega);rw[h] at h1;simp only[List.length_append,List.length_singleton] at h1;have h2:(brkS l room gap wrap l.length).1[o.length]?=some (f,i):=by
    have h3:((brkS l room gap wrap l.length).1.take (o.length+1))[o.length]?=some (f,i):=by
      rw[h1.1,List.take_of_length_le (by simp),List.getElem?_append_right (Nat.le_refl _)];simp
    rw[List.getElem?_take,if_pos (by omega)] at h3;exact h3
  unfold breaksP
  split
  · rw[List.getElem?_append_left (List.getElem?_eq_some_iff.1 h2).1];exact h2
  · exact h2
theorem breaks_last (h:brkS l room gap wrap l.length=(o,f,n)) (hf:f<l.length):(breaksP l room gap wrap)[o.length]?=some (f,l.length)∧(breaksP l room gap wrap).length=o.length+1:=by
  rw[breaks_all h hf];constructor
  · rw[List.getElem?_append_right (Nat.le_refl _)];simp
  · simp
theorem brk_count:∀i,(brkS l room gap wrap i).1.length≤(brkS l room gap wrap i).2.1
  | 0=>Nat.le_refl _
  | i + 1 => by
    have h:=brk_count i;have h2:=brk_le (l:=l) (room:=room) (gap:=gap) (wrap:=wrap) i;rw[brkS]
    split
    · exact h
    · split
      · exact h
      · simp only[List.length_append,List.length_singleton];omega
theorem breaks_count:(breaksP l room gap wrap).length≤l.length:=by
  have h:=brk_count (l:=l) (room:=room) (gap:=gap) (wrap:=wrap) l.length;have h2:=brk_le (l:=l) (room:=room) (gap:=gap) (wrap:=wrap) l.length;unfold breaksP
  split
  · simp only[List.length_append,List.length_singleton];omega
  · omega
end
def encP2 (p:Nat×Nat):List Value:=[.int .i64 (p.1:Int),.int .i64 (p.2:Int)]
section
variable {kind left n:Int}
theorem beforeP_bd {k:Int} (h:-1099511627776≤left∧left≤1099511627776):-1099511627776≤beforeP kind left n k∧beforeP kind left n k≤1099511627776:=by
  unfold beforeP partJ
  repeat' split
  all_goals first | exact h | exact divI_bd _ _ | omega
theorem bef1 (k:Int) (h:kindJ kind left n=1):beforeP kind left n k=left:=by unfold beforeP;rw[if_pos h]
theorem bef2 (k:Int) (h:kindJ kind left n=2):beforeP kind left n k=divI left 2:=by unfold beforeP;rw[if_neg (by omega),if_pos h]
theorem bef3 (k:Int) (h:kindJ kind left n=3):beforeP kind left n k=partJ left k (n - 1):=by unfold beforeP;rw[if_neg (by omega),if_neg (by omega),if_pos h]
theorem bef4 (k:Int) (h:kindJ kind left n=4):beforeP kind left n k=partJ left (2*k+1) (2*n):=by unfold beforeP;rw[if_neg (by omega),if_neg (by omega),if_neg (by omega),if_pos h]
theorem bef5 (k:Int) (h:kindJ kind left n=5):beforeP kind left n k=partJ left (k+1) (n+1):=by unfold beforeP;rw[if_neg (by omega),if_neg (by omega),if_neg (by omega),if_neg (by omega),if_pos h]
theorem bef0 (k:Int) (h1:kindJ kind left n≠1) (h2:kindJ kind left n≠2) (h3:kindJ kind left n≠3) (h4:kindJ kind left n≠4) (h5:kindJ kind left n≠5):beforeP kind left n k=0:=by unfold beforeP;rw[if_neg h1,if_neg h2,if_neg h3,if_neg h4,if_neg h5]
end
section
variable {kind left gap:Int} {l:List Int} {k:Nat} {x:Int}
theorem starts_len (kind:Int) (l:List Int) (room gap:Int):(startsP kind l room gap).length=l.length:=by simp[startsP]
theorem jAt_succ (hx:l[k]?=some x):addI (jStart kind left gap l k) x=jAt kind left gap l (k+1):=by rw[jAt,gI_at hx];rfl
theorem starts_get {kind:Int} {l:List Int} {room gap:Int} {k:Nat} (h:k<l.length):(startsP kind l room gap)[k]?=some (jStart kind (subI room (longP l gap)) gap l k):=by simp[startsP,h]
theorem starts_take (kind:Int) (l:List Int) (room gap:Int) {k:Nat} (h:k<l.length):(startsP kind l room gap).take (k+1)=(startsP kind l room gap).take k++[jStart kind (subI room (longP l gap)) gap l k]:=takeS (by simp[startsP,h])
end
theorem ends_ct (A:Option Addr) (c:Nat) (l:List Int) (hl:l.length≤10000):Ct Tryz.prog 238 #[.slice A l.length c] [] (fun w=>RdI w A l) (X:=Unit) (fun _=>.tuple #[.int .i64 (hiP l),.int .i64 (loP l)]) (fun _=>True) (fun _=>[]):=by
  refine Ci fun w0 hz=>?_;refine gg ?_;refine WP.loopK (X:=Nat) [6,7] (fun k=>[(2,.int .i64 (hiP (l.take k))),(3,.int .i64 (loP (l.take k))),(8,.int .i64 (k:Int))]) (fun k w=>k≤l.length∧St w0 (foots []) [] w) (fun k=>l.length - k) 0 ⟨rfl,rfl,rfl,trivial⟩ (fun w hw=>⟨Nat.zero_le _,hw⟩) (fun k ρ0=>?_);refine WP.fact (fun hkl=>?_);refine gg ?_;refine WP.condP rfl (fun h9=>?_) (fun h9=>?_)
  ·obtain⟨x,hx⟩:∃x,l[k]?=some x:=⟨_,List.getElem?_eq_getElem (by omega)⟩;obtain⟨ab,ao,rfl,hc⟩:=hz k x hx;refine gg ?_;refine vl (vO hc) ?_;refine gg ?_;refine vl (vC (cut_any _ _)) ?_;refine av ?_;refine nl (oo ?_);refine WP.region ?_
   iterate 8 refine av ?_
   refine nl (oo ?_);refine WP.region ?_
   iterate 2 refine av ?_
   exact nl fun w hw=>⟨rfl,k+1,(by omega),⟨(congrArg (Value.int .i64) (hiP_snoc hx).symm),(congrArg (Value.int .i64) (loP_snoc hx).symm),rfl,jS,jI,trivial⟩,⟨by omega,hw⟩⟩
  ·obtain rfl:k=l.length:=by omega
   have htk:l.take l.length=l:=List.take_of_length_le (Nat.le_refl _);refine WP.exit (onto_of ?_);exact rt2 fun w hw=>⟨(),by rw[htk];rfl,trivial,hw.pk⟩
theorem collapse_ct (A:Option Addr) (c:Nat) (l:List Int) (hl:l.length≤10000):Ct Tryz.prog 228 #[.slice A l.length c] [] (fun w=>RdI w A l) (X:=Unit) (fun _=>.int .i64 (collP l)) (fun _=>True) (fun _=>[]):=by
  refine Ci fun w0 hz=>?_;have hb1:=hiP_bd l;have hb2:=loP_bd l;refine gg ?_;refine eF (xC (ends_ct A c l hl) (hF:=fun w hw=>hw.rd hz not_foots_nil)) fun _ _=>?_;refine mv rfl ?_;refine gg ?_;exact rt1 fun w hw=>⟨(),rfl,trivial,hw.pk⟩
theorem pair_ct (a b:Int):Ct Tryz.prog 229 #[.int .i64 a,.int .i64 b] [] (fun _=>True) (X:=Unit) (fun _=>.int .i64 (collP [a,b])) (fun _=>True) (fun _=>[]):=by
  refine Ci fun w0 _=>?_;have hb1:=hiP_bd [a,b];have hb2:=loP_bd [a,b];refine gg ?_;refine WPL.ef (xN (L2 rfl)) fun g10=>?_;refine eF (xC (ends_ct (some ⟨g10,0,none⟩) 2 [a,b] (by simp)) (hF:=fun w hw=>hw.rd_row1 (i:=0) (f:=Value.int .i64) rfl)) fun _ _=>?_;refine mv rfl ?_;refine gg ?_;exact rt1 fun w hw=>⟨(),rfl,trivial,hw.pk⟩
theorem auto_ct (room size bk bn ek en base:Int):Ct Tryz.prog 201 #[.int .i64 room,.int .i64 size,.agg #[.int .i64 bk,.int .i64 bn],.agg #[.int .i64 ek,.int .i64 en],.int .i64 base] [] (fun _=>True) (X:=Unit) (fun _=>.tuple #[.int .i64 (autoP room size bk bn ek en base).1,.int .i64 (autoP room size bk bn ek en base).2]) (fun _=>True) (fun _=>[]):=by
  refine Ci fun w0 _=>?_;have hal:-1099511627776≤subI (subI (subI room size) (ofL bk bn base 0)) (ofL ek en base 0)∧subI (subI (subI room size) (ofL bk bn base 0)) (ofL ek en base 0)≤1099511627776:=subI_bd _ _;have hdv:divI (subI (subI (subI room size) (ofL bk bn base 0)) (ofL ek en base 0)) 2=subI (subI (subI room size) (ofL bk bn base 0)) (ofL ek en base 0) / 2:=by unfold divI;rw[if_neg (by omega),cut_id hal.1 hal.2];rfl
  refine gg ?_;refine WPL.ef xB fun b7=>?_;refine WPL.ef xB fun b8=>?_;refine gg ?_;refine wP none [0,1] [pT 0,pT 1,pT 3,pT 4,pF 2,pF 5,pT 6,pT 7] ?_;refine gg ?_;refine dG (xC (lenof_ct bk bn base 0)) fun _ _=>?_;refine dG (xC (lenof_ct ek en base 0)) fun _ _=>?_;refine gg ?_;refine vl (vC (sub_any _ _ _)) ?_;refine gg ?_;refine vl (vC (sub_any _ _ _)) ?_;refine gg ?_;refine vl (vC (sub_any _ _ _)) ?_;refine gg ?_;refine wP none [0,1] [pT 0,pT 1,pT 4,pT 5,pF 2,pT 3,pF 6,pT 7,pT 8,pT 9] ?_;refine gg ?_;refine dG (xC (fixed_ct bk bn base)) fun _ _=>?_;refine gg ?_;refine dG (xC (fixed_ct ek en base)) fun _ _=>?_;refine gg ?_;refine WP.condP rfl (fun h38=>?_) (fun h38=>?_)
  case' _=>
   have hr:=auto_le (room:=room) (size:=size) (bn:=bn) (en:=en) h38
  rotate_left
  case' _=>
   refine sqR ?_
   iterate 2 refine av ?_
   refine WPL.splitB 43 rfl (fun h43=>?_) (fun h43=>?_)
   case' _=>
    refine gg ?_;refine WP.cond rfl (fun h41=>?_) (fun h41=>?_)
    case' _=>
     have hr:=auto_both (room:=room) (size:=size) (bn:=bn) (en:=en) h38 (by simpa using h43) (by simpa using h41);refine sqR ?_;refine av ?_;refine vl (v_shr1 rfl rfl) ?_
    rotate_left
    case' _=>
     have hq2:fixedL ek base=true:=by simpa using h41
     refine gg ?_;refine WP.cond rfl (fun h51=>?_) (fun h51=>?_)
     case' _=>
      have hr:=auto_first (room:=room) (size:=size) (bn:=bn) (en:=en) h38 (by simpa using h51) (by first | exact hq2 | (exfalso;simp_all;done))
     rotate_left
     case' _=>
      have hq1:fixedL bk base=true:=by simpa using h51
      refine gg ?_;refine WP.cond rfl (fun h54=>?_) (fun h54=>?_)
      case' _=>
       have hr:=auto_last (room:=room) (size:=size) (bn:=bn) (en:=en) h38 hq1 (by simpa using h54)
      rotate_left
      case' _=>
       have hr:=auto_none (room:=room) (size:=size) (bn:=bn) (en:=en) hq1 (by simpa using h54)
   rotate_left 4
   case' _=>
    refine gg ?_;refine WP.condF rfl ?_;refine gg ?_;refine WP.cond rfl (fun h51=>?_) (fun h51=>?_)
    case' _=>
     have hr:=auto_first (room:=room) (size:=size) (bn:=bn) (en:=en) h38 (by simpa using h51) (by first | exact hq2 | (exfalso;simp_all;done))
    rotate_left
    case' _=>
     have hq1:fixedL bk base=true:=by simpa using h51
     refine gg ?_;refine WP.cond rfl (fun h54=>?_) (fun h54=>?_)
     case' _=>
      have hr:=auto_last (room:=room) (size:=size) (bn:=bn) (en:=en) h38 hq1 (by simpa using h54)
     rotate_left
     case' _=>
      have hr:=auto_none (room:=room) (size:=size) (bn:=bn) (en:=en) hq1 (by simpa using h54)
  all_goals
   refine gg ?_;exact rt2 fun w hw=>⟨(),by rw[hr];first | rfl | (show Value.tuple #[.int .i64 (divI (subI (subI (subI room size) (ofL bk bn base 0)) (ofL ek en base 0)) 2),.int .i64 (subI (subI (subI room size) (ofL bk bn base 0)) (ofL ek en base 0) - divI (subI (subI (subI room size) (ofL bk bn base 0)) (ofL ek en base 0)) 2)]=_;rw[hdv];rfl),trivial,hw.pk⟩
theorem long_ct (A:Option Addr) (c:Nat) (l:List Int) (gap:Int) (hl:l.length≤10000):Ct Tryz.prog 215 #[.slice A l.length c,.int .i64 gap] [] (fun w=>RdI w A l) (X:=Unit) (fun _=>.int .i64 (longP l gap)) (fun _=>True) (fun _=>[]):=by
  refine Ci fun w0 hz=>?_;refine gg ?_;refine WP.loopK (X:=Nat) [1,8,9] (fun k=>[(5,.int .i64 (longK l gap k)),(10,.int .i64 (k:Int))]) (fun k w=>k≤l.length∧St w0 (foots []) [] w) (fun k=>l.length - k) 0 ⟨rfl,rfl,trivial⟩ (fun w hw=>⟨Nat.zero_le _,hw⟩) (fun k ρ0=>?_);refine WP.fact (fun hkl=>?_);refine gg ?_;refine WP.condP rfl (fun h11=>?_) (fun h11=>?_)
  ·obtain⟨x,hx⟩:∃x,l[k]?=some x:=⟨_,List.getElem?_eq_getElem (by omega)⟩;obtain⟨ab,ao,rfl,hc⟩:=hz k x hx;refine gg ?_;refine vl (vO hc) ?_;refine gg ?_;refine WP.condP rfl (fun h16=>?_) (fun h16=>?_)
   ·have hlk:=long_gap (gap:=gap) (show k≠0 by omega) hx;refine gg ?_;refine vl (vC (add_any _ _ _)) ?_;refine gg ?_;refine vl (vC (add_any _ _ _)) ?_;refine av ?_;refine nl (oo ?_);refine WP.region ?_
    iterate 2 refine av ?_
    exact nl fun w hw=>⟨rfl,k+1,(by omega),⟨(congrArg (Value.int .i64) hlk),rfl,jI,jS,jI,trivial⟩,⟨by omega,hw⟩⟩
   ·have hk0:k=0:=by omega
    have hlk:addI (longK l gap k) x=longK l gap (k+1):=by subst hk0;exact long_first hx
    refine gg ?_;refine vl (vC (add_any _ _ _)) ?_;refine av ?_;refine nl (oo ?_);refine WP.region ?_
    iterate 2 refine av ?_
    exact nl fun w hw=>⟨rfl,k+1,(by omega),⟨(congrArg (Value.int .i64) hlk),rfl,jI,jS,jI,trivial⟩,⟨by omega,hw⟩⟩
  ·obtain rfl:k=l.length:=by omega
   refine WP.exit (onto_of ?_);refine gg ?_;exact rt1 fun w hw=>⟨(),rfl,trivial,hw.pk⟩
theorem stack_ct (A B D:Option Addr) (ca cb cd:Nat) (sizes tops bottoms:List Int) (hl:sizes.length≤10000) (ht:tops.length=sizes.length) (hb:bottoms.length=sizes.length):Ct Tryz.prog 203 #[.slice A sizes.length ca,.slice B tops.length cb,.slice D bottoms.length cd] [] (fun w=>RdI w A sizes∧RdI w B tops∧RdI w D bottoms) (X:=Option Addr×Nat) (fun p=>.tuple #[.slice p.1 sizes.length p.2,.int .i64 (stkAt sizes tops bottoms sizes.length)]) (fun _=>True) (fun p=>[.row 3 1 p.1 sizes.length p.2 ((stkStarts sizes tops bottoms).map (Value.int .i64))]):=by
  refine Ci fun w0 ⟨hz,htp,hbt⟩=>?_;refine sqR ?_
  iterate 2 refine av ?_
  refine nl (oo ?_);refine sq ?_;refine sqR ?_
  iterate 4 refine av ?_
  refine vl (v_is (b:=false) (v_neq rfl rfl) (decide_eq_false (by omega))) ?_;refine av ?_
  iterate 4 refine ag ?_
  refine vg (v_is (b:=false) (v_neq rfl rfl) (decide_eq_false (by omega))) ?_;refine gg ?_;refine WP.condF rfl ?_;refine WP.skip (onto_of ?_);refine sq ?_;refine WP.pre ?_ (fun w hw=>hw.nilRow 3 1);refine gg ?_;refine WP.loopK (X:=Nat×Option Addr×Nat) [1,2,24,25] (fun p=>[(8,.slice p.2.1 p.1 p.2.2),(9,.int .i64 (stkAt sizes tops bottoms p.1)),(26,.int .i64 (p.1:Int))]) (fun p w=>p.1≤sizes.length∧St w0 (foots []) [.row 3 1 p.2.1 p.1 p.2.2 (((stkStarts sizes tops bottoms).take p.1).map (Value.int .i64))] w) (fun p=>sizes.length - p.1) (0,none,0) ⟨rfl,congrArg (Value.int .i64) (by rw[stkAt]),rfl,trivial⟩ (fun w hw=>⟨Nat.zero_le _,by simpa using hw⟩) (fun p ρ0=>?_);obtain⟨k,oA,oc⟩:=p;dsimp only;refine WP.fact (fun hkl=>?_);refine gg ?_;refine WP.condP rfl (fun h27=>?_) (fun h27=>?_)
  ·obtain⟨x,hx⟩:∃x,sizes[k]?=some x:=⟨_,List.getElem?_eq_getElem (by omega)⟩;obtain⟨ab,ao,rfl,hc⟩:=hz k x hx;have hbd:=stkAt_bd sizes tops bottoms k;refine gg ?_;refine vl (vO hc) ?_;refine gg ?_;refine WP.condP rfl (fun h32=>?_) (fun h32=>?_)
   case' _=>
    obtain⟨m,hm⟩:∃m,k=m+1:=⟨k - 1,by omega⟩;obtain⟨y,hy⟩:∃y,bottoms[m]?=some y:=⟨_,List.getElem?_eq_getElem (by omega)⟩;obtain⟨z,hzz⟩:∃z,tops[k]?=some z:=⟨_,List.getElem?_eq_getElem (by omega)⟩;obtain⟨yb,yo,rfl,hcy⟩:=hbt m y hy;obtain⟨zb,zo,rfl,hcz⟩:=htp k z hzz;have hst:addI (stkAt sizes tops bottoms k) (collP [y,z])=stkStart sizes tops bottoms k:=by subst hm;exact stkStart_succ hy hzz
    refine wP none [0] [pT 0,pT 1,pT 2,pT 3,pT 4,pT 5,pT 6,pT 7,pT 8,pT 9,pF 10,pT 11,pT 12] ?_
    iterate 4 refine ad ?_
    refine tD (vX m) ?_;refine tD (vO hcy) ?_;refine gg ?_;refine tD (vO hcz) ?_;refine dG (xC (pair_ct y z)) fun _ _=>?_;refine tD (vC (add_any _ _ _)) ?_;refine ad ?_;refine WPD.nil (onto_of ?_)
   rotate_left
   case' _=>
    have hk0:k=0:=by omega
    have hst:stkAt sizes tops bottoms k=stkStart sizes tops bottoms k:=by subst hk0;exact stkStart_zero
    refine WP.skip (onto_of ?_)
   all_goals
    refine sqR ?_;rw[hst];refine gg ?_;refine WPL.ef (xN (L1 rfl)) fun g47=>?_;refine WPL.ef (xP 0 1) fun⟨A48,c48⟩=>?_;refine gg ?_;refine vl (vC (add_any _ _ _)) ?_;refine av ?_;refine nl (oo ?_);refine WP.region ?_
    iterate 2 refine av ?_
    exact nl fun w hw=>⟨rfl,(k+1,A48,c48),(by simp only;omega),⟨rfl,(congrArg (Value.int .i64) (stkAt_succ hx)),rfl,jS,jS,jS,jI,trivial⟩,⟨by simp only;omega,by simp only;rw[stk_take (by omega),List.map_append];exact(hw.sel [0] (by decide))⟩⟩
  ·obtain rfl:k=sizes.length:=by omega
   have htk:(stkStarts sizes tops bottoms).take sizes.length=stkStarts sizes tops bottoms:=List.take_of_length_le (by rw[stk_len];omega);refine WP.exit (onto_of ?_);refine gg ?_;exact rt2 fun w hw=>⟨(oA,oc),rfl,trivial,by rw[←htk];exact hw⟩
theorem across_ct (kind size room:Int):Ct Tryz.prog 214 #[.int .i64 kind,.int .i64 size,.int .i64 room] [] (fun _=>True) (X:=Unit) (fun _=>.int .i64 (acrossP kind size room)) (fun _=>True) (fun _=>[]):=by
  refine Ci fun w0 _=>?_;refine gg ?_;refine vl (vC (sub_any _ _ _)) ?_;refine gg ?_;refine WP.condP rfl (fun h12=>?_) (fun h12=>?_)
  ·have hr:acrossP kind size room=divI (subI room size) 2:=by unfold acrossP;rw[if_pos h12]
   refine gg ?_;refine vl (vC (div_any _ _ _)) ?_;refine gg ?_;exact rt1 fun w hw=>⟨(),congrArg (Value.int .i64) hr.symm,trivial,hw.pk⟩
  ·refine gg ?_;refine WP.condP rfl (fun h16=>?_) (fun h16=>?_)
   ·have hr:acrossP kind size room=subI room size:=by unfold acrossP;rw[if_neg (by omega),if_pos h16]
    refine gg ?_;exact rt1 fun w hw=>⟨(),congrArg (Value.int .i64) hr.symm,trivial,hw.pk⟩
   ·have hr:acrossP kind size room=0:=by unfold acrossP;rw[if_neg (by omega),if_neg (by omega)]
    refine gg ?_;exact rt1 fun w hw=>⟨(),congrArg (Value.int .i64) hr.symm,trivial,hw.pk⟩
theorem jof_ct (kind left n:Int):Ct Tryz.prog 245 #[.int .i64 kind,.int .i64 left,.int .i64 n] [] (fun _=>True) (X:=Unit) (fun _=>.int .i64 (kindJ kind left n)) (fun _=>True) (fun _=>[]):=by
  refine Ci fun w0 _=>?_;refine gg ?_;refine WP.condP rfl (fun h8=>?_) (fun h8=>?_)
  case' _=>
   refine gg ?_;refine WP.condP rfl (fun h8=>?_) (fun h8=>?_)
   case' _=>
    refine WP.exit (onto_of ?_);refine gg ?_;refine WP.condP rfl (fun h16=>?_) (fun h16=>?_);rotate_left
    case' _=>
     refine gg ?_;refine WP.exit (onto_of ?_)
   rotate_left 2
   case' _=>
    refine gg ?_;refine WP.condP rfl (fun h11=>?_) (fun h11=>?_)
    case' _=>
     refine WP.exit (onto_of ?_);refine sqR ?_
     iterate 3 refine av ?_
     refine WPL.split 19 rfl (fun h19=>?_) (fun h19=>?_)
     case' _=>
      refine gg ?_;refine WP.condP rfl (fun h22=>?_) (fun h22=>?_)
      case' _=>
       refine WP.exit (onto_of ?_)
      rotate_left
     rotate_left 2
     case' _=>
      refine gg ?_;refine WP.condF rfl ?_
    rotate_left 3
    case' _=>
     refine gg ?_;refine WP.condP rfl (fun h13=>?_) (fun h13=>?_);rotate_left
     case' _=>
      refine gg ?_
     all_goals
      refine WP.exit (onto_of ?_)
  rotate_left 7
  case' _=>
   refine gg ?_;refine WP.condP rfl (fun h8=>?_) (fun h8=>?_)
   case' _=>
    refine WP.exit (onto_of ?_);refine gg ?_;refine WP.condP rfl (fun h16=>?_) (fun h16=>?_);rotate_left
    case' _=>
     refine gg ?_;refine WP.exit (onto_of ?_)
   rotate_left 2
   case' _=>
    refine gg ?_;refine WP.condP rfl (fun h11=>?_) (fun h11=>?_)
    case' _=>
     refine WP.exit (onto_of ?_);refine sqR ?_
     iterate 3 refine av ?_
     refine WPL.split 19 rfl (fun h19=>?_) (fun h19=>?_)
     case' _=>
      refine gg ?_;refine WP.condP rfl (fun h22=>?_) (fun h22=>?_)
      case' _=>
       refine WP.exit (onto_of ?_)
      rotate_left
     rotate_left 2
     case' _=>
      refine gg ?_;refine WP.condF rfl ?_
    rotate_left 3
    case' _=>
     refine gg ?_;refine WP.condP rfl (fun h13=>?_) (fun h13=>?_);rotate_left
     case' _=>
      refine gg ?_
     all_goals
      refine WP.exit (onto_of ?_)
  all_goals
   refine gg ?_;exact rt1 fun w hw=>⟨(),congrArg (Value.int .i64) (by unfold kindJ;first | (rw[if_pos (by omega)];done) | (rw[if_neg (by omega),if_pos (by omega)];done) | (rw[if_neg (by omega),if_neg (by omega)];done) | (rw[if_neg (by omega),if_neg (by omega)];omega)),trivial,hw.pk⟩
theorem bf1_ct (b4 b5 b7:Nat) (left n:Int) (k m:Int):Ct Tryz.prog 243 #[.int .i64 k,.int .i64 m,.pointer (some ⟨b4,0,none⟩)] [.cl b4 3 [.int .i64 left],.cl b5 3 [.int .i64 n],.cl b7 124 [.func (.func 243) #[] #[.pointer (some ⟨b4,0,none⟩)]]] (fun _=>True) (X:=Unit) (fun _=>.int .i64 (partJ left k m)) (fun _=>True) (fun _=>[.cl b4 3 [.int .i64 left],.cl b5 3 [.int .i64 n],.cl b7 124 [.func (.func 243) #[] #[.pointer (some ⟨b4,0,none⟩)]]]):=by
  refine Ci fun w0 _=>?_;refine gg ?_;refine vl (vC (mul_any _ _ _)) ?_;refine gg ?_;refine vl (vC (div_any _ _ _)) ?_;refine gg ?_;exact rt1 fun w hw=>⟨(),rfl,trivial,hw.pk⟩
theorem bf2_ct (b4 b5 b7:Nat) (left n:Int) (k:Nat) (hk:k≤10000):Ct Tryz.prog 246 #[.int .i64 (k:Int),.pointer (some ⟨b4,0,none⟩)] [.cl b4 3 [.int .i64 left],.cl b5 3 [.int .i64 n],.cl b7 124 [.func (.func 243) #[] #[.pointer (some ⟨b4,0,none⟩)]]] (fun _=>True) (X:=Unit) (fun _=>.int .i64 left) (fun _=>True) (fun _=>[.cl b4 3 [.int .i64 left],.cl b5 3 [.int .i64 n],.cl b7 124 [.func (.func 243) #[] #[.pointer (some ⟨b4,0,none⟩)]]]):=by
  refine Ci fun w0 _=>?_;refine gg ?_;exact rt1 fun w hw=>⟨(),rfl,trivial,hw.pk⟩
theorem bf3_ct (b4 b5 b7:Nat) (left n:Int) (k:Nat) (hk:k≤10000):Ct Tryz.prog 247 #[.int .i64 (k:Int),.pointer (some ⟨b4,0,none⟩)] [.cl b4 3 [.int .i64 left],.cl b5 3 [.int .i64 n],.cl b7 124 [.func (.func 243) #[] #[.pointer (some ⟨b4,0,none⟩)]]] (fun _=>True) (X:=Unit) (fun _=>.int .i64 (divI left 2)) (fun _=>True) (fun _=>[.cl b4 3 [.int .i64 left],.cl b5 3 [.int .i64 n],.cl b7 124 [.func (.func 243) #[] #[.pointer (some ⟨b4,0,none⟩)]]]):=by
  refine Ci fun w0 _=>?_;refine gg ?_;refine vl (vC (div_any _ _ _)) ?_;refine gg ?_;exact rt1 fun w hw=>⟨(),rfl,trivial,hw.pk⟩
theorem bf4_ct (b4 b5 b7:Nat) (left n:Int) (k:Nat) (hk:k≤10000) (hn:0≤n∧n≤10000):Ct Tryz.prog 248 #[.int .i64 (k:Int),.pointer (some ⟨b7,0,none⟩),.pointer (some ⟨b5,0,none⟩)] [.cl b4 3 [.int .i64 left],.cl b5 3 [.int .i64 n],.cl b7 124 [.func (.func 243) #[] #[.pointer (some ⟨b4,0,none⟩)]]] (fun _=>True) (X:=Unit) (fun _=>.int .i64 (partJ left k (n - 1))) (fun _=>True) (fun _=>[.cl b4 3 [.int .i64 left],.cl b5 3 [.int .i64 n],.cl b7 124 [.func (.func 243) #[] #[.pointer (some ⟨b4,0,none⟩)]]]):=by
  refine Ci fun w0 _=>?_;refine sqR ?_;refine av ?_;refine nl (oo ?_);refine sqR ?_;refine vl (v_load1 (u:=_) Tryz.isAgg124 rfl (fun w hw=>hw.cl_at (i:=2) rfl _ rfl)) ?_;refine gg ?_;refine eF (xV (bf1_ct b4 b5 b7 left n k (n - 1)) Tryz.call243) fun _ _=>?_;refine gg ?_;exact rt1 fun w hw=>⟨(),rfl,trivial,hw.pk⟩
theorem bf5_ct (b4 b5 b7:Nat) (left n:Int) (k:Nat) (hk:k≤10000) (hn:0≤n∧n≤10000):Ct Tryz.prog 249 #[.int .i64 (k:Int),.pointer (some ⟨b7,0,none⟩),.pointer (some ⟨b5,0,none⟩)] [.cl b4 3 [.int .i64 left],.cl b5 3 [.int .i64 n],.cl b7 124 [.func (.func 243) #[] #[.pointer (some ⟨b4,0,none⟩)]]] (fun _=>True) (X:=Unit) (fun _=>.int .i64 (partJ left (2*k+1) (2*n))) (fun _=>True) (fun _=>[.cl b4 3 [.int .i64 left],.cl b5 3 [.int .i64 n],.cl b7 124 [.func (.func 243) #[] #[.pointer (some ⟨b4,0,none⟩)]]]):=by
  refine Ci fun w0 _=>?_;refine sqR ?_;refine av ?_;refine nl (oo ?_);refine sqR ?_;refine vl (v_load1 (u:=_) Tryz.isAgg124 rfl (fun w hw=>hw.cl_at (i:=2) rfl _ rfl)) ?_;refine gg ?_;refine eF (xV (bf1_ct b4 b5 b7 left n (2*k+1) (2*n)) Tryz.call243) fun _ _=>?_;refine gg ?_;exact rt1 fun w hw=>⟨(),rfl,trivial,hw.pk⟩
theorem bf6_ct (b4 b5 b7:Nat) (left n:Int) (k:Nat) (hk:k≤10000) (hn:0≤n∧n≤10000):Ct Tryz.prog 250 #[.int .i64 (k:Int),.pointer (some ⟨b7,0,none⟩),.pointer (some ⟨b5,0,none⟩)] [.cl b4 3 [.int .i64 left],.cl b5 3 [.int .i64 n],.cl b7 124 [.func (.func 243) #[] #[.pointer (some ⟨b4,0,none⟩)]]] (fun _=>True) (X:=Unit) (fun _=>.int .i64 (partJ left (k+1) (n+1))) (fun _=>True) (fun _=>[.cl b4 3 [.int .i64 left],.cl b5 3 [.int .i64 n],.cl b7 124 [.func (.func 243) #[] #[.pointer (some ⟨b4,0,none⟩)]]]):=by
  refine Ci fun w0 _=>?_;refine sqR ?_;refine av ?_;refine nl (oo ?_);refine sqR ?_;refine vl (v_load1 (u:=_) Tryz.isAgg124 rfl (fun w hw=>hw.cl_at (i:=2) rfl _ rfl)) ?_;refine gg ?_;refine eF (xV (bf1_ct b4 b5 b7 left n (k+1) (n+1)) Tryz.call243) fun _ _=>?_;refine gg ?_;exact rt1 fun w hw=>⟨(),rfl,trivial,hw.pk⟩
theorem bf7_ct (b4 b5 b7:Nat) (left n:Int) (k:Nat) (hk:k≤10000):Ct Tryz.prog 251 #[.int .i64 (k:Int)] [.cl b4 3 [.int .i64 left],.cl b5 3 [.int .i64 n],.cl b7 124 [.func (.func 243) #[] #[.pointer (some ⟨b4,0,none⟩)]]] (fun _=>True) (X:=Unit) (fun _=>.int .i64 0) (fun _=>True) (fun _=>[.cl b4 3 [.int .i64 left],.cl b5 3 [.int .i64 n],.cl b7 124 [.func (.func 243) #[] #[.pointer (some ⟨b4,0,none⟩)]]]):=by
  refine Ci fun w0 _=>?_;refine gg ?_;exact rt1 fun w hw=>⟨(),rfl,trivial,hw.pk⟩
def BefOK (kind left n:Int) (p:Value×Nat×Nat×Nat):Prop:=
  ∃ (f : Nat) (cap : List Value), p.1 = .func (.func f) #[] cap.toArray ∧ (∀ args w, (callFunc f args).run Tryz.prog w = .ok (.enter f args) w) ∧
    ∀k:Nat,k≤10000→Ct Tryz.prog f (.int .i64 (k:Int)::cap).toArray [.cl p.2.1 3 [.int .i64 left],.cl p.2.2.1 3 [.int .i64 n],.cl p.2.2.2 124 [.func (.func 243) #[] #[.pointer (some ⟨p.2.1,0,none⟩)]]] (fun _=>True) (X:=Unit) (fun _=>.int .i64 (beforeP kind left n k)) (fun _=>True) (fun _=>[.cl p.2.1 3 [.int .i64 left],.cl p.2.2.1 3 [.int .i64 n],.cl p.2.2.2 124 [.func (.func 243) #[] #[.pointer (some ⟨p.2.1,0,none⟩)]]])
theorem before_ct (kind left n:Int) (hn:0≤n∧n≤10000):Ct Tryz.prog 235 #[.int .i64 kind,.int .i64 left,.int .i64 n] [] (fun _=>True) (X:=Value×Nat×Nat×Nat) (fun p=>p.1) (BefOK kind left n) (fun p=>[.cl p.2.1 3 [.int .i64 left],.cl p.2.2.1 3 [.int .i64 n],.cl p.2.2.2 124 [.func (.func 243) #[] #[.pointer (some ⟨p.2.1,0,none⟩)]]]):=by
  refine Ci fun w0 _=>?_;refine gg ?_;refine WPL.ef (x_box1 (u:=.int .i64 _) (σ':=fun _=>[_]) rfl (fun _=>rfl)) (fun b4=>?_);refine WPL.ef (x_box1 (u:=.int .i64 _) (σ':=fun _=>[_,_]) rfl (fun _=>rfl)) (fun b5=>?_);refine sg rfl ?_;refine nl (oo ?_);refine sqR ?_;refine vl (v_func) ?_;refine WPL.ef xAl fun b7=>?_;refine WPL.ef0 (x_store (u:=_) (σ':=[_,_,.cl _ _ [_]]) Tryz.sizeOf124 rfl rfl (i:=2) rfl (Nat.lt_of_lt_of_le (Nat.lt_succ_self _) (Nat.le_of_ble_eq_true rfl)) rfl) (fun _=>?_);refine gg ?_;refine eF (xC (jof_ct kind left n)) fun _ _=>?_;refine gg ?_;refine WP.condP rfl (fun h13=>?_) (fun h13=>?_)
  ·have hq:kindJ kind left n=1:=h13;refine sqR ?_;refine vl (v_func) ?_;refine sg rfl ?_;refine gg ?_;exact WP.ret1 Tryz.results235 (fun _ h=>h) (fun w hw=>⟨(.func (.func 246) #[] ([.pointer (some ⟨b4,0,none⟩)]:List Value).toArray,b4,b5,b7),rfl,⟨_,[.pointer (some ⟨b4,0,none⟩)],rfl,Tryz.call246,fun k hk=>(by rw[bef1 _ hq];exact bf2_ct b4 b5 b7 left n k hk)⟩,(hw.sel [0,1,2] (by decide))⟩)
  ·refine gg ?_;refine WP.condP rfl (fun h16=>?_) (fun h16=>?_)
   ·have hq:kindJ kind left n=2:=h16;refine sqR ?_;refine vl (v_func) ?_;refine sg rfl ?_;refine gg ?_;exact WP.ret1 Tryz.results235 (fun _ h=>h) (fun w hw=>⟨(.func (.func 247) #[] ([.pointer (some ⟨b4,0,none⟩)]:List Value).toArray,b4,b5,b7),rfl,⟨_,[.pointer (some ⟨b4,0,none⟩)],rfl,Tryz.call247,fun k hk=>(by rw[bef2 _ hq];exact bf3_ct b4 b5 b7 left n k hk)⟩,(hw.sel [0,1,2] (by decide))⟩)
   ·refine gg ?_;refine WP.condP rfl (fun h19=>?_) (fun h19=>?_)
    ·have hq:kindJ kind left n=3:=h19;refine sqR ?_;refine vl (v_func) ?_;refine sg rfl ?_;refine gg ?_;exact WP.ret1 Tryz.results235 (fun _ h=>h) (fun w hw=>⟨(.func (.func 248) #[] ([.pointer (some ⟨b7,0,none⟩),.pointer (some ⟨b5,0,none⟩)]:List Value).toArray,b4,b5,b7),rfl,⟨_,[.pointer (some ⟨b7,0,none⟩),.pointer (some ⟨b5,0,none⟩)],rfl,Tryz.call248,fun k hk=>(by rw[bef3 _ hq];exact bf4_ct b4 b5 b7 left n k hk hn)⟩,(hw.sel [0,1,2] (by decide))⟩)
    ·refine gg ?_;refine WP.condP rfl (fun h22=>?_) (fun h22=>?_)
     ·have hq:kindJ kind left n=4:=h22;refine sqR ?_;refine vl (v_func) ?_;refine sg rfl ?_;refine gg ?_;exact WP.ret1 Tryz.results235 (fun _ h=>h) (fun w hw=>⟨(.func (.func 249) #[] ([.pointer (some ⟨b7,0,none⟩),.pointer (some ⟨b5,0,none⟩)]:List Value).toArray,b4,b5,b7),rfl,⟨_,[.pointer (some ⟨b7,0,none⟩),.pointer (some ⟨b5,0,none⟩)],rfl,Tryz.call249,fun k hk=>(by rw[bef4 _ hq];exact bf5_ct b4 b5 b7 left n k hk hn)⟩,(hw.sel [0,1,2] (by decide))⟩)
     ·refine gg ?_;refine WP.condP rfl (fun h25=>?_) (fun h25=>?_)
      ·have hq:kindJ kind left n=5:=h25;refine sqR ?_;refine vl (v_func) ?_;refine sg rfl ?_;refine gg ?_;exact WP.ret1 Tryz.results235 (fun _ h=>h) (fun w hw=>⟨(.func (.func 250) #[] ([.pointer (some ⟨b7,0,none⟩),.pointer (some ⟨b5,0,none⟩)]:List Value).toArray,b4,b5,b7),rfl,⟨_,[.pointer (some ⟨b7,0,none⟩),.pointer (some ⟨b5,0,none⟩)],rfl,Tryz.call250,fun k hk=>(by rw[bef5 _ hq];exact bf6_ct b4 b5 b7 left n k hk hn)⟩,(hw.sel [0,1,2] (by decide))⟩)
      ·have h14:=h13;have h17:=h16;have h20:=h19;have h23:=h22;have h26:=h25;refine WP.skip (onto_of ?_);refine sqR ?_;refine sg rfl ?_;refine gg ?_;exact WP.ret1 Tryz.results235 (fun _ h=>h) (fun w hw=>⟨(.func (.func 251) #[] ([]:List Value).toArray,b4,b5,b7),rfl,⟨_,[],rfl,Tryz.call251,fun k hk=>(by rw[bef0 _ h14 h17 h20 h23 h26];exact bf7_ct b4 b5 b7 left n k hk)⟩,(hw.sel [0,1,2] (by decide))⟩)
theorem starts_ct (kind:Int) (A:Option Addr) (c:Nat) (l:List Int) (room gap:Int) (hl:l.length≤10000):Ct Tryz.prog 216 #[.int .i64 kind,.slice A l.length c,.int .i64 room,.int .i64 gap] [] (fun w=>RdI w A l) (X:=Option Addr×Nat) (fun p=>.slice p.1 l.length p.2) (fun _=>True) (fun p=>[.row 3 1 p.1 l.length p.2 ((startsP kind l room gap).map (Value.int .i64))]):=by
  refine Ci fun w0 hz=>?_;refine gg ?_;refine eF (xC (long_ct A c l gap hl) (hF:=fun w hw=>hw.rd hz not_foots_nil)) fun _ _=>?_;refine vl (vC (sub_any _ _ _)) ?_;refine gg ?_;refine eF (xC (before_ct kind (subI room (longP l gap)) l.length (by omega))) fun⟨bv,b4,b5,b7⟩ ⟨sf,cap,hbv,hcf,hsh⟩=>?_;dsimp only at hbv hsh;subst hbv;refine sg (v:=.func (.func sf) #[] cap.toArray) rfl ?_;refine nl (oo ?_);refine sqR ?_;refine av ?_;refine nl (oo ?_);refine sqR ?_
  iterate 2 refine av ?_
  refine nl (oo ?_)
  iterate 2 refine sq ?_
  refine WP.pre ?_ (fun w hw=>hw.nilRow 3 1);refine gg ?_;refine WP.loopK (X:=Nat×Option Addr×Nat) [3,9,25,26] (fun p=>[(10,.slice p.2.1 p.1 p.2.2),(11,.int .i64 (jAt kind (subI room (longP l gap)) gap l p.1)),(12,.int .i64 (if p.1=0 then 0 else beforeP kind (subI room (longP l gap)) l.length ((p.1:Int) - 1))),(27,.int .i64 (p.1:Int))]) (fun p w=>p.1≤l.length∧St w0 (foots []) [.cl b4 3 [.int .i64 (subI room (longP l gap))],.cl b5 3 [.int .i64 (l.length:Int)],.cl b7 124 [.func (.func 243) #[] #[.pointer (some ⟨b4,0,none⟩)]],.row 3 1 p.2.1 p.1 p.2.2 (((startsP kind l room gap).take p.1).map (Value.int .i64))] w) (fun p=>l.length - p.1) (0,none,0) ⟨rfl,congrArg (Value.int .i64) (by rw[jAt]),rfl,rfl,trivial⟩ (fun w hw=>⟨Nat.zero_le _,by simpa using hw⟩) (fun p ρ0=>?_);obtain⟨k,oA,oc⟩:=p;dsimp only;refine WP.fact (fun hkl=>?_);refine gg ?_;refine WP.condP rfl (fun h28=>?_) (fun h28=>?_)
  ·obtain⟨x,hx⟩:∃x,l[k]?=some x:=⟨_,List.getElem?_eq_getElem (by omega)⟩;obtain⟨ab,ao,rfl,hc⟩:=hz k x hx;refine gg ?_;refine vl (vO hc) ?_;refine gg ?_;refine WP.condP rfl (fun h33=>?_) (fun h33=>?_)
   case' _=>
    have hgap:(if k=0 then jAt kind (subI room (longP l gap)) gap l k else addI (jAt kind (subI room (longP l gap)) gap l k) gap)=addI (jAt kind (subI room (longP l gap)) gap l k) gap:=by rw[if_neg (by omega)]
    refine gg ?_;refine vl (vC (add_any _ _ _)) ?_;refine av ?_;refine nl (oo ?_)
   rotate_left
   case' _=>
    have hgap:(if k=0 then jAt kind (subI room (longP l gap)) gap l k else addI (jAt kind (subI room (longP l gap)) gap l k) gap)=jAt kind (subI room (longP l gap)) gap l k:=by rw[if_pos (by omega)]
    refine WP.skip (onto_of ?_)
   all_goals
    refine sqR ?_;refine mv rfl ?_;refine gg ?_;refine eF (xV (hsh k (by omega)) hcf) fun _ _=>?_;refine av ?_;refine nl (oo ?_);refine sqR ?_;have hbl:-1099511627776≤(subI room (longP l gap))∧(subI room (longP l gap))≤1099511627776:=subI_bd _ _;have hb1:=beforeP_bd (kind:=kind) (n:=(l.length:Int)) (k:=(k:Int)) hbl;have hb2:=beforeP_bd (kind:=kind) (n:=(l.length:Int)) (k:=(k:Int) - 1) hbl;rw[←hgap]
    iterate 3 refine av ?_
    refine vl (v_sub rfl rfl (by split<;>omega)) ?_;refine vl (vC (add_any _ _ _)) ?_;refine gg ?_;refine WPL.ef (xN (L1 rfl)) fun g48=>?_;refine WPL.ef (xP 0 4) fun⟨A49,c49⟩=>?_;refine gg ?_;refine vl (vC (add_any _ _ _)) ?_;refine av ?_;refine nl (oo ?_);refine WP.region ?_
    iterate 2 refine av ?_
    exact nl fun w hw=>⟨rfl,(k+1,A49,c49),(by simp only;omega),⟨rfl,(congrArg (Value.int .i64) (jAt_succ hx)),(congrArg (Value.int .i64) (by simp only;rw[if_neg (by omega),show ((k+1:Nat):Int) - 1=(k:Int) by omega])),rfl,jI,rfl,jS,jI,trivial⟩,⟨by simp only;omega,by simp only;rw[starts_take kind l room gap (by omega),List.map_append];exact(hw.sel [1,2,3,0] (by decide))⟩⟩
  ·obtain rfl:k=l.length:=by omega
   have htk:(startsP kind l room gap).take l.length=startsP kind l room gap:=List.take_of_length_le (by rw[starts_len];omega);refine WP.exit (onto_of ?_);refine gg ?_;exact rt1 fun w hw=>⟨(oA,oc),rfl,trivial,by rw[←htk];exact hw.pk⟩
end Go.Proofs.YtbedndijejpcaaaGreat
