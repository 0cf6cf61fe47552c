/- RecPure RecSty Fork -/
import Derived.Test.YtbedndijejpcaaaGreatH4
set_option linter.unusedVariables false
set_option linter.unusedSimpArgs false
set_option linter.unusedSectionVars false
set_option maxRecDepth 100000
set_option maxHeartbeats 8000000
namespace Go.Proofs.YtbedndijejpcaaaGreat
open Go.RowKit
def within (n lo hi:Int):Bool:=decide (lo≤n∧n≤hi)
def jt (k n:Int):Bool:=decide ((k=0∧n=0)∨(k=1∧-1099511627776≤n∧n≤1099511627776)∨(k=2∧0≤n∧n≤1000000))
def U0 (b:Bool):Int:=if b then 1 else 0
theorem GC (n:Int):cut n=n↔-1099511627776≤n∧n≤1099511627776:=by unfold cut;omega
theorem BF (n:Int):jq n 0 1000000=n↔0≤n∧n≤1000000:=by rw[ml (by omega) (by omega) (by omega)];omega
theorem mW (n lo hi:Int) (w:World):Calls Tryz.prog 100 #[.int .i64 n,.int .i64 lo,.int .i64 hi] w fun e w'=>e=.returned (.bool (within n lo hi))∧w=w':=by
  refine bK Tryz.func100 rfl Tryz.ntmps100 (by simp) ?_;refine eh ?_;refine sg (v:=.bool false) rfl ?_;refine nl (oo ?_);refine eh ?_;refine lj rfl ?_;refine lj rfl ?_;refine vl (gn rfl rfl) ?_;refine Fs rfl ?_;refine aj.split 10 rfl (fun h10=>?_) (fun h10=>?_)
  ·refine vg (aC (v:=.int .i64 _) rfl) ?_;refine vg (aC (v:=.int .i64 _) rfl) ?_;refine vg (gn rfl rfl) ?_;refine vl (fJ (u:=.bool _) rfl rfl) ?_;refine oF rfl ?_;refine nl (oo ?_);exact WP.cP Tryz.results100 (fun _ h=>h) (fun w hw=>⟨by first | exact congrArg Value.bool (decide_eq_decide.2 (by omega)) | exact congrArg Value.bool (decide_eq_false (by omega)).symm,hw.symm⟩)
  ·refine sk ?_;refine sk ?_;refine sk ?_;refine vl (eM (v:=.bool _) rfl rfl) ?_;refine oF rfl ?_;refine nl (oo ?_);exact WP.cP Tryz.results100 (fun _ h=>h) (fun w hw=>⟨by first | exact congrArg Value.bool (decide_eq_decide.2 (by omega)) | exact congrArg Value.bool (decide_eq_false (by omega)).symm,hw.symm⟩)
theorem ED (n lo hi:Int) (w:World):Calls Tryz.prog 101 #[.int .i64 n,.int .i64 lo,.int .i64 hi] w fun e w'=>e=.returned (.bool (within n lo hi))∧w=w':=by
  refine bK Tryz.func101 rfl Tryz.ntmps101 (by simp) ?_;refine eh ?_;refine sg (v:=.bool false) rfl ?_;refine nl (oo ?_);refine eh ?_;refine lj rfl ?_;refine lj rfl ?_;refine vl (gn rfl rfl) ?_;refine Fs rfl ?_;refine aj.split 10 rfl (fun h10=>?_) (fun h10=>?_)
  ·refine vg (aC (v:=.int .i64 _) rfl) ?_;refine vg (aC (v:=.int .i64 _) rfl) ?_;refine vg (gn rfl rfl) ?_;refine vl (fJ (u:=.bool _) rfl rfl) ?_;refine oF rfl ?_;refine nl (oo ?_);exact WP.cP Tryz.results101 (fun _ h=>h) (fun w hw=>⟨by first | exact congrArg Value.bool (decide_eq_decide.2 (by omega)) | exact congrArg Value.bool (decide_eq_false (by omega)).symm,hw.symm⟩)
  ·refine sk ?_;refine sk ?_;refine sk ?_;refine vl (eM (v:=.bool _) rfl rfl) ?_;refine oF rfl ?_;refine nl (oo ?_);exact WP.cP Tryz.results101 (fun _ h=>h) (fun w hw=>⟨by first | exact congrArg Value.bool (decide_eq_decide.2 (by omega)) | exact congrArg Value.bool (decide_eq_false (by omega)).symm,hw.symm⟩)
theorem EH (n lo hi:Int) (w:World):Calls Tryz.prog 102 #[.int .i64 n,.int .i64 lo,.int .i64 hi] w fun e w'=>e=.returned (.bool (within n lo hi))∧w=w':=by
  refine bK Tryz.func102 rfl Tryz.ntmps102 (by simp) ?_;refine eh ?_;refine sg (v:=.bool false) rfl ?_;refine nl (oo ?_);refine eh ?_;refine lj rfl ?_;refine lj rfl ?_;refine vl (gn rfl rfl) ?_;refine Fs rfl ?_;refine aj.split 10 rfl (fun h10=>?_) (fun h10=>?_)
  ·refine vg (aC (v:=.int .i64 _) rfl) ?_;refine vg (aC (v:=.int .i64 _) rfl) ?_;refine vg (gn rfl rfl) ?_;refine vl (fJ (u:=.bool _) rfl rfl) ?_;refine oF rfl ?_;refine nl (oo ?_);exact WP.cP Tryz.results102 (fun _ h=>h) (fun w hw=>⟨by first | exact congrArg Value.bool (decide_eq_decide.2 (by omega)) | exact congrArg Value.bool (decide_eq_false (by omega)).symm,hw.symm⟩)
  ·refine sk ?_;refine sk ?_;refine sk ?_;refine vl (eM (v:=.bool _) rfl rfl) ?_;refine oF rfl ?_;refine nl (oo ?_);exact WP.cP Tryz.results102 (fun _ h=>h) (fun w hw=>⟨by first | exact congrArg Value.bool (decide_eq_decide.2 (by omega)) | exact congrArg Value.bool (decide_eq_false (by omega)).symm,hw.symm⟩)
theorem EZ (n lo hi:Int) (w:World):Calls Tryz.prog 103 #[.int .i64 n,.int .i64 lo,.int .i64 hi] w fun e w'=>e=.returned (.bool (within n lo hi))∧w=w':=by
  refine bK Tryz.func103 rfl Tryz.ntmps103 (by simp) ?_;refine eh ?_;refine sg (v:=.bool false) rfl ?_;refine nl (oo ?_);refine eh ?_;refine lj rfl ?_;refine lj rfl ?_;refine vl (gn rfl rfl) ?_;refine Fs rfl ?_;refine aj.split 10 rfl (fun h10=>?_) (fun h10=>?_)
  ·refine vg (aC (v:=.int .i64 _) rfl) ?_;refine vg (aC (v:=.int .i64 _) rfl) ?_;refine vg (gn rfl rfl) ?_;refine vl (fJ (u:=.bool _) rfl rfl) ?_;refine oF rfl ?_;refine nl (oo ?_);exact WP.cP Tryz.results103 (fun _ h=>h) (fun w hw=>⟨by first | exact congrArg Value.bool (decide_eq_decide.2 (by omega)) | exact congrArg Value.bool (decide_eq_false (by omega)).symm,hw.symm⟩)
  ·refine sk ?_;refine sk ?_;refine sk ?_;refine vl (eM (v:=.bool _) rfl rfl) ?_;refine oF rfl ?_;refine nl (oo ?_);exact WP.cP Tryz.results103 (fun _ h=>h) (fun w hw=>⟨by first | exact congrArg Value.bool (decide_eq_decide.2 (by omega)) | exact congrArg Value.bool (decide_eq_false (by omega)).symm,hw.symm⟩)
theorem Fm (n lo hi:Int) (w:World):Calls Tryz.prog 104 #[.int .i64 n,.int .i64 lo,.int .i64 hi] w fun e w'=>e=.returned (.bool (within n lo hi))∧w=w':=by
  refine bK Tryz.func104 rfl Tryz.ntmps104 (by simp) ?_;refine eh ?_;refine sg (v:=.bool false) rfl ?_;refine nl (oo ?_);refine eh ?_;refine lj rfl ?_;refine lj rfl ?_;refine vl (gn rfl rfl) ?_;refine Fs rfl ?_;refine aj.split 10 rfl (fun h10=>?_) (fun h10=>?_)
  ·refine vg (aC (v:=.int .i64 _) rfl) ?_;refine vg (aC (v:=.int .i64 _) rfl) ?_;refine vg (gn rfl rfl) ?_;refine vl (fJ (u:=.bool _) rfl rfl) ?_;refine oF rfl ?_;refine nl (oo ?_);exact WP.cP Tryz.results104 (fun _ h=>h) (fun w hw=>⟨by first | exact congrArg Value.bool (decide_eq_decide.2 (by omega)) | exact congrArg Value.bool (decide_eq_false (by omega)).symm,hw.symm⟩)
  ·refine sk ?_;refine sk ?_;refine sk ?_;refine vl (eM (v:=.bool _) rfl rfl) ?_;refine oF rfl ?_;refine nl (oo ?_);exact WP.cP Tryz.results104 (fun _ h=>h) (fun w hw=>⟨by first | exact congrArg Value.bool (decide_eq_decide.2 (by omega)) | exact congrArg Value.bool (decide_eq_false (by omega)).symm,hw.symm⟩)
theorem DT (n lo hi:Int) (w:World):Calls Tryz.prog 105 #[.int .i64 n,.int .i64 lo,.int .i64 hi] w fun e w'=>e=.returned (.bool (within n lo hi))∧w=w':=by
  refine bK Tryz.func105 rfl Tryz.ntmps105 (by simp) ?_;refine eh ?_;refine sg (v:=.bool false) rfl ?_;refine nl (oo ?_);refine eh ?_;refine lj rfl ?_;refine lj rfl ?_;refine vl (gn rfl rfl) ?_;refine Fs rfl ?_;refine aj.split 10 rfl (fun h10=>?_) (fun h10=>?_)
  ·refine vg (aC (v:=.int .i64 _) rfl) ?_;refine vg (aC (v:=.int .i64 _) rfl) ?_;refine vg (gn rfl rfl) ?_;refine vl (fJ (u:=.bool _) rfl rfl) ?_;refine oF rfl ?_;refine nl (oo ?_);exact WP.cP Tryz.results105 (fun _ h=>h) (fun w hw=>⟨by first | exact congrArg Value.bool (decide_eq_decide.2 (by omega)) | exact congrArg Value.bool (decide_eq_false (by omega)).symm,hw.symm⟩)
  ·refine sk ?_;refine sk ?_;refine sk ?_;refine vl (eM (v:=.bool _) rfl rfl) ?_;refine oF rfl ?_;refine nl (oo ?_);exact WP.cP Tryz.results105 (fun _ h=>h) (fun w hw=>⟨by first | exact congrArg Value.bool (decide_eq_decide.2 (by omega)) | exact congrArg Value.bool (decide_eq_false (by omega)).symm,hw.symm⟩)
theorem DR (n lo hi:Int) (w:World):Calls Tryz.prog 106 #[.int .i64 n,.int .i64 lo,.int .i64 hi] w fun e w'=>e=.returned (.bool (within n lo hi))∧w=w':=by
  refine bK Tryz.func106 rfl Tryz.ntmps106 (by simp) ?_;refine eh ?_;refine sg (v:=.bool false) rfl ?_;refine nl (oo ?_);refine eh ?_;refine lj rfl ?_;refine lj rfl ?_;refine vl (gn rfl rfl) ?_;refine Fs rfl ?_;refine aj.split 10 rfl (fun h10=>?_) (fun h10=>?_)
  ·refine vg (aC (v:=.int .i64 _) rfl) ?_;refine vg (aC (v:=.int .i64 _) rfl) ?_;refine vg (gn rfl rfl) ?_;refine vl (fJ (u:=.bool _) rfl rfl) ?_;refine oF rfl ?_;refine nl (oo ?_);exact WP.cP Tryz.results106 (fun _ h=>h) (fun w hw=>⟨by first | exact congrArg Value.bool (decide_eq_decide.2 (by omega)) | exact congrArg Value.bool (decide_eq_false (by omega)).symm,hw.symm⟩)
  ·refine sk ?_;refine sk ?_;refine sk ?_;refine vl (eM (v:=.bool _) rfl rfl) ?_;refine oF rfl ?_;refine nl (oo ?_);exact WP.cP Tryz.results106 (fun _ h=>h) (fun w hw=>⟨by first | exact congrArg Value.bool (decide_eq_decide.2 (by omega)) | exact congrArg Value.bool (decide_eq_false (by omega)).symm,hw.symm⟩)
theorem Ex (n lo hi:Int) (w:World):Calls Tryz.prog 107 #[.int .i64 n,.int .i64 lo,.int .i64 hi] w fun e w'=>e=.returned (.bool (within n lo hi))∧w=w':=by
  refine bK Tryz.func107 rfl Tryz.ntmps107 (by simp) ?_;refine eh ?_;refine sg (v:=.bool false) rfl ?_;refine nl (oo ?_);refine eh ?_;refine lj rfl ?_;refine lj rfl ?_;refine vl (gn rfl rfl) ?_;refine Fs rfl ?_;refine aj.split 10 rfl (fun h10=>?_) (fun h10=>?_)
  ·refine vg (aC (v:=.int .i64 _) rfl) ?_;refine vg (aC (v:=.int .i64 _) rfl) ?_;refine vg (gn rfl rfl) ?_;refine vl (fJ (u:=.bool _) rfl rfl) ?_;refine oF rfl ?_;refine nl (oo ?_);exact WP.cP Tryz.results107 (fun _ h=>h) (fun w hw=>⟨by first | exact congrArg Value.bool (decide_eq_decide.2 (by omega)) | exact congrArg Value.bool (decide_eq_false (by omega)).symm,hw.symm⟩)
  ·refine sk ?_;refine sk ?_;refine sk ?_;refine vl (eM (v:=.bool _) rfl rfl) ?_;refine oF rfl ?_;refine nl (oo ?_);exact WP.cP Tryz.results107 (fun _ h=>h) (fun w hw=>⟨by first | exact congrArg Value.bool (decide_eq_decide.2 (by omega)) | exact congrArg Value.bool (decide_eq_false (by omega)).symm,hw.symm⟩)
theorem eu (n lo hi:Int) (w:World):Calls Tryz.prog 169 #[.int .i64 n,.int .i64 lo,.int .i64 hi] w fun e w'=>e=.returned (.bool (within n lo hi))∧w=w':=by
  refine bK Tryz.func169 rfl Tryz.ntmps169 (by simp) ?_;refine eh ?_;refine sg (v:=.bool false) rfl ?_;refine nl (oo ?_);refine eh ?_;refine lj rfl ?_;refine lj rfl ?_;refine vl (oV rfl rfl) ?_;refine Fs rfl ?_;refine aj.split 10 rfl (fun h10=>?_) (fun h10=>?_)
  ·refine vg (aC (v:=.int .i64 _) rfl) ?_;refine vg (aC (v:=.int .i64 _) rfl) ?_;refine vg (gn rfl rfl) ?_;refine vl (fJ (u:=.bool _) rfl rfl) ?_;refine oF rfl ?_;refine nl (oo ?_);exact WP.cP Tryz.results169 (fun _ h=>h) (fun w hw=>⟨by first | exact congrArg Value.bool (decide_eq_decide.2 (by omega)) | exact congrArg Value.bool (decide_eq_false (by omega)).symm,hw.symm⟩)
  ·refine sk ?_;refine sk ?_;refine sk ?_;refine vl (eM (v:=.bool _) rfl rfl) ?_;refine oF rfl ?_;refine nl (oo ?_);exact WP.cP Tryz.results169 (fun _ h=>h) (fun w hw=>⟨by first | exact congrArg Value.bool (decide_eq_decide.2 (by omega)) | exact congrArg Value.bool (decide_eq_false (by omega)).symm,hw.symm⟩)
theorem yj (k n:Int):Ct Tryz.prog 98 #[.agg #[.int .i64 k,.int .i64 n]] [] (fun _=>True) (X:=Unit) (fun _=>.bool (jt k n)) (fun _=>True) (fun _=>[]):=by
  refine Ct.intro Tryz.func98 rfl Tryz.ntmps98 (by simp) (fun w0 _=>?_);refine eh ?_;refine aj.ef (fw (us:=[.int .i64 _,.int .i64 _]) (σ':=fun _=>[_]) rfl (fun _=>rfl)) (fun b1=>?_);refine sg (v:=.bool false) rfl ?_;refine nl (oo ?_);refine sq ?_;refine eh ?_;refine vl (aS (o':=0) Tryz.underlying33 rfl Tryz.sizeOf31 rfl rfl) ?_;refine vl (ai (u:=.int .i64 _) Tryz.isAgg31 rfl (fun w hw=>hw.aq (i:=0) rfl _ rfl)) ?_;refine nl (oo ?_);refine WP.block ?_;refine eh ?_;refine vl (dD rfl rfl) ?_;refine oF rfl ?_;refine nl (oo ?_);refine WP.aw rfl (fun h5=>?_) (fun h5=>?_)
  case' _=>
   refine eh ?_;refine vl (aS (o':=1) Tryz.underlying33 rfl Tryz.sizeOf3 rfl rfl) ?_;refine vl (ai (u:=.int .i64 _) Tryz.isAgg3 rfl (fun w hw=>hw.aq (i:=0) rfl _ rfl)) ?_;refine vl (dD rfl rfl) ?_;refine oF rfl ?_;refine nl (oo ?_)
  rotate_left
  case' _=>
   refine eh ?_;refine vl (dD rfl rfl) ?_;refine oF rfl ?_;refine nl (oo ?_);refine WP.aw rfl (fun h10=>?_) (fun h10=>?_)
   case' _=>
    refine sq ?_;refine WP.fj none [(0,true),(1,true),(2,true),(3,true),(4,true),(5,true),(6,true)] mixed (by kernel_rfl) (by decide) (fun _ h=>h.drawn) ?_;refine aB.take rfl (aS (o':=1) Tryz.underlying33 rfl Tryz.sizeOf3 rfl rfl) ?_ (fun _ h=>h);refine aB.take rfl (ai (u:=.int .i64 _) Tryz.isAgg3 rfl (fun w hw=>hw.aq (i:=0) rfl _ rfl)) ?_ (fun _ h=>h);refine aB.take rfl (qC Tryz.call60 (fun w hw=>bI _ _)) ?_ (fun _ h=>h);refine aB.take rfl (aS (o':=1) Tryz.underlying33 rfl Tryz.sizeOf3 rfl rfl) ?_ (fun _ h=>h);refine aB.take rfl (ai (u:=.int .i64 _) Tryz.isAgg3 rfl (fun w hw=>hw.aq (i:=0) rfl _ rfl)) ?_ (fun _ h=>h);refine aB.take rfl (dD rfl rfl) ?_ (fun _ h=>h);refine aB.take rfl (dB (v:=.bool _) rfl) ?_ (fun _ h=>h);refine aB.nil (an ?_)
   rotate_left
   case' _=>
    refine eh ?_;refine vl (dD rfl rfl) ?_;refine oF rfl ?_;refine nl (oo ?_);refine WP.aw rfl (fun h18=>?_) (fun h18=>?_)
    case' _=>
     refine sq ?_;refine WP.fj none [(0,true),(1,true),(2,true),(3,true),(4,true),(5,true),(6,true)] mixed (by kernel_rfl) (by decide) (fun _ h=>h.drawn) ?_;refine aB.take rfl (aS (o':=1) Tryz.underlying33 rfl Tryz.sizeOf3 rfl rfl) ?_ (fun _ h=>h);refine aB.take rfl (ai (u:=.int .i64 _) Tryz.isAgg3 rfl (fun w hw=>hw.aq (i:=0) rfl _ rfl)) ?_ (fun _ h=>h);refine aB.take rfl (qC Tryz.call64 (fun w hw=>kN _ _ _ _)) ?_ (fun _ h=>h);refine aB.take rfl (aS (o':=1) Tryz.underlying33 rfl Tryz.sizeOf3 rfl rfl) ?_ (fun _ h=>h);refine aB.take rfl (ai (u:=.int .i64 _) Tryz.isAgg3 rfl (fun w hw=>hw.aq (i:=0) rfl _ rfl)) ?_ (fun _ h=>h);refine aB.take rfl (dD rfl rfl) ?_ (fun _ h=>h);refine aB.take rfl (dB (v:=.bool _) rfl) ?_ (fun _ h=>h);refine aB.nil (an ?_)
    rotate_left
    case' _=>
     refine WP.skip (an ?_);refine eh ?_;refine sg (v:=.bool false) rfl ?_;refine nl (oo ?_)
  all_goals
   exact WP.cP Tryz.results98 (fun _ h=>h) (fun w hw=>⟨(),by first | exact congrArg Value.bool (decide_eq_decide.2 (by omega)) | exact congrArg Value.bool (decide_eq_decide.2 (by have h1:=GC n;omega)) | exact congrArg Value.bool (decide_eq_decide.2 (by have h2:=BF n;omega)) | exact congrArg Value.bool (decide_eq_false (by omega)).symm,trivial,hw.sel [] (by decide)⟩)
theorem xQ (k n:Int):Ct Tryz.prog 170 #[.agg #[.int .i64 k,.int .i64 n]] [] (fun _=>True) (X:=Unit) (fun _=>.bool (jt k n)) (fun _=>True) (fun _=>[]):=by
  refine Ct.intro Tryz.func170 rfl Tryz.ntmps170 (by simp) (fun w0 _=>?_);refine eh ?_;refine aj.ef (fw (us:=[.int .i64 _,.int .i64 _]) (σ':=fun _=>[_]) rfl (fun _=>rfl)) (fun b1=>?_);refine sg (v:=.bool false) rfl ?_;refine nl (oo ?_);refine sq ?_;refine eh ?_;refine vl (aS (o':=0) Tryz.underlying33 rfl Tryz.sizeOf31 rfl rfl) ?_;refine vl (ai (u:=.int .i64 _) Tryz.isAgg31 rfl (fun w hw=>hw.aq (i:=0) rfl _ rfl)) ?_;refine nl (oo ?_);refine WP.block ?_;refine eh ?_;refine vl (dD rfl rfl) ?_;refine oF rfl ?_;refine nl (oo ?_);refine WP.aw rfl (fun h5=>?_) (fun h5=>?_)
  ·refine eh ?_;refine vl (aS (o':=1) Tryz.underlying33 rfl Tryz.sizeOf3 rfl rfl) ?_;refine vl (ai (u:=.int .i64 _) Tryz.isAgg3 rfl (fun w hw=>hw.aq (i:=0) rfl _ rfl)) ?_;refine vl (dD rfl rfl) ?_;refine oF rfl ?_;refine nl (oo ?_);exact WP.cP Tryz.results170 (fun _ h=>h) (fun w hw=>⟨(),by first | exact congrArg Value.bool (decide_eq_decide.2 (by omega)) | exact congrArg Value.bool (decide_eq_false (by omega)).symm,trivial,hw.sel [] (by decide)⟩)
  ·refine eh ?_;refine vl (dD rfl rfl) ?_;refine oF rfl ?_;refine nl (oo ?_);refine WP.aw rfl (fun h10=>?_) (fun h10=>?_)
   ·refine eh ?_;refine vl (aS (o':=1) Tryz.underlying33 rfl Tryz.sizeOf3 rfl rfl) ?_;refine vl (ai (u:=.int .i64 _) Tryz.isAgg3 rfl (fun w hw=>hw.aq (i:=0) rfl _ rfl)) ?_;refine vl (oV rfl rfl) ?_;refine Fs rfl ?_;refine aj.split 15 rfl (fun h15=>?_) (fun h15=>?_)
    ·refine vg (aS (o':=1) Tryz.underlying33 rfl Tryz.sizeOf3 rfl rfl) ?_;refine vg (ai (u:=.int .i64 _) Tryz.isAgg3 rfl (fun w hw=>hw.aq (i:=0) rfl _ rfl)) ?_;refine vg (gn rfl rfl) ?_;refine vl (fJ (u:=.bool _) rfl rfl) ?_;refine oF rfl ?_;refine nl (oo ?_);exact WP.cP Tryz.results170 (fun _ h=>h) (fun w hw=>⟨(),by first | exact congrArg Value.bool (decide_eq_decide.2 (by omega)) | exact congrArg Value.bool (decide_eq_false (by omega)).symm,trivial,hw.sel [] (by decide)⟩)
    ·refine sk ?_;refine sk ?_;refine sk ?_;refine vl (eM (v:=.bool _) rfl rfl) ?_;refine oF rfl ?_;refine nl (oo ?_);exact WP.cP Tryz.results170 (fun _ h=>h) (fun w hw=>⟨(),by first | exact congrArg Value.bool (decide_eq_decide.2 (by omega)) | exact congrArg Value.bool (decide_eq_false (by omega)).symm,trivial,hw.sel [] (by decide)⟩)
   ·refine eh ?_;refine vl (dD rfl rfl) ?_;refine oF rfl ?_;refine nl (oo ?_);refine WP.aw rfl (fun h20=>?_) (fun h20=>?_)
    ·refine eh ?_;refine vl (aS (o':=1) Tryz.underlying33 rfl Tryz.sizeOf3 rfl rfl) ?_;refine vl (ai (u:=.int .i64 _) Tryz.isAgg3 rfl (fun w hw=>hw.aq (i:=0) rfl _ rfl)) ?_;refine vl (oV rfl rfl) ?_;refine Fs rfl ?_;refine aj.split 25 rfl (fun h25=>?_) (fun h25=>?_)
     ·refine vg (aS (o':=1) Tryz.underlying33 rfl Tryz.sizeOf3 rfl rfl) ?_;refine vg (ai (u:=.int .i64 _) Tryz.isAgg3 rfl (fun w hw=>hw.aq (i:=0) rfl _ rfl)) ?_;refine vg (gn rfl rfl) ?_;refine vl (fJ (u:=.bool _) rfl rfl) ?_;refine oF rfl ?_;refine nl (oo ?_);exact WP.cP Tryz.results170 (fun _ h=>h) (fun w hw=>⟨(),by first | exact congrArg Value.bool (decide_eq_decide.2 (by omega)) | exact congrArg Value.bool (decide_eq_false (by omega)).symm,trivial,hw.sel [] (by decide)⟩)
     ·refine sk ?_;refine sk ?_;refine sk ?_;refine vl (eM (v:=.bool _) rfl rfl) ?_;refine oF rfl ?_;refine nl (oo ?_);exact WP.cP Tryz.results170 (fun _ h=>h) (fun w hw=>⟨(),by first | exact congrArg Value.bool (decide_eq_decide.2 (by omega)) | exact congrArg Value.bool (decide_eq_false (by omega)).symm,trivial,hw.sel [] (by decide)⟩)
    ·refine WP.skip (an ?_);refine eh ?_;refine sg (v:=.bool false) rfl ?_;refine nl (oo ?_);exact WP.cP Tryz.results170 (fun _ h=>h) (fun w hw=>⟨(),by first | exact congrArg Value.bool (decide_eq_decide.2 (by omega)) | exact congrArg Value.bool (decide_eq_false (by omega)).symm,trivial,hw.sel [] (by decide)⟩)
theorem cell_of {cs:List Value} {j:Nat} {u:Value} (h:cs[j]?=some u):(cs.drop j).take ([u]:List Value).length=[u]:=by
  have hj:=(List.getElem?_eq_some_iff.1 h).1;rw[List.drop_eq_getElem_cons hj,(List.getElem?_eq_some_iff.1 h).2];rfl
def num01:Value→Int
  | .int _ z=>z
  | .bool b=>U0 b
  | _=>0
def val (cs:List Value) (j:Nat):Int:=num01 (cs.getD j undef)
def iJ (cs:List Value) (j:Nat):Bool:=match cs.getD j undef with
  | .bool b=>b
  | _=>false
def kP (j:Nat):Bool:=j==45||j==47||j==51||j==52
structure bZ (cs:List Value):Prop where
  len:cs.length=55
  int:∀j,j<55→kP j=false→cs[j]?=some (.int .i64 (val cs j))
  bit:∀j,j<55→kP j=true→cs[j]?=some (.bool (iJ cs j))
def EI (cs:List Value):List Int:=cs.map num01
theorem Jh {cs:List Value} (hs:bZ cs) {j:Nat} (hj:j<55):(EI cs)[j]?=some (val cs j):=by
  have hl:=hs.len;unfold EI val;rw[List.getElem?_map,List.getD_eq_getElem?_getD,List.getElem?_eq_getElem (by omega)];rfl
theorem df {α:Type} {l:List α} {i:Nat} {e:α} (h:l[i]?=some e):l.take (i+1)=l.take i++[e]:=by
  rw[List.take_add_one,h];rfl
theorem bZ.step {cs:List Value} (hs:bZ cs) (j:Nat) (hj:j<55):(EI cs).take j++[val cs j]=(EI cs).take (j+1):=(df (Jh hs hj)).symm
def w5:List Nat:=[3,5,7,9,11,13,41,15,17,19,21,23,25,27,29]
def xT:List Nat:=[46,31,32,33,34,35,36,37,38,53,54]
def ou (cs:List Value):List (Int×Int):=w5.map fun j=>(val cs j,val cs (j+1))
def lN (cs:List Value):List Int:=xT.map (val cs)
def j7 (cs:List Value):Bool:=within (val cs 0) 0 3&&within (val cs 1) 0 4&&within (val cs 2) 0 2
def mC (cs:List Value):Bool:=within (val cs 43) 0 5&&within (val cs 44) 0 3&&within (val cs 49) 0 2&&within (val cs 50) 0 3
def lU (cs:List Value):Bool:= !(ou cs).any fun p=> !jt p.1 p.2
def iQ (cs:List Value):Bool:= !(lN cs).any fun n=> !within n 0 1048576
def bg (cs:List Value):Bool:=j7 cs&&mC cs&&lU cs&&iQ cs&&within (val cs 39) 0 1000&&within (val cs 40) 0 1000&&within (val cs 48) (-1048576) 1048576
theorem bZ.seg {cs:List Value} (hs:bZ cs):∀(n o:Nat),o+n≤55→((List.range' o n).all fun j=> !kP j)=true→(cs.drop o).take n=(List.range' o n).map fun j=>.int .i64 (val cs j)
  | 0,o,_,_=>by simp
  | n + 1, o, h, hb => by
    rw[List.range'_succ,List.all_cons,Bool.and_eq_true] at hb;have h1:=hs.int o (by omega) (by simpa using hb.1);have ho:=(List.getElem?_eq_some_iff.1 h1).1;rw[List.range'_succ,List.map_cons,List.drop_eq_getElem_cons ho,List.take_succ_cons,(List.getElem?_eq_some_iff.1 h1).2,hs.seg n (o+1) (by omega) hb.2]
theorem bZ.gu {cs us:List Value} (hs:bZ cs) (n o:Nat) (h:o+n≤55) (hb:((List.range' o n).all fun j=> !kP j)=true) (hl:us.length=n) (e:((List.range' o n).map fun j=>Value.int .i64 (val cs j))=us):(cs.drop o).take us.length=us:=by
  rw[hl,hs.seg n o h hb,e]
theorem zy {w:World} {b o m:Nat} {us:List Value} (h:aJ w b o us):Src w (some ⟨b,o,none⟩) m us:=.inr ⟨b,o,rfl,h⟩
def aR:List Value:=[.int .i64 0,.int .i64 0,.int .i64 0,.int .i64 0,.int .i64 0,.int .i64 0,.int .i64 0,.int .i64 0,.int .i64 0,.int .i64 0,.int .i64 0,.int .i64 0,.int .i64 0,.int .i64 0,.int .i64 0,.int .i64 0,.int .i64 0,.int .i64 0,.int .i64 0,.int .i64 0,.int .i64 0,.int .i64 0,.int .i64 0,.int .i64 0,.int .i64 0,.int .i64 0,.int .i64 0,.int .i64 0,.int .i64 0,.int .i64 0,.int .i64 0,.int .i64 0,.int .i64 0,.int .i64 0,.int .i64 0,.int .i64 0,.int .i64 0,.int .i64 0,.int .i64 0,.int .i64 0,.int .i64 0,.int .i64 0,.int .i64 0,.int .i64 0,.int .i64 0,.bool false,.int .i64 0,.bool false,.int .i64 0,.int .i64 0,.int .i64 0,.bool false,.bool false,.int .i64 0,.int .i64 0]
theorem Hd:∀j,j<55→aR[j]?=some (if kP j then .bool false else .int .i64 0):=fun j hj=>match j,hj with
  | 0,_=>rfl
  | 1,_=>rfl
  | 2,_=>rfl
  | 3,_=>rfl
  | 4,_=>rfl
  | 5,_=>rfl
  | 6,_=>rfl
  | 7,_=>rfl
  | 8,_=>rfl
  | 9,_=>rfl
  | 10,_=>rfl
  | 11,_=>rfl
  | 12,_=>rfl
  | 13,_=>rfl
  | 14,_=>rfl
  | 15,_=>rfl
  | 16,_=>rfl
  | 17,_=>rfl
  | 18,_=>rfl
  | 19,_=>rfl
  | 20,_=>rfl
  | 21,_=>rfl
  | 22,_=>rfl
  | 23,_=>rfl
  | 24,_=>rfl
  | 25,_=>rfl
  | 26,_=>rfl
  | 27,_=>rfl
  | 28,_=>rfl
  | 29,_=>rfl
  | 30,_=>rfl
  | 31,_=>rfl
  | 32,_=>rfl
  | 33,_=>rfl
  | 34,_=>rfl
  | 35,_=>rfl
  | 36,_=>rfl
  | 37,_=>rfl
  | 38,_=>rfl
  | 39,_=>rfl
  | 40,_=>rfl
  | 41,_=>rfl
  | 42,_=>rfl
  | 43,_=>rfl
  | 44,_=>rfl
  | 45,_=>rfl
  | 46,_=>rfl
  | 47,_=>rfl
  | 48,_=>rfl
  | 49,_=>rfl
  | 50,_=>rfl
  | 51,_=>rfl
  | 52,_=>rfl
  | 53,_=>rfl
  | 54,_=>rfl
  | j+55,h=>absurd h (by omega)
theorem bZ.ID {cs:List Value} {f:Nat→Int} {g:Nat→Bool} (hl:cs.length=55) (h:∀j,j<55→cs[j]?=some (if kP j then .bool (g j) else .int .i64 (f j))):bZ cs:=by
  refine⟨hl,fun j hj hb=>?_,fun j hj hb=>?_⟩
  · have h1 := h j hj
    rw[hb] at h1;unfold val;rw[List.getD_eq_getElem?_getD,h1];rfl
  · have h1 := h j hj
    rw[hb] at h1;unfold iJ;rw[List.getD_eq_getElem?_getD,h1];rfl
theorem eQ:bZ aR:=bZ.ID (f:=fun _=>0) (g:=fun _=>false) rfl Hd
theorem bZ.one {cs:List Value} (hs:bZ cs):∀u∈cs,u.oneCell'=true:=fun u hu=>by
  obtain⟨j,hj⟩:=List.getElem?_of_mem hu;have hlt:=(List.getElem?_eq_some_iff.1 hj).1;rw[hs.len] at hlt;cases hb:kP j with
  | false=>rw[hs.int j hlt hb] at hj;cases hj;rfl
  | true=>rw[hs.bit j hlt hb] at hj;cases hj;rfl
theorem whole (cs:List Value):(cs.drop 0).take cs.length=cs:=by simp
theorem rW {α:Type} (p:α→Bool) (l:List α):l.all p= !l.any fun x=> !p x:=by
  induction l with
  | nil=>rfl
  | cons x l ih=>simp only[List.all_cons,List.any_cons,ih,Bool.not_or,Bool.not_not]
theorem y5 {α:Type} {p:α→Bool} {l m:List α} (h:l.Perm m):l.all p=m.all p:=by
  rw[Bool.eq_iff_iff,List.all_eq_true,List.all_eq_true];exact⟨fun k x hx=>k x (h.mem_iff.2 hx),fun k x hx=>k x (h.mem_iff.1 hx)⟩
def nP (n m:Nat):Array Bool:=((List.range n).map fun i=>m.testBit i).toArray
section
variable {P:Program} {r:Option Nat} {N:Nat} {Q:XP} {ρ:Env} {ds:List Deferred} {S S':World→Prop}
def dP (P:Program) (r:Option Nat) (N:Nat) (l:List Oper) (Sh:World→Prop) (f n m:Nat) (Q:XP) (ρ:Env) (ds:List Deferred) (S:World→Prop):Prop:=
  ∀w,S w→∀a,Fr N ρ ds a→Region.noSelect l.toArray=true→l.toArray.all bJ=true→gX N l=true→oh P r l.toArray (JB N Q) none Sh f (nP n m) a w
def xr (N:Nat) (l:List Oper):Bool:=Region.noSelect l.toArray&&l.toArray.all bJ&&gX N l&&(nP l.length 0==Array.replicate l.length false)
theorem WP.ad9 {id:Nat} {l:List Oper} (Sh:World→Prop) (hm:P.follows .mixedOrders=true) (hB:xr N l=true) (hD:∀w,S w→S {w with drawn:=w.drawn+1}) (h:dP P r N l Sh l.length l.length 0 Q ρ ds S):WP P r N (.region id l.toArray true) Q ρ ds S:=by
  intro w hw a ha;simp only[xr,Bool.and_eq_true,beq_iff_eq] at hB;obtain⟨⟨⟨h1,h2⟩,h3⟩,h4⟩:=hB;refine wpIn_region_any hm (oz (fin:=none) (Sh:=Sh) _ _ _ _ ?_);have h5:=h _ (hD w hw) a ha h1 h2 h3;rw[h4] at h5
  simpa using h5
def KW (l:List Oper) (n m m' i:Nat):Bool:=Region.free .any l.toArray (nP n m) i&&(Region.ready .any l.toArray (nP n m)).contains i&&(nP n m).setIfInBounds i true==nP n m'
theorem dP.tkW {l:List Oper} {Sh:World→Prop} {f n m:Nat} (m' i:Nat) {o:Oper} {v:Value} (hc:KW l n m m' i=true) (hi:l[i]?=some o) (hS:∀w,S w→Sh w)
    (hv:(wants l.toArray ρ o=true∧cw P Sh o ρ v)∨(wants l.toArray ρ o=false∧v=undef)) (k:dP P r N l Sh f n m' Q (xU ρ o.dst v) ds S):dP P r N l Sh (f+1) n m Q ρ ds S:=by
  intro w hw a ha hsel hdf hN;simp only[KW,Bool.and_eq_true,beq_iff_eq] at hc;obtain⟨⟨h1,h2⟩,h3⟩:=hc;have hi':l.toArray[i]?=some o:=by simpa using hi
  have hput:Fr N (xU ρ o.dst v) ds (a.put o.dst v):=ha.put fun d hd=>jF hN (j:=i) (by simp[hi,hd]);refine pB (v:=v) hi' (by simp) (Region.noSelect_spec hsel) (fun j o ho=>CO hdf ho) (fun c a w h=>h) (fun f o hf=>by cases hf) _ _ _ _ (Region.free_spec hi' h1) (by simpa using h2) ?_ (hS w hw) ?_
  · have hwt := ia (ops := l.toArray) (o := o) ha (fun j b d _ hd' => jF hN hd')
    unfold fR;rw[hwt]
    rcases hv with ⟨h,hv⟩ | ⟨h,hv⟩
    · exact .inl ⟨h,fun w hw=>by rw[ha.eval];exact hv w hw⟩
    · exact .inr ⟨h,hv⟩
  · rw [h3]
    exact k w hw _ hput hsel hdf hN
theorem dP.tk {l:List Oper} {Sh:World→Prop} {f n m:Nat} (m' i:Nat) {o:Oper} {v:Value} {d:Nat} (hc:KW l n m m' i=true) (hi:l[i]?=some o) (hv:cw P Sh o ρ v) (k:dP P r N l Sh f n m' Q (upd ρ d v) ds S) (hS:∀w,S w→Sh w) (hw:wants l.toArray ρ o=true:=by rfl) (hd:o.dst=some d:=by rfl):dP P r N l Sh (f+1) n m Q ρ ds S:=
  dP.tkW m' i hc hi hS (.inl ⟨hw,hv⟩) (by rw[hd];exact k)
theorem dP.skip {l:List Oper} {Sh:World→Prop} {f n m:Nat} (m' i:Nat) {o:Oper} {d:Nat} (hc:KW l n m m' i=true) (hi:l[i]?=some o) (k:dP P r N l Sh f n m' Q (upd ρ d undef) ds S) (hS:∀w,S w→Sh w) (hw:wants l.toArray ρ o=false:=by rfl) (hd:o.dst=some d:=by rfl):dP P r N l Sh (f+1) n m Q ρ ds S:=
  dP.tkW m' i hc hi hS (.inr ⟨hw,rfl⟩) (by rw[hd];exact k)
def ey (P:Program) (r:Option Nat) (N:Nat) (l:List Oper) (Sh:World→Prop) (f n m i:Nat) (Q:XP) (ρ:Env) (ds:List Deferred) (S:World→Prop):Prop:=
  ∀ w, S w → ∀ a, Fr N ρ ds a → Region.noSelect l.toArray = true → l.toArray.all bJ = true → gX N l = true →
    wpOpIn (FW r) 0 P l.toArray (JB N Q) i (fun a' w'=>(some i≠none→Sh w')∧oh P r l.toArray (JB N Q) none Sh f ((nP n m).setIfInBounds i true) a' w') a w
def IW (l:List Oper) (n m:Nat) (is:List Nat):Bool:=Region.ready .any l.toArray (nP n m)==is
theorem dP.any {l:List Oper} {Sh:World→Prop} {f n m:Nat} (is:List Nat) (hc:IW l n m is=true) (hne:is≠[]) (h:∀i∈is,ey P r N l Sh f n m i Q ρ ds S):dP P r N l Sh (f+1) n m Q ρ ds S:=by
  intro w hw a ha hsel hdf hN;simp only[IW,beq_iff_eq] at hc;refine⟨fun h0=>absurd (hc.symm.trans h0) hne,fun j hj=>?_⟩;rw[hc] at hj;exact h j hj w hw a ha hsel hdf hN
theorem dP.aeb {l:List Oper} {Sh:World→Prop} {f n m i:Nat} (hc:IW l n m [i]=true) (h:ey P r N l Sh f n m i Q ρ ds S):dP P r N l Sh (f+1) n m Q ρ ds S:=dP.any [i] hc (by simp) (by simpa using h)
theorem dP.ad5 {l:List Oper} {Sh:World→Prop} {f n m i j:Nat} (hc:IW l n m [i,j]=true) (h:ey P r N l Sh f n m i Q ρ ds S) (h':ey P r N l Sh f n m j Q ρ ds S):dP P r N l Sh (f+1) n m Q ρ ds S:=dP.any [i,j] hc (by simp) (by simpa using ⟨h,h'⟩)
theorem dP.ad4 {l:List Oper} {Sh:World→Prop} {f n m i j k:Nat} (hc:IW l n m [i,j,k]=true) (h:ey P r N l Sh f n m i Q ρ ds S) (h':ey P r N l Sh f n m j Q ρ ds S) (h'':ey P r N l Sh f n m k Q ρ ds S):dP P r N l Sh (f+1) n m Q ρ ds S:=dP.any [i,j,k] hc (by simp) (by simpa using ⟨h,h',h''⟩)
def za (n m m' i:Nat):Bool:=(nP n m).setIfInBounds i true==nP n m'
theorem ey.efW {l:List Oper} {Sh:World→Prop} {f n m i:Nat} (m':Nat) {o:Oper} {X:Type} {v:X→Value} {T:X→World→Prop} (hc:za n m m' i=true) (hi:l[i]?=some o) (hw:wants l.toArray ρ o=true) (h:cX P r S o ρ v T) (hT:∀x w,T x w→Sh w)
    (k:∀x,dP P r N l Sh f n m' Q (xU ρ o.dst (v x)) ds (T x)):ey P r N l Sh f n m i Q ρ ds S:=by
  intro w hw' a ha hsel hdf hN;simp only[za,beq_iff_eq] at hc;have hi':l.toArray[i]?=some o:=by simpa using hi
  unfold Go.wpOpIn;simp only[hi'];rw[ia (ops:=l.toArray) (o:=o) ha (fun j b d _ hd'=>jF hN hd'),hw,if_pos rfl];refine h w hw' a ha.eval _ _ fun x w' hx=>⟨fun _=>hT x w' hx,?_⟩;rw[hc];exact k x w' hx _ (ha.put fun d hd=>jF hN (j:=i) (by simp[hi,hd])) hsel hdf hN
theorem ey.ef {l:List Oper} {Sh:World→Prop} {f n m i:Nat} (m':Nat) {o:Oper} {X:Type} {v:X→Value} {T:X→World→Prop} {d:Nat} (hc:za n m m' i=true) (hi:l[i]?=some o) (h:cX P r S o ρ v T) (hT:∀x w,T x w→Sh w)
    (k:∀x,dP P r N l Sh f n m' Q (upd ρ d (v x)) ds (T x)) (hw:wants l.toArray ρ o=true:=by rfl) (hd:o.dst=some d:=by rfl):ey P r N l Sh f n m i Q ρ ds S:=ey.efW m' hc hi hw h hT fun x=>by rw[hd];exact k x
theorem ey.aX {l:List Oper} {Sh:World→Prop} {f n m i:Nat} (m':Nat) {o:Oper} {X:Type} {v:X→Value} {T:X→World→Prop} (hc:za n m m' i=true) (hi:l[i]?=some o) (h:cX P r S o ρ v T) (hT:∀x w,T x w→Sh w)
    (k:∀x,dP P r N l Sh f n m' Q ρ ds (T x)) (hw:wants l.toArray ρ o=true:=by rfl) (hd:o.dst=none:=by rfl):ey P r N l Sh f n m i Q ρ ds S:=ey.efW m' hc hi hw h hT fun x=>by rw[hd];exact k x
theorem ey.val {l:List Oper} {Sh:World→Prop} {f n m i:Nat} (m':Nat) {o:Oper} {v:Value} {d:Nat} (hc:za n m m' i=true) (hi:l[i]?=some o) (hv:cw P S o ρ v) (hS:∀w,S w→Sh w) (k:dP P r N l Sh f n m' Q (upd ρ d v) ds S)
    (hw:wants l.toArray ρ o=true:=by rfl) (hd:o.dst=some d:=by rfl) (hdf:bJ o=true:=by rfl):ey P r N l Sh f n m i Q ρ ds S:=
  ey.efW m' hc hi hw (hv.toX hdf) (fun _ w h=>hS w h) fun _=>by rw[hd];exact k
theorem dP.nil {l:List Oper} {Sh:World→Prop} {n m:Nat} (hc:IW l n m []=true) (h:∀w,S w→Q .normal ρ ds w):dP P r N l Sh 0 n m Q ρ ds S:=
  fun w hw a ha _ _ _=>⟨by simpa [IW] using hc,ρ,ds,ha,h w hw⟩
theorem dP.fact {p:Prop} {l:List Oper} {Sh:World→Prop} {f n m:Nat} (h:p→dP P r N l Sh f n m Q ρ ds S):dP P r N l Sh f n m Q ρ ds (fun w=>p∧S w):=fun w ⟨hp,hw⟩=>h hp w hw
theorem dP.ex {X:Type} {l:List Oper} {Sh:World→Prop} {f n m:Nat} {S:X→World→Prop} (h:∀x,dP P r N l Sh f n m Q ρ ds (S x)):dP P r N l Sh f n m Q ρ ds (fun w=>∃x,S x w):=fun w ⟨x,hw⟩=>h x w hw
theorem dP.pre {l:List Oper} {Sh:World→Prop} {f n m:Nat} (h:dP P r N l Sh f n m Q ρ ds S') (hs:∀w,S w→S' w):dP P r N l Sh f n m Q ρ ds S:=fun w hw=>h w (hs w hw)
theorem dP.aY {l:List Oper} {Sh:World→Prop} {f n m:Nat} {b:Bool} (d:Nat) (hd:ρ d=.bool b) (ht:b=true→dP P r N l Sh f n m Q (upd ρ d (.bool true)) ds S) (hf:b=false→dP P r N l Sh f n m Q (upd ρ d (.bool false)) ds S):dP P r N l Sh f n m Q ρ ds S:=by
  cases b with
  | true=>have:=ht rfl;rwa [fx hd] at this
  | false=>have:=hf rfl;rwa [fx hd] at this
theorem dP.dj {id:Nat} {l:List Oper} {w0:World} {M:Nat→Prop} {σ:List HI} (idx:List Nat) (hm:P.follows .mixedOrders=true) (hB:xr N l=true) (hn:idx.Nodup) (h:dP P r N l (St w0 M (sel σ idx)) l.length l.length 0 Q ρ ds (St w0 M σ)):WP P r N (.region id l.toArray true) Q ρ ds (St w0 M σ):=
  WP.ad9 _ hm hB (fun _ h=>h.drawn) h
end
end Go.Proofs.YtbedndijejpcaaaGreat
