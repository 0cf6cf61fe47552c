/- FlowWin FlowKid -/
import Derived.Test.YtbedndijejpcaaaGreatS19
set_option linter.unusedVariables false
set_option linter.unusedSimpArgs false
set_option linter.unusedSectionVars false
set_option maxRecDepth 100000
set_option maxHeartbeats 8000000
namespace Go.Proofs.YtbedndijejpcaaaGreat
open Go.RowKit
section
variable {F:Forest (List Value)} {k:Int} {rw rh:Int}
def wS0 (F:Forest (List Value)) (k rw:Int):Int:=if fixedL (val (stF F k) 3) rw then -1 else limW (stF F k) (val (stF F k) 53) rw+eA (stF F k)
theorem wS0_yes (h:(!fixedL (val (stF F k) 3) rw)=true):wS0 F k rw=limW (stF F k) (val (stF F k) 53) rw+eA (stF F k):=by unfold wS0;rw[if_neg];intro h2;rw[h2] at h;cases h
theorem wS0_no (h:(!fixedL (val (stF F k) 3) rw)=false):wS0 F k rw= -1:=by unfold wS0;rw[if_pos];simpa using h
theorem wSetW_a (h1:(!fixedL (val (stF F k) 3) rw)=true) (h2:inF (stF F k) 3 rw=true) (h3:inF (stF F k) 1 rw=true):wSetW F k rw=max (rw - inO (stF F k) 3 rw - inO (stF F k) 1 rw - mA (stF F k) rw) 0:=by
  unfold wSetW;rw[if_neg (by intro h;rw[h] at h1;cases h1),if_pos ⟨h2,h3⟩]
theorem wSetW_b (h1:(!fixedL (val (stF F k) 3) rw)=false∨inF (stF F k) 3 rw=false∨inF (stF F k) 1 rw=false):wSetW F k rw=wS0 F k rw:=by
  unfold wSetW wS0
  split
  · rfl
  · rename_i h
    rcases h1 with h1 | h1
    · exact absurd (by simpa using h1) h
    · rw [if_neg]
      rintro ⟨h2,h3⟩
      rw[h2,h3] at h1
      rcases h1 with h1 | h1<;>cases h1
theorem wSetH_a (h1:(!fixedL (val (stF F k) 5) rh)=true) (h2:inF (stF F k) 0 rh=true) (h3:inF (stF F k) 2 rh=true):wSetH F k rh=max (rh - inO (stF F k) 0 rh - inO (stF F k) 2 rh - mD (stF F k)) 0:=by
  unfold wSetH;rw[if_pos ⟨by simpa using h1,h2,h3⟩]
theorem wSetH_b (h1:(!fixedL (val (stF F k) 5) rh)=false∨inF (stF F k) 0 rh=false∨inF (stF F k) 2 rh=false):wSetH F k rh= -1:=by
  unfold wSetH;rw[if_neg]
  rintro ⟨h2,h3,h4⟩
  rw[h2,h3,h4] at h1
  rcases h1 with h1 | h1 | h1<;>cases h1
theorem wSet_bd (hs:GS (stF F k)):(-1≤wSetW F k rw∧wSetW F k rw≤max rw 0+4402345672704)∧-1≤wSetH F k rh∧wSetH F k rh≤max rh 0+4402345672704:=by
  have h1:=inO_bd (stF F k) 0 rh;have h2:=inO_bd (stF F k) 2 rh;have h3:=inO_bd (stF F k) 1 rw;have h4:=inO_bd (stF F k) 3 rw;have h5:=mA_bd (stF F k) rw;have h6:=mD_bd (stF F k);have h7:=limW_bd (stF F k) (val (stF F k) 53) rw;have h8:=hs.eA_bd;refine⟨?_,?_⟩
  · unfold wSetW
    split
    · omega
    · split<;>omega
  · unfold wSetH
    split<;>omega
def wX (F:Forest (List Value)) (k rw px w:Int):Int:=if inF (stF F k) 3 rw then inO (stF F k) 3 rw else if inF (stF F k) 1 rw then rw - inO (stF F k) 1 rw - mA (stF F k) rw - w else px
def wY (F:Forest (List Value)) (k rh py h:Int):Int:=if inF (stF F k) 0 rh then inO (stF F k) 0 rh else if inF (stF F k) 2 rh then rh - inO (stF F k) 2 rh - mD (stF F k) - h else py
theorem wX_a {px w:Int} (h:inF (stF F k) 3 rw=true):wX F k rw px w=inO (stF F k) 3 rw:=if_pos h
theorem wX_b {px w:Int} (h:inF (stF F k) 3 rw=false) (h2:inF (stF F k) 1 rw=true):wX F k rw px w=rw - inO (stF F k) 1 rw - mA (stF F k) rw - w:=by unfold wX;rw[if_neg (by rw[h];decide),if_pos h2]
theorem wX_c {px w:Int} (h:inF (stF F k) 3 rw=false) (h2:inF (stF F k) 1 rw=false):wX F k rw px w=px:=by unfold wX;rw[if_neg (by rw[h];decide),if_neg (by rw[h2];decide)]
theorem wY_a {py w:Int} (h:inF (stF F k) 0 rh=true):wY F k rh py w=inO (stF F k) 0 rh:=if_pos h
theorem wY_b {py w:Int} (h:inF (stF F k) 0 rh=false) (h2:inF (stF F k) 2 rh=true):wY F k rh py w=rh - inO (stF F k) 2 rh - mD (stF F k) - w:=by unfold wY;rw[if_neg (by rw[h];decide),if_pos h2]
theorem wY_c {py w:Int} (h:inF (stF F k) 0 rh=false) (h2:inF (stF F k) 2 rh=false):wY F k rh py w=py:=by unfold wY;rw[if_neg (by rw[h];decide),if_neg (by rw[h2];decide)]
theorem wXY_bd {px py w h:Int} (hr:(0≤rw∧rw≤2251799813685248)∧0≤rh∧rh≤2251799813685248) (hp:(0≤px∧px≤2097152)∧0≤py∧py≤2097152) (hw:(0≤w∧w≤2260595906707456)∧0≤h∧h≤2260595906707456):(-4503599627370496≤wX F k rw px w∧wX F k rw px w≤4503599627370496)∧-4503599627370496≤wY F k rh py h∧wY F k rh py h≤4503599627370496:=by
  have h1:=inO_bd (stF F k) 0 rh;have h2:=inO_bd (stF F k) 2 rh;have h3:=inO_bd (stF F k) 1 rw;have h4:=inO_bd (stF F k) 3 rw;have h5:=mA_bd (stF F k) rw;have h6:=mD_bd (stF F k);unfold wX wY;refine⟨?_,?_⟩
  · split
    · omega
    · split<;>omega
  · split
    · omega
    · split<;>omega
theorem withinP_eq {L:LayF} {px py:Int}:withinP F L k rw rh px py={wF F L k rw rh with x:=wX F k rw px (wF F L k rw rh).w+mS (stF F k) rw 3,y:=wY F k rh py (wF F L k rw rh).h+mS (stF F k) rw 0}:=rfl
end
section
variable (tp mb fb lb:Nat) (es:List PE) (hk:LOk es) {d:Int→Nat} (hF:WF (FoR es) d) (hg:∀x,GS (stF (FoR es) x)) (ww wh:Int) (V L:LayF) (k:Int) (B:Int) (hkb:LB L k) (hl:LayOK tp mb fb lb es ww wh V L k B) (hB:281474976710656≤B∧B≤2251799813685248)
def ApOK (f:Nat) (args:List Value) (R:Frm):Prop:=∀(m:List (KI×Value)) (H:Pool),MOK V H m→
  Ct Tryz.prog f (.pointer (some ⟨fb,0,none⟩)::args).toArray [treeI tp mb es,flI fb tp lb ww wh,mapKI lb m,poolI H] (fun _=>True) (X:=XL) (fun p=>.agg (encF R p.2.2.1 p.2.2.2).toArray)
    (fun p=>H.Sub p.2.1∧MOK V p.2.1 p.1∧RepK p.2.1 p.2.2.1 R.kids) (fun p=>[treeI tp mb es,flI fb tp lb ww wh,mapKI lb p.1,poolI p.2.1])
include hk hF hg hkb hl hB in
theorem fwithin_ct (rw rh px py:Int) (hrw:0≤rw∧rw+4402345672704≤B) (hrh:0≤rh∧rh+4402345672704≤B) (hp:(0≤px∧px≤2097152)∧0≤py∧py≤2097152):
    ApOK tp mb fb lb es ww wh V 180 [.int .i64 k,q2 rw rh,q2 px py] (withinP (FoR es) L k rw rh px py):=by
  intro m0 H0 hm0;have hea:0≤eA (stF (FoR es) k)∧eA (stF (FoR es) k)≤4194304:=(hg k).eA_bd;have heaw:eA (stF (FoR es) k)=eS (stF (FoR es) k) 3+eS (stF (FoR es) k) 1:=rfl;have hma:=mA_bd (stF (FoR es) k) rw;have hmaw:mA (stF (FoR es) k) rw=mS (stF (FoR es) k) rw 3+mS (stF (FoR es) k) rw 1:=rfl;have hmd:=mD_bd (stF (FoR es) k);have hmdw:mD (stF (FoR es) k)=mS (stF (FoR es) k) rw 0+mS (stF (FoR es) k) rw 2:=rfl;have hms0:=mS_bd (stF (FoR es) k) rw 0;have hms3:=mS_bd (stF (FoR es) k) rw 3;have hi0:=inO_bd (stF (FoR es) k) 0 rh;have hi2:=inO_bd (stF (FoR es) k) 2 rh;have hi1:=inO_bd (stF (FoR es) k) 1 rw;have hi3:=inO_bd (stF (FoR es) k) 3 rw;have hlw:=limW_bd (stF (FoR es) k) (val (stF (FoR es) k) 53) rw;have hset:=wSet_bd (rw:=rw) (rh:=rh) (hg k);obtain⟨hb1,hb2,hb3,hb4,hb5⟩:_∧_∧_∧(0≤(wF (FoR es) L k rw rh).w∧(wF (FoR es) L k rw rh).w≤_)∧(0≤(wF (FoR es) L k rw rh).h∧(wF (FoR es) L k rw rh).h≤_):=hkb rw rh (wSetW (FoR es) k rw) (wSetH (FoR es) k rh);have hxy:=wXY_bd (F:=FoR es) (k:=k) (rw:=rw) (rh:=rh) (px:=px) (py:=py) (w:=(wF (FoR es) L k rw rh).w) (h:=(wF (FoR es) L k rw rh).h) (by omega) hp (by omega);refine Ci fun w0 _=>?_;refine gg ?_;refine WPL.ef xB fun b6=>?_;refine WPL.ef xB fun b7=>?_;refine WPL.ef xAl fun b8=>?_;refine gg ?_;refine eF (xC (style_ct tp mb es hk k)) fun _ _=>?_;refine WPL.ef xAl fun b9=>?_;refine WPL.ef0 (xZ (hg k).ok rfl) fun _=>?_;refine gg ?_;refine vl (vW (SOk.len (hg k).ok)) ?_;refine gg ?_;refine eF (xC (fmargins_ct (stF (FoR es) k) (hg k).ok rw)) fun _ _=>?_;refine WPL.ef xAl fun b10=>?_;refine WPL.ef0 (xW rfl) fun _=>?_;refine nl (oo ?_);refine sqR ?_;refine vl (v_array (us:=[.int .i64 _,.int .i64 _]) Tryz.underlying109 Tryz.zeroValue109 Tryz.sizeOf3 rfl rfl rfl) ?_;refine WPL.ef xAl fun b11=>?_;refine WPL.ef0 (xW rfl) fun _=>?_;refine nl (oo ?_);refine WP.midK [0,1,6,7,8,9,10,11] (X:=Unit) (fun _=>[]) (fun _=>fun w=>St w0 (foots [treeI tp mb es,flI fb tp lb ww wh,mapKI lb m0,poolI H0]) [treeI tp mb es,flI fb tp lb ww wh,mapKI lb m0,poolI H0,.cl b6 109 [.int .i64 rw,.int .i64 rh],.cl b7 109 [.int .i64 px,.int .i64 py],.cl b8 115 [.int .i64 0,.int .i64 0,.int .i64 0,.int .i64 0,.int .i64 0,.slice none 0 0],.cl b9 42 (stF (FoR es) k),.cl b10 35 [.int .i64 (mS (stF (FoR es) k) rw 0),.int .i64 (mS (stF (FoR es) k) rw 1),.int .i64 (mS (stF (FoR es) k) rw 2),.int .i64 (mS (stF (FoR es) k) rw 3)],.cl b11 109 [.int .i64 (wS0 (FoR es) k rw),.int .i64 (-1)]] w) ?_ (fun _ ρ0=>?_)
  ·refine gg ?_;refine vl (vS2 (hg k).ok 3 4) ?_;refine gg ?_;refine eF (xC (fixed_ct (val (stF (FoR es) k) 3) (val (stF (FoR es) k) 4) rw)) fun _ _=>?_;refine gg ?_;refine WP.cond rfl (fun h38=>?_) (fun h38=>?_)
   ·refine wP (some 15) [0,1,2,3,4,5,6,7,8,9] [pT 0,pT 1,pT 2,pT 3,pT 4,pT 5,pT 6,pT 7,pT 8,pT 10,pF 9,pF 11,pF 12,pT 13,pT 14,pF 15] ?_;refine gg ?_;refine tD (vS (hg k).ok 53) ?_;refine gg ?_;refine tD (vS2 (hg k).ok 7 8) ?_;refine gg ?_;refine tD (vS2 (hg k).ok 11 12) ?_;refine gg ?_;refine tD (vW (SOk.len (hg k).ok)) ?_;refine dG (xC (limit_ct (val (stF (FoR es) k) 53) (val (stF (FoR es) k) 7) (val (stF (FoR es) k) 8) (val (stF (FoR es) k) 11) (val (stF (FoR es) k) 12) rw)) fun _ _=>?_;refine dG (xC (fedges_ct _ (hg k).ok (hg k).eS_far)) fun _ _=>?_;refine dG (xC (fsum0_ct (eS (stF (FoR es) k) 0) (eS (stF (FoR es) k) 1) (eS (stF (FoR es) k) 2) (eS (stF (FoR es) k) 3) (by omega))) fun _ _=>?_;refine tE rfl (v_add rfl rfl (by show _≤limW (stF (FoR es) k) (val (stF (FoR es) k) 53) rw+eA (stF (FoR es) k)∧limW (stF (FoR es) k) (val (stF (FoR es) k) 53) rw+eA (stF (FoR es) k)≤_;omega)) ?_;refine gg ?_;refine dE0 (xS rfl (isI rfl)) fun _=>?_;exact WPD.nil fun w hw=>⟨rfl,(),⟨jP,jI,rfl,rfl,rfl,rfl,rfl,rfl,trivial⟩,by first | (rw[wS0_yes h38];exact(hw.sel [6,0,1,2,3,4,5,7,8,9] (by decide))) | (rw[wS0_no h38];exact(hw.sel [6,0,1,2,3,4,5,7,8,9] (by decide)))⟩
   ·exact WP.skip fun w hw=>⟨rfl,(),⟨jP,jI,rfl,rfl,rfl,rfl,rfl,rfl,trivial⟩,by first | (rw[wS0_yes h38];exact hw.pk) | (rw[wS0_no h38];exact hw.pk)⟩
  ·refine gg ?_;refine vl (vS2 (hg k).ok 3 4) ?_;refine gg ?_;refine vl (vS2 (hg k).ok 5 6) ?_;refine vl (v_array (us:=[.int .i64 _,.int .i64 _,.int .i64 _,.int .i64 _]) Tryz.underlying275 Tryz.zeroValue275 Tryz.sizeOf33 rfl rfl rfl) ?_;refine gg ?_;refine WP.loopN 3 ?_;refine WPR.succ ?_;refine gg ?_;refine WP.condT rfl ?_;refine WP.skip (onto_of ?_);refine WP.midK [0,1,6,7,8,9,10,11,58,59] (X:=Unit) (fun _=>[]) (fun _=>fun w=>St w0 (foots [treeI tp mb es,flI fb tp lb ww wh,mapKI lb m0,poolI H0]) [treeI tp mb es,flI fb tp lb ww wh,mapKI lb m0,poolI H0,.cl b6 109 [.int .i64 rw,.int .i64 rh],.cl b7 109 [.int .i64 px,.int .i64 py],.cl b8 115 [.int .i64 0,.int .i64 0,.int .i64 0,.int .i64 0,.int .i64 0,.slice none 0 0],.cl b9 42 (stF (FoR es) k),.cl b10 35 [.int .i64 (mS (stF (FoR es) k) rw 0),.int .i64 (mS (stF (FoR es) k) rw 1),.int .i64 (mS (stF (FoR es) k) rw 2),.int .i64 (mS (stF (FoR es) k) rw 3)],.cl b11 109 [.int .i64 (wSetW (FoR es) k rw),.int .i64 (-1)]] w) ?_ (fun _ ρ0=>?_)
   ·refine WP.block ?_;refine sqR ?_;refine av ?_;refine vl (v_idxA (j:=0) (us:=#[.int .i64 _,.int .i64 _]) Tryz.underlying275 Tryz.isAgg33 Tryz.sizeOf33 rfl rfl rfl (by decide) rfl) ?_;refine WPL.ef xAl fun b13=>?_;refine gg ?_;refine WPL.ef0 (xW rfl) fun _=>?_;refine gg ?_;refine eF (xC fends0_ct) fun _ _=>?_;refine mv rfl ?_;refine gg ?_;refine eF (xC (fixed_ct (val (stF (FoR es) k) 3) (val (stF (FoR es) k) 4) rw)) fun _ _=>?_
    iterate 2 refine av ?_
    refine WPL.splitB 75 rfl (fun h75=>?_) (fun h75=>?_)
    ·iterate 3 refine ag ?_
     refine vg (vS2 (hg k).ok 29 30) ?_;refine gg ?_;refine WPL.efG (xC (fixed_ct (val (stF (FoR es) k) 29) (val (stF (FoR es) k) 30) rw)) (fun _=>?_);refine WPL.fact (fun _=>?_)
     iterate 2 refine av ?_
     refine WPL.splitB 83 rfl (fun h83=>?_) (fun h83=>?_)
     ·iterate 3 refine ag ?_
      refine vg (vS2 (hg k).ok 25 26) ?_;refine gg ?_;refine WPL.efG (xC (fixed_ct (val (stF (FoR es) k) 25) (val (stF (FoR es) k) 26) rw)) (fun _=>?_);refine WPL.fact (fun _=>?_);refine gg ?_;refine WP.cond rfl (fun h90=>?_) (fun h90=>?_)
      ·refine wP (some 22) [0,1,2,3,4,5,6,7,8,9,10] [pT 0,pT 1,pT 2,pT 3,pT 4,pT 5,pT 6,pT 9,pT 10,pT 11,pT 12,pT 13,pT 16,pT 17,pF 7,pT 8,pF 14,pT 15,pF 18,pT 19,pT 20,pT 21,pF 22] ?_;refine gg ?_;refine tD (vS2 (hg k).ok 29 30) ?_;refine gg ?_;refine tD (vS2 (hg k).ok 25 26) ?_;refine gg ?_;refine dG (xC (lenof_ct (val (stF (FoR es) k) 29) (val (stF (FoR es) k) 30) rw 0)) fun _ _=>?_;refine tE rfl (v_sub rfl rfl (by show _≤rw - inO (stF (FoR es) k) 3 rw∧rw - inO (stF (FoR es) k) 3 rw≤_;omega)) ?_;refine dG (xC (lenof_ct (val (stF (FoR es) k) 25) (val (stF (FoR es) k) 26) rw 0)) fun _ _=>?_;refine tE rfl (v_sub rfl rfl (by show _≤rw - inO (stF (FoR es) k) 3 rw - inO (stF (FoR es) k) 1 rw∧rw - inO (stF (FoR es) k) 3 rw - inO (stF (FoR es) k) 1 rw≤_;omega)) ?_;refine dG (xC (fsum0_ct (mS (stF (FoR es) k) rw 0) (mS (stF (FoR es) k) rw 1) (mS (stF (FoR es) k) rw 2) (mS (stF (FoR es) k) rw 3) (by omega))) fun _ _=>?_;refine tE rfl (v_sub rfl rfl (by show _≤rw - inO (stF (FoR es) k) 3 rw - inO (stF (FoR es) k) 1 rw - mA (stF (FoR es) k) rw∧rw - inO (stF (FoR es) k) 3 rw - inO (stF (FoR es) k) 1 rw - mA (stF (FoR es) k) rw≤_;omega)) ?_;refine gg ?_;refine dE0 (xS rfl (isI rfl)) fun _=>?_;exact WPD.nil fun w hw=>⟨rfl,(),⟨jP,jI,rfl,rfl,rfl,rfl,rfl,rfl,(via (.agg _) rfl rfl),jI,trivial⟩,by first | (rw[wSetW_a h75 h83 h90];exact(hw.sel [0,1,2,3,4,5,6,7,8,9] (by decide))) | (rw[wSetW_b (.inl h75)];exact(hw.sel [0,1,2,3,4,5,6,7,8,9] (by decide))) | (rw[wSetW_b (.inr (.inl h83))];exact(hw.sel [0,1,2,3,4,5,6,7,8,9] (by decide))) | (rw[wSetW_b (.inr (.inr h90))];exact(hw.sel [0,1,2,3,4,5,6,7,8,9] (by decide)))⟩
      ·exact WP.skip fun w hw=>⟨rfl,(),⟨jP,jI,rfl,rfl,rfl,rfl,rfl,rfl,(via (.agg _) rfl rfl),jI,trivial⟩,by first | (rw[wSetW_a h75 h83 h90];exact hw.pk) | (rw[wSetW_b (.inl h75)];exact hw.pk) | (rw[wSetW_b (.inr (.inl h83))];exact hw.pk) | (rw[wSetW_b (.inr (.inr h90))];exact hw.pk)⟩
     ·refine gg ?_;refine WP.condF rfl ?_;exact WP.skip fun w hw=>⟨rfl,(),⟨jP,jI,rfl,rfl,rfl,rfl,rfl,rfl,(via (.agg _) rfl rfl),jI,trivial⟩,by first | (rw[wSetW_a h75 h83 h90];exact hw.pk) | (rw[wSetW_b (.inl h75)];exact hw.pk) | (rw[wSetW_b (.inr (.inl h83))];exact hw.pk) | (rw[wSetW_b (.inr (.inr h90))];exact hw.pk)⟩
    ·refine gg ?_;refine WP.condF rfl ?_;exact WP.skip fun w hw=>⟨rfl,(),⟨jP,jI,rfl,rfl,rfl,rfl,rfl,rfl,(via (.agg _) rfl rfl),jI,trivial⟩,by first | (rw[wSetW_a h75 h83 h90];exact hw.pk) | (rw[wSetW_b (.inl h75)];exact hw.pk) | (rw[wSetW_b (.inr (.inl h83))];exact hw.pk) | (rw[wSetW_b (.inr (.inr h90))];exact hw.pk)⟩
   ·refine WP.region ?_
    iterate 2 refine av ?_
    refine WPL.nil (rounds_of ?_);refine WPR.succ ?_;refine gg ?_;refine WP.condT rfl ?_;refine WP.skip (onto_of ?_);refine WP.midK [0,1,6,7,8,9,10,11,58,59] (X:=Unit) (fun _=>[]) (fun _=>fun w=>St w0 (foots [treeI tp mb es,flI fb tp lb ww wh,mapKI lb m0,poolI H0]) [treeI tp mb es,flI fb tp lb ww wh,mapKI lb m0,poolI H0,.cl b6 109 [.int .i64 rw,.int .i64 rh],.cl b7 109 [.int .i64 px,.int .i64 py],.cl b8 115 [.int .i64 0,.int .i64 0,.int .i64 0,.int .i64 0,.int .i64 0,.slice none 0 0],.cl b9 42 (stF (FoR es) k),.cl b10 35 [.int .i64 (mS (stF (FoR es) k) rw 0),.int .i64 (mS (stF (FoR es) k) rw 1),.int .i64 (mS (stF (FoR es) k) rw 2),.int .i64 (mS (stF (FoR es) k) rw 3)],.cl b11 109 [.int .i64 (wSetW (FoR es) k rw),.int .i64 (wSetH (FoR es) k rh)]] w) ?_ (fun _ ρ0=>?_)
    ·refine WP.block ?_;refine sqR ?_;refine av ?_;refine vl (v_idxA (j:=1) (us:=#[.int .i64 _,.int .i64 _]) Tryz.underlying275 Tryz.isAgg33 Tryz.sizeOf33 rfl rfl rfl (by decide) rfl) ?_;refine WPL.ef xAl fun b13=>?_;refine gg ?_;refine WPL.ef0 (xW rfl) fun _=>?_;refine gg ?_;refine eF (xC fends1_ct) fun _ _=>?_;refine mv rfl ?_;refine gg ?_;refine eF (xC (fixed_ct (val (stF (FoR es) k) 5) (val (stF (FoR es) k) 6) rh)) fun _ _=>?_
     iterate 2 refine av ?_
     refine WPL.splitB 75 rfl (fun h75=>?_) (fun h75=>?_)
     ·iterate 3 refine ag ?_
      refine vg (vS2 (hg k).ok 23 24) ?_;refine gg ?_;refine WPL.efG (xC (fixed_ct (val (stF (FoR es) k) 23) (val (stF (FoR es) k) 24) rh)) (fun _=>?_);refine WPL.fact (fun _=>?_)
      iterate 2 refine av ?_
      refine WPL.splitB 83 rfl (fun h83=>?_) (fun h83=>?_)
      ·iterate 3 refine ag ?_
       refine vg (vS2 (hg k).ok 27 28) ?_;refine gg ?_;refine WPL.efG (xC (fixed_ct (val (stF (FoR es) k) 27) (val (stF (FoR es) k) 28) rh)) (fun _=>?_);refine WPL.fact (fun _=>?_);refine gg ?_;refine WP.cond rfl (fun h90=>?_) (fun h90=>?_)
       ·refine wP (some 22) [0,1,2,3,4,5,6,7,8,9,10] [pT 0,pT 1,pT 2,pT 3,pT 4,pT 5,pT 6,pT 9,pT 10,pT 11,pT 12,pT 13,pT 16,pT 17,pF 7,pT 8,pF 14,pT 15,pF 18,pT 19,pT 20,pT 21,pF 22] ?_;refine gg ?_;refine tD (vS2 (hg k).ok 23 24) ?_;refine gg ?_;refine tD (vS2 (hg k).ok 27 28) ?_;refine gg ?_;refine dG (xC (lenof_ct (val (stF (FoR es) k) 23) (val (stF (FoR es) k) 24) rh 0)) fun _ _=>?_;refine tE rfl (v_sub rfl rfl (by show _≤rh - inO (stF (FoR es) k) 0 rh∧rh - inO (stF (FoR es) k) 0 rh≤_;omega)) ?_;refine dG (xC (lenof_ct (val (stF (FoR es) k) 27) (val (stF (FoR es) k) 28) rh 0)) fun _ _=>?_;refine tE rfl (v_sub rfl rfl (by show _≤rh - inO (stF (FoR es) k) 0 rh - inO (stF (FoR es) k) 2 rh∧rh - inO (stF (FoR es) k) 0 rh - inO (stF (FoR es) k) 2 rh≤_;omega)) ?_;refine dG (xC (fsum1_ct (mS (stF (FoR es) k) rw 0) (mS (stF (FoR es) k) rw 1) (mS (stF (FoR es) k) rw 2) (mS (stF (FoR es) k) rw 3) (by omega))) fun _ _=>?_;refine tE rfl (v_sub rfl rfl (by show _≤rh - inO (stF (FoR es) k) 0 rh - inO (stF (FoR es) k) 2 rh - mD (stF (FoR es) k)∧rh - inO (stF (FoR es) k) 0 rh - inO (stF (FoR es) k) 2 rh - mD (stF (FoR es) k)≤_;omega)) ?_;refine gg ?_;refine dE0 (xS rfl (isI rfl)) fun _=>?_;exact WPD.nil fun w hw=>⟨rfl,(),⟨jP,jI,rfl,rfl,rfl,rfl,rfl,rfl,(via (.agg _) rfl rfl),jI,trivial⟩,by first | (rw[wSetH_a h75 h83 h90];exact(hw.sel [0,1,2,3,4,5,6,7,8,9] (by decide))) | (rw[wSetH_b (.inl h75)];exact(hw.sel [0,1,2,3,4,5,6,7,8,9] (by decide))) | (rw[wSetH_b (.inr (.inl h83))];exact(hw.sel [0,1,2,3,4,5,6,7,8,9] (by decide))) | (rw[wSetH_b (.inr (.inr h90))];exact(hw.sel [0,1,2,3,4,5,6,7,8,9] (by decide)))⟩
       ·exact WP.skip fun w hw=>⟨rfl,(),⟨jP,jI,rfl,rfl,rfl,rfl,rfl,rfl,(via (.agg _) rfl rfl),jI,trivial⟩,by first | (rw[wSetH_a h75 h83 h90];exact hw.pk) | (rw[wSetH_b (.inl h75)];exact hw.pk) | (rw[wSetH_b (.inr (.inl h83))];exact hw.pk) | (rw[wSetH_b (.inr (.inr h90))];exact hw.pk)⟩
      ·refine gg ?_;refine WP.condF rfl ?_;exact WP.skip fun w hw=>⟨rfl,(),⟨jP,jI,rfl,rfl,rfl,rfl,rfl,rfl,(via (.agg _) rfl rfl),jI,trivial⟩,by first | (rw[wSetH_a h75 h83 h90];exact hw.pk) | (rw[wSetH_b (.inl h75)];exact hw.pk) | (rw[wSetH_b (.inr (.inl h83))];exact hw.pk) | (rw[wSetH_b (.inr (.inr h90))];exact hw.pk)⟩
     ·refine gg ?_;refine WP.condF rfl ?_;exact WP.skip fun w hw=>⟨rfl,(),⟨jP,jI,rfl,rfl,rfl,rfl,rfl,rfl,(via (.agg _) rfl rfl),jI,trivial⟩,by first | (rw[wSetH_a h75 h83 h90];exact hw.pk) | (rw[wSetH_b (.inl h75)];exact hw.pk) | (rw[wSetH_b (.inr (.inl h83))];exact hw.pk) | (rw[wSetH_b (.inr (.inr h90))];exact hw.pk)⟩
    ·refine WP.region ?_
     iterate 2 refine av ?_
     refine WPL.nil (rounds_of ?_);refine WPR.succ ?_;refine gg ?_;refine WP.condF rfl ?_;refine WP.exit (onto_of ?_);refine gg ?_;refine eF (xC (hl m0 H0 rw rh (wSetW (FoR es) k rw) (wSetH (FoR es) k rh) hm0 ⟨⟨by omega,by omega⟩,⟨by omega,by omega⟩,⟨by omega,by omega⟩,by omega,by omega⟩)) fun⟨m1,H1,fA1,fc1⟩ ⟨hsub1,hmok1,hrep1⟩=>?_;dsimp only at hsub1 hmok1 hrep1;refine WPL.ef xAl fun b17=>?_;refine WPL.ef0 (xW rfl) fun _=>?_;refine gg ?_;refine WP.loopN 3 ?_;refine WPR.succ ?_;refine gg ?_;refine WP.condT rfl ?_;refine WP.skip (onto_of ?_);refine WP.midK [6,7,8,9,10,17,119] (X:=Unit) (fun _=>[]) (fun _=>fun w=>St w0 (foots [treeI tp mb es,flI fb tp lb ww wh,mapKI lb m0,poolI H0]) [treeI tp mb es,flI fb tp lb ww wh,mapKI lb m1,poolI H1,.cl b6 109 [.int .i64 rw,.int .i64 rh],.cl b7 109 [.int .i64 (wX (FoR es) k rw px (wF (FoR es) L k rw rh).w),.int .i64 (py)],.cl b8 115 [.int .i64 0,.int .i64 0,.int .i64 0,.int .i64 0,.int .i64 0,.slice none 0 0],.cl b9 42 (stF (FoR es) k),.cl b10 35 [.int .i64 (mS (stF (FoR es) k) rw 0),.int .i64 (mS (stF (FoR es) k) rw 1),.int .i64 (mS (stF (FoR es) k) rw 2),.int .i64 (mS (stF (FoR es) k) rw 3)],.cl b17 115 (encF (wF (FoR es) L k rw rh) fA1 fc1)] w) ?_ (fun _ ρ0=>?_)
     ·refine gg ?_;refine eF (xC fends0_ct) fun _ _=>?_;refine mv rfl ?_;refine gg ?_;refine vl (vS2 (hg k).ok 29 30) ?_;refine gg ?_;refine eF (xC (fixed_ct (val (stF (FoR es) k) 29) (val (stF (FoR es) k) 30) rw)) fun _ _=>?_;refine gg ?_;refine WP.cond rfl (fun h130=>?_) (fun h130=>?_)
      ·refine gg ?_;refine vl (vS2 (hg k).ok 29 30) ?_;refine gg ?_;refine eF (xC (lenof_ct (val (stF (FoR es) k) 29) (val (stF (FoR es) k) 30) rw 0)) fun _ _=>?_;refine gg ?_;refine WPL.ef0 (xS rfl (isI rfl)) fun _=>?_;exact nl fun w hw=>⟨rfl,(),⟨rfl,rfl,rfl,rfl,rfl,rfl,jI,trivial⟩,by first | (rw[wX_a h130];exact(hw.sel [6,7,8,9,0,1,2,3,4,10] (by decide))) | (rw[wX_b h130 h145];exact(hw.sel [6,7,8,9,0,1,2,3,4,10] (by decide))) | (rw[wX_c h130 h145];exact(hw.sel [6,7,8,9,0,1,2,3,4,10] (by decide)))⟩
      ·refine gg ?_;refine vl (vS2 (hg k).ok 25 26) ?_;refine gg ?_;refine eF (xC (fixed_ct (val (stF (FoR es) k) 25) (val (stF (FoR es) k) 26) rw)) fun _ _=>?_;refine gg ?_;refine WP.cond rfl (fun h145=>?_) (fun h145=>?_)
       ·refine wP (some 19) [0,1,2,3,4,5,6,7,8,9,10] [pT 0,pT 1,pT 2,pT 3,pT 4,pT 5,pT 6,pT 9,pT 10,pT 13,pT 14,pT 15,pT 16,pF 7,pT 8,pF 11,pT 12,pT 17,pT 18,pF 19] ?_;refine gg ?_;refine tD (vS2 (hg k).ok 25 26) ?_;refine gg ?_;refine dG (xC (lenof_ct (val (stF (FoR es) k) 25) (val (stF (FoR es) k) 26) rw 0)) fun _ _=>?_;refine tE rfl (v_sub rfl rfl (by show _≤rw - inO (stF (FoR es) k) 1 rw∧rw - inO (stF (FoR es) k) 1 rw≤_;omega)) ?_;refine dG (xC (fsum0_ct (mS (stF (FoR es) k) rw 0) (mS (stF (FoR es) k) rw 1) (mS (stF (FoR es) k) rw 2) (mS (stF (FoR es) k) rw 3) (by omega))) fun _ _=>?_;refine tE rfl (v_sub rfl rfl (by show _≤rw - inO (stF (FoR es) k) 1 rw - mA (stF (FoR es) k) rw∧rw - inO (stF (FoR es) k) 1 rw - mA (stF (FoR es) k) rw≤_;omega)) ?_;refine tE rfl (v_sub rfl rfl (by show _≤rw - inO (stF (FoR es) k) 1 rw - mA (stF (FoR es) k) rw - (wF (FoR es) L k rw rh).w∧rw - inO (stF (FoR es) k) 1 rw - mA (stF (FoR es) k) rw - (wF (FoR es) L k rw rh).w≤_;omega)) ?_;refine gg ?_;refine dE0 (xS rfl (isI rfl)) fun _=>?_;exact WPD.nil fun w hw=>⟨rfl,(),⟨rfl,rfl,rfl,rfl,rfl,rfl,jI,trivial⟩,by first | (rw[wX_a h130];exact(hw.sel [6,7,8,9,0,1,2,3,4,10] (by decide))) | (rw[wX_b h130 h145];exact(hw.sel [6,7,8,9,0,1,2,3,4,10] (by decide))) | (rw[wX_c h130 h145];exact(hw.sel [6,7,8,9,0,1,2,3,4,10] (by decide)))⟩
       ·exact WP.skip fun w hw=>⟨rfl,(),⟨rfl,rfl,rfl,rfl,rfl,rfl,jI,trivial⟩,by first | (rw[wX_a h130];exact(hw.sel [6,7,8,9,0,1,2,3,4,10] (by decide))) | (rw[wX_b h130 h145];exact(hw.sel [6,7,8,9,0,1,2,3,4,10] (by decide))) | (rw[wX_c h130 h145];exact(hw.sel [6,7,8,9,0,1,2,3,4,10] (by decide)))⟩
     ·refine WP.region ?_
      iterate 2 refine av ?_
      refine WPL.nil (rounds_of ?_);refine WPR.succ ?_;refine gg ?_;refine WP.condT rfl ?_;refine WP.skip (onto_of ?_);refine WP.midK [6,7,8,9,10,17,119] (X:=Unit) (fun _=>[]) (fun _=>fun w=>St w0 (foots [treeI tp mb es,flI fb tp lb ww wh,mapKI lb m0,poolI H0]) [treeI tp mb es,flI fb tp lb ww wh,mapKI lb m1,poolI H1,.cl b6 109 [.int .i64 rw,.int .i64 rh],.cl b7 109 [.int .i64 (wX (FoR es) k rw px (wF (FoR es) L k rw rh).w),.int .i64 (wY (FoR es) k rh py (wF (FoR es) L k rw rh).h)],.cl b8 115 [.int .i64 0,.int .i64 0,.int .i64 0,.int .i64 0,.int .i64 0,.slice none 0 0],.cl b9 42 (stF (FoR es) k),.cl b10 35 [.int .i64 (mS (stF (FoR es) k) rw 0),.int .i64 (mS (stF (FoR es) k) rw 1),.int .i64 (mS (stF (FoR es) k) rw 2),.int .i64 (mS (stF (FoR es) k) rw 3)],.cl b17 115 (encF (wF (FoR es) L k rw rh) fA1 fc1)] w) ?_ (fun _ ρ0=>?_)
      ·refine gg ?_;refine eF (xC fends1_ct) fun _ _=>?_;refine mv rfl ?_;refine gg ?_;refine vl (vS2 (hg k).ok 23 24) ?_;refine gg ?_;refine eF (xC (fixed_ct (val (stF (FoR es) k) 23) (val (stF (FoR es) k) 24) rh)) fun _ _=>?_;refine gg ?_;refine WP.cond rfl (fun h130=>?_) (fun h130=>?_)
       ·refine gg ?_;refine vl (vS2 (hg k).ok 23 24) ?_;refine gg ?_;refine eF (xC (lenof_ct (val (stF (FoR es) k) 23) (val (stF (FoR es) k) 24) rh 0)) fun _ _=>?_;refine gg ?_;refine WPL.ef0 (xS rfl (isI rfl)) fun _=>?_;exact nl fun w hw=>⟨rfl,(),⟨rfl,rfl,rfl,rfl,rfl,rfl,jI,trivial⟩,by first | (rw[wY_a h130];exact(hw.sel [0,1,2,3,4,5,6,7,8,9] (by decide))) | (rw[wY_b h130 h145];exact(hw.sel [0,1,2,3,4,5,6,7,8,9] (by decide))) | (rw[wY_c h130 h145];exact(hw.sel [0,1,2,3,4,5,6,7,8,9] (by decide)))⟩
       ·refine gg ?_;refine vl (vS2 (hg k).ok 27 28) ?_;refine gg ?_;refine eF (xC (fixed_ct (val (stF (FoR es) k) 27) (val (stF (FoR es) k) 28) rh)) fun _ _=>?_;refine gg ?_;refine WP.cond rfl (fun h145=>?_) (fun h145=>?_)
        ·refine wP (some 19) [0,1,2,3,4,5,6,7,8,9] [pT 0,pT 1,pT 2,pT 3,pT 4,pT 5,pT 6,pT 9,pT 10,pT 13,pT 14,pT 15,pT 16,pF 7,pT 8,pF 11,pT 12,pT 17,pT 18,pF 19] ?_;refine gg ?_;refine tD (vS2 (hg k).ok 27 28) ?_;refine gg ?_;refine dG (xC (lenof_ct (val (stF (FoR es) k) 27) (val (stF (FoR es) k) 28) rh 0)) fun _ _=>?_;refine tE rfl (v_sub rfl rfl (by show _≤rh - inO (stF (FoR es) k) 2 rh∧rh - inO (stF (FoR es) k) 2 rh≤_;omega)) ?_;refine dG (xC (fsum1_ct (mS (stF (FoR es) k) rw 0) (mS (stF (FoR es) k) rw 1) (mS (stF (FoR es) k) rw 2) (mS (stF (FoR es) k) rw 3) (by omega))) fun _ _=>?_;refine tE rfl (v_sub rfl rfl (by show _≤rh - inO (stF (FoR es) k) 2 rh - mD (stF (FoR es) k)∧rh - inO (stF (FoR es) k) 2 rh - mD (stF (FoR es) k)≤_;omega)) ?_;refine tE rfl (v_sub rfl rfl (by show _≤rh - inO (stF (FoR es) k) 2 rh - mD (stF (FoR es) k) - (wF (FoR es) L k rw rh).h∧rh - inO (stF (FoR es) k) 2 rh - mD (stF (FoR es) k) - (wF (FoR es) L k rw rh).h≤_;omega)) ?_;refine gg ?_;refine dE0 (xS rfl (isI rfl)) fun _=>?_;exact WPD.nil fun w hw=>⟨rfl,(),⟨rfl,rfl,rfl,rfl,rfl,rfl,jI,trivial⟩,by first | (rw[wY_a h130];exact(hw.sel [0,1,2,3,4,5,6,7,8,9] (by decide))) | (rw[wY_b h130 h145];exact(hw.sel [0,1,2,3,4,5,6,7,8,9] (by decide))) | (rw[wY_c h130 h145];exact(hw.sel [0,1,2,3,4,5,6,7,8,9] (by decide)))⟩
        ·exact WP.skip fun w hw=>⟨rfl,(),⟨rfl,rfl,rfl,rfl,rfl,rfl,jI,trivial⟩,by first | (rw[wY_a h130];exact hw.pk) | (rw[wY_b h130 h145];exact hw.pk) | (rw[wY_c h130 h145];exact hw.pk)⟩
      ·refine WP.region ?_
       iterate 2 refine av ?_
       refine WPL.nil (rounds_of ?_);refine WPR.succ ?_;refine gg ?_;refine WP.condF rfl ?_;refine WP.exit (onto_of ?_);refine gg ?_;refine wP (some 5) [0,1,2,3,4,5,6,7,8,9] [pT 0,pT 1,pF 2,pF 3,pT 4,pF 5] ?_;refine gg ?_;refine dG (xC (fbegins_ct (mS (stF (FoR es) k) rw 0) (mS (stF (FoR es) k) rw 1) (mS (stF (FoR es) k) rw 2) (mS (stF (FoR es) k) rw 3))) fun _ _=>?_;refine dG (xC (fplus_ct (wX (FoR es) k rw px (wF (FoR es) L k rw rh).w) (wY (FoR es) k rh py (wF (FoR es) L k rw rh).h) (mS (stF (FoR es) k) rw 3) (mS (stF (FoR es) k) rw 0) (by omega) (by omega))) fun _ _=>?_;refine gg ?_;refine WPD.ef0 rfl (x_storeA (us:=[.int .i64 _,.int .i64 _]) (σ':=[_,_,_,_,_,_,_,_,_,.cl _ _ [_,_,_,_,_,_]]) Tryz.sizeOf109 rfl rfl (i:=9) rfl (Nat.le_of_ble_eq_true rfl) rfl (by simp[Value.oneCell'])) (fun h=>absurd rfl h) (fun _=>?_);refine gg ?_;refine WPL.ef0 (xW rfl) fun _=>?_;refine gg ?_;exact rtC rfl fun w hw=>⟨(m1,H1,fA1,fc1),rfl,⟨hsub1,hmok1,hrep1⟩,hw.pk⟩
include hk hF hg hkb hl hB in
theorem fapart_ct (s:List Value) (hs:GS s) (iw ih:Int) (hiw:0≤iw∧iw+4402347769856≤B) (hih:0≤ih∧ih+4402347769856≤B) (hww:0≤ww∧ww≤1048576) (hwh:0≤wh∧wh≤1048576):
    ApOK tp mb fb lb es ww wh V 153 [.int .i64 k,.agg s.toArray,q2 iw ih] (apartP (FoR es) ww wh L s iw ih k):=by
  intro m0 H0 hm0;have p31:=hs.siz 31 (by decide);have p32:=hs.siz 32 (by decide);have p33:=hs.siz 33 (by decide);have p34:=hs.siz 34 (by decide);have p35:=hs.siz 35 (by decide);have p38:=hs.siz 38 (by decide);refine Ci fun w0 _=>?_;refine gg ?_;refine WPL.ef (xB (us:=s)) fun b6=>?_;refine WPL.ef xB fun b7=>?_;refine WPL.ef xAl fun b8=>?_;refine gg ?_;refine eF (xC (style_ct tp mb es hk k)) fun _ _=>?_;refine vl (v_part (u:=.int .i64 (val (stF (FoR es) k) 1)) Tryz.underlying42 rfl Tryz.isAgg29 rfl (toArr (SOk.int (hg k).ok 1 (by decide) rfl))) ?_;refine gg ?_;refine WP.condP rfl (fun h17=>?_) (fun h17=>?_)
  ·have hr:apartP (FoR es) ww wh L s iw ih k=withinP (FoR es) L k ww wh 0 0:=if_pos h17;refine sqR ?_
   iterate 6 refine av ?_
   refine vl (v_array (us:=[.int .i64 _,.int .i64 _]) Tryz.underlying109 Tryz.zeroValue109 Tryz.sizeOf3 rfl rfl rfl) ?_;refine eF (xC ((fwithin_ct tp mb fb lb es hk hF hg ww wh V L k B hkb hl hB ww wh 0 0 (by omega) (by omega) (by omega)) m0 H0 hm0)) fun⟨m1,H1,fA1,fc1⟩ ⟨hsub1,hmok1,hrep1⟩=>?_;dsimp only at hsub1 hmok1 hrep1;refine WPL.ef0 (xW rfl) fun _=>?_;refine gg ?_;exact rtC rfl fun w hw=>⟨(m1,H1,fA1,fc1),by rw[hr];try rfl,⟨hsub1,hmok1,by rw[hr];exact hrep1⟩,hw.pk⟩
  ·have hr:apartP (FoR es) ww wh L s iw ih k=shiftXY (val s 38) (val s 35) (withinP (FoR es) L k (iw+(val s 34+val s 32)) (ih+(val s 31+val s 33)) (val s 34) (val s 31)):=if_neg h17;have hxy:=wXY_bd (F:=FoR es) (k:=k) (rw:=iw+(val s 34+val s 32)) (rh:=ih+(val s 31+val s 33)) (px:=val s 34) (py:=val s 31) (w:=(wF (FoR es) L k (iw+(val s 34+val s 32)) (ih+(val s 31+val s 33))).w) (h:=(wF (FoR es) L k (iw+(val s 34+val s 32)) (ih+(val s 31+val s 33))).h) (by omega) (by omega) (by have h1:=hkb (iw+(val s 34+val s 32)) (ih+(val s 31+val s 33)) (wSetW (FoR es) k (iw+(val s 34+val s 32))) (wSetH (FoR es) k (ih+(val s 31+val s 33)));have h2:=wSet_bd (rw:=iw+(val s 34+val s 32)) (rh:=ih+(val s 31+val s 33)) (hg k);unfold wF;omega);have hms0:=mS_bd (stF (FoR es) k) (iw+(val s 34+val s 32)) 0;have hms3:=mS_bd (stF (FoR es) k) (iw+(val s 34+val s 32)) 3;have hwx:-9007199254740992≤(withinP (FoR es) L k (iw+(val s 34+val s 32)) (ih+(val s 31+val s 33)) (val s 34) (val s 31)).x∧(withinP (FoR es) L k (iw+(val s 34+val s 32)) (ih+(val s 31+val s 33)) (val s 34) (val s 31)).x≤9007199254740992:=by rw[withinP_eq];simp only;omega
   have hwy:-9007199254740992≤(withinP (FoR es) L k (iw+(val s 34+val s 32)) (ih+(val s 31+val s 33)) (val s 34) (val s 31)).y∧(withinP (FoR es) L k (iw+(val s 34+val s 32)) (ih+(val s 31+val s 33)) (val s 34) (val s 31)).y≤9007199254740992:=by rw[withinP_eq];simp only;omega
   refine gg ?_;refine wG [3,4,5] ?_;refine aG 0 ?_;refine aG 1 ?_;refine aG 2 ?_;refine aG 3 ?_;refine tF 4 (vS4 hs.ok 31 32 33 34) ?_;refine aG 7 ?_;refine tF 8 (vS4 hs.ok 31 32 33 34) ?_;refine fK 5 11 ?_ ?_
   ·refine fF (xC (fsums_ct (val s 31) (val s 32) (val s 33) (val s 34) (by omega) (by omega))) fun _ _=>?_;refine fK 6 11 ?_ ?_
    ·refine fF (xC (fplus_ct iw ih (val s 34+val s 32) (val s 31+val s 33) (by omega) (by omega))) fun _ _=>?_;refine fK 9 11 ?_ ?_
     ·refine fF (xC (fbegins_ct (val s 31) (val s 32) (val s 33) (val s 34))) fun _ _=>?_;refine fK 10 11 ?_ ?_
      ·refine fF (xC ((fwithin_ct tp mb fb lb es hk hF hg ww wh V L k B hkb hl hB (iw+(val s 34+val s 32)) (ih+(val s 31+val s 33)) (val s 34) (val s 31) (by omega) (by omega) (by omega)) m0 H0 hm0)) fun⟨m1,H1,fA1,fc1⟩ ⟨hsub1,hmok1,hrep1⟩=>?_;dsimp only at hsub1 hmok1 hrep1;refine fO 11 ?_;refine fE xAl fun b9=>?_;refine fO 12 ?_;refine fE0 (xW rfl) fun _=>?_;refine fN (oo ?_);refine gg ?_;refine wP (some 7) [0,1,2,3,4,5,6,7] [pT 0,pT 1,pT 2,pT 3,pF 4,pF 5,pT 6,pF 7] ?_;refine gg ?_;refine tD (vS4 hs.ok 35 36 37 38) ?_;refine dG (xC (fbegins_ct (val s 35) (val s 36) (val s 37) (val s 38))) fun _ _=>?_;refine dG (xC (fplus_ct (withinP (FoR es) L k (iw+(val s 34+val s 32)) (ih+(val s 31+val s 33)) (val s 34) (val s 31)).x (withinP (FoR es) L k (iw+(val s 34+val s 32)) (ih+(val s 31+val s 33)) (val s 34) (val s 31)).y (val s 38) (val s 35) (by omega) (by omega))) fun _ _=>?_;refine gg ?_;refine WPD.ef0 rfl (x_storeA (us:=[.int .i64 _,.int .i64 _]) (σ':=[_,_,_,_,_,_,_,.cl _ _ [_,_,_,_,_,_]]) Tryz.sizeOf109 rfl rfl (i:=7) rfl (Nat.le_of_ble_eq_true rfl) rfl (by simp[Value.oneCell'])) (fun h=>absurd rfl h) (fun _=>?_);refine gg ?_;refine WPL.ef0 (xW rfl) fun _=>?_;refine gg ?_;exact rtC rfl fun w hw=>⟨(m1,H1,fA1,fc1),by rw[hr];try rfl,⟨hsub1,hmok1,by rw[hr];exact hrep1⟩,hw.pk⟩
      ·refine fE xAl fun b9=>?_;refine fO 10 ?_;refine fF (xC ((fwithin_ct tp mb fb lb es hk hF hg ww wh V L k B hkb hl hB (iw+(val s 34+val s 32)) (ih+(val s 31+val s 33)) (val s 34) (val s 31) (by omega) (by omega) (by omega)) m0 H0 hm0)) fun⟨m1,H1,fA1,fc1⟩ ⟨hsub1,hmok1,hrep1⟩=>?_;dsimp only at hsub1 hmok1 hrep1;refine fO 12 ?_;refine fE0 (xW rfl) fun _=>?_;refine fN (oo ?_);refine gg ?_;refine wP (some 7) [0,1,2,3,4,5,6,7] [pT 0,pT 1,pT 2,pT 3,pF 4,pF 5,pT 6,pF 7] ?_;refine gg ?_;refine tD (vS4 hs.ok 35 36 37 38) ?_;refine dG (xC (fbegins_ct (val s 35) (val s 36) (val s 37) (val s 38))) fun _ _=>?_;refine dG (xC (fplus_ct (withinP (FoR es) L k (iw+(val s 34+val s 32)) (ih+(val s 31+val s 33)) (val s 34) (val s 31)).x (withinP (FoR es) L k (iw+(val s 34+val s 32)) (ih+(val s 31+val s 33)) (val s 34) (val s 31)).y (val s 38) (val s 35) (by omega) (by omega))) fun _ _=>?_;refine gg ?_;refine WPD.ef0 rfl (x_storeA (us:=[.int .i64 _,.int .i64 _]) (σ':=[_,_,_,.cl _ _ [_,_,_,_,_,_],_,_,_,_]) Tryz.sizeOf109 rfl rfl (i:=3) rfl (Nat.le_of_ble_eq_true rfl) rfl (by simp[Value.oneCell'])) (fun h=>absurd rfl h) (fun _=>?_);refine gg ?_;refine WPL.ef0 (xW rfl) fun _=>?_;refine gg ?_;exact rtC rfl fun w hw=>⟨(m1,H1,fA1,fc1),by rw[hr];try rfl,⟨hsub1,hmok1,by rw[hr];exact hrep1⟩,hw.pk⟩
     ·refine fE xAl fun b9=>?_;refine fO 9 ?_;refine fF (xC (fbegins_ct (val s 31) (val s 32) (val s 33) (val s 34))) fun _ _=>?_;refine fO 10 ?_;refine fF (xC ((fwithin_ct tp mb fb lb es hk hF hg ww wh V L k B hkb hl hB (iw+(val s 34+val s 32)) (ih+(val s 31+val s 33)) (val s 34) (val s 31) (by omega) (by omega) (by omega)) m0 H0 hm0)) fun⟨m1,H1,fA1,fc1⟩ ⟨hsub1,hmok1,hrep1⟩=>?_;dsimp only at hsub1 hmok1 hrep1;refine fO 12 ?_;refine fE0 (xW rfl) fun _=>?_;refine fN (oo ?_);refine gg ?_;refine wP (some 7) [0,1,2,3,4,5,6,7] [pT 0,pT 1,pT 2,pT 3,pF 4,pF 5,pT 6,pF 7] ?_;refine gg ?_;refine tD (vS4 hs.ok 35 36 37 38) ?_;refine dG (xC (fbegins_ct (val s 35) (val s 36) (val s 37) (val s 38))) fun _ _=>?_;refine dG (xC (fplus_ct (withinP (FoR es) L k (iw+(val s 34+val s 32)) (ih+(val s 31+val s 33)) (val s 34) (val s 31)).x (withinP (FoR es) L k (iw+(val s 34+val s 32)) (ih+(val s 31+val s 33)) (val s 34) (val s 31)).y (val s 38) (val s 35) (by omega) (by omega))) fun _ _=>?_;refine gg ?_;refine WPD.ef0 rfl (x_storeA (us:=[.int .i64 _,.int .i64 _]) (σ':=[_,_,_,.cl _ _ [_,_,_,_,_,_],_,_,_,_]) Tryz.sizeOf109 rfl rfl (i:=3) rfl (Nat.le_of_ble_eq_true rfl) rfl (by simp[Value.oneCell'])) (fun h=>absurd rfl h) (fun _=>?_);refine gg ?_;refine WPL.ef0 (xW rfl) fun _=>?_;refine gg ?_;exact rtC rfl fun w hw=>⟨(m1,H1,fA1,fc1),by rw[hr];try rfl,⟨hsub1,hmok1,by rw[hr];exact hrep1⟩,hw.pk⟩
    ·refine fE xAl fun b9=>?_;refine fO 6 ?_;refine fF (xC (fplus_ct iw ih (val s 34+val s 32) (val s 31+val s 33) (by omega) (by omega))) fun _ _=>?_;refine fO 9 ?_;refine fF (xC (fbegins_ct (val s 31) (val s 32) (val s 33) (val s 34))) fun _ _=>?_;refine fO 10 ?_;refine fF (xC ((fwithin_ct tp mb fb lb es hk hF hg ww wh V L k B hkb hl hB (iw+(val s 34+val s 32)) (ih+(val s 31+val s 33)) (val s 34) (val s 31) (by omega) (by omega) (by omega)) m0 H0 hm0)) fun⟨m1,H1,fA1,fc1⟩ ⟨hsub1,hmok1,hrep1⟩=>?_;dsimp only at hsub1 hmok1 hrep1;refine fO 12 ?_;refine fE0 (xW rfl) fun _=>?_;refine fN (oo ?_);refine gg ?_;refine wP (some 7) [0,1,2,3,4,5,6,7] [pT 0,pT 1,pT 2,pT 3,pF 4,pF 5,pT 6,pF 7] ?_;refine gg ?_;refine tD (vS4 hs.ok 35 36 37 38) ?_;refine dG (xC (fbegins_ct (val s 35) (val s 36) (val s 37) (val s 38))) fun _ _=>?_;refine dG (xC (fplus_ct (withinP (FoR es) L k (iw+(val s 34+val s 32)) (ih+(val s 31+val s 33)) (val s 34) (val s 31)).x (withinP (FoR es) L k (iw+(val s 34+val s 32)) (ih+(val s 31+val s 33)) (val s 34) (val s 31)).y (val s 38) (val s 35) (by omega) (by omega))) fun _ _=>?_;refine gg ?_;refine WPD.ef0 rfl (x_storeA (us:=[.int .i64 _,.int .i64 _]) (σ':=[_,_,_,.cl _ _ [_,_,_,_,_,_],_,_,_,_]) Tryz.sizeOf109 rfl rfl (i:=3) rfl (Nat.le_of_ble_eq_true rfl) rfl (by simp[Value.oneCell'])) (fun h=>absurd rfl h) (fun _=>?_);refine gg ?_;refine WPL.ef0 (xW rfl) fun _=>?_;refine gg ?_;exact rtC rfl fun w hw=>⟨(m1,H1,fA1,fc1),by rw[hr];try rfl,⟨hsub1,hmok1,by rw[hr];exact hrep1⟩,hw.pk⟩
   ·refine fE xAl fun b9=>?_;refine fO 5 ?_;refine fF (xC (fsums_ct (val s 31) (val s 32) (val s 33) (val s 34) (by omega) (by omega))) fun _ _=>?_;refine fO 6 ?_;refine fF (xC (fplus_ct iw ih (val s 34+val s 32) (val s 31+val s 33) (by omega) (by omega))) fun _ _=>?_;refine fO 9 ?_;refine fF (xC (fbegins_ct (val s 31) (val s 32) (val s 33) (val s 34))) fun _ _=>?_;refine fO 10 ?_;refine fF (xC ((fwithin_ct tp mb fb lb es hk hF hg ww wh V L k B hkb hl hB (iw+(val s 34+val s 32)) (ih+(val s 31+val s 33)) (val s 34) (val s 31) (by omega) (by omega) (by omega)) m0 H0 hm0)) fun⟨m1,H1,fA1,fc1⟩ ⟨hsub1,hmok1,hrep1⟩=>?_;dsimp only at hsub1 hmok1 hrep1;refine fO 12 ?_;refine fE0 (xW rfl) fun _=>?_;refine fN (oo ?_);refine gg ?_;refine wP (some 7) [0,1,2,3,4,5,6,7] [pT 0,pT 1,pT 2,pT 3,pF 4,pF 5,pT 6,pF 7] ?_;refine gg ?_;refine tD (vS4 hs.ok 35 36 37 38) ?_;refine dG (xC (fbegins_ct (val s 35) (val s 36) (val s 37) (val s 38))) fun _ _=>?_;refine dG (xC (fplus_ct (withinP (FoR es) L k (iw+(val s 34+val s 32)) (ih+(val s 31+val s 33)) (val s 34) (val s 31)).x (withinP (FoR es) L k (iw+(val s 34+val s 32)) (ih+(val s 31+val s 33)) (val s 34) (val s 31)).y (val s 38) (val s 35) (by omega) (by omega))) fun _ _=>?_;refine gg ?_;refine WPD.ef0 rfl (x_storeA (us:=[.int .i64 _,.int .i64 _]) (σ':=[_,_,_,.cl _ _ [_,_,_,_,_,_],_,_,_,_]) Tryz.sizeOf109 rfl rfl (i:=3) rfl (Nat.le_of_ble_eq_true rfl) rfl (by simp[Value.oneCell'])) (fun h=>absurd rfl h) (fun _=>?_);refine gg ?_;refine WPL.ef0 (xW rfl) fun _=>?_;refine gg ?_;exact rtC rfl fun w hw=>⟨(m1,H1,fA1,fc1),by rw[hr];try rfl,⟨hsub1,hmok1,by rw[hr];exact hrep1⟩,hw.pk⟩
end
theorem autoP_bd (room size bk bn ek en base:Int):-1099511627776≤(autoP room size bk bn ek en base).1∧(autoP room size bk bn ek en base).1≤1099511627776:=by
  have h1:=ofL_bd bk bn base 0;have h2:-1099511627776≤autoLeft room size (ofL bk bn base 0) (ofL ek en base 0)∧autoLeft room size (ofL bk bn base 0) (ofL ek en base 0)≤1099511627776:=subI_bd _ _;simp only[autoP]
  split
  · exact h1
  · split
    · exact⟨by simp only;omega,by simp only;omega⟩
    · split
      · exact h2
      · split<;>exact h1
section
variable {F:Forest (List Value)} {d:Int→Nat}
theorem kid_up (hF:WF F d) {x k:Int} (h:k∈kidsF F x):upF F k=x:=by
  cases e:F x with
  | none=>simp[kidsF,e] at h
  | some b =>
    rw[kids_some e] at h;obtain⟨_,c,hc,hu⟩:=hF.kid x b e k h;rw[up_some hc,hu]
theorem shown_disp (hF:WF F d) {x k:Int} {a:Bool} (h:k∈kidsP F x a):val (stF F x) 0≠3:=by
  have hk:=kidsP_sub h;obtain⟨h1,h2,_,h4⟩:=kid_rank' hF hk;have h5:=(List.mem_filter.1 h).2;simp only[Bool.and_eq_true] at h5;have h6:=h5.1;unfold shownF at h6;rw[h1,Bool.true_and,shownN,if_pos h1,kid_up hF hk] at h6;simp only[Bool.and_eq_true] at h6;have h7:=h6.2;rw[shownN,if_pos h4] at h7;simp only[Bool.and_eq_true] at h7;exact of_decide_eq_true h7.1
theorem disp_cases {x:Int} (hg:GS (stF F x)) (h:val (stF F x) 0≠3):val (stF F x) 0=0∨val (stF F x) 0=1∨val (stF F x) 0=2:=by have:=hg.disp;omega
section
variable {L:LayF} {ks:List Int} {iw ih:Int}
theorem blockP_bd (id:Int):(∀f∈(blockP F L ks iw ih id).1,FB 4398046511104 f)∧-4398046511104≤(blockP F L ks iw ih id).2∧(blockP F L ks iw ih id).2≤4398046511104:=by
  have hfr:-1099511627776≤bFrom F ks id∧bFrom F ks id≤1099511627776:=by
    unfold bFrom
    split
    · omega
    · cases ks with
      | nil=>simp[bTops,tab,gI]
      | cons k l=>rw[bTops,gI_tab (by simp)];exact collP_bd _
  refine⟨fun f hf=>?_,?_⟩
  · obtain ⟨i, _, rfl⟩ := tab_mem.1 hf
    have h1:=autoP_bd iw (bF L ks iw ih i).w (val (kS F ks i) 21) (val (kS F ks i) 22) (val (kS F ks i) 17) (val (kS F ks i) 18) iw;have h2:=stkStart_bd (bSizes L ks iw ih) (bTops F ks false) (bTops F ks true) i;unfold FB;simp only[bX];omega
  · have h1 := stkAt_bd (bSizes L ks iw ih) (bTops F ks false) (bTops F ks true) ks.length
    have h2:-1099511627776≤(if openP F id true then 0 else gI (bTops F ks true) (ks.length - 1))∧(if openP F id true then 0 else gI (bTops F ks true) (ks.length - 1))≤1099511627776:=by
      split
      · omega
      · cases ks with
        | nil=>simp[bTops,tab,gI]
        | cons k l=>rw[bTops,gI_tab (by simp)];exact collP_bd _
    simp only[blockP];omega
theorem columnP_bd (id:Int):(∀f∈(columnP F L ks iw ih id).1,FB 4398046511104 f)∧-4398046511104≤(columnP F L ks iw ih id).2∧(columnP F L ks iw ih id).2≤4398046511104:=by
  refine⟨fun f hf=>?_,?_⟩
  · obtain ⟨i, _, rfl⟩ := tab_mem.1 hf
    have h1:=acrossP_bd (val (stF F id) 44) ((cF2 F L ks iw ih (stF F id) i).w+mA (kS F ks i) iw) iw;have h2:=mS_bd (kS F ks i) iw 3;have h3:=mS_bd (kS F ks i) iw 0;have h4:-1099511627776≤cStart F L ks iw ih (stF F id) i∧cStart F L ks iw ih (stF F id) i≤1099511627776:=addI_bd _ _;unfold FB;simp only[cOut];omega
  · have h1 := longK_bd (cAlong F L ks iw ih (stF F id)) (val (stF F id) 46) (cAlong F L ks iw ih (stF F id)).length
    simp only[columnP,longP];omega
end
theorem inP_bd (hF:WF F d) (hg:∀x,GS (stF F x)) (hK:∀x,(kidsF F x).length≤64) {L:LayF} {id iw ih:Int} (hL:∀k∈kidsF F id,LB L k) {B:Int} (hih:ih≤B) (hB:B≤2251799813685248) (hi:-1≤ih):(∀f∈(inP F L id iw ih).1,FB 288230376151711744 f)∧-288230376151711744≤(inP F L id iw ih).2∧(inP F L id iw ih).2≤288230376151711744:=by
  unfold inP
  split
  · have h := (hg id).siz 54 (by decide)
    exact⟨fun f hf=>by simp at hf,by simp only;omega,by simp only;omega⟩
  · split
    · have hgap := (hg id).siz 46 (by decide)
      have hll:(rLong F (kidsP F id false) iw).length=(kidsP F id false).length:=tab_len;have hlsn:(rLines F (kidsP F id false) iw (stF F id)).length≤(kidsP F id false).length:=Nat.le_trans breaks_len (Nat.le_of_eq hll);have hkn:=Nat.le_trans (kidsP_le F id false) (hK id);have h:=rowN_bd hg (L:=L) (ks:=kidsP F id false) (fun k hk=>hL k (kidsP_sub hk)) (ls:=rLines F (kidsP F id false) iw (stF F id)) (iw:=iw) (c:=stF F id) (fun p hp=>by have h:=(breaks_in hp).2.1;rw[hll] at h;exact h) hih hB hi hgap _ (Nat.le_refl _);refine⟨fun f hf=>?_,?_⟩
      · have := h.2 f hf
        unfold FB at this ⊢;omega
      · have := h.1
        unfold rowP;omega
    · split
      · have h := columnP_bd (F := F) (L := L) (ks := kidsP F id false) (iw := iw) (ih := ih) id
        refine⟨fun f hf=>?_,by omega⟩;have:=h.1 f hf;unfold FB at this ⊢;omega
      · have h := blockP_bd (F := F) (L := L) (ks := kidsP F id false) (iw := iw) (ih := ih) id
        refine⟨fun f hf=>?_,by omega⟩;have:=h.1 f hf;unfold FB at this ⊢;omega
theorem inP_len (hK:∀x,(kidsF F x).length≤64) {L:LayF} {id iw ih:Int}:(inP F L id iw ih).1.length≤4096:=by
  have hkn:=Nat.le_trans (kidsP_le F id false) (hK id);unfold inP
  split
  · simp
  · split
    · have hll : (rLong F (kidsP F id false) iw).length = (kidsP F id false).length := tab_len
      have hlsn:(rLines F (kidsP F id false) iw (stF F id)).length≤(kidsP F id false).length:=Nat.le_trans breaks_len (Nat.le_of_eq hll);have h:=rowN_len (F:=F) (L:=L) (ks:=kidsP F id false) (iw:=iw) (ih:=ih) (c:=stF F id) (ls:=rLines F (kidsP F id false) iw (stF F id)) (fun p hp=>(breaks_in hp).2.2) _ (Nat.le_refl _);unfold rowP;omega
    · split
      · simp only[columnP,tab_len];omega
      · simp only[blockP,tab_len];omega
def SameL (L L':LayF) (k:Int):Prop:=∀rw rh sw sh,L k rw rh sw sh=L' k rw rh sw sh
section
variable {L L':LayF} {ks:List Int} (h:∀k∈ks,SameL L L' k) {iw ih:Int}
include h
theorem sameI {i:Nat} (hi:i<ks.length) (rw rh sw sh:Int):L (gI ks i) rw rh sw sh=L' (gI ks i) rw rh sw sh:=h _ (gI_mem hi) _ _ _ _
theorem blockP_same (id:Int):blockP F L ks iw ih id=blockP F L' ks iw ih id:=by
  have hb:∀i,i<ks.length→bF L ks iw ih i=bF L' ks iw ih i:=fun i hi=>sameI h hi _ _ _ _;have hs:bSizes L ks iw ih=bSizes L' ks iw ih:=tab_congr fun i hi=>by rw[hb i hi]
  unfold blockP;rw[hs];refine congrArg (·,_) (tab_congr fun i hi=>?_);simp only[bX];rw[hb i hi]
omit h in
theorem maxN_congr {f g:Nat→Int}:∀n,(∀i,i<n→f i=g i)→maxN f n=maxN g n
  | 0,_=>rfl
  | n+1,hh=>by rw[maxN,maxN,maxN_congr n fun i hi=>hh i (by omega),hh n (by omega)]
section
variable {c:List Value} {a b:Nat} (hb:b≤ks.length)
include hb
theorem lF1_same {i:Nat} (hi:i<b - a):lF1 F L ks iw ih c a b i=lF1 F L' ks iw ih c a b i:=sameI h (by omega) _ _ _ _
theorem lMost_same:lMost F L ks iw ih c a b=lMost F L' ks iw ih c a b:=maxN_congr _ fun i hi=>by rw[lF1_same h hb hi]
theorem lH_same (one:Bool):lH F L ks iw ih c a b one=lH F L' ks iw ih c a b one:=by unfold lH;rw[lMost_same h hb]
theorem lineP_same (one:Bool):lineP F L ks iw ih c a b one=lineP F L' ks iw ih c a b one:=by
  have hal:lAlong F L ks iw ih c a b=lAlong F L' ks iw ih c a b:=tab_congr fun i hi=>by rw[lF1_same h hb hi]
  unfold lineP;rw[lH_same h hb];refine tab_congr fun i hi=>?_;have h2:∀hh,lF2 F L ks iw ih c a b hh i=lF2 F L' ks iw ih c a b hh i:=fun hh=>by
    unfold lF2;rw[lF1_same h hb hi]
    split
    · exact sameI h (by omega) _ _ _ _
    · rfl
  simp only[lOut,lStart];rw[hal,h2]
end
theorem rowN_same {c:List Value} {ls:List (Nat×Nat)} (hls:∀p∈ls,p.2≤ks.length):∀n,rowN F L ks iw ih c ls n=rowN F L' ks iw ih c ls n
  | 0=>rfl
  | n + 1 => by
    have hp:(ls.getD n (0,0)).2≤ks.length:=by
      rw[List.getD_eq_getElem?_getD];cases e:ls[n]? with
      | none=>simp
      | some p=>exact hls p (List.mem_of_getElem? e)
    simp only[rowN];rw[rowN_same hls n,lineP_same h hp,lH_same h hp]
theorem rowP_same (id:Int):rowP F L ks iw ih id=rowP F L' ks iw ih id:=
  rowN_same h (fun p hp=>by have hx:=(breaks_in hp).2.1;rw[show (rLong F ks iw).length=ks.length from tab_len] at hx;exact hx) _
theorem columnP_same (id:Int):columnP F L ks iw ih id=columnP F L' ks iw ih id:=by
  have h1:∀i,i<ks.length→cItem F L ks iw ih (stF F id) i=cItem F L' ks iw ih (stF F id) i:=fun i hi=>by
    unfold cItem cF1;rw[sameI h hi]
  have hs:cSizes F L ks iw ih (stF F id)=cSizes F L' ks iw ih (stF F id):=by
    unfold cSizes;rw[tab_congr h1,tab_congr (f:=fun i=>baseI (cItem F L ks iw ih (stF F id) i)) (g:=fun i=>baseI (cItem F L' ks iw ih (stF F id) i)) fun i hi=>by rw[h1 i hi]]
  have h2:∀i,i<ks.length→cF2 F L ks iw ih (stF F id) i=cF2 F L' ks iw ih (stF F id) i:=fun i hi=>by
    unfold cF2;rw[hs,sameI h hi]
  have hal:cAlong F L ks iw ih (stF F id)=cAlong F L' ks iw ih (stF F id):=tab_congr fun i hi=>by rw[h2 i hi]
  unfold columnP;rw[hal];refine congrArg (·,_) (tab_congr fun i hi=>?_);simp only[cOut,cStart,cRoom];rw[hal,h2 i hi]
end
section
variable {L L':LayF}
theorem inP_same {id iw ih:Int} (h:∀k∈kidsF F id,SameL L L' k):inP F L id iw ih=inP F L' id iw ih:=by
  have h1:∀k∈kidsP F id false,SameL L L' k:=fun k hk=>h k (kidsP_sub hk);unfold inP;rw[rowP_same h1,columnP_same h1,blockP_same h1]
theorem apartP_same {ww wh iw ih k:Int} {s:List Value} (h:SameL L L' k):apartP F ww wh L s iw ih k=apartP F ww wh L' s iw ih k:=by
  have hw:∀rw rh px py,withinP F L k rw rh px py=withinP F L' k rw rh px py:=fun rw rh px py=>by
    unfold withinP wF;rw[h]
  unfold apartP;rw[hw,hw]
theorem layStep_same {ww wh:Int} {id:Int} (h:∀k∈kidsF F id,SameL L L' k):SameL (layStep F ww wh L) (layStep F ww wh L') id:=fun rw rh sw sh=>by
  unfold layStep;rw[inP_same h]
  congr 2
  exact List.map_congr_left fun k hk=>apartP_same (h k (kidsP_sub hk))
end
theorem layN_fuel (hF:WF F d) (ww wh:Int):∀(n m:Nat) (k:Int),hasF F k=true→63<n+d k→63<m+d k→SameL (layN F ww wh n) (layN F ww wh m) k
  | 0, m, k, hk, h1, h2 => by
    obtain⟨b,hb⟩:=some_has hk;have:=hF.deep k b hb;omega
  | n + 1, 0, k, hk, h1, h2 => by
    obtain⟨b,hb⟩:=some_has hk;have:=hF.deep k b hb;omega
  | n + 1, m + 1, k, hk, h1, h2 => layStep_same fun j hj => by
    obtain⟨h3,h4,_,_⟩:=kid_rank' hF hj;exact layN_fuel hF ww wh n m j h3 (by omega) (by omega)
theorem LAY_eq (hF:WF F d) {ww wh:Int} {k:Int} (hk:hasF F k=true) (rw rh sw sh:Int):LAY F ww wh k rw rh sw sh=layStep F ww wh (LAY F ww wh) k rw rh sw sh:=
  layN_fuel hF ww wh 64 65 k hk (by omega) (by omega) rw rh sw sh
end
end Go.Proofs.YtbedndijejpcaaaGreat
