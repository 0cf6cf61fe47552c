/- FlowWin FlowKid FlowBlk -/
import Derived.Test.YtbedndijejpcaaaGreatH19
set_option linter.unusedVariables false
set_option linter.unusedSimpArgs false
set_option linter.unusedSectionVars false
set_option maxRecDepth 100000
set_option maxHeartbeats 8000000
namespace Go.Proofs.YtbedndijejpcaaaGreat
open Go.RowKit
section
variable {F:ar (List Value)} {k:Int} {rw rh:Int}
def Qp (F:ar (List Value)) (k rw:Int):Int:=if bE (val (ah F k) 3) rw then -1 else pM (ah F k) (val (ah F k) 53) rw+eA (ah F k)
theorem Dg (h:(!bE (val (ah F k) 3) rw)=true):Qp F k rw=pM (ah F k) (val (ah F k) 53) rw+eA (ah F k):=by unfold Qp;rw[if_neg];intro h2;rw[h2] at h;cases h
theorem Gp (h:(!bE (val (ah F k) 3) rw)=false):Qp F k rw= -1:=by unfold Qp;rw[if_pos];simpa using h
theorem rO (h1:(!bE (val (ah F k) 3) rw)=true) (h2:oE (ah F k) 3 rw=true) (h3:oE (ah F k) 1 rw=true):kp F k rw=max (rw - gT (ah F k) 3 rw - gT (ah F k) 1 rw - mA (ah F k) rw) 0:=by
  unfold kp;rw[if_neg (by intro h;rw[h] at h1;cases h1),if_pos ⟨h2,h3⟩]
theorem gx (h1:(!bE (val (ah F k) 3) rw)=false∨oE (ah F k) 3 rw=false∨oE (ah F k) 1 rw=false):kp F k rw=Qp F k rw:=by
  unfold kp Qp
  split
  · rfl
  · rename_i h
    rcases h1 with h1 | h1
    · exact absurd (by simpa using h1) h
    · rw [if_neg]
      rintro ⟨h2,h3⟩
      rw[h2,h3] at h1
      rcases h1 with h1 | h1<;>cases h1
theorem rR (h1:(!bE (val (ah F k) 5) rh)=true) (h2:oE (ah F k) 0 rh=true) (h3:oE (ah F k) 2 rh=true):lY F k rh=max (rh - gT (ah F k) 0 rh - gT (ah F k) 2 rh - mD (ah F k)) 0:=by
  unfold lY;rw[if_pos ⟨by simpa using h1,h2,h3⟩]
theorem gw (h1:(!bE (val (ah F k) 5) rh)=false∨oE (ah F k) 0 rh=false∨oE (ah F k) 2 rh=false):lY F k rh= -1:=by
  unfold lY;rw[if_neg]
  rintro ⟨h2,h3,h4⟩
  rw[h2,h3,h4] at h1
  rcases h1 with h1 | h1 | h1<;>cases h1
theorem CG (hs:GS (ah F k)):(-1≤kp F k rw∧kp F k rw≤max rw 0+4402345672704)∧-1≤lY F k rh∧lY F k rh≤max rh 0+4402345672704:=by
  have h1:=iP (ah F k) 0 rh;have h2:=iP (ah F k) 2 rh;have h3:=iP (ah F k) 1 rw;have h4:=iP (ah F k) 3 rw;have h5:=mh (ah F k) rw;have h6:=pn (ah F k);have h7:=o7 (ah F k) (val (ah F k) 53) rw;have h8:=hs.j6;refine⟨?_,?_⟩
  · unfold kp
    split
    · omega
    · split<;>omega
  · unfold lY
    split<;>omega
def wX (F:ar (List Value)) (k rw px w:Int):Int:=if oE (ah F k) 3 rw then gT (ah F k) 3 rw else if oE (ah F k) 1 rw then rw - gT (ah F k) 1 rw - mA (ah F k) rw - w else px
def wY (F:ar (List Value)) (k rh py h:Int):Int:=if oE (ah F k) 0 rh then gT (ah F k) 0 rh else if oE (ah F k) 2 rh then rh - gT (ah F k) 2 rh - mD (ah F k) - h else py
theorem OC {px w:Int} (h:oE (ah F k) 3 rw=true):wX F k rw px w=gT (ah F k) 3 rw:=if_pos h
theorem QW {px w:Int} (h:oE (ah F k) 3 rw=false) (h2:oE (ah F k) 1 rw=true):wX F k rw px w=rw - gT (ah F k) 1 rw - mA (ah F k) rw - w:=by unfold wX;rw[if_neg (by rw[h];decide),if_pos h2]
theorem Og {px w:Int} (h:oE (ah F k) 3 rw=false) (h2:oE (ah F k) 1 rw=false):wX F k rw px w=px:=by unfold wX;rw[if_neg (by rw[h];decide),if_neg (by rw[h2];decide)]
theorem TC {py w:Int} (h:oE (ah F k) 0 rh=true):wY F k rh py w=gT (ah F k) 0 rh:=if_pos h
theorem LJ {py w:Int} (h:oE (ah F k) 0 rh=false) (h2:oE (ah F k) 2 rh=true):wY F k rh py w=rh - gT (ah F k) 2 rh - mD (ah F k) - w:=by unfold wY;rw[if_neg (by rw[h];decide),if_pos h2]
theorem PQ {py w:Int} (h:oE (ah F k) 0 rh=false) (h2:oE (ah F k) 2 rh=false):wY F k rh py w=py:=by unfold wY;rw[if_neg (by rw[h];decide),if_neg (by rw[h2];decide)]
theorem HW {px py w h:Int} (hr:(0≤rw∧rw≤2251799813685248)∧0≤rh∧rh≤2251799813685248) (hp:(0≤px∧px≤2097152)∧0≤py∧py≤2097152) (hw:(0≤w∧w≤2260595906707456)∧0≤h∧h≤2260595906707456):(-4503599627370496≤wX F k rw px w∧wX F k rw px w≤4503599627370496)∧-4503599627370496≤wY F k rh py h∧wY F k rh py h≤4503599627370496:=by
  have h1:=iP (ah F k) 0 rh;have h2:=iP (ah F k) 2 rh;have h3:=iP (ah F k) 1 rw;have h4:=iP (ah F k) 3 rw;have h5:=mh (ah F k) rw;have h6:=pn (ah F k);unfold wX wY;refine⟨?_,?_⟩
  · split
    · omega
    · split<;>omega
  · split
    · omega
    · split<;>omega
theorem s7 {L:er} {px py:Int}:cF F L k rw rh px py={wF F L k rw rh with x:=wX F k rw px (wF F L k rw rh).w+mS (ah F k) rw 3,y:=wY F k rh py (wF F L k rw rh).h+mS (ah F k) rw 0}:=rfl
end
section
variable (tp mb fb lb:Nat) (es:List PE) (hk:eG es) {d:Int→Nat} (hF:WF (ae es) d) (hg:∀x,GS (ah (ae es) x)) (ww wh:Int) (V L:er) (k:Int) (B:Int) (hkb:LB L k) (hl:mc tp mb fb lb es ww wh V L k B) (hB:281474976710656≤B∧B≤2251799813685248)
def JM (f:Nat) (args:List Value) (R:ew):Prop:=∀(m:List (KI×Value)) (H:cq),l7 V H m→
  Ct Tryz.prog f (.pointer (some ⟨fb,0,none⟩)::args).toArray [al tp mb es,dV fb tp lb ww wh,aU lb m,aN H] (fun _=>True) (X:=XL) (fun p=>.agg (k7 R p.2.2.1 p.2.2.2).toArray)
    (fun p=>H.Sub p.2.1∧l7 V p.2.1 p.1∧k6 p.2.1 p.2.2.1 R.kids) (fun p=>[al tp mb es,dV fb tp lb ww wh,aU lb p.1,aN p.2.1])
include hk hF hg hkb hl hB in
theorem ie (rw rh px py:Int) (hrw:0≤rw∧rw+4402345672704≤B) (hrh:0≤rh∧rh+4402345672704≤B) (hp:(0≤px∧px≤2097152)∧0≤py∧py≤2097152):
    JM tp mb fb lb es ww wh V 180 [.int .i64 k,q2 rw rh,q2 px py] (cF (ae es) L k rw rh px py):=by
  intro m0 H0 hm0;have hea:0≤eA (ah (ae es) k)∧eA (ah (ae es) k)≤4194304:=(hg k).j6;have heaw:eA (ah (ae es) k)=eS (ah (ae es) k) 3+eS (ah (ae es) k) 1:=rfl;have hma:=mh (ah (ae es) k) rw;have hmaw:mA (ah (ae es) k) rw=mS (ah (ae es) k) rw 3+mS (ah (ae es) k) rw 1:=rfl;have hmd:=pn (ah (ae es) k);have hmdw:mD (ah (ae es) k)=mS (ah (ae es) k) rw 0+mS (ah (ae es) k) rw 2:=rfl;have hms0:=jd (ah (ae es) k) rw 0;have hms3:=jd (ah (ae es) k) rw 3;have hi0:=iP (ah (ae es) k) 0 rh;have hi2:=iP (ah (ae es) k) 2 rh;have hi1:=iP (ah (ae es) k) 1 rw;have hi3:=iP (ah (ae es) k) 3 rw;have hlw:=o7 (ah (ae es) k) (val (ah (ae es) k) 53) rw;have hset:=CG (rw:=rw) (rh:=rh) (hg k);obtain⟨hb1,hb2,hb3,hb4,hb5⟩:_∧_∧_∧(0≤(wF (ae es) L k rw rh).w∧(wF (ae es) L k rw rh).w≤_)∧(0≤(wF (ae es) L k rw rh).h∧(wF (ae es) L k rw rh).h≤_):=hkb rw rh (kp (ae es) k rw) (lY (ae es) k rh);have hxy:=HW (F:=ae es) (k:=k) (rw:=rw) (rh:=rh) (px:=px) (py:=py) (w:=(wF (ae es) L k rw rh).w) (h:=(wF (ae es) L k rw rh).h) (by omega) hp (by omega);refine Ci fun w0 _=>?_;refine gg ?_;refine aj.ef xB fun b6=>?_;refine aj.ef xB fun b7=>?_;refine aj.ef cg fun b8=>?_;refine gg ?_;refine eF (xC (a6 tp mb es hk k)) fun _ _=>?_;refine aj.ef cg fun b9=>?_;refine aj.aX (xZ (hg k).ok rfl) fun _=>?_;refine gg ?_;refine vl (vW (bZ.len (hg k).ok)) ?_;refine gg ?_;refine eF (xC (eC (ah (ae es) k) (hg k).ok rw)) fun _ _=>?_;refine aj.ef cg fun b10=>?_;refine aj.aX (xW rfl) fun _=>?_;refine bW ?_;refine vl (cB (us:=[.int .i64 _,.int .i64 _]) Tryz.underlying109 Tryz.zeroValue109 Tryz.sizeOf3 rfl rfl rfl) ?_;refine aj.ef cg fun b11=>?_;refine aj.aX (xW rfl) fun _=>?_;refine gv ?_;refine WP.iU [0,1,6,7,8,9,10,11] (X:=Unit) (fun _=>[]) (fun _=>fun w=>St w0 (ay [al tp mb es,dV fb tp lb ww wh,aU lb m0,aN H0]) [al tp mb es,dV fb tp lb ww wh,aU lb m0,aN H0,.cl b6 109 [.int .i64 rw,.int .i64 rh],.cl b7 109 [.int .i64 px,.int .i64 py],.cl b8 115 [.int .i64 0,.int .i64 0,.int .i64 0,.int .i64 0,.int .i64 0,.slice none 0 0],.cl b9 42 (ah (ae es) k),.cl b10 35 [.int .i64 (mS (ah (ae es) k) rw 0),.int .i64 (mS (ah (ae es) k) rw 1),.int .i64 (mS (ah (ae es) k) rw 2),.int .i64 (mS (ah (ae es) k) rw 3)],.cl b11 109 [.int .i64 (Qp (ae es) k rw),.int .i64 (-1)]] w) ?_ (fun _ ρ0=>?_)
  ·refine gg ?_;refine vl (gC (hg k).ok 3 4) ?_;refine gg ?_;refine eF (xC (cp (val (ah (ae es) k) 3) (val (ah (ae es) k) 4) rw)) fun _ _=>?_;refine gg ?_;refine WP.cond rfl (fun h38=>?_) (fun h38=>?_)
   ·refine wP (some 15) [0,1,2,3,4,5,6,7,8,9] [pT 0,pT 1,pT 2,pT 3,pT 4,pT 5,pT 6,pT 7,pT 8,pT 10,pF 9,pF 11,pF 12,pT 13,pT 14,pF 15] ?_;refine gg ?_;refine tD (vS (hg k).ok 53) ?_;refine gg ?_;refine tD (gC (hg k).ok 7 8) ?_;refine gg ?_;refine tD (gC (hg k).ok 11 12) ?_;refine gg ?_;refine tD (vW (bZ.len (hg k).ok)) ?_;refine dG (xC (pN (val (ah (ae es) k) 53) (val (ah (ae es) k) 7) (val (ah (ae es) k) 8) (val (ah (ae es) k) 11) (val (ah (ae es) k) 12) rw)) fun _ _=>?_;refine dG (xC (dg _ (hg k).ok (hg k).iW)) fun _ _=>?_;refine dG (xC (dR (eS (ah (ae es) k) 0) (eS (ah (ae es) k) 1) (eS (ah (ae es) k) 2) (eS (ah (ae es) k) 3) (by omega))) fun _ _=>?_;refine tE rfl (zI rfl rfl (by show _≤pM (ah (ae es) k) (val (ah (ae es) k) 53) rw+eA (ah (ae es) k)∧pM (ah (ae es) k) (val (ah (ae es) k) 53) rw+eA (ah (ae es) k)≤_;omega)) ?_;refine gg ?_;refine uz (xS rfl (jJ rfl)) fun _=>?_;exact aB.nil fun w hw=>⟨rfl,(),⟨jP,jI,rfl,rfl,rfl,rfl,rfl,rfl,trivial⟩,by first | (rw[Dg h38];exact(hw.sel [6,0,1,2,3,4,5,7,8,9] (by decide))) | (rw[Gp h38];exact(hw.sel [6,0,1,2,3,4,5,7,8,9] (by decide)))⟩
   ·exact WP.skip fun w hw=>⟨rfl,(),⟨jP,jI,rfl,rfl,rfl,rfl,rfl,rfl,trivial⟩,by first | (rw[Dg h38];exact hw.pk) | (rw[Gp h38];exact hw.pk)⟩
  ·refine gg ?_;refine vl (gC (hg k).ok 3 4) ?_;refine gg ?_;refine vl (gC (hg k).ok 5 6) ?_;refine vl (cB (us:=[.int .i64 _,.int .i64 _,.int .i64 _,.int .i64 _]) Tryz.underlying275 Tryz.zeroValue275 Tryz.sizeOf33 rfl rfl rfl) ?_;refine gg ?_;refine WP.jH 3 ?_;refine fS.succ ?_;refine gg ?_;refine WP.aQ rfl ?_;refine gv ?_;refine WP.iU [0,1,6,7,8,9,10,11,58,59] (X:=Unit) (fun _=>[]) (fun _=>fun w=>St w0 (ay [al tp mb es,dV fb tp lb ww wh,aU lb m0,aN H0]) [al tp mb es,dV fb tp lb ww wh,aU lb m0,aN H0,.cl b6 109 [.int .i64 rw,.int .i64 rh],.cl b7 109 [.int .i64 px,.int .i64 py],.cl b8 115 [.int .i64 0,.int .i64 0,.int .i64 0,.int .i64 0,.int .i64 0,.slice none 0 0],.cl b9 42 (ah (ae es) k),.cl b10 35 [.int .i64 (mS (ah (ae es) k) rw 0),.int .i64 (mS (ah (ae es) k) rw 1),.int .i64 (mS (ah (ae es) k) rw 2),.int .i64 (mS (ah (ae es) k) rw 3)],.cl b11 109 [.int .i64 (kp (ae es) k rw),.int .i64 (-1)]] w) ?_ (fun _ ρ0=>?_)
   ·refine cK ?_;refine vl (iO (j:=0) (us:=#[.int .i64 _,.int .i64 _]) Tryz.underlying275 Tryz.isAgg33 Tryz.sizeOf33 rfl rfl rfl (by decide) rfl) ?_;refine aj.ef cg fun b13=>?_;refine gg ?_;refine aj.aX (xW rfl) fun _=>?_;refine gg ?_;refine eF (xC nt) fun _ _=>?_;refine mv rfl ?_;refine gg ?_;refine eF (xC (cp (val (ah (ae es) k) 3) (val (ah (ae es) k) 4) rw)) fun _ _=>?_;refine bW ?_;refine aj.aY 75 rfl (fun h75=>?_) (fun h75=>?_)
    ·refine cK ?_;refine vg (gC (hg k).ok 29 30) ?_;refine gg ?_;refine aj.kn (xC (cp (val (ah (ae es) k) 29) (val (ah (ae es) k) 30) rw)) (fun _=>?_);refine aj.fact (fun _=>?_);refine bW ?_;refine aj.aY 83 rfl (fun h83=>?_) (fun h83=>?_)
     ·refine cK ?_;refine vg (gC (hg k).ok 25 26) ?_;refine gg ?_;refine aj.kn (xC (cp (val (ah (ae es) k) 25) (val (ah (ae es) k) 26) rw)) (fun _=>?_);refine aj.fact (fun _=>?_);refine gg ?_;refine WP.cond rfl (fun h90=>?_) (fun h90=>?_)
      ·refine wP (some 22) [0,1,2,3,4,5,6,7,8,9,10] [pT 0,pT 1,pT 2,pT 3,pT 4,pT 5,pT 6,pT 9,pT 10,pT 11,pT 12,pT 13,pT 16,pT 17,pF 7,pT 8,pF 14,pT 15,pF 18,pT 19,pT 20,pT 21,pF 22] ?_;refine gg ?_;refine tD (gC (hg k).ok 29 30) ?_;refine gg ?_;refine tD (gC (hg k).ok 25 26) ?_;refine gg ?_;refine dG (xC (a7 (val (ah (ae es) k) 29) (val (ah (ae es) k) 30) rw 0)) fun _ _=>?_;refine tE rfl (jD rfl rfl (by show _≤rw - gT (ah (ae es) k) 3 rw∧rw - gT (ah (ae es) k) 3 rw≤_;omega)) ?_;refine dG (xC (a7 (val (ah (ae es) k) 25) (val (ah (ae es) k) 26) rw 0)) fun _ _=>?_;refine tE rfl (jD rfl rfl (by show _≤rw - gT (ah (ae es) k) 3 rw - gT (ah (ae es) k) 1 rw∧rw - gT (ah (ae es) k) 3 rw - gT (ah (ae es) k) 1 rw≤_;omega)) ?_;refine dG (xC (dR (mS (ah (ae es) k) rw 0) (mS (ah (ae es) k) rw 1) (mS (ah (ae es) k) rw 2) (mS (ah (ae es) k) rw 3) (by omega))) fun _ _=>?_;refine tE rfl (jD rfl rfl (by show _≤rw - gT (ah (ae es) k) 3 rw - gT (ah (ae es) k) 1 rw - mA (ah (ae es) k) rw∧rw - gT (ah (ae es) k) 3 rw - gT (ah (ae es) k) 1 rw - mA (ah (ae es) k) rw≤_;omega)) ?_;refine gg ?_;refine uz (xS rfl (jJ rfl)) fun _=>?_;exact aB.nil fun w hw=>⟨rfl,(),⟨jP,jI,rfl,rfl,rfl,rfl,rfl,rfl,(via (.agg _) rfl rfl),jI,trivial⟩,by first | (rw[rO h75 h83 h90];exact(hw.sel [0,1,2,3,4,5,6,7,8,9] (by decide))) | (rw[gx (.inl h75)];exact(hw.sel [0,1,2,3,4,5,6,7,8,9] (by decide))) | (rw[gx (.inr (.inl h83))];exact(hw.sel [0,1,2,3,4,5,6,7,8,9] (by decide))) | (rw[gx (.inr (.inr h90))];exact(hw.sel [0,1,2,3,4,5,6,7,8,9] (by decide)))⟩
      ·exact WP.skip fun w hw=>⟨rfl,(),⟨jP,jI,rfl,rfl,rfl,rfl,rfl,rfl,(via (.agg _) rfl rfl),jI,trivial⟩,by first | (rw[rO h75 h83 h90];exact hw.pk) | (rw[gx (.inl h75)];exact hw.pk) | (rw[gx (.inr (.inl h83))];exact hw.pk) | (rw[gx (.inr (.inr h90))];exact hw.pk)⟩
     ·refine gg ?_;refine WP.br rfl ?_;exact WP.skip fun w hw=>⟨rfl,(),⟨jP,jI,rfl,rfl,rfl,rfl,rfl,rfl,(via (.agg _) rfl rfl),jI,trivial⟩,by first | (rw[rO h75 h83 h90];exact hw.pk) | (rw[gx (.inl h75)];exact hw.pk) | (rw[gx (.inr (.inl h83))];exact hw.pk) | (rw[gx (.inr (.inr h90))];exact hw.pk)⟩
    ·refine gg ?_;refine WP.br rfl ?_;exact WP.skip fun w hw=>⟨rfl,(),⟨jP,jI,rfl,rfl,rfl,rfl,rfl,rfl,(via (.agg _) rfl rfl),jI,trivial⟩,by first | (rw[rO h75 h83 h90];exact hw.pk) | (rw[gx (.inl h75)];exact hw.pk) | (rw[gx (.inr (.inl h83))];exact hw.pk) | (rw[gx (.inr (.inr h90))];exact hw.pk)⟩
   ·refine cK ?_;refine aj.nil (aI ?_);refine fS.succ ?_;refine gg ?_;refine WP.aQ rfl ?_;refine gv ?_;refine WP.iU [0,1,6,7,8,9,10,11,58,59] (X:=Unit) (fun _=>[]) (fun _=>fun w=>St w0 (ay [al tp mb es,dV fb tp lb ww wh,aU lb m0,aN H0]) [al tp mb es,dV fb tp lb ww wh,aU lb m0,aN H0,.cl b6 109 [.int .i64 rw,.int .i64 rh],.cl b7 109 [.int .i64 px,.int .i64 py],.cl b8 115 [.int .i64 0,.int .i64 0,.int .i64 0,.int .i64 0,.int .i64 0,.slice none 0 0],.cl b9 42 (ah (ae es) k),.cl b10 35 [.int .i64 (mS (ah (ae es) k) rw 0),.int .i64 (mS (ah (ae es) k) rw 1),.int .i64 (mS (ah (ae es) k) rw 2),.int .i64 (mS (ah (ae es) k) rw 3)],.cl b11 109 [.int .i64 (kp (ae es) k rw),.int .i64 (lY (ae es) k rh)]] w) ?_ (fun _ ρ0=>?_)
    ·refine cK ?_;refine vl (iO (j:=1) (us:=#[.int .i64 _,.int .i64 _]) Tryz.underlying275 Tryz.isAgg33 Tryz.sizeOf33 rfl rfl rfl (by decide) rfl) ?_;refine aj.ef cg fun b13=>?_;refine gg ?_;refine aj.aX (xW rfl) fun _=>?_;refine gg ?_;refine eF (xC mV) fun _ _=>?_;refine mv rfl ?_;refine gg ?_;refine eF (xC (cp (val (ah (ae es) k) 5) (val (ah (ae es) k) 6) rh)) fun _ _=>?_;refine bW ?_;refine aj.aY 75 rfl (fun h75=>?_) (fun h75=>?_)
     ·refine cK ?_;refine vg (gC (hg k).ok 23 24) ?_;refine gg ?_;refine aj.kn (xC (cp (val (ah (ae es) k) 23) (val (ah (ae es) k) 24) rh)) (fun _=>?_);refine aj.fact (fun _=>?_);refine bW ?_;refine aj.aY 83 rfl (fun h83=>?_) (fun h83=>?_)
      ·refine cK ?_;refine vg (gC (hg k).ok 27 28) ?_;refine gg ?_;refine aj.kn (xC (cp (val (ah (ae es) k) 27) (val (ah (ae es) k) 28) rh)) (fun _=>?_);refine aj.fact (fun _=>?_);refine gg ?_;refine WP.cond rfl (fun h90=>?_) (fun h90=>?_)
       ·refine wP (some 22) [0,1,2,3,4,5,6,7,8,9,10] [pT 0,pT 1,pT 2,pT 3,pT 4,pT 5,pT 6,pT 9,pT 10,pT 11,pT 12,pT 13,pT 16,pT 17,pF 7,pT 8,pF 14,pT 15,pF 18,pT 19,pT 20,pT 21,pF 22] ?_;refine gg ?_;refine tD (gC (hg k).ok 23 24) ?_;refine gg ?_;refine tD (gC (hg k).ok 27 28) ?_;refine gg ?_;refine dG (xC (a7 (val (ah (ae es) k) 23) (val (ah (ae es) k) 24) rh 0)) fun _ _=>?_;refine tE rfl (jD rfl rfl (by show _≤rh - gT (ah (ae es) k) 0 rh∧rh - gT (ah (ae es) k) 0 rh≤_;omega)) ?_;refine dG (xC (a7 (val (ah (ae es) k) 27) (val (ah (ae es) k) 28) rh 0)) fun _ _=>?_;refine tE rfl (jD rfl rfl (by show _≤rh - gT (ah (ae es) k) 0 rh - gT (ah (ae es) k) 2 rh∧rh - gT (ah (ae es) k) 0 rh - gT (ah (ae es) k) 2 rh≤_;omega)) ?_;refine dG (xC (dN (mS (ah (ae es) k) rw 0) (mS (ah (ae es) k) rw 1) (mS (ah (ae es) k) rw 2) (mS (ah (ae es) k) rw 3) (by omega))) fun _ _=>?_;refine tE rfl (jD rfl rfl (by show _≤rh - gT (ah (ae es) k) 0 rh - gT (ah (ae es) k) 2 rh - mD (ah (ae es) k)∧rh - gT (ah (ae es) k) 0 rh - gT (ah (ae es) k) 2 rh - mD (ah (ae es) k)≤_;omega)) ?_;refine gg ?_;refine uz (xS rfl (jJ rfl)) fun _=>?_;exact aB.nil fun w hw=>⟨rfl,(),⟨jP,jI,rfl,rfl,rfl,rfl,rfl,rfl,(via (.agg _) rfl rfl),jI,trivial⟩,by first | (rw[rR h75 h83 h90];exact(hw.sel [0,1,2,3,4,5,6,7,8,9] (by decide))) | (rw[gw (.inl h75)];exact(hw.sel [0,1,2,3,4,5,6,7,8,9] (by decide))) | (rw[gw (.inr (.inl h83))];exact(hw.sel [0,1,2,3,4,5,6,7,8,9] (by decide))) | (rw[gw (.inr (.inr h90))];exact(hw.sel [0,1,2,3,4,5,6,7,8,9] (by decide)))⟩
       ·exact WP.skip fun w hw=>⟨rfl,(),⟨jP,jI,rfl,rfl,rfl,rfl,rfl,rfl,(via (.agg _) rfl rfl),jI,trivial⟩,by first | (rw[rR h75 h83 h90];exact hw.pk) | (rw[gw (.inl h75)];exact hw.pk) | (rw[gw (.inr (.inl h83))];exact hw.pk) | (rw[gw (.inr (.inr h90))];exact hw.pk)⟩
      ·refine gg ?_;refine WP.br rfl ?_;exact WP.skip fun w hw=>⟨rfl,(),⟨jP,jI,rfl,rfl,rfl,rfl,rfl,rfl,(via (.agg _) rfl rfl),jI,trivial⟩,by first | (rw[rR h75 h83 h90];exact hw.pk) | (rw[gw (.inl h75)];exact hw.pk) | (rw[gw (.inr (.inl h83))];exact hw.pk) | (rw[gw (.inr (.inr h90))];exact hw.pk)⟩
     ·refine gg ?_;refine WP.br rfl ?_;exact WP.skip fun w hw=>⟨rfl,(),⟨jP,jI,rfl,rfl,rfl,rfl,rfl,rfl,(via (.agg _) rfl rfl),jI,trivial⟩,by first | (rw[rR h75 h83 h90];exact hw.pk) | (rw[gw (.inl h75)];exact hw.pk) | (rw[gw (.inr (.inl h83))];exact hw.pk) | (rw[gw (.inr (.inr h90))];exact hw.pk)⟩
    ·refine cK ?_;refine aj.nil (aI ?_);refine fS.succ ?_;refine gg ?_;refine WP.br rfl ?_;refine WP.exit (an ?_);refine gg ?_;refine eF (xC (hl m0 H0 rw rh (kp (ae es) k rw) (lY (ae es) k rh) hm0 ⟨⟨by omega,by omega⟩,⟨by omega,by omega⟩,⟨by omega,by omega⟩,by omega,by omega⟩)) fun⟨m1,H1,fA1,fc1⟩ ⟨hsub1,hmok1,hrep1⟩=>?_;dsimp only at hsub1 hmok1 hrep1;refine aj.ef cg fun b17=>?_;refine aj.aX (xW rfl) fun _=>?_;refine gg ?_;refine WP.jH 3 ?_;refine fS.succ ?_;refine gg ?_;refine WP.aQ rfl ?_;refine gv ?_;refine WP.iU [6,7,8,9,10,17,119] (X:=Unit) (fun _=>[]) (fun _=>fun w=>St w0 (ay [al tp mb es,dV fb tp lb ww wh,aU lb m0,aN H0]) [al tp mb es,dV fb tp lb ww wh,aU lb m1,aN H1,.cl b6 109 [.int .i64 rw,.int .i64 rh],.cl b7 109 [.int .i64 (wX (ae es) k rw px (wF (ae es) L k rw rh).w),.int .i64 (py)],.cl b8 115 [.int .i64 0,.int .i64 0,.int .i64 0,.int .i64 0,.int .i64 0,.slice none 0 0],.cl b9 42 (ah (ae es) k),.cl b10 35 [.int .i64 (mS (ah (ae es) k) rw 0),.int .i64 (mS (ah (ae es) k) rw 1),.int .i64 (mS (ah (ae es) k) rw 2),.int .i64 (mS (ah (ae es) k) rw 3)],.cl b17 115 (k7 (wF (ae es) L k rw rh) fA1 fc1)] w) ?_ (fun _ ρ0=>?_)
     ·refine gg ?_;refine eF (xC nt) fun _ _=>?_;refine mv rfl ?_;refine gg ?_;refine vl (gC (hg k).ok 29 30) ?_;refine gg ?_;refine eF (xC (cp (val (ah (ae es) k) 29) (val (ah (ae es) k) 30) rw)) fun _ _=>?_;refine gg ?_;refine WP.cond rfl (fun h130=>?_) (fun h130=>?_)
      ·refine gg ?_;refine vl (gC (hg k).ok 29 30) ?_;refine gg ?_;refine eF (xC (a7 (val (ah (ae es) k) 29) (val (ah (ae es) k) 30) rw 0)) fun _ _=>?_;refine gg ?_;refine aj.aX (xS rfl (jJ rfl)) fun _=>?_;exact nl fun w hw=>⟨rfl,(),⟨rfl,rfl,rfl,rfl,rfl,rfl,jI,trivial⟩,by first | (rw[OC h130];exact(hw.sel [6,7,8,9,0,1,2,3,4,10] (by decide))) | (rw[QW h130 h145];exact(hw.sel [6,7,8,9,0,1,2,3,4,10] (by decide))) | (rw[Og h130 h145];exact(hw.sel [6,7,8,9,0,1,2,3,4,10] (by decide)))⟩
      ·refine gg ?_;refine vl (gC (hg k).ok 25 26) ?_;refine gg ?_;refine eF (xC (cp (val (ah (ae es) k) 25) (val (ah (ae es) k) 26) rw)) fun _ _=>?_;refine gg ?_;refine WP.cond rfl (fun h145=>?_) (fun h145=>?_)
       ·refine wP (some 19) [0,1,2,3,4,5,6,7,8,9,10] [pT 0,pT 1,pT 2,pT 3,pT 4,pT 5,pT 6,pT 9,pT 10,pT 13,pT 14,pT 15,pT 16,pF 7,pT 8,pF 11,pT 12,pT 17,pT 18,pF 19] ?_;refine gg ?_;refine tD (gC (hg k).ok 25 26) ?_;refine gg ?_;refine dG (xC (a7 (val (ah (ae es) k) 25) (val (ah (ae es) k) 26) rw 0)) fun _ _=>?_;refine tE rfl (jD rfl rfl (by show _≤rw - gT (ah (ae es) k) 1 rw∧rw - gT (ah (ae es) k) 1 rw≤_;omega)) ?_;refine dG (xC (dR (mS (ah (ae es) k) rw 0) (mS (ah (ae es) k) rw 1) (mS (ah (ae es) k) rw 2) (mS (ah (ae es) k) rw 3) (by omega))) fun _ _=>?_;refine tE rfl (jD rfl rfl (by show _≤rw - gT (ah (ae es) k) 1 rw - mA (ah (ae es) k) rw∧rw - gT (ah (ae es) k) 1 rw - mA (ah (ae es) k) rw≤_;omega)) ?_;refine tE rfl (jD rfl rfl (by show _≤rw - gT (ah (ae es) k) 1 rw - mA (ah (ae es) k) rw - (wF (ae es) L k rw rh).w∧rw - gT (ah (ae es) k) 1 rw - mA (ah (ae es) k) rw - (wF (ae es) L k rw rh).w≤_;omega)) ?_;refine gg ?_;refine uz (xS rfl (jJ rfl)) fun _=>?_;exact aB.nil fun w hw=>⟨rfl,(),⟨rfl,rfl,rfl,rfl,rfl,rfl,jI,trivial⟩,by first | (rw[OC h130];exact(hw.sel [6,7,8,9,0,1,2,3,4,10] (by decide))) | (rw[QW h130 h145];exact(hw.sel [6,7,8,9,0,1,2,3,4,10] (by decide))) | (rw[Og h130 h145];exact(hw.sel [6,7,8,9,0,1,2,3,4,10] (by decide)))⟩
       ·exact WP.skip fun w hw=>⟨rfl,(),⟨rfl,rfl,rfl,rfl,rfl,rfl,jI,trivial⟩,by first | (rw[OC h130];exact(hw.sel [6,7,8,9,0,1,2,3,4,10] (by decide))) | (rw[QW h130 h145];exact(hw.sel [6,7,8,9,0,1,2,3,4,10] (by decide))) | (rw[Og h130 h145];exact(hw.sel [6,7,8,9,0,1,2,3,4,10] (by decide)))⟩
     ·refine cK ?_;refine aj.nil (aI ?_);refine fS.succ ?_;refine gg ?_;refine WP.aQ rfl ?_;refine gv ?_;refine WP.iU [6,7,8,9,10,17,119] (X:=Unit) (fun _=>[]) (fun _=>fun w=>St w0 (ay [al tp mb es,dV fb tp lb ww wh,aU lb m0,aN H0]) [al tp mb es,dV fb tp lb ww wh,aU lb m1,aN H1,.cl b6 109 [.int .i64 rw,.int .i64 rh],.cl b7 109 [.int .i64 (wX (ae es) k rw px (wF (ae es) L k rw rh).w),.int .i64 (wY (ae es) k rh py (wF (ae es) L k rw rh).h)],.cl b8 115 [.int .i64 0,.int .i64 0,.int .i64 0,.int .i64 0,.int .i64 0,.slice none 0 0],.cl b9 42 (ah (ae es) k),.cl b10 35 [.int .i64 (mS (ah (ae es) k) rw 0),.int .i64 (mS (ah (ae es) k) rw 1),.int .i64 (mS (ah (ae es) k) rw 2),.int .i64 (mS (ah (ae es) k) rw 3)],.cl b17 115 (k7 (wF (ae es) L k rw rh) fA1 fc1)] w) ?_ (fun _ ρ0=>?_)
      ·refine gg ?_;refine eF (xC mV) fun _ _=>?_;refine mv rfl ?_;refine gg ?_;refine vl (gC (hg k).ok 23 24) ?_;refine gg ?_;refine eF (xC (cp (val (ah (ae es) k) 23) (val (ah (ae es) k) 24) rh)) fun _ _=>?_;refine gg ?_;refine WP.cond rfl (fun h130=>?_) (fun h130=>?_)
       ·refine gg ?_;refine vl (gC (hg k).ok 23 24) ?_;refine gg ?_;refine eF (xC (a7 (val (ah (ae es) k) 23) (val (ah (ae es) k) 24) rh 0)) fun _ _=>?_;refine gg ?_;refine aj.aX (xS rfl (jJ rfl)) fun _=>?_;exact nl fun w hw=>⟨rfl,(),⟨rfl,rfl,rfl,rfl,rfl,rfl,jI,trivial⟩,by first | (rw[TC h130];exact(hw.sel [0,1,2,3,4,5,6,7,8,9] (by decide))) | (rw[LJ h130 h145];exact(hw.sel [0,1,2,3,4,5,6,7,8,9] (by decide))) | (rw[PQ h130 h145];exact(hw.sel [0,1,2,3,4,5,6,7,8,9] (by decide)))⟩
       ·refine gg ?_;refine vl (gC (hg k).ok 27 28) ?_;refine gg ?_;refine eF (xC (cp (val (ah (ae es) k) 27) (val (ah (ae es) k) 28) rh)) fun _ _=>?_;refine gg ?_;refine WP.cond rfl (fun h145=>?_) (fun h145=>?_)
        ·refine wP (some 19) [0,1,2,3,4,5,6,7,8,9] [pT 0,pT 1,pT 2,pT 3,pT 4,pT 5,pT 6,pT 9,pT 10,pT 13,pT 14,pT 15,pT 16,pF 7,pT 8,pF 11,pT 12,pT 17,pT 18,pF 19] ?_;refine gg ?_;refine tD (gC (hg k).ok 27 28) ?_;refine gg ?_;refine dG (xC (a7 (val (ah (ae es) k) 27) (val (ah (ae es) k) 28) rh 0)) fun _ _=>?_;refine tE rfl (jD rfl rfl (by show _≤rh - gT (ah (ae es) k) 2 rh∧rh - gT (ah (ae es) k) 2 rh≤_;omega)) ?_;refine dG (xC (dN (mS (ah (ae es) k) rw 0) (mS (ah (ae es) k) rw 1) (mS (ah (ae es) k) rw 2) (mS (ah (ae es) k) rw 3) (by omega))) fun _ _=>?_;refine tE rfl (jD rfl rfl (by show _≤rh - gT (ah (ae es) k) 2 rh - mD (ah (ae es) k)∧rh - gT (ah (ae es) k) 2 rh - mD (ah (ae es) k)≤_;omega)) ?_;refine tE rfl (jD rfl rfl (by show _≤rh - gT (ah (ae es) k) 2 rh - mD (ah (ae es) k) - (wF (ae es) L k rw rh).h∧rh - gT (ah (ae es) k) 2 rh - mD (ah (ae es) k) - (wF (ae es) L k rw rh).h≤_;omega)) ?_;refine gg ?_;refine uz (xS rfl (jJ rfl)) fun _=>?_;exact aB.nil fun w hw=>⟨rfl,(),⟨rfl,rfl,rfl,rfl,rfl,rfl,jI,trivial⟩,by first | (rw[TC h130];exact(hw.sel [0,1,2,3,4,5,6,7,8,9] (by decide))) | (rw[LJ h130 h145];exact(hw.sel [0,1,2,3,4,5,6,7,8,9] (by decide))) | (rw[PQ h130 h145];exact(hw.sel [0,1,2,3,4,5,6,7,8,9] (by decide)))⟩
        ·exact WP.skip fun w hw=>⟨rfl,(),⟨rfl,rfl,rfl,rfl,rfl,rfl,jI,trivial⟩,by first | (rw[TC h130];exact hw.pk) | (rw[LJ h130 h145];exact hw.pk) | (rw[PQ h130 h145];exact hw.pk)⟩
      ·refine cK ?_;refine aj.nil (aI ?_);refine fS.succ ?_;refine gg ?_;refine WP.br rfl ?_;refine WP.exit (an ?_);refine gg ?_;refine wP (some 5) [0,1,2,3,4,5,6,7,8,9] [pT 0,pT 1,pF 2,pF 3,pT 4,pF 5] ?_;refine gg ?_;refine dG (xC (dn (mS (ah (ae es) k) rw 0) (mS (ah (ae es) k) rw 1) (mS (ah (ae es) k) rw 2) (mS (ah (ae es) k) rw 3))) fun _ _=>?_;refine dG (xC (ep (wX (ae es) k rw px (wF (ae es) L k rw rh).w) (wY (ae es) k rh py (wF (ae es) L k rw rh).h) (mS (ah (ae es) k) rw 3) (mS (ah (ae es) k) rw 0) (by omega) (by omega))) fun _ _=>?_;refine gg ?_;refine aB.aX rfl (cy (us:=[.int .i64 _,.int .i64 _]) (σ':=[_,_,_,_,_,_,_,_,_,.cl _ _ [_,_,_,_,_,_]]) Tryz.sizeOf109 rfl rfl (i:=9) rfl (Nat.le_of_ble_eq_true rfl) rfl (by simp[Value.oneCell'])) (fun h=>absurd rfl h) (fun _=>?_);refine gg ?_;refine aj.aX (xW rfl) fun _=>?_;refine gg ?_;exact jf rfl fun w hw=>⟨(m1,H1,fA1,fc1),rfl,⟨hsub1,hmok1,hrep1⟩,hw.pk⟩
include hk hF hg hkb hl hB in
theorem Fb (s:List Value) (hs:GS s) (iw ih:Int) (hiw:0≤iw∧iw+4402347769856≤B) (hih:0≤ih∧ih+4402347769856≤B) (hww:0≤ww∧ww≤1048576) (hwh:0≤wh∧wh≤1048576):
    JM tp mb fb lb es ww wh V 153 [.int .i64 k,.agg s.toArray,q2 iw ih] (iR (ae es) ww wh L s iw ih k):=by
  intro m0 H0 hm0;have p31:=hs.siz 31 (by decide);have p32:=hs.siz 32 (by decide);have p33:=hs.siz 33 (by decide);have p34:=hs.siz 34 (by decide);have p35:=hs.siz 35 (by decide);have p38:=hs.siz 38 (by decide);refine Ci fun w0 _=>?_;refine gg ?_;refine aj.ef (xB (us:=s)) fun b6=>?_;refine aj.ef xB fun b7=>?_;refine aj.ef cg fun b8=>?_;refine gg ?_;refine eF (xC (a6 tp mb es hk k)) fun _ _=>?_;refine vl (hR (u:=.int .i64 (val (ah (ae es) k) 1)) Tryz.underlying42 rfl Tryz.isAgg29 rfl (oP (bZ.int (hg k).ok 1 (by decide) rfl))) ?_;refine gg ?_;refine WP.aw rfl (fun h17=>?_) (fun h17=>?_)
  ·have hr:iR (ae es) ww wh L s iw ih k=cF (ae es) L k ww wh 0 0:=if_pos h17;refine qa ?_;refine vl (cB (us:=[.int .i64 _,.int .i64 _]) Tryz.underlying109 Tryz.zeroValue109 Tryz.sizeOf3 rfl rfl rfl) ?_;refine eF (xC ((ie tp mb fb lb es hk hF hg ww wh V L k B hkb hl hB ww wh 0 0 (by omega) (by omega) (by omega)) m0 H0 hm0)) fun⟨m1,H1,fA1,fc1⟩ ⟨hsub1,hmok1,hrep1⟩=>?_;dsimp only at hsub1 hmok1 hrep1;refine aj.aX (xW rfl) fun _=>?_;refine gg ?_;exact jf rfl fun w hw=>⟨(m1,H1,fA1,fc1),by rw[hr];try rfl,⟨hsub1,hmok1,by rw[hr];exact hrep1⟩,hw.pk⟩
  ·have hr:iR (ae es) ww wh L s iw ih k=Dw (val s 38) (val s 35) (cF (ae es) L k (iw+(val s 34+val s 32)) (ih+(val s 31+val s 33)) (val s 34) (val s 31)):=if_neg h17;have hxy:=HW (F:=ae es) (k:=k) (rw:=iw+(val s 34+val s 32)) (rh:=ih+(val s 31+val s 33)) (px:=val s 34) (py:=val s 31) (w:=(wF (ae es) L k (iw+(val s 34+val s 32)) (ih+(val s 31+val s 33))).w) (h:=(wF (ae es) L k (iw+(val s 34+val s 32)) (ih+(val s 31+val s 33))).h) (by omega) (by omega) (by have h1:=hkb (iw+(val s 34+val s 32)) (ih+(val s 31+val s 33)) (kp (ae es) k (iw+(val s 34+val s 32))) (lY (ae es) k (ih+(val s 31+val s 33)));have h2:=CG (rw:=iw+(val s 34+val s 32)) (rh:=ih+(val s 31+val s 33)) (hg k);unfold wF;omega);have hms0:=jd (ah (ae es) k) (iw+(val s 34+val s 32)) 0;have hms3:=jd (ah (ae es) k) (iw+(val s 34+val s 32)) 3;have hwx:-9007199254740992≤(cF (ae es) L k (iw+(val s 34+val s 32)) (ih+(val s 31+val s 33)) (val s 34) (val s 31)).x∧(cF (ae es) L k (iw+(val s 34+val s 32)) (ih+(val s 31+val s 33)) (val s 34) (val s 31)).x≤9007199254740992:=by rw[s7];simp only;omega
   have hwy:-9007199254740992≤(cF (ae es) L k (iw+(val s 34+val s 32)) (ih+(val s 31+val s 33)) (val s 34) (val s 31)).y∧(cF (ae es) L k (iw+(val s 34+val s 32)) (ih+(val s 31+val s 33)) (val s 34) (val s 31)).y≤9007199254740992:=by rw[s7];simp only;omega
   refine gg ?_;refine wG [3,4,5] ?_;refine aG 0 ?_;refine aG 1 ?_;refine aG 2 ?_;refine aG 3 ?_;refine tF 4 (IX hs.ok 31 32 33 34) ?_;refine aG 7 ?_;refine tF 8 (IX hs.ok 31 32 33 34) ?_;refine fK 5 11 ?_ ?_
   ·refine fF (xC (tj (val s 31) (val s 32) (val s 33) (val s 34) (by omega) (by omega))) fun _ _=>?_;refine fK 6 11 ?_ ?_
    ·refine fF (xC (ep iw ih (val s 34+val s 32) (val s 31+val s 33) (by omega) (by omega))) fun _ _=>?_;refine fK 9 11 ?_ ?_
     ·refine fF (xC (dn (val s 31) (val s 32) (val s 33) (val s 34))) fun _ _=>?_;refine fK 10 11 ?_ ?_
      ·refine fF (xC ((ie tp mb fb lb es hk hF hg ww wh V L k B hkb hl hB (iw+(val s 34+val s 32)) (ih+(val s 31+val s 33)) (val s 34) (val s 31) (by omega) (by omega) (by omega)) m0 H0 hm0)) fun⟨m1,H1,fA1,fc1⟩ ⟨hsub1,hmok1,hrep1⟩=>?_;dsimp only at hsub1 hmok1 hrep1;refine fO 11 ?_;refine fE cg fun b9=>?_;refine fO 12 ?_;refine nF (xW rfl) fun _=>?_;refine fN (oo ?_);refine gg ?_;refine wP (some 7) [0,1,2,3,4,5,6,7] [pT 0,pT 1,pT 2,pT 3,pF 4,pF 5,pT 6,pF 7] ?_;refine gg ?_;refine tD (IX hs.ok 35 36 37 38) ?_;refine dG (xC (dn (val s 35) (val s 36) (val s 37) (val s 38))) fun _ _=>?_;refine dG (xC (ep (cF (ae es) L k (iw+(val s 34+val s 32)) (ih+(val s 31+val s 33)) (val s 34) (val s 31)).x (cF (ae es) L k (iw+(val s 34+val s 32)) (ih+(val s 31+val s 33)) (val s 34) (val s 31)).y (val s 38) (val s 35) (by omega) (by omega))) fun _ _=>?_;refine gg ?_;refine aB.aX rfl (cy (us:=[.int .i64 _,.int .i64 _]) (σ':=[_,_,_,_,_,_,_,.cl _ _ [_,_,_,_,_,_]]) Tryz.sizeOf109 rfl rfl (i:=7) rfl (Nat.le_of_ble_eq_true rfl) rfl (by simp[Value.oneCell'])) (fun h=>absurd rfl h) (fun _=>?_);refine gg ?_;refine aj.aX (xW rfl) fun _=>?_;refine gg ?_;exact jf rfl fun w hw=>⟨(m1,H1,fA1,fc1),by rw[hr];try rfl,⟨hsub1,hmok1,by rw[hr];exact hrep1⟩,hw.pk⟩
      ·refine fE cg fun b9=>?_;refine fO 10 ?_;refine fF (xC ((ie tp mb fb lb es hk hF hg ww wh V L k B hkb hl hB (iw+(val s 34+val s 32)) (ih+(val s 31+val s 33)) (val s 34) (val s 31) (by omega) (by omega) (by omega)) m0 H0 hm0)) fun⟨m1,H1,fA1,fc1⟩ ⟨hsub1,hmok1,hrep1⟩=>?_;dsimp only at hsub1 hmok1 hrep1;refine fO 12 ?_;refine nF (xW rfl) fun _=>?_;refine fN (oo ?_);refine gg ?_;refine wP (some 7) [0,1,2,3,4,5,6,7] [pT 0,pT 1,pT 2,pT 3,pF 4,pF 5,pT 6,pF 7] ?_;refine gg ?_;refine tD (IX hs.ok 35 36 37 38) ?_;refine dG (xC (dn (val s 35) (val s 36) (val s 37) (val s 38))) fun _ _=>?_;refine dG (xC (ep (cF (ae es) L k (iw+(val s 34+val s 32)) (ih+(val s 31+val s 33)) (val s 34) (val s 31)).x (cF (ae es) L k (iw+(val s 34+val s 32)) (ih+(val s 31+val s 33)) (val s 34) (val s 31)).y (val s 38) (val s 35) (by omega) (by omega))) fun _ _=>?_;refine gg ?_;refine aB.aX rfl (cy (us:=[.int .i64 _,.int .i64 _]) (σ':=[_,_,_,.cl _ _ [_,_,_,_,_,_],_,_,_,_]) Tryz.sizeOf109 rfl rfl (i:=3) rfl (Nat.le_of_ble_eq_true rfl) rfl (by simp[Value.oneCell'])) (fun h=>absurd rfl h) (fun _=>?_);refine gg ?_;refine aj.aX (xW rfl) fun _=>?_;refine gg ?_;exact jf rfl fun w hw=>⟨(m1,H1,fA1,fc1),by rw[hr];try rfl,⟨hsub1,hmok1,by rw[hr];exact hrep1⟩,hw.pk⟩
     ·refine fE cg fun b9=>?_;refine fO 9 ?_;refine fF (xC (dn (val s 31) (val s 32) (val s 33) (val s 34))) fun _ _=>?_;refine fO 10 ?_;refine fF (xC ((ie tp mb fb lb es hk hF hg ww wh V L k B hkb hl hB (iw+(val s 34+val s 32)) (ih+(val s 31+val s 33)) (val s 34) (val s 31) (by omega) (by omega) (by omega)) m0 H0 hm0)) fun⟨m1,H1,fA1,fc1⟩ ⟨hsub1,hmok1,hrep1⟩=>?_;dsimp only at hsub1 hmok1 hrep1;refine fO 12 ?_;refine nF (xW rfl) fun _=>?_;refine fN (oo ?_);refine gg ?_;refine wP (some 7) [0,1,2,3,4,5,6,7] [pT 0,pT 1,pT 2,pT 3,pF 4,pF 5,pT 6,pF 7] ?_;refine gg ?_;refine tD (IX hs.ok 35 36 37 38) ?_;refine dG (xC (dn (val s 35) (val s 36) (val s 37) (val s 38))) fun _ _=>?_;refine dG (xC (ep (cF (ae es) L k (iw+(val s 34+val s 32)) (ih+(val s 31+val s 33)) (val s 34) (val s 31)).x (cF (ae es) L k (iw+(val s 34+val s 32)) (ih+(val s 31+val s 33)) (val s 34) (val s 31)).y (val s 38) (val s 35) (by omega) (by omega))) fun _ _=>?_;refine gg ?_;refine aB.aX rfl (cy (us:=[.int .i64 _,.int .i64 _]) (σ':=[_,_,_,.cl _ _ [_,_,_,_,_,_],_,_,_,_]) Tryz.sizeOf109 rfl rfl (i:=3) rfl (Nat.le_of_ble_eq_true rfl) rfl (by simp[Value.oneCell'])) (fun h=>absurd rfl h) (fun _=>?_);refine gg ?_;refine aj.aX (xW rfl) fun _=>?_;refine gg ?_;exact jf rfl fun w hw=>⟨(m1,H1,fA1,fc1),by rw[hr];try rfl,⟨hsub1,hmok1,by rw[hr];exact hrep1⟩,hw.pk⟩
    ·refine fE cg fun b9=>?_;refine fO 6 ?_;refine fF (xC (ep iw ih (val s 34+val s 32) (val s 31+val s 33) (by omega) (by omega))) fun _ _=>?_;refine fO 9 ?_;refine fF (xC (dn (val s 31) (val s 32) (val s 33) (val s 34))) fun _ _=>?_;refine fO 10 ?_;refine fF (xC ((ie tp mb fb lb es hk hF hg ww wh V L k B hkb hl hB (iw+(val s 34+val s 32)) (ih+(val s 31+val s 33)) (val s 34) (val s 31) (by omega) (by omega) (by omega)) m0 H0 hm0)) fun⟨m1,H1,fA1,fc1⟩ ⟨hsub1,hmok1,hrep1⟩=>?_;dsimp only at hsub1 hmok1 hrep1;refine fO 12 ?_;refine nF (xW rfl) fun _=>?_;refine fN (oo ?_);refine gg ?_;refine wP (some 7) [0,1,2,3,4,5,6,7] [pT 0,pT 1,pT 2,pT 3,pF 4,pF 5,pT 6,pF 7] ?_;refine gg ?_;refine tD (IX hs.ok 35 36 37 38) ?_;refine dG (xC (dn (val s 35) (val s 36) (val s 37) (val s 38))) fun _ _=>?_;refine dG (xC (ep (cF (ae es) L k (iw+(val s 34+val s 32)) (ih+(val s 31+val s 33)) (val s 34) (val s 31)).x (cF (ae es) L k (iw+(val s 34+val s 32)) (ih+(val s 31+val s 33)) (val s 34) (val s 31)).y (val s 38) (val s 35) (by omega) (by omega))) fun _ _=>?_;refine gg ?_;refine aB.aX rfl (cy (us:=[.int .i64 _,.int .i64 _]) (σ':=[_,_,_,.cl _ _ [_,_,_,_,_,_],_,_,_,_]) Tryz.sizeOf109 rfl rfl (i:=3) rfl (Nat.le_of_ble_eq_true rfl) rfl (by simp[Value.oneCell'])) (fun h=>absurd rfl h) (fun _=>?_);refine gg ?_;refine aj.aX (xW rfl) fun _=>?_;refine gg ?_;exact jf rfl fun w hw=>⟨(m1,H1,fA1,fc1),by rw[hr];try rfl,⟨hsub1,hmok1,by rw[hr];exact hrep1⟩,hw.pk⟩
   ·refine fE cg fun b9=>?_;refine fO 5 ?_;refine fF (xC (tj (val s 31) (val s 32) (val s 33) (val s 34) (by omega) (by omega))) fun _ _=>?_;refine fO 6 ?_;refine fF (xC (ep iw ih (val s 34+val s 32) (val s 31+val s 33) (by omega) (by omega))) fun _ _=>?_;refine fO 9 ?_;refine fF (xC (dn (val s 31) (val s 32) (val s 33) (val s 34))) fun _ _=>?_;refine fO 10 ?_;refine fF (xC ((ie tp mb fb lb es hk hF hg ww wh V L k B hkb hl hB (iw+(val s 34+val s 32)) (ih+(val s 31+val s 33)) (val s 34) (val s 31) (by omega) (by omega) (by omega)) m0 H0 hm0)) fun⟨m1,H1,fA1,fc1⟩ ⟨hsub1,hmok1,hrep1⟩=>?_;dsimp only at hsub1 hmok1 hrep1;refine fO 12 ?_;refine nF (xW rfl) fun _=>?_;refine fN (oo ?_);refine gg ?_;refine wP (some 7) [0,1,2,3,4,5,6,7] [pT 0,pT 1,pT 2,pT 3,pF 4,pF 5,pT 6,pF 7] ?_;refine gg ?_;refine tD (IX hs.ok 35 36 37 38) ?_;refine dG (xC (dn (val s 35) (val s 36) (val s 37) (val s 38))) fun _ _=>?_;refine dG (xC (ep (cF (ae es) L k (iw+(val s 34+val s 32)) (ih+(val s 31+val s 33)) (val s 34) (val s 31)).x (cF (ae es) L k (iw+(val s 34+val s 32)) (ih+(val s 31+val s 33)) (val s 34) (val s 31)).y (val s 38) (val s 35) (by omega) (by omega))) fun _ _=>?_;refine gg ?_;refine aB.aX rfl (cy (us:=[.int .i64 _,.int .i64 _]) (σ':=[_,_,_,.cl _ _ [_,_,_,_,_,_],_,_,_,_]) Tryz.sizeOf109 rfl rfl (i:=3) rfl (Nat.le_of_ble_eq_true rfl) rfl (by simp[Value.oneCell'])) (fun h=>absurd rfl h) (fun _=>?_);refine gg ?_;refine aj.aX (xW rfl) fun _=>?_;refine gg ?_;exact jf rfl fun w hw=>⟨(m1,H1,fA1,fc1),by rw[hr];try rfl,⟨hsub1,hmok1,by rw[hr];exact hrep1⟩,hw.pk⟩
end
theorem Gm (room size bk bn ek en base:Int):-1099511627776≤(ja room size bk bn ek en base).1∧(ja room size bk bn ek en base).1≤1099511627776:=by
  have h1:=js bk bn base 0;have h2:-1099511627776≤eP room size (cC bk bn base 0) (cC ek en base 0)∧eP room size (cC bk bn base 0) (cC ek en base 0)≤1099511627776:=na _ _;simp only[ja]
  split
  · exact h1
  · split
    · exact⟨by simp only;omega,by simp only;omega⟩
    · split
      · exact h2
      · split<;>exact h1
section
variable {F:ar (List Value)} {d:Int→Nat}
theorem F4 (hF:WF F d) {x k:Int} (h:k∈aH F x):upF F k=x:=by
  cases e:F x with
  | none=>simp[aH,e] at h
  | some b =>
    rw[cj e] at h;obtain⟨_,c,hc,hu⟩:=hF.kid x b e k h;rw[ch hc,hu]
theorem td (hF:WF F d) {x k:Int} {a:Bool} (h:k∈aZ F x a):val (ah F x) 0≠3:=by
  have hk:=dz h;obtain⟨h1,h2,_,h4⟩:=dA hF hk;have h5:=(List.mem_filter.1 h).2;simp only[Bool.and_eq_true] at h5;have h6:=h5.1;unfold cM at h6;rw[h1,Bool.true_and,shownN,if_pos h1,F4 hF hk] at h6;simp only[Bool.and_eq_true] at h6;have h7:=h6.2;rw[shownN,if_pos h4] at h7;simp only[Bool.and_eq_true] at h7;exact of_decide_eq_true h7.1
theorem tf {x:Int} (hg:GS (ah F x)) (h:val (ah F x) 0≠3):val (ah F x) 0=0∨val (ah F x) 0=1∨val (ah F x) 0=2:=by have:=hg.disp;omega
section
variable {L:er} {ks:List Int} {iw ih:Int}
theorem En (id:Int):(∀f∈(fY F L ks iw ih id).1,FB 4398046511104 f)∧-4398046511104≤(fY F L ks iw ih id).2∧(fY F L ks iw ih id).2≤4398046511104:=by
  have hfr:-1099511627776≤jb F ks id∧jb F ks id≤1099511627776:=by
    unfold jb
    split
    · omega
    · cases ks with
      | nil=>simp[bP,dU,gI]
      | cons k l=>rw[bP,mL (by simp)];exact ma _
  refine⟨fun f hf=>?_,?_⟩
  · obtain ⟨i, _, rfl⟩ := mX.1 hf
    have h1:=Gm iw (bF L ks iw ih i).w (val (kS F ks i) 21) (val (kS F ks i) 22) (val (kS F ks i) 17) (val (kS F ks i) 18) iw;have h2:=rf (fZ L ks iw ih) (bP F ks false) (bP F ks true) i;unfold FB;simp only[bX];omega
  · have h1 := tI (fZ L ks iw ih) (bP F ks false) (bP F ks true) ks.length
    have h2:-1099511627776≤(if cf F id true then 0 else gI (bP F ks true) (ks.length - 1))∧(if cf F id true then 0 else gI (bP F ks true) (ks.length - 1))≤1099511627776:=by
      split
      · omega
      · cases ks with
        | nil=>simp[bP,dU,gI]
        | cons k l=>rw[bP,mL (by simp)];exact ma _
    simp only[fY];omega
theorem Bu (id:Int):(∀f∈(ee F L ks iw ih id).1,FB 4398046511104 f)∧-4398046511104≤(ee F L ks iw ih id).2∧(ee F L ks iw ih id).2≤4398046511104:=by
  refine⟨fun f hf=>?_,?_⟩
  · obtain ⟨i, _, rfl⟩ := mX.1 hf
    have h1:=lr (val (ah F id) 44) ((pC F L ks iw ih (ah F id) i).w+mA (kS F ks i) iw) iw;have h2:=jd (kS F ks i) iw 3;have h3:=jd (kS F ks i) iw 0;have h4:-1099511627776≤lF F L ks iw ih (ah F id) i∧lF F L ks iw ih (ah F id) i≤1099511627776:=lK _ _;unfold FB;simp only[Hp];omega
  · have h1 := HO (ij F L ks iw ih (ah F id)) (val (ah F id) 46) (ij F L ks iw ih (ah F id)).length
    simp only[ee,fV];omega
end
theorem SA (hF:WF F d) (hg:∀x,GS (ah F x)) (hK:∀x,(aH F x).length≤64) {L:er} {id iw ih:Int} (hL:∀k∈aH F id,LB L k) {B:Int} (hih:ih≤B) (hB:B≤2251799813685248) (hi:-1≤ih):(∀f∈(kj F L id iw ih).1,FB 288230376151711744 f)∧-288230376151711744≤(kj F L id iw ih).2∧(kj F L id iw ih).2≤288230376151711744:=by
  unfold kj
  split
  · have h := (hg id).siz 54 (by decide)
    exact⟨fun f hf=>by simp at hf,by simp only;omega,by simp only;omega⟩
  · split
    · have hgap := (hg id).siz 46 (by decide)
      have hll:(rz F (aZ F id false) iw).length=(aZ F id false).length:=bH;have hlsn:(bo F (aZ F id false) iw (ah F id)).length≤(aZ F id false).length:=Nat.le_trans ox (Nat.le_of_eq hll);have hkn:=Nat.le_trans (ku F id false) (hK id);have h:=xb hg (L:=L) (ks:=aZ F id false) (fun k hk=>hL k (dz hk)) (ls:=bo F (aZ F id false) iw (ah F id)) (iw:=iw) (c:=ah F id) (fun p hp=>by have h:=(kq hp).2.1;rw[hll] at h;exact h) hih hB hi hgap _ (Nat.le_refl _);refine⟨fun f hf=>?_,?_⟩
      · have := h.2 f hf
        unfold FB at this ⊢;omega
      · have := h.1
        unfold xv;omega
    · split
      · have h := Bu (F := F) (L := L) (ks := aZ F id false) (iw := iw) (ih := ih) id
        refine⟨fun f hf=>?_,by omega⟩;have:=h.1 f hf;unfold FB at this ⊢;omega
      · have h := En (F := F) (L := L) (ks := aZ F id false) (iw := iw) (ih := ih) id
        refine⟨fun f hf=>?_,by omega⟩;have:=h.1 f hf;unfold FB at this ⊢;omega
theorem Kp (hK:∀x,(aH F x).length≤64) {L:er} {id iw ih:Int}:(kj F L id iw ih).1.length≤4096:=by
  have hkn:=Nat.le_trans (ku F id false) (hK id);unfold kj
  split
  · simp
  · split
    · have hll : (rz F (aZ F id false) iw).length = (aZ F id false).length := bH
      have hlsn:(bo F (aZ F id false) iw (ah F id)).length≤(aZ F id false).length:=Nat.le_trans ox (Nat.le_of_eq hll);have h:=sZ (F:=F) (L:=L) (ks:=aZ F id false) (iw:=iw) (ih:=ih) (c:=ah F id) (ls:=bo F (aZ F id false) iw (ah F id)) (fun p hp=>(kq hp).2.2) _ (Nat.le_refl _);unfold xv;omega
    · split
      · simp only[ee,bH];omega
      · simp only[fY,bH];omega
def sJ (L L':er) (k:Int):Prop:=∀rw rh sw sh,L k rw rh sw sh=L' k rw rh sw sh
section
variable {L L':er} {ks:List Int} (h:∀k∈ks,sJ L L' k) {iw ih:Int}
include h
theorem zU {i:Nat} (hi:i<ks.length) (rw rh sw sh:Int):L (gI ks i) rw rh sw sh=L' (gI ks i) rw rh sw sh:=h _ (eo hi) _ _ _ _
theorem yx (id:Int):fY F L ks iw ih id=fY F L' ks iw ih id:=by
  have hb:∀i,i<ks.length→bF L ks iw ih i=bF L' ks iw ih i:=fun i hi=>zU h hi _ _ _ _;have hs:fZ L ks iw ih=fZ L' ks iw ih:=cI fun i hi=>by rw[hb i hi]
  unfold fY;rw[hs];refine congrArg (·,_) (cI fun i hi=>?_);simp only[bX];rw[hb i hi]
omit h in
theorem tu {f g:Nat→Int}:∀n,(∀i,i<n→f i=g i)→s8 f n=s8 g n
  | 0,_=>rfl
  | n+1,hh=>by rw[s8,s8,tu n fun i hi=>hh i (by omega),hh n (by omega)]
section
variable {c:List Value} {a b:Nat} (hb:b≤ks.length)
include hb
theorem s6 {i:Nat} (hi:i<b - a):lB F L ks iw ih c a b i=lB F L' ks iw ih c a b i:=zU h (by omega) _ _ _ _
theorem BG:Dr F L ks iw ih c a b=Dr F L' ks iw ih c a b:=tu _ fun i hi=>by rw[s6 h hb hi]
theorem Dn (one:Bool):lH F L ks iw ih c a b one=lH F L' ks iw ih c a b one:=by unfold lH;rw[BG h hb]
theorem Bg (one:Bool):kG F L ks iw ih c a b one=kG F L' ks iw ih c a b one:=by
  have hal:ly F L ks iw ih c a b=ly F L' ks iw ih c a b:=cI fun i hi=>by rw[s6 h hb hi]
  unfold kG;rw[Dn h hb];refine cI fun i hi=>?_;have h2:∀hh,lT F L ks iw ih c a b hh i=lT F L' ks iw ih c a b hh i:=fun hh=>by
    unfold lT;rw[s6 h hb hi]
    split
    · exact zU h (by omega) _ _ _ _
    · rfl
  simp only[E2,jz];rw[hal,h2]
end
theorem uR {c:List Value} {ls:List (Nat×Nat)} (hls:∀p∈ls,p.2≤ks.length):∀n,du F L ks iw ih c ls n=du F L' ks iw ih c ls n
  | 0=>rfl
  | n + 1 => by
    have hp:(ls.getD n (0,0)).2≤ks.length:=by
      rw[List.getD_eq_getElem?_getD];cases e:ls[n]? with
      | none=>simp
      | some p=>exact hls p (List.mem_of_getElem? e)
    simp only[du];rw[uR hls n,Bg h hp,Dn h hp]
theorem E1 (id:Int):xv F L ks iw ih id=xv F L' ks iw ih id:=
  uR h (fun p hp=>by have hx:=(kq hp).2.1;rw[show (rz F ks iw).length=ks.length from bH] at hx;exact hx) _
theorem xL (id:Int):ee F L ks iw ih id=ee F L' ks iw ih id:=by
  have h1:∀i,i<ks.length→jE F L ks iw ih (ah F id) i=jE F L' ks iw ih (ah F id) i:=fun i hi=>by
    unfold jE cF1;rw[zU h hi]
  have hs:ev F L ks iw ih (ah F id)=ev F L' ks iw ih (ah F id):=by
    unfold ev;rw[cI h1,cI (f:=fun i=>oY (jE F L ks iw ih (ah F id) i)) (g:=fun i=>oY (jE F L' ks iw ih (ah F id) i)) fun i hi=>by rw[h1 i hi]]
  have h2:∀i,i<ks.length→pC F L ks iw ih (ah F id) i=pC F L' ks iw ih (ah F id) i:=fun i hi=>by
    unfold pC;rw[hs,zU h hi]
  have hal:ij F L ks iw ih (ah F id)=ij F L' ks iw ih (ah F id):=cI fun i hi=>by rw[h2 i hi]
  unfold ee;rw[hal];refine congrArg (·,_) (cI fun i hi=>?_);simp only[Hp,lF,rq];rw[hal,h2 i hi]
end
section
variable {L L':er}
theorem Gn {id iw ih:Int} (h:∀k∈aH F id,sJ L L' k):kj F L id iw ih=kj F L' id iw ih:=by
  have h1:∀k∈aZ F id false,sJ L L' k:=fun k hk=>h k (dz hk);unfold kj;rw[E1 h1,xL h1,yx h1]
theorem zr {ww wh iw ih k:Int} {s:List Value} (h:sJ L L' k):iR F ww wh L s iw ih k=iR F ww wh L' s iw ih k:=by
  have hw:∀rw rh px py,cF F L k rw rh px py=cF F L' k rw rh px py:=fun rw rh px py=>by
    unfold cF wF;rw[h]
  unfold iR;rw[hw,hw]
theorem wM {ww wh:Int} {id:Int} (h:∀k∈aH F id,sJ L L' k):sJ (e8 F ww wh L) (e8 F ww wh L') id:=fun rw rh sw sh=>by
  unfold e8;rw[Gn h]
  congr 2
  exact List.map_congr_left fun k hk=>zr (h k (dz hk))
end
theorem vU (hF:WF F d) (ww wh:Int):∀(n m:Nat) (k:Int),aK F k=true→63<n+d k→63<m+d k→sJ (tv F ww wh n) (tv F ww wh m) k
  | 0, m, k, hk, h1, h2 => by
    obtain⟨b,hb⟩:=aL hk;have:=hF.deep k b hb;omega
  | n + 1, 0, k, hk, h1, h2 => by
    obtain⟨b,hb⟩:=aL hk;have:=hF.deep k b hb;omega
  | n + 1, m + 1, k, hk, h1, h2 => wM fun j hj => by
    obtain⟨h3,h4,_,_⟩:=dA hF hj;exact vU hF ww wh n m j h3 (by omega) (by omega)
theorem Bz (hF:WF F d) {ww wh:Int} {k:Int} (hk:aK F k=true) (rw rh sw sh:Int):Fj F ww wh k rw rh sw sh=e8 F ww wh (Fj F ww wh) k rw rh sw sh:=
  vU hF ww wh 64 65 k hk (by omega) (by omega) rw rh sw sh
end
theorem GR (F:ar (List Value)) (ks:List Int) (id:Int) (h:0<ks.length):-1099511627776≤jb F ks id∧jb F ks id≤1099511627776:=by
  unfold jb
  split
  · omega
  · rw[bP,mL h];exact ma _
theorem Ed (tp mb fb lb:Nat) (es:List PE) (hk:eG es) {d:Int→Nat} (hF:WF (ae es) d) (hg:∀x,GS (ah (ae es) x)) (ww wh:Int) (V L:er) (id:Int) (ks:List Int) (iw ih B:Int) (hn:1≤ks.length∧ks.length≤64)
    (hks:∀k∈ks,aK (ae es) k=true∧LB L k∧mc tp mb fb lb es ww wh V L k B) (hiw:0≤iw∧iw≤B) (hih:-1≤ih∧ih≤B) (hB:1099511627776≤B∧B≤1152921504606846976):
    I6 tp mb fb lb es ww wh V 176 id ks iw ih (fY (ae es) L ks iw ih id):=by
  intro m0 H0 kA kc hm0;refine Ci fun w0 _=>?_;refine gg ?_;refine aj.ef xB fun b7=>?_;refine gg ?_;refine WP.bm (X:=Nat×List (KI×Value)×cq×List FP×Option Addr×Nat×Option Addr×Nat×Option Addr×Nat×Option Addr×Nat) [0,1,7,22,23] (fun p=>[(10,.slice p.2.2.2.2.1 p.2.2.2.1.length p.2.2.2.2.2.1),(11,.slice p.2.2.2.2.2.2.1 p.1 p.2.2.2.2.2.2.2.1),(12,.slice p.2.2.2.2.2.2.2.2.1 p.1 p.2.2.2.2.2.2.2.2.2.1),(13,.slice p.2.2.2.2.2.2.2.2.2.2.1 p.1 p.2.2.2.2.2.2.2.2.2.2.2),(24,.int .i64 (p.1:Int))]) (fun p w=>(p.1≤ks.length∧H0.Sub p.2.2.1∧l7 V p.2.2.1 p.2.1∧p.2.2.2.1.map FP.fr=dU p.1 (fun i=>{bF L ks iw ih i with x:=bX (ae es) L ks iw ih i})∧∀e∈p.2.2.2.1,iK p.2.2.1 e)∧St w0 (ay [al tp mb es,dV fb tp lb ww wh,aU lb m0,aN H0,az kA ks.length kc ks]) [al tp mb es,dV fb tp lb ww wh,aU lb p.2.1,aN p.2.2.1,az kA ks.length kc ks,.cl b7 109 [.int .i64 iw,.int .i64 ih],ga p.2.2.2.2.1 p.2.2.2.2.2.1 p.2.2.2.1,az p.2.2.2.2.2.2.1 p.1 p.2.2.2.2.2.2.2.1 (dU p.1 (fun i=>(bF L ks iw ih i).h)),az p.2.2.2.2.2.2.2.2.1 p.1 p.2.2.2.2.2.2.2.2.2.1 (dU p.1 (fun i=>Am (ae es) (gI ks i) false)),az p.2.2.2.2.2.2.2.2.2.2.1 p.1 p.2.2.2.2.2.2.2.2.2.2.2 (dU p.1 (fun i=>Am (ae es) (gI ks i) true))] w) (fun p=>ks.length - p.1) (0,m0,H0,[],none,0,none,0,none,0,none,0) ⟨rfl,rfl,rfl,rfl,rfl,trivial⟩ (fun w hw=>⟨⟨Nat.zero_le _,cq.Sub.refl _,hm0,rfl,fun e h=>by simp at h⟩,(((hw.bB 115 6).bB 3 1).bB 3 1).bB 3 1⟩) (fun p ρ0=>?_);obtain⟨k,m,H,fs,eA,ec,a1,c1,a2,c2,a3,c3⟩:=p;dsimp only;refine WP.fact (fun⟨hkn,hsub,hmok,hmap,hall⟩=>?_);have hfl:=lh hmap;refine gg ?_;refine WP.aw rfl (fun h25=>?_) (fun h25=>?_)
  ·have hkn2:k<ks.length:=by omega
   have hkid:=j9 hkn2;obtain⟨hkh,hkb,hkl⟩:=hks (gI ks k) (eo hkn2);obtain⟨hb1,hb2,hb3,hb4,hb5,hb6⟩:=hkb iw ih (-1) (-1);have hk0:0≤gI ks k:=by obtain⟨q,hq⟩:=aL hkh;exact(hF.range _ q hq).1
   refine WP.holds (fun w hw=>hw.aM (i:=4) rfl (by omega)) (fun⟨pb_kr,hA_kr⟩=>?_);subst hA_kr;refine gg ?_;refine vl (vR 4 (by rw[List.getElem?_map,hkid];rfl)) ?_;refine iX ?_;refine vl (cB (us:=[.int .i64 _,.int .i64 _]) Tryz.underlying109 Tryz.zeroValue109 Tryz.sizeOf3 rfl rfl rfl) ?_;refine eF (xC ((hks (gI ks k) (eo hkn2)).2.2 m H iw ih (-1) (-1) hmok ⟨⟨by omega,by omega⟩,⟨by omega,by omega⟩,⟨by omega,by omega⟩,by omega,by omega⟩)) fun⟨m1,H1,fA1,fc1⟩ ⟨hsub1,hmok1,hrep1⟩=>?_;dsimp only at hsub1 hmok1 hrep1;refine aj.ef cg fun b16=>?_;refine aj.aX (xW rfl) fun _=>?_;refine gg ?_;refine eF (xC (a6 tp mb es hk (gI ks k))) fun _ _=>?_;refine aj.ef cg fun b17=>?_;refine aj.aX (xZ (hk.aE (gI ks k)) rfl) fun _=>?_;refine gg ?_;refine vl (gC (hk.aE (gI ks k)) 21 22) ?_;refine gg ?_;refine vl (gC (hk.aE (gI ks k)) 17 18) ?_;refine gg ?_;refine eF (xC (JE iw (L (gI ks k) iw ih (-1) (-1)).w (val (kS (ae es) ks k) 21) (val (kS (ae es) ks k) 22) (val (kS (ae es) ks k) 17) (val (kS (ae es) ks k) 18) iw)) fun _ _=>?_;refine mv rfl ?_;refine gg ?_;refine aj.aX (xS rfl (jJ rfl)) fun _=>?_;refine gg ?_;refine aj.ef (xN (LF rfl)) fun g60=>?_;refine aj.ef (xP 2 12) fun⟨A61,c61⟩=>?_;refine gg ?_;refine aj.ef (xN (L1 rfl)) fun g66=>?_;refine aj.ef (xP 3 13) fun⟨A67,c67⟩=>?_;refine gg ?_;refine eF (xC (FC fb lb ww wh tp mb es hk hF hg (gI ks k) hkh hk0)) fun _ _=>?_;refine aj.ef (xN (L1 rfl)) fun g72=>?_;refine aj.ef (xP 4 14) fun⟨A73,c73⟩=>?_;refine gg ?_;refine eF (xC (GM fb lb ww wh tp mb es hk hF hg (gI ks k) hkh hk0)) fun _ _=>?_;refine aj.ef (xN (L1 rfl)) fun g78=>?_;refine aj.ef (xP 5 15) fun⟨A79,c79⟩=>?_;refine cR ?_;exact nl fun w hw=>⟨rfl,(k+1,m1,H1,fs++[⟨{(L (gI ks k) iw ih (-1) (-1)) with x:=bX (ae es) L ks iw ih k},fA1,fc1⟩],A61,c61,A67,c67,A73,c73,A79,c79),(by simp only;omega),⟨(via (.slice A61 (fs.length+1) c61) rfl (by simp only;rw[List.length_append];rfl)),rfl,rfl,rfl,rfl,jP,jI,rfl,jS,jI,trivial⟩,⟨⟨by simp only;omega,hsub.trans hsub1,hmok1,sW hmap rfl,by exact o4 (p:=iK H1) (fun x hx=>(hall x hx).mono hsub1) hrep1⟩,by simp only;rw[kB,hU,hU,hU];exact(hw.sel [13,14,6,7,0,1,2,3,4,5] (by decide))⟩⟩
  ·obtain rfl:k=ks.length:=by omega
   have hfb:=GR (ae es) ks id (by omega);refine WP.exit (an ?_);refine gg ?_;refine eF (xC (J5 ks.length a1 a2 a3 c1 c2 c3 (fZ L ks iw ih) (bP (ae es) ks false) (bP (ae es) ks true) (by omega) bH bH bH) (hF:=fun w hw=>⟨hw.eO (i:=7) (f:=Value.int .i64) rfl,hw.eO (i:=8) (f:=Value.int .i64) rfl,hw.eO (i:=9) (f:=Value.int .i64) rfl⟩)) fun⟨sA,sc⟩ _=>?_;refine mv rfl ?_;refine uw ?_;refine WP.uo [0,1,10,13,18,19] [(20,.int .i64 (jb (ae es) ks id))] ?_ (fun ρ0=>?_)
   ·refine gg ?_;refine eF (xC (wz fb lb ww wh tp mb es hk hF hg id)) fun _ _=>?_;refine gg ?_;refine WP.cond rfl (fun h91=>?_) (fun h91=>?_)
    ·have hfr:jb (ae es) ks id=gI (bP (ae es) ks false) 0:=by unfold jb;rw[if_neg (by simpa using h91)]
     have h0:(dU ks.length (fun i=>Am (ae es) (gI ks i) false))[0]?=some (gI (bP (ae es) ks false) 0):=j9 (by rw[bH];omega);refine WP.holds (fun w hw=>hw.aM (i:=6) rfl (by omega)) (fun⟨pb_r2,hA_r2⟩=>?_);subst hA_r2;refine gg ?_;refine vl (vR 6 (by rw[List.getElem?_map,h0];rfl)) ?_;refine av ?_;exact nl fun w hw=>⟨rfl,⟨(congrArg (Value.int .i64) hfr.symm),jP,jI,jS,jS,jS,jI,trivial⟩,hw.pk⟩
    ·have hfr:jb (ae es) ks id=0:=by unfold jb;rw[if_pos (by simpa using h91)]
     exact WP.skip fun w hw=>⟨rfl,⟨(congrArg (Value.int .i64) hfr.symm),jP,jI,jS,jS,jS,jI,trivial⟩,hw.pk⟩
   ·refine gg ?_;refine WP.bm (X:=Nat×List FP) [0,1,10,13,18,19,20,96] (fun p=>[(97,.int .i64 (p.1:Int))]) (fun p w=>(p.1≤ks.length∧p.2.map FP.fr=dU ks.length (fun i=>if i<p.1 then (fun i=>{bF L ks iw ih i with x:=bX (ae es) L ks iw ih i,y:=jb (ae es) ks id+cx (fZ L ks iw ih) (bP (ae es) ks false) (bP (ae es) ks true) i}) i else (fun i=>{bF L ks iw ih i with x:=bX (ae es) L ks iw ih i}) i)∧∀e∈p.2,iK H e)∧St w0 (ay [al tp mb es,dV fb tp lb ww wh,aU lb m0,aN H0,az kA ks.length kc ks]) [al tp mb es,dV fb tp lb ww wh,aU lb m,aN H,az kA ks.length kc ks,ga eA ec p.2,az a2 ks.length c2 (bP (ae es) ks false),az a3 ks.length c3 (bP (ae es) ks true),az sA ks.length sc (dM (fZ L ks iw ih) (bP (ae es) ks false) (bP (ae es) ks true))] w) (fun p=>ks.length - p.1) (0,fs) ⟨rfl,trivial⟩ (fun w hw=>⟨⟨Nat.zero_le _,by simpa using hmap,hall⟩,(hw.sel [0,1,2,3,4,6,8,9,10] (by decide))⟩) (fun p ρ0=>?_);obtain⟨j,gs⟩:=p;dsimp only;refine WP.fact (fun⟨hjn,hmap2,hall2⟩=>?_);have hgl:=lh hmap2;refine gg ?_;refine WP.aw rfl (fun h98=>?_) (fun h98=>?_)
    ·have hjl:j<ks.length:=by omega
     obtain⟨e,hej,hef⟩:=rZ hmap2 hjl;rw[if_neg (by omega)] at hef;have hsb:=rf (fZ L ks iw ih) (bP (ae es) ks false) (bP (ae es) ks true) j;have hsg:=CI (sizes:=fZ L ks iw ih) (tops:=bP (ae es) ks false) (bottoms:=bP (ae es) ks true) (k:=j) (by unfold fZ;rw[bH];exact hjl);refine WP.holds (fun w hw=>hw.aM (i:=5) rfl (by omega)) (fun⟨pb_out,hA_out⟩=>?_);subst hA_out;refine WP.holds (fun w hw=>hw.aM (i:=8) rfl (by omega)) (fun⟨pb_st,hA_st⟩=>?_);subst hA_st;refine gg ?_;refine WP.fj (some 11) [(0,true),(1,true),(2,true),(3,true),(4,true),(5,true),(6,true),(7,true),(8,false),(9,false),(10,true),(11,false)] mixed (by kernel_rfl) (by decide) (fun _ h=>h.drawn) ?_;refine gg ?_;refine tD (vR 8 (by rw[List.getElem?_map,hsg];rfl)) ?_;refine ad ?_;refine aB.val rfl (bG (j:=j) Tryz.underlying113 Tryz.sizeOf115 rfl rfl rfl (by omega)) (fun _ h=>h) ?_;refine aB.val rfl (e7 (off:=1) Tryz.underlying115 rfl Tryz.sizeOf109 rfl) (fun _ h=>h) ?_;refine gg ?_;refine aB.aX rfl (bU (u:=.int .i64 _) (xs':=(gs.set j ⟨{e.fr with y:=jb (ae es) ks id+cx (fZ L ks iw ih) (bP (ae es) ks false) (bP (ae es) ks true) j},e.A,e.c⟩).flatMap FP.enc) (σ':=[_,_,_,_,_,_,_,_,_]) Tryz.sizeOf3 rfl rfl (i:=5) rfl (by rw[gE];omega) (DI hej (o:=2) (by omega) (by decide) rfl) rfl) (fun h=>absurd rfl h) (fun _=>?_);refine bS ?_;exact nl fun w hw=>⟨rfl,(j+1,gs.set j ⟨{e.fr with y:=jb (ae es) ks id+cx (fZ L ks iw ih) (bP (ae es) ks false) (bP (ae es) ks true) j},e.A,e.c⟩),(by simp only;omega),⟨rfl,jP,jI,jS,jS,jS,jI,jI,jI,trivial⟩,⟨⟨by simp only;omega,pd hmap2 (by simp only;rw[hef]),o5 hall2 (by have:=hall2 e (List.mem_of_getElem? hej);exact this)⟩,by simp only[ga,List.length_set];exact hw.pk⟩⟩
    ·obtain rfl:j=ks.length:=by omega
     have hfin:gs.map FP.fr=(fY (ae es) L ks iw ih id).1:=by rw[hmap2];unfold fY;exact cI fun i hi=>by rw[if_pos hi]
     have hsab:=tI (fZ L ks iw ih) (bP (ae es) ks false) (bP (ae es) ks true) ks.length;refine WP.exit (an ?_);refine WP.uo [10,20] [(19,.int .i64 (stkAt (fZ L ks iw ih) (bP (ae es) ks false) (bP (ae es) ks true) ks.length+(if cf (ae es) id true then 0 else gI (bP (ae es) ks true) (ks.length - 1))))] ?_ (fun ρ0=>?_)
     ·refine gg ?_;refine eF (xC (u5 fb lb ww wh tp mb es hk hF hg id)) fun _ _=>?_;refine gg ?_;refine WP.cond rfl (fun h115=>?_) (fun h115=>?_)
      ·have hbo:cf (ae es) id true=false:=by simpa using h115
       have h9:(bP (ae es) ks true)[ks.length - 1]?=some (gI (bP (ae es) ks true) (ks.length - 1)):=j9 (by rw[bP,bH];omega);have hbb:-1099511627776≤gI (bP (ae es) ks true) (ks.length - 1)∧gI (bP (ae es) ks true) (ks.length - 1)≤1099511627776:=by rw[bP,mL (by omega)];exact ma _
       refine WP.holds (fun w hw=>hw.aM (i:=5) rfl (by omega)) (fun⟨pb_r3,hA_r3⟩=>?_);subst hA_r3;refine iX ?_;refine vl (vX ((ks.length - 1))) ?_;refine vl (vR 5 (by rw[List.getElem?_map,h9];rfl)) ?_;refine bW ?_;exact nl fun w hw=>⟨rfl,⟨(congrArg (Value.int .i64) (by rw[hbo];simp)),jS,jI,trivial⟩,hw.pk⟩
      ·have hbo:cf (ae es) id true=true:=by simpa using h115
       exact WP.skip fun w hw=>⟨rfl,⟨(congrArg (Value.int .i64) (by rw[hbo];simp)),jS,jI,trivial⟩,hw.pk⟩
     ·have hsb9:-1099511627776≤(if cf (ae es) id true then 0 else gI (bP (ae es) ks true) (ks.length - 1))∧(if cf (ae es) id true then 0 else gI (bP (ae es) ks true) (ks.length - 1))≤1099511627776:=by
        split
        · omega
        · rw[bP,mL (by omega)];exact ma _
      refine gg ?_;exact rF fun w hw=>⟨(m,H,eA,ec,gs),congrArg (fun q=>Value.tuple #[.slice eA q ec,.int .i64 (fY (ae es) L ks iw ih id).2]) (hfl.trans hgl.symm),⟨hsub,hmok,hfin,hall2⟩,hw.pk⟩
end Go.Proofs.YtbedndijejpcaaaGreat
