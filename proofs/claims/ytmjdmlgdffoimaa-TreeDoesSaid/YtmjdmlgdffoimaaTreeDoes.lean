/- TreeDoes. -/
import Derived.Test.YtmjdmlgdffoimaaTreeBoth
import Derived.Test.YtmjdmlgdffoimaaTreeKids
namespace Go.Proofs.Ytmjdmlgdffoimaa
open Go.RowKit

theorem St.refKidsF {w0 w : World} {M : Nat → Prop} {σ : List HI} {i rp g bc : Nat} {bs : List RB} (h : St w0 M σ w) (hi : σ[i]? = some (refI rp g bc bs)) (x : Int) : RdI w (kAR bs x) (kidsF (absR bs) x) := by
  cases e : hasF (absR bs) x with
  | true =>
    obtain ⟨j, b, rfl, hb, hl⟩ := absR_has e
    rw [kids_some (absR_at hb hl), (kR_at hb hl).1]
    exact (h.refKids hi hb).1
  | false =>
    have hn : kidsF (absR bs) x = [] := by rw [kidsF, none_has e]
    rw [hn]
    intro k y hy
    simp at hy
set_option maxRecDepth 100000 in
set_option maxHeartbeats 2000000 in
theorem lawDoes_ct (A : Option Addr) (c : Nat) (l : List AC) (id : Int) : Ct Try.prog 3 #[.slice A l.length c, .int .i64 id] [] (fun w => RdE w A 59 encA l) (X := Unit) (fun _ => .bool true) (fun _ => True) (fun _ => []) := by
  refine Ct.intro Try.func3 rfl Try.ntmps3 (by simp) (fun w0 hz => ?_)
  refine WP.seq ?_
  refine WP.region ?_
  refine WPL.val (v_assign (v := .bool false) rfl) ?_
  refine WPL.nil (onto_of ?_)
  refine WP.seq ?_
  refine WP.region ?_
  refine WPL.ef (x_call Try.call10 works_ct [] [] rfl (fun w hw => trivial) (τ := fun _ => []) (fun _ => rfl)) (fun _ => ?_)
  refine WPL.fact (fun _ => ?_)
  refine WPL.val (v_assign (v := .bool _) rfl) ?_
  refine WPL.nil (onto_of ?_)
  refine WP.seq ?_
  refine WP.seq ?_
  refine WP.region ?_
  refine WPL.val (v_move (v := .bool _) rfl) ?_
  refine WPL.val (v_not rfl) ?_
  refine WPL.nil (onto_of ?_)
  refine WP.condF rfl ?_
  refine WP.skip (onto_of ?_)
  refine WP.seq ?_
  refine WP.seq ?_
  refine WP.region ?_
  refine WPL.val (v_move (v := .slice _ _ _) rfl) ?_
  refine WPL.val (v_len Try.underlying22 rfl) ?_
  refine WPL.val (v_gtr rfl rfl) ?_
  refine WPL.nil (onto_of ?_)
  refine WP.condP rfl (fun h15 => ?_) (fun h15 => ?_)
  ·
    refine WP.seq ?_
    refine WP.region ?_
    refine WPL.val (v_move (v := .bool _) rfl) ?_
    refine WPL.val (v_assign (v := .bool _) rfl) ?_
    refine WPL.nil (onto_of ?_)
    exact WP.ret1 Try.results3 (fun _ h => h) (fun w hw => ⟨(), rfl, trivial, hw.sel [] (by decide)⟩)
  ·
    refine WP.skip (onto_of ?_)
    refine WP.seq ?_
    refine WP.region ?_
    refine WPL.ef (x_call Try.call11 new_ct [] [] rfl (fun w hw => trivial) (τ := fun _ => [_]) (fun _ => rfl)) (fun ⟨tp, mb, nb⟩ => ?_)
    refine WPL.fact (fun _ => ?_)
    refine WPL.val (v_assign (v := .pointer _) rfl) ?_
    refine WPL.nil (onto_of ?_)
    refine WP.seq ?_
    refine WP.region ?_
    refine WPL.ef (x_call Try.call12 rnew_ct [] [0] rfl (fun w hw => trivial) (τ := fun _ => [_, _]) (fun _ => rfl)) (fun ⟨rp, g0⟩ => ?_)
    refine WPL.fact (fun _ => ?_)
    refine WPL.val (v_assign (v := .pointer _) rfl) ?_
    refine WPL.nil (onto_of ?_)
    refine WP.seq ?_
    refine WP.seq ?_
    refine WP.region ?_
    refine WPL.val (v_assign (v := .int .i64 (0)) rfl) ?_
    refine WPL.nil (onto_of ?_)
    refine WP.block ?_
    refine WP.loopK (X := Nat × List PE × Nat × Nat × List RB) [0, 1, 5, 6, 7] (fun p => [(8, .int .i64 (p.1 : Int))]) (fun p w => (p.1 ≤ l.length ∧ FoR p.2.1 = AF (l.take p.1) ∧ LOk p.2.1 ∧ absR p.2.2.2.2 = FoR p.2.1 ∧ ROk p.2.2.2.2) ∧ St w0 (foots []) [treeI tp mb p.2.1, refI rp p.2.2.1 p.2.2.2.1 p.2.2.2.2] w) (fun p => l.length - p.1) (0, [newE 0 nb (-1)], g0, 1, [liveRB (-1)]) ⟨rfl, trivial⟩ (fun w hw => ⟨⟨Nat.zero_le _, (newE_ok nb).1, (newE_ok nb).2, rnew_ok.1.trans (newE_ok nb).1.symm, rnew_ok.2⟩, (hw.sel [0, 1] (by decide))⟩) (fun p ρ0 => ?_)
    obtain ⟨k, es, g, bc, bs⟩ := p
    dsimp only
    refine WP.fact (fun ⟨hkl, hFo, hk, hab, hkr⟩ => ?_)
    refine WP.seq ?_
    refine WP.seq ?_
    refine WP.region ?_
    refine WPL.val (v_move (v := .int .i64 _) rfl) ?_
    refine WPL.val (v_move (v := .slice _ _ _) rfl) ?_
    refine WPL.val (v_len Try.underlying22 rfl) ?_
    refine WPL.val (v_lss rfl rfl) ?_
    refine WPL.nil (onto_of ?_)
    refine WP.condP rfl (fun h22 => ?_) (fun h22 => ?_)
    ·
      obtain ⟨x, hx⟩ : ∃ x, l[k]? = some x := ⟨_, List.getElem?_eq_getElem (by omega)⟩
      obtain ⟨ab, ao, rfl, hc⟩ := hz k x hx
      obtain ⟨d, hF⟩ := AF_wf (l.take k)
      rw [← hFo] at hF
      refine WP.skip (onto_of ?_)
      refine WP.seq ?_
      refine WP.block ?_
      refine WP.seq ?_
      refine WP.region ?_
      refine WPL.val (v_move (v := .pointer _) rfl) ?_
      refine WPL.val (v_move (v := .pointer _) rfl) ?_
      refine WPL.val (v_move (v := .slice _ _ _) rfl) ?_
      refine WPL.val (v_move (v := .int .i64 _) rfl) ?_
      refine WPL.val (v_index Try.underlying22 Try.sizeOf45 rfl rfl rfl (by omega)) ?_
      refine WPL.val (v_loadA (cs := encA x) Try.isAgg45 Try.sizeOf45 rfl (fun w hw => hw.old_at hc (not_foots_nil _)) (encA_len x)) ?_
      refine WPL.ef (x_call Try.call13 (both_ct tp mb es hk hF rp g bc bs hkr hab x.1 x.2) [0, 1] [] rfl (fun w hw => trivial) (τ := fun _ => [_, _]) (fun _ => rfl)) (fun ⟨es1, g1, bc1, bs1⟩ => ?_)
      refine WPL.fact (fun hf => ?_)
      obtain ⟨f1, hk1, hab1, hkr1⟩ := hf
      dsimp only at f1 hk1 hab1 hkr1
      have hAF : FoR es1 = AF (l.take (k + 1)) := by rw [AF_snoc hx, ← hFo]; exact f1
      obtain ⟨d1, hF1⟩ := AF_wf (l.take (k + 1))
      rw [← hAF] at hF1
      have hF1r : WF (absR bs1) d1 := by rw [hab1]; exact hF1
      refine WPL.val (v_not rfl) ?_
      refine WPL.val (v_move (v := .bool _) rfl) ?_
      refine WPL.valG (v_move (v := .pointer _) rfl) ?_
      refine WPL.valG (v_move (v := .int .i64 _) rfl) ?_
      refine WPL.efG (x_call Try.call14 (has_ct tp mb es1 id) [0] [1] rfl (fun w hw => trivial) (τ := fun _ => [_, _]) (fun _ => rfl)) (fun _ => ?_)
      refine WPL.fact (fun _ => ?_)
      refine WPL.valG (v_move (v := .pointer _) rfl) ?_
      refine WPL.valG (v_move (v := .int .i64 _) rfl) ?_
      refine WPL.efG (x_call Try.call15 (rhas_ct rp g1 bc1 bs1 hkr1 id) [0] [1] rfl (fun w hw => trivial) (τ := fun _ => [_, _]) (fun _ => rfl)) (fun _ => ?_)
      refine WPL.fact (fun _ => ?_)
      refine WPL.valG (v_is (b := false) (v_neB Try.underlying4 rfl rfl) (by rw [hab1]; simp)) ?_
      refine WPL.val (v_pickF (v := .bool _) rfl rfl) ?_
      refine WPL.val (v_move (v := .bool _) rfl) ?_
      refine WPL.valG (v_move (v := .pointer _) rfl) ?_
      refine WPL.valG (v_move (v := .int .i64 _) rfl) ?_
      refine WPL.efG (x_call Try.call16 (up_ct tp mb es1 hk1 id) [0] [1] rfl (fun w hw => trivial) (τ := fun _ => [_, _]) (fun _ => rfl)) (fun _ => ?_)
      refine WPL.fact (fun _ => ?_)
      refine WPL.valG (v_move (v := .pointer _) rfl) ?_
      refine WPL.valG (v_move (v := .int .i64 _) rfl) ?_
      refine WPL.efG (x_call Try.call17 (rup_ct rp g1 bc1 bs1 hkr1 id) [0] [1] rfl (fun w hw => trivial) (τ := fun _ => [_, _]) (fun _ => rfl)) (fun _ => ?_)
      refine WPL.fact (fun _ => ?_)
      refine WPL.valG (v_is (b := false) (v_neq rfl rfl) (decide_eq_false (fun h => h (by rw [hab1])))) ?_
      refine WPL.val (v_pickF (v := .bool _) rfl rfl) ?_
      refine WPL.val (v_move (v := .bool _) rfl) ?_
      refine WPL.valG (v_move (v := .pointer _) rfl) ?_
      refine WPL.valG (v_move (v := .int .i64 _) rfl) ?_
      refine WPL.efG (x_call Try.call18 (depth_ct tp mb es1 hk1 hF1 id) [0] [1] rfl (fun w hw => trivial) (τ := fun _ => [_, _]) (fun _ => rfl)) (fun _ => ?_)
      refine WPL.fact (fun _ => ?_)
      refine WPL.valG (v_move (v := .pointer _) rfl) ?_
      refine WPL.valG (v_move (v := .int .i64 _) rfl) ?_
      refine WPL.efG (x_call Try.call19 (rdepth_ct rp g1 bc1 bs1 hkr1 hF1r id) [0] [1] rfl (fun w hw => trivial) (τ := fun _ => [_, _]) (fun _ => rfl)) (fun _ => ?_)
      refine WPL.fact (fun _ => ?_)
      refine WPL.valG (v_is (b := false) (v_neq rfl rfl) (decide_eq_false (fun h => h (by rw [hab1])))) ?_
      refine WPL.val (v_pickF (v := .bool _) rfl rfl) ?_
      refine WPL.val (v_move (v := .bool _) rfl) ?_
      refine WPL.valG (v_move (v := .pointer _) rfl) ?_
      refine WPL.valG (v_move (v := .int .i64 _) rfl) ?_
      refine WPL.efG (x_call Try.call20 (style_ct tp mb es1 hk1 id) [0] [1] rfl (fun w hw => trivial) (τ := fun _ => [_, _]) (fun _ => rfl)) (fun _ => ?_)
      refine WPL.fact (fun _ => ?_)
      refine WPL.valG (v_move (v := .pointer _) rfl) ?_
      refine WPL.valG (v_move (v := .int .i64 _) rfl) ?_
      refine WPL.efG (x_call Try.call21 (rstyle_ct rp g1 bc1 bs1 hkr1 id) [0] [1] rfl (fun w hw => trivial) (τ := fun _ => [_, _]) (fun _ => rfl)) (fun _ => ?_)
      refine WPL.fact (fun _ => ?_)
      refine WPL.valG (v_is (b := false) (v_neA leaf43 (by kernel_rfl) (fun _ => rfl) rfl rfl (hk1.styOk id).leaves (by rw [hab1]; exact (hk1.styOk id).leaves)) (by rw [hab1]; simp [eqv_self])) ?_
      refine WPL.val (v_pickF (v := .bool _) rfl rfl) ?_
      refine WPL.val (v_move (v := .bool _) rfl) ?_
      refine WPL.valG (v_move (v := .pointer _) rfl) ?_
      refine WPL.valG (v_move (v := .int .i64 _) rfl) ?_
      refine WPL.efG (x_call Try.call23 (kids_ct tp mb es1 hk1 id (by have := hF1.kidsF_len id; omega)) [0] [1] rfl (fun w hw => trivial) (τ := fun _ => [_, _, _]) (fun _ => rfl)) (fun ⟨kA, kc⟩ => ?_)
      refine WPL.fact (fun _ => ?_)
      refine WPL.valG (v_move (v := .pointer _) rfl) ?_
      refine WPL.valG (v_move (v := .int .i64 _) rfl) ?_
      refine WPL.efG (x_call Try.call24 (rkids_ct rp g1 bc1 bs1 hkr1 id) [0] [1, 2] rfl (fun w hw => trivial) (τ := fun _ => [_, _, _]) (fun _ => rfl)) (fun _ => ?_)
      refine WPL.fact (fun _ => ?_)
      refine WPL.efG (x_call Try.call22 (rowT_ct kA (kAR bs1 id) kc (kCR bs1 id) (kidsF (FoR es1) id) (kidsF (absR bs1) id) (by have := hF1.kidsF_len id; omega) (by rw [hab1])) [] [0, 1, 2] rfl (fun w hw => ⟨hw.rd_row1 (i := 1) (f := Value.int .i64) rfl, hw.refKidsF (i := 2) rfl id⟩) (τ := fun _ => [_, _, _]) (fun _ => rfl)) (fun _ => ?_)
      refine WPL.fact (fun _ => ?_)
      refine WPL.valG (v_not rfl) ?_
      refine WPL.val (v_pickF (v := .bool _) rfl rfl) ?_
      refine WPL.nil (onto_of ?_)
      refine WP.condF rfl ?_
      refine WP.skip (onto_of ?_)
      refine WP.region ?_
      refine WPL.val (v_move (v := .int .i64 _) rfl) ?_
      refine WPL.val (v_add rfl rfl (by omega)) ?_
      refine WPL.val (v_assign (v := .int .i64 _) rfl) ?_
      exact WPL.nil fun w hw => ⟨rfl, (k + 1, es1, g1, bc1, bs1), (by simp only; omega), ⟨rfl, (via (.slice _ _ _) rfl rfl), (via (.int .i64 _) rfl rfl), (via (.bool _) rfl rfl), (via (.pointer _) rfl rfl), (via (.pointer _) rfl rfl), trivial⟩, ⟨⟨by simp only; omega, hAF, hk1, hab1, hkr1⟩, (hw.sel [0, 2] (by decide))⟩⟩
    ·
      obtain rfl : k = l.length := by omega
      rw [List.take_of_length_le (Nat.le_refl _)] at hFo
      obtain ⟨d, hF⟩ := AF_wf l
      rw [← hFo] at hF
      have hFr : WF (absR bs) d := by rw [hab]; exact hF
      refine WP.exit (onto_of ?_)
      refine WP.seq ?_
      refine WP.region ?_
      refine WPL.val (v_move (v := .pointer _) rfl) ?_
      refine WPL.ef (x_call Try.call25 (rinside_ct rp g bc bs hkr hFr 0) [1] [0] rfl (fun w hw => trivial) (τ := fun _ => [_, _, _]) (fun _ => rfl)) (fun ⟨rA, rc⟩ => ?_)
      refine WPL.fact (fun _ => ?_)
      refine WPL.val (v_assign (v := .slice _ _ _) rfl) ?_
      refine WPL.nil (onto_of ?_)
      refine WP.seq ?_
      refine WP.region ?_
      refine WPL.val (v_move (v := .bool _) rfl) ?_
      refine WPL.val (v_move (v := .bool _) rfl) ?_
      refine WPL.valG (v_move (v := .pointer _) rfl) ?_
      refine WPL.efG (x_call Try.call26 (order_ct tp mb es hk hF) [0] [1, 2] rfl (fun w hw => trivial) (τ := fun _ => [_, _, _, _]) (fun _ => rfl)) (fun ⟨oA, oc⟩ => ?_)
      refine WPL.fact (fun _ => ?_)
      refine WPL.valG (v_move (v := .slice _ _ _) rfl) ?_
      refine WPL.efG (x_call Try.call22 (rowT_ct oA rA oc rc (order (FoR es)) (sub (absR bs) 0) (by have := hF.len_le 0; unfold order; omega) (by rw [hab]; rfl)) [] [0, 1, 2, 3] rfl (fun w hw => ⟨hw.rd_row1 (i := 3) (f := Value.int .i64) rfl, hw.rd_row1 (i := 1) (f := Value.int .i64) rfl⟩) (τ := fun _ => [_, _, _, _]) (fun _ => rfl)) (fun _ => ?_)
      refine WPL.fact (fun _ => ?_)
      refine WPL.val (v_pickT (u := .bool _) rfl rfl) ?_
      refine WPL.val (v_move (v := .bool _) rfl) ?_
      refine WPL.valG (v_move (v := .pointer _) rfl) ?_
      refine WPL.efG (x_call Try.call27 (len_ct tp mb es) [2] [0, 1, 3] rfl (fun w hw => trivial) (τ := fun _ => [_, _, _, _]) (fun _ => rfl)) (fun _ => ?_)
      refine WPL.fact (fun _ => ?_)
      refine WPL.valG (v_move (v := .slice _ _ _) rfl) ?_
      refine WPL.valG (v_len Try.underlying50 rfl) ?_
      refine WPL.valG (v_is (b := true) (v_eql rfl rfl) (decide_eq_true (by have h := len_es hk hF; rw [hab]; exact h.symm))) ?_
      refine WPL.val (v_pickT (u := .bool _) rfl rfl) ?_
      refine WPL.val (v_assign (v := .bool _) rfl) ?_
      refine WPL.nil (onto_of ?_)
      exact WP.ret1 Try.results3 (fun _ h => h) (fun w hw => ⟨(), rfl, trivial, hw.sel [] (by decide)⟩)
end Go.Proofs.Ytmjdmlgdffoimaa
