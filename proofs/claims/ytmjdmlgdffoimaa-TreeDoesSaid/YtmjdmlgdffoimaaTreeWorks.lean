/- The document's example. -/
import Derived.Test.YtmjdmlgdffoimaaTreeDo
namespace Go.Proofs.Ytmjdmlgdffoimaa
open Go.RowKit

section
variable (tp mb : Nat) (es : List PE) (hk : LOk es)
include hk
theorem wk1 (h : FoR es = F0) : Ct Try.prog 32 #[.pointer (some ⟨tp, 0, none⟩), .int .i64 0, .int .i64 0] [treeI tp mb es] (fun _ => True) (X := List PE) (fun _ => .tuple #[.int .i64 1, .int .i64 0]) (fun es' => FoR es' = F1 ∧ LOk es') (fun es' => [treeI tp mb es']) := by
  obtain ⟨d, hd⟩ := wf0
  have h1 := add_ct tp mb es hk (h ▸ hd) 0 0
  rw [h, e1] at h1; exact h1
theorem wk2 (h : FoR es = F1) : Ct Try.prog 32 #[.pointer (some ⟨tp, 0, none⟩), .int .i64 0, .int .i64 1] [treeI tp mb es] (fun _ => True) (X := List PE) (fun _ => .tuple #[.int .i64 2, .int .i64 0]) (fun es' => FoR es' = F2 ∧ LOk es') (fun es' => [treeI tp mb es']) := by
  obtain ⟨d, hd⟩ := wf1
  have h1 := add_ct tp mb es hk (h ▸ hd) 0 1
  rw [h, e2] at h1; exact h1
theorem wk3 (h : FoR es = F2) : Ct Try.prog 31 #[.pointer (some ⟨tp, 0, none⟩), .int .i64 1, .int .i64 2, .int .i64 0] [treeI tp mb es] (fun _ => True) (X := List PE) (fun _ => .int .i64 0) (fun es' => FoR es' = F3 ∧ LOk es') (fun es' => [treeI tp mb es']) := by
  obtain ⟨d, hd⟩ := wf2
  have h1 := move_ct tp mb es hk (h ▸ hd) 1 2 0
  rw [h, e3] at h1; exact h1
theorem wk4 (h : FoR es = F3) : Ct Try.prog 31 #[.pointer (some ⟨tp, 0, none⟩), .int .i64 2, .int .i64 1, .int .i64 0] [treeI tp mb es] (fun _ => True) (X := List PE) (fun _ => .int .i64 3) (fun es' => FoR es' = F4 ∧ LOk es') (fun es' => [treeI tp mb es']) := by
  obtain ⟨d, hd⟩ := wf3
  have h1 := move_ct tp mb es hk (h ▸ hd) 2 1 0
  rw [h, e4] at h1; exact h1
theorem wk5 (h : FoR es = F4) : Ct Try.prog 33 #[.pointer (some ⟨tp, 0, none⟩), .int .i64 1, .agg s3.toArray] [treeI tp mb es] (fun _ => True) (X := List PE) (fun _ => .int .i64 0) (fun es' => FoR es' = F5 ∧ LOk es') (fun es' => [treeI tp mb es']) := by
  have h1 := set_ct tp mb es hk 1 s3 s3_ok
  rw [h, e5] at h1; exact h1
theorem wk6 (h : FoR es = F5) : Ct Try.prog 26 #[.pointer (some ⟨tp, 0, none⟩)] [treeI tp mb es] (fun _ => True) (X := Option Addr × Nat) (fun p => .slice p.1 3 p.2) (fun _ => True) (fun p => [treeI tp mb es, kidsI p.1 3 p.2 [0, 2, 1]]) := by
  obtain ⟨d, hd⟩ := wf5
  have h1 := order_ct tp mb es hk (h ▸ hd)
  rw [h, e6] at h1; exact h1
theorem wk7 (h : FoR es = F5) : Ct Try.prog 29 #[.pointer (some ⟨tp, 0, none⟩)] [treeI tp mb es] (fun _ => True) (X := Nat × Nat × List PE) (fun p => .pointer (some ⟨p.1, 0, none⟩)) (fun p => FoR p.2.2 = F5 ∧ LOk p.2.2) (fun p => [treeI tp mb es, treeI p.1 p.2.1 p.2.2]) := by
  obtain ⟨d, hd⟩ := wf5
  have h1 := cloneT_ct tp mb es hk (h ▸ hd)
  rw [h] at h1; exact h1
theorem wk8 (h : FoR es = F5) : Ct Try.prog 18 #[.pointer (some ⟨tp, 0, none⟩), .int .i64 1] [treeI tp mb es] (fun _ => True) (X := Unit) (fun _ => .int .i64 2) (fun _ => True) (fun _ => [treeI tp mb es]) := by
  obtain ⟨d, hd⟩ := wf5
  have h1 := depth_ct tp mb es hk (h ▸ hd) 1
  rw [h, e7] at h1; exact h1
theorem wk9 (h : FoR es = F5) : Ct Try.prog 16 #[.pointer (some ⟨tp, 0, none⟩), .int .i64 1] [treeI tp mb es] (fun _ => True) (X := Unit) (fun _ => .int .i64 2) (fun _ => True) (fun _ => [treeI tp mb es]) := by
  have h1 := up_ct tp mb es hk 1
  rw [h, e8] at h1; exact h1
theorem wk10 (h : FoR es = F5) : Ct Try.prog 20 #[.pointer (some ⟨tp, 0, none⟩), .int .i64 1] [treeI tp mb es] (fun _ => True) (X := Unit) (fun _ => .agg s3.toArray) (fun _ => True) (fun _ => [treeI tp mb es]) := by
  have h1 := style_ct tp mb es hk 1
  rw [h, e9] at h1; exact h1
theorem wk11 (h : FoR es = F5) : Ct Try.prog 27 #[.pointer (some ⟨tp, 0, none⟩)] [treeI tp mb es] (fun _ => True) (X := Unit) (fun _ => .int .i64 3) (fun _ => True) (fun _ => [treeI tp mb es]) := by
  obtain ⟨d, hd⟩ := wf5
  have h1 := len_ct tp mb es
  have h2 := len_es hk (h ▸ hd)
  rw [h, lenF, e6] at h2
  rw [← h2] at h1; exact h1
omit hk in
theorem wk12 (h : FoR es = F5) : Ct Try.prog 14 #[.pointer (some ⟨tp, 0, none⟩), .int .i64 2] [treeI tp mb es] (fun _ => True) (X := Unit) (fun _ => .bool true) (fun _ => True) (fun _ => [treeI tp mb es]) := by
  have h1 := has_ct tp mb es 2
  rw [h, e10] at h1; exact h1
theorem wk13 (h : FoR es = F5) : Ct Try.prog 23 #[.pointer (some ⟨tp, 0, none⟩), .int .i64 2] [treeI tp mb es] (fun _ => True) (X := Option Addr × Nat) (fun p => .slice p.1 1 p.2) (fun _ => True) (fun p => [treeI tp mb es, kidsI p.1 1 p.2 [1]]) := by
  have h1 := kids_ct tp mb es hk 2 (by rw [h, e11]; decide)
  rw [h, e11] at h1; exact h1
end
set_option maxRecDepth 100000 in
set_option maxHeartbeats 2000000 in
theorem works_ct : Ct Try.prog 10 #[] [] (fun _ => True) (X := Unit) (fun _ => .bool true) (fun _ => True) (fun _ => []) := by
  refine Ct.intro Try.func10 rfl Try.ntmps10 (by simp) (fun w0 _ => ?_)
  refine WP.seq ?_
  refine WP.region ?_
  refine WPL.val (v_assign (v := .bool false) rfl) ?_
  refine WPL.nil (onto_of ?_)
  refine WP.seq ?_
  refine WP.region ?_
  refine WPL.ef (x_call Try.call11 new_ct [] [] rfl (fun w hw => trivial) (τ := fun _ => [_]) (fun _ => rfl)) (fun ⟨tp, mb, nb⟩ => ?_)
  refine WPL.fact (fun _ => ?_)
  refine WPL.val (v_assign (v := .pointer _) rfl) ?_
  refine WPL.nil (onto_of ?_)
  refine WP.seq ?_
  refine WP.seq ?_
  refine WP.region ?_
  refine WPL.val (v_move (v := .pointer _) rfl) ?_
  refine WPL.val (v_eqNil Try.underlying24 rfl rfl) ?_
  refine WPL.nil (onto_of ?_)
  refine WP.condF rfl ?_
  refine WP.skip (onto_of ?_)
  refine WP.seq ?_
  refine WP.region ?_
  refine WPL.val (v_move (v := .pointer _) rfl) ?_
  refine WPL.ef (x_call Try.call32 (wk1 tp mb _ (newE_ok nb).2 (newE_ok nb).1) [0] [] rfl (fun w hw => trivial) (τ := fun _ => [_]) (fun _ => rfl)) (fun es1 => ?_)
  refine WPL.fact (fun hf1 => ?_)
  refine WPL.val (v_move rfl) ?_
  refine WPL.val (v_extract (v := .int .i64 _) rfl rfl) ?_
  refine WPL.val (v_extract (v := .int .i64 _) rfl rfl) ?_
  refine WPL.val (v_assign (v := .int .i64 _) rfl) ?_
  refine WPL.val (v_assign (v := .int .i64 _) rfl) ?_
  refine WPL.nil (onto_of ?_)
  refine WP.seq ?_
  refine WP.region ?_
  refine WPL.val (v_move (v := .pointer _) rfl) ?_
  refine WPL.ef (x_call Try.call32 (wk2 tp mb es1 hf1.2 hf1.1) [0] [] rfl (fun w hw => trivial) (τ := fun _ => [_]) (fun _ => rfl)) (fun es2 => ?_)
  refine WPL.fact (fun hf2 => ?_)
  refine WPL.val (v_move rfl) ?_
  refine WPL.val (v_extract (v := .int .i64 _) rfl rfl) ?_
  refine WPL.val (v_extract (v := .int .i64 _) rfl rfl) ?_
  refine WPL.val (v_assign (v := .int .i64 _) rfl) ?_
  refine WPL.val (v_assign (v := .int .i64 _) rfl) ?_
  refine WPL.nil (onto_of ?_)
  refine WP.seq ?_
  refine WP.region ?_
  refine WPL.val (v_move (v := .pointer _) rfl) ?_
  refine WPL.ef (x_call Try.call31 (wk3 tp mb es2 hf2.2 hf2.1) [0] [] rfl (fun w hw => trivial) (τ := fun _ => [_]) (fun _ => rfl)) (fun es3 => ?_)
  refine WPL.fact (fun hf3 => ?_)
  refine WPL.val (v_assign (v := .int .i64 _) rfl) ?_
  refine WPL.nil (onto_of ?_)
  refine WP.seq ?_
  refine WP.region ?_
  refine WPL.val (v_move (v := .pointer _) rfl) ?_
  refine WPL.ef (x_call Try.call31 (wk4 tp mb es3 hf3.2 hf3.1) [0] [] rfl (fun w hw => trivial) (τ := fun _ => [_]) (fun _ => rfl)) (fun es4 => ?_)
  refine WPL.fact (fun hf4 => ?_)
  refine WPL.val (v_assign (v := .int .i64 _) rfl) ?_
  refine WPL.nil (onto_of ?_)
  refine WP.seq ?_
  refine WP.region ?_
  refine WPL.val (v_move (v := .pointer _) rfl) ?_
  refine WPL.val (v_struct (us := s3) (pl := [(0, 1), (1, 1), (2, 1), (3, 2), (5, 2), (7, 2), (9, 2), (11, 2), (13, 2), (15, 8), (23, 8), (31, 4), (35, 4), (39, 1), (40, 1), (41, 2), (43, 1), (44, 1), (45, 1), (46, 1), (47, 1), (48, 1), (49, 1), (50, 1), (51, 1), (52, 1), (53, 2)]) Try.underlying43 Try.zeroValue43 rfl (by kernel_rfl) rfl rfl (by kernel_rfl)) ?_
  refine WPL.ef (x_call Try.call33 (wk5 tp mb es4 hf4.2 hf4.1) [0] [] rfl (fun w hw => trivial) (τ := fun _ => [_]) (fun _ => rfl)) (fun es5 => ?_)
  refine WPL.fact (fun hf5 => ?_)
  refine WPL.val (v_assign (v := .int .i64 _) rfl) ?_
  refine WPL.nil (onto_of ?_)
  refine WP.seq ?_
  refine WP.region ?_
  refine WPL.val (v_move (v := .pointer _) rfl) ?_
  refine WPL.ef (x_call Try.call26 (wk6 tp mb es5 hf5.2 hf5.1) [0] [] rfl (fun w hw => trivial) (τ := fun _ => [_, _]) (fun _ => rfl)) (fun ⟨rA, rc⟩ => ?_)
  refine WPL.fact (fun _ => ?_)
  refine WPL.val (v_assign (v := .slice _ _ _) rfl) ?_
  refine WPL.nil (onto_of ?_)
  refine WP.seq ?_
  refine WP.region ?_
  refine WPL.val (v_move (v := .pointer _) rfl) ?_
  refine WPL.ef (x_call Try.call29 (wk7 tp mb es5 hf5.2 hf5.1) [0] [1] rfl (fun w hw => trivial) (τ := fun _ => [_, _, _]) (fun _ => rfl)) (fun ⟨cp, cm, ces⟩ => ?_)
  refine WPL.fact (fun hfc => ?_)
  refine WPL.val (v_assign (v := .pointer _) rfl) ?_
  refine WPL.nil (onto_of ?_)
  refine WP.seq ?_
  refine WP.holds (fun w hw => hw.row_pos (i := 0) rfl (by decide)) (fun ⟨lb, hA⟩ => ?_)
  subst hA
  refine WP.region ?_
  refine WPL.val (v_move (v := .int .i64 _) rfl) ?_
  refine WPL.val (v_is (b := true) (v_eql rfl rfl) (decide_eq_true rfl)) ?_
  refine WPL.val (v_move (v := .bool _) rfl) ?_
  refine WPL.valG (v_move (v := .int .i64 _) rfl) ?_
  refine WPL.valG (v_is (b := true) (v_eql rfl rfl) (decide_eq_true rfl)) ?_
  refine WPL.val (v_pickT (u := .bool _) rfl rfl) ?_
  refine WPL.val (v_move (v := .bool _) rfl) ?_
  refine WPL.valG (v_move (v := .int .i64 _) rfl) ?_
  refine WPL.valG (v_is (b := true) (v_eql rfl rfl) (decide_eq_true rfl)) ?_
  refine WPL.val (v_pickT (u := .bool _) rfl rfl) ?_
  refine WPL.val (v_move (v := .bool _) rfl) ?_
  refine WPL.valG (v_move (v := .int .i64 _) rfl) ?_
  refine WPL.valG (v_is (b := true) (v_eql rfl rfl) (decide_eq_true rfl)) ?_
  refine WPL.val (v_pickT (u := .bool _) rfl rfl) ?_
  refine WPL.val (v_move (v := .bool _) rfl) ?_
  refine WPL.valG (v_move (v := .int .i64 _) rfl) ?_
  refine WPL.valG (v_is (b := true) (v_eql rfl rfl) (decide_eq_true rfl)) ?_
  refine WPL.val (v_pickT (u := .bool _) rfl rfl) ?_
  refine WPL.val (v_move (v := .bool _) rfl) ?_
  refine WPL.valG (v_move (v := .int .i64 _) rfl) ?_
  refine WPL.valG (v_is (b := true) (v_eql rfl rfl) (decide_eq_true rfl)) ?_
  refine WPL.val (v_pickT (u := .bool _) rfl rfl) ?_
  refine WPL.val (v_move (v := .bool _) rfl) ?_
  refine WPL.valG (v_move (v := .int .i64 _) rfl) ?_
  refine WPL.valG (v_is (b := true) (v_eql rfl rfl) (decide_eq_true rfl)) ?_
  refine WPL.val (v_pickT (u := .bool _) rfl rfl) ?_
  refine WPL.val (v_move (v := .bool _) rfl) ?_
  refine WPL.valG (v_move (v := .slice _ _ _) rfl) ?_
  refine WPL.valG (v_len Try.underlying50 rfl) ?_
  refine WPL.valG (v_lit (b := true) (v_eql rfl rfl) (by decide)) ?_
  refine WPL.val (v_pickT (u := .bool _) rfl rfl) ?_
  refine WPL.val (v_move (v := .bool _) rfl) ?_
  refine WPL.valG (v_move (v := .slice _ _ _) rfl) ?_
  refine WPL.valG (v_index (j := 1) Try.underlying50 Try.sizeOf3 rfl rfl rfl (by decide)) ?_
  refine WPL.valG (v_load1 (u := .int .i64 _) Try.isAgg3 rfl (fun w hw => hw.row_at1 (i := 0) (k := 1) rfl rfl (by decide))) ?_
  refine WPL.valG (v_lit (b := true) (v_eql rfl rfl) (by decide)) ?_
  refine WPL.val (v_pickT (u := .bool _) rfl rfl) ?_
  refine WPL.val (v_move (v := .bool _) rfl) ?_
  refine WPL.valG (v_move (v := .pointer _) rfl) ?_
  refine WPL.efG (x_call Try.call18 (wk8 tp mb es5 hf5.2 hf5.1) [1] [0, 2] rfl (fun w hw => trivial) (τ := fun _ => [_, _, _]) (fun _ => rfl)) (fun _ => ?_)
  refine WPL.fact (fun _ => ?_)
  refine WPL.valG (v_is (b := true) (v_eql rfl rfl) (decide_eq_true rfl)) ?_
  refine WPL.val (v_pickT (u := .bool _) rfl rfl) ?_
  refine WPL.val (v_move (v := .bool _) rfl) ?_
  refine WPL.valG (v_move (v := .pointer _) rfl) ?_
  refine WPL.efG (x_call Try.call16 (wk9 tp mb es5 hf5.2 hf5.1) [2] [0, 1] rfl (fun w hw => trivial) (τ := fun _ => [_, _, _]) (fun _ => rfl)) (fun _ => ?_)
  refine WPL.fact (fun _ => ?_)
  refine WPL.valG (v_is (b := true) (v_eql rfl rfl) (decide_eq_true rfl)) ?_
  refine WPL.val (v_pickT (u := .bool _) rfl rfl) ?_
  refine WPL.val (v_move (v := .bool _) rfl) ?_
  refine WPL.valG (v_move (v := .pointer _) rfl) ?_
  refine WPL.efG (x_call Try.call20 (wk10 tp mb es5 hf5.2 hf5.1) [2] [0, 1] rfl (fun w hw => trivial) (τ := fun _ => [_, _, _]) (fun _ => rfl)) (fun _ => ?_)
  refine WPL.fact (fun _ => ?_)
  refine WPL.valG (v_part (u := .int .i64 _) Try.underlying43 rfl Try.isAgg3 rfl rfl) ?_
  refine WPL.valG (v_is (b := true) (v_eql rfl rfl) (decide_eq_true rfl)) ?_
  refine WPL.val (v_pickT (u := .bool _) rfl rfl) ?_
  refine WPL.val (v_move (v := .bool _) rfl) ?_
  refine WPL.valG (v_move (v := .pointer _) rfl) ?_
  refine WPL.efG (x_call Try.call27 (wk11 tp mb es5 hf5.2 hf5.1) [2] [0, 1] rfl (fun w hw => trivial) (τ := fun _ => [_, _, _]) (fun _ => rfl)) (fun _ => ?_)
  refine WPL.fact (fun _ => ?_)
  refine WPL.valG (v_is (b := true) (v_eql rfl rfl) (decide_eq_true rfl)) ?_
  refine WPL.val (v_pickT (u := .bool _) rfl rfl) ?_
  refine WPL.val (v_move (v := .bool _) rfl) ?_
  refine WPL.valG (v_move (v := .pointer _) rfl) ?_
  refine WPL.valG (v_is (b := true) (v_neNil Try.underlying24 rfl rfl) rfl) ?_
  refine WPL.val (v_pickT (u := .bool _) rfl rfl) ?_
  refine WPL.val (v_move (v := .bool _) rfl) ?_
  refine WPL.valG (v_move (v := .pointer _) rfl) ?_
  refine WPL.efG (x_call Try.call14 (wk12 cp cm ces hfc.1) [1] [0, 2] rfl (fun w hw => trivial) (τ := fun _ => [_, _, _]) (fun _ => rfl)) (fun _ => ?_)
  refine WPL.fact (fun _ => ?_)
  refine WPL.val (v_pickT (u := .bool _) rfl rfl) ?_
  refine WPL.val (v_move (v := .bool _) rfl) ?_
  refine WPL.valG (v_move (v := .pointer _) rfl) ?_
  refine WPL.efG (x_call Try.call23 (wk13 tp mb es5 hf5.2 hf5.1) [1] [0, 2] rfl (fun w hw => trivial) (τ := fun _ => [_, _, _, _]) (fun _ => rfl)) (fun ⟨r2A, r2c⟩ => ?_)
  refine WPL.fact (fun _ => ?_)
  refine WPL.valG (v_len Try.underlying50 rfl) ?_
  refine WPL.valG (v_lit (b := true) (v_eql rfl rfl) (by decide)) ?_
  refine WPL.val (v_pickT (u := .bool _) rfl rfl) ?_
  refine WPL.val (v_assign (v := .bool _) rfl) ?_
  refine WPL.nil (onto_of ?_)
  exact WP.ret1 Try.results10 (fun _ h => h) (fun w hw => ⟨(), rfl, trivial, hw.sel [] (by decide)⟩)
end Go.Proofs.Ytmjdmlgdffoimaa
