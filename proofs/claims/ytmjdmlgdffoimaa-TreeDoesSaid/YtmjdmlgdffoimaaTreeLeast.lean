/- The statements of layer 14: what they share; TreeLeast. -/
import Derived.Test.YtmjdmlgdffoimaaTreeWorks
import Derived.Test.YtmjdmlgdffoimaaRecRow
namespace Go.Proofs.Ytmjdmlgdffoimaa
open Go.RowKit

abbrev AC := { a : Act (List Value) // SOk a.sty }
abbrev encA : AC → List Value := fun a => actC a.1
def AF (l : List AC) : Forest (List Value) := actsR zeroS validB (newF zeroS) (l.map (·.1))
theorem AF_wf (l : List AC) : ∃ d, WF (AF l) d := acts_new zeroS validB _
theorem AF_snoc {l : List AC} {k : Nat} {x : AC} (h : l[k]? = some x) : AF (l.take (k + 1)) = actR zeroS validB (AF (l.take k)) x.1 := by
  rw [take_snoc h, AF, List.map_append]
  exact acts_snoc zeroS validB _ _ _
theorem encA_len (x : AC) : (encA x).length = 59 := by simp [actC, x.2.len]
section
variable {F : Forest (List Value)} {d d' : Int → Nat} {G : Forest (List Value)}
theorem WF.len_le' (h : WF F d) (hG : WF G d') (i : Int) (hs : ∀ x, hasF G x = true → x = i ∨ hasF F x = true) : lenF G ≤ lenF F + 1 := by
  have := nodup_len (l := order G) (m := i :: order F) hG.order_nodup (fun x hx => by
    rcases hs x (hG.mem_order.1 hx) with rfl | h1
    · simp
    · exact List.mem_cons_of_mem _ (h.mem_order.2 h1))
  simp only [List.length_cons] at this
  unfold lenF; omega
theorem has_addG {up id : Int} {k : Nat} {z : List Value} {x : Int} (h : hasF (addG F up k id z) x = true) : x = id ∨ hasF F x = true := by
  unfold hasF addG at h
  split at h
  · rename_i e; right; subst e; simpa [hasF] using h
  · split at h
    · left; assumption
    · right; exact h
theorem addG_has {up id : Int} {k : Nat} {z : List Value} {x : Int} (h : hasF F x = true) : hasF (addG F up k id z) x = true := by
  unfold hasF addG
  split
  · rename_i e; subst e; simpa [hasF] using h
  · split
    · rfl
    · exact h
theorem has_movG (id up : Int) (k : Nat) (x : Int) : hasF (movG F id up k) x = hasF F x := by simp [hasF, movG]
theorem has_setG (id : Int) (s : List Value) (x : Int) : hasF (setG F id s) x = hasF F x := by
  unfold hasF setG
  split
  · rename_i e; subst e; simp
  · rfl
theorem has_remG {id x : Int} (h : hasF (remG F id) x = true) : hasF F x = true := by
  unfold hasF remG at h
  split at h
  · cases h
  · simpa [hasF] using h
theorem WF.act_len (h : WF F d) (a : Act (List Value)) : lenF (actR zeroS validB F a) ≤ lenF F + 1 := by
  obtain ⟨d', h'⟩ := h.act zeroS validB a
  refine h.len_le' h' (least F) (fun x hx => ?_)
  unfold actR at hx
  split at hx
  · right
    unfold Go.Proofs.Ytmjdmlgdffoimaa.remR at hx
    split at hx
    · exact hx
    · split at hx
      · exact hx
      · exact has_remG hx
  · split at hx
    · right
      unfold Go.Proofs.Ytmjdmlgdffoimaa.movR at hx
      repeat' split at hx
      all_goals first | exact hx | (rw [has_movG] at hx; exact hx)
    · split at hx
      · right
        unfold Go.Proofs.Ytmjdmlgdffoimaa.setR at hx
        repeat' split at hx
        all_goals first | exact hx | (rw [has_setG] at hx; exact hx)
      · unfold Go.Proofs.Ytmjdmlgdffoimaa.addR at hx
        repeat' split at hx
        all_goals first | exact .inr hx | exact has_addG hx
end
theorem AF_len (l : List AC) : ∀ k ≤ l.length, lenF (AF (l.take k)) ≤ 1 + k
  | 0, _ => by
    show lenF (newF zeroS) ≤ _
    have h : lenF (newF zeroS) = 1 := by kernel_rfl
    omega
  | k + 1, hk => by
    obtain ⟨x, hx⟩ : ∃ x, l[k]? = some x := ⟨_, List.getElem?_eq_getElem (by omega)⟩
    obtain ⟨d, hd⟩ := AF_wf (l.take k)
    have h1 := hd.act_len x.1
    have h2 := AF_len l k (by omega)
    rw [AF_snoc hx]; push_cast at *; omega
theorem WF.add_ok {F : Forest (List Value)} {d : Int → Nat} (h : WF F d) (hl : lenF F < 4096) : Go.Proofs.Ytmjdmlgdffoimaa.addR zeroS F 0 0 = (addG F 0 0 (least F) zeroS, least F, 0) := by
  obtain ⟨b, hb, _⟩ := h.root
  have h0 := has_some hb
  have hd := h.depth h0
  rw [h.rank0] at hd
  rw [Go.Proofs.Ytmjdmlgdffoimaa.addR, if_neg (by simp [h0]), if_neg (by omega), if_neg (by omega), if_neg (by rw [hd]; decide)]
  rfl
set_option maxRecDepth 100000 in
set_option maxHeartbeats 2000000 in
theorem lawLeast_ct (A : Option Addr) (c : Nat) (l : List AC) (n : Int) : Ct Try.prog 9 #[.slice A l.length c, .int .i64 n] [] (fun w => RdE w A 59 encA l) (X := Unit) (fun _ => .bool true) (fun _ => True) (fun _ => []) := by
  refine Ct.intro Try.func9 rfl Try.ntmps9 (by simp) (fun w0 hz => ?_)
  refine WP.seq ?_
  refine WP.region ?_
  refine WPL.val (v_assign (v := .bool false) rfl) ?_
  refine WPL.nil (onto_of ?_)
  refine WP.seq ?_
  refine WP.region ?_
  refine WPL.ef (x_call Try.call10 works_ct [] [] rfl (fun w hw => trivial) (τ := fun _ => []) (fun _ => rfl)) (fun _ => ?_)
  refine WPL.fact (fun _ => ?_)
  refine WPL.val (v_assign (v := .bool _) rfl) ?_
  refine WPL.nil (onto_of ?_)
  refine WP.seq ?_
  refine WP.seq ?_
  refine WP.region ?_
  refine WPL.val (v_move (v := .bool _) rfl) ?_
  refine WPL.val (v_not rfl) ?_
  refine WPL.nil (onto_of ?_)
  refine WP.condF rfl ?_
  refine WP.skip (onto_of ?_)
  refine WP.seq ?_
  refine WP.seq ?_
  refine WP.region ?_
  refine WPL.val (v_move (v := .slice _ _ _) rfl) ?_
  refine WPL.val (v_len Try.underlying22 rfl) ?_
  refine WPL.val (v_gtr rfl rfl) ?_
  refine WPL.val (v_move (v := .bool _) rfl) ?_
  refine WPL.split 18 rfl (fun h18 => ?_) (fun h18 => ?_)
  ·
    refine WPL.skipG ?_
    refine WPL.skipG ?_
    refine WPL.val (v_pickT (u := .bool _) rfl rfl) ?_
    refine WPL.val (v_move (v := .bool _) rfl) ?_
    refine WPL.skipG ?_
    refine WPL.skipG ?_
    refine WPL.val (v_pickT (u := .bool _) rfl rfl) ?_
    refine WPL.nil (onto_of ?_)
    refine WP.condT rfl ?_
    refine WP.seq ?_
    refine WP.region ?_
    refine WPL.val (v_move (v := .bool _) rfl) ?_
    refine WPL.val (v_assign (v := .bool _) rfl) ?_
    refine WPL.nil (onto_of ?_)
    exact WP.ret1 Try.results9 (fun _ h => h) (fun w hw => ⟨(), rfl, trivial, hw.sel [] (by decide)⟩)
  ·
    refine WPL.valG (v_move (v := .int .i64 _) rfl) ?_
    refine WPL.valG (v_lss rfl rfl) ?_
    refine WPL.val (v_pickF (v := .bool _) rfl rfl) ?_
    refine WPL.val (v_move (v := .bool _) rfl) ?_
    refine WPL.split 22 rfl (fun h22 => ?_) (fun h22 => ?_)
    ·
      refine WPL.skipG ?_
      refine WPL.skipG ?_
      refine WPL.val (v_pickT (u := .bool _) rfl rfl) ?_
      refine WPL.nil (onto_of ?_)
      refine WP.condT rfl ?_
      refine WP.seq ?_
      refine WP.region ?_
      refine WPL.val (v_move (v := .bool _) rfl) ?_
      refine WPL.val (v_assign (v := .bool _) rfl) ?_
      refine WPL.nil (onto_of ?_)
      exact WP.ret1 Try.results9 (fun _ h => h) (fun w hw => ⟨(), rfl, trivial, hw.sel [] (by decide)⟩)
    ·
      refine WPL.valG (v_move (v := .int .i64 _) rfl) ?_
      refine WPL.valG (v_gtr rfl rfl) ?_
      refine WPL.val (v_pickF (v := .bool _) rfl rfl) ?_
      refine WPL.nil (onto_of ?_)
      refine WP.condP rfl (fun h25 => ?_) (fun h25 => ?_)
      ·
        refine WP.seq ?_
        refine WP.region ?_
        refine WPL.val (v_move (v := .bool _) rfl) ?_
        refine WPL.val (v_assign (v := .bool _) rfl) ?_
        refine WPL.nil (onto_of ?_)
        exact WP.ret1 Try.results9 (fun _ h => h) (fun w hw => ⟨(), rfl, trivial, hw.sel [] (by decide)⟩)
      ·
        refine WP.skip (onto_of ?_)
        refine WP.seq ?_
        refine WP.region ?_
        refine WPL.ef (x_call Try.call11 new_ct [] [] rfl (fun w hw => trivial) (τ := fun _ => [_]) (fun _ => rfl)) (fun ⟨tp, mb, nb⟩ => ?_)
        refine WPL.fact (fun _ => ?_)
        refine WPL.val (v_assign (v := .pointer _) rfl) ?_
        refine WPL.nil (onto_of ?_)
        refine WP.seq ?_
        refine WP.seq ?_
        refine WP.region ?_
        refine WPL.val (v_assign (v := .int .i64 (0)) rfl) ?_
        refine WPL.nil (onto_of ?_)
        refine WP.block ?_
        refine WP.loopK (X := Nat × List PE) [0, 1, 5, 6] (fun p => [(7, .int .i64 (p.1 : Int))]) (fun p w => (p.1 ≤ l.length ∧ FoR p.2 = AF (l.take p.1) ∧ LOk p.2) ∧ St w0 (foots []) [treeI tp mb p.2] w) (fun p => l.length - p.1) (0, [newE 0 nb (-1)]) ⟨rfl, trivial⟩ (fun w hw => ⟨⟨Nat.zero_le _, (newE_ok nb).1, (newE_ok nb).2⟩, (hw.sel [0] (by decide))⟩) (fun p ρ0 => ?_)
        obtain ⟨k, es⟩ := p
        dsimp only
        refine WP.fact (fun ⟨hkl, hFo, hk⟩ => ?_)
        refine WP.seq ?_
        refine WP.seq ?_
        refine WP.region ?_
        refine WPL.val (v_move (v := .int .i64 _) rfl) ?_
        refine WPL.val (v_move (v := .slice _ _ _) rfl) ?_
        refine WPL.val (v_len Try.underlying22 rfl) ?_
        refine WPL.val (v_lss rfl rfl) ?_
        refine WPL.nil (onto_of ?_)
        refine WP.condP rfl (fun h31 => ?_) (fun h31 => ?_)
        ·
          obtain ⟨x, hx⟩ : ∃ x, l[k]? = some x := ⟨_, List.getElem?_eq_getElem (by omega)⟩
          obtain ⟨ab, ao, rfl, hc⟩ := hz k x hx
          obtain ⟨d, hF⟩ := AF_wf (l.take k)
          rw [← hFo] at hF
          refine WP.skip (onto_of ?_)
          refine WP.seq ?_
          refine WP.block ?_
          refine WP.region ?_
          refine WPL.val (v_move (v := .pointer _) rfl) ?_
          refine WPL.val (v_move (v := .slice _ _ _) rfl) ?_
          refine WPL.val (v_move (v := .int .i64 _) rfl) ?_
          refine WPL.val (v_index Try.underlying22 Try.sizeOf45 rfl rfl rfl (by omega)) ?_
          refine WPL.val (v_loadA (cs := encA x) Try.isAgg45 Try.sizeOf45 rfl (fun w hw => hw.old_at hc (not_foots_nil _)) (encA_len x)) ?_
          refine WPL.ef (x_call Try.call28 (do_ct tp mb es hk hF x.1 x.2) [0] [] rfl (fun w hw => trivial) (τ := fun _ => [_]) (fun _ => rfl)) (fun es1 => ?_)
          refine WPL.fact (fun hf => ?_)
          refine WPL.nil (onto_of ?_)
          refine WP.region ?_
          refine WPL.val (v_move (v := .int .i64 _) rfl) ?_
          refine WPL.val (v_add rfl rfl (by omega)) ?_
          refine WPL.val (v_assign (v := .int .i64 _) rfl) ?_
          exact WPL.nil fun w hw => ⟨rfl, (k + 1, es1), (by simp only; omega), ⟨rfl, (via (.slice _ _ _) rfl rfl), (via (.int .i64 _) rfl rfl), (via (.bool _) rfl rfl), (via (.pointer _) rfl rfl), trivial⟩, ⟨⟨by simp only; omega, by rw [AF_snoc hx, ← hFo]; exact hf.1, hf.2⟩, (hw.sel [0] (by decide))⟩⟩
        ·
          obtain rfl : k = l.length := by omega
          rw [List.take_of_length_le (Nat.le_refl _)] at hFo
          obtain ⟨d, hF⟩ := AF_wf l
          rw [← hFo] at hF
          refine WP.exit (onto_of ?_)
          refine WP.seq ?_
          refine WP.seq ?_
          refine WP.region ?_
          refine WPL.val (v_assign (v := .int .i64 (0)) rfl) ?_
          refine WPL.nil (onto_of ?_)
          refine WP.block ?_
          refine WP.loopK (X := Nat × List PE) [1, 5, 6] (fun p => [(8, .int .i64 (p.1 : Int))]) (fun p w => ((p.1 : Int) ≤ n ∧ (∃ d, WF (FoR p.2) d) ∧ LOk p.2 ∧ lenF (FoR p.2) ≤ 101 + p.1) ∧ St w0 (foots []) [treeI tp mb p.2] w) (fun p => n.toNat - p.1) (0, es) ⟨rfl, trivial⟩ (fun w hw => ⟨⟨by simp only; omega, ⟨d, hF⟩, hk, by have h := AF_len l l.length (Nat.le_refl _); rw [List.take_of_length_le (Nat.le_refl _), ← hFo] at h; simp only; omega⟩, (hw.sel [0] (by decide))⟩) (fun p ρ0 => ?_)
          obtain ⟨m, es2⟩ := p
          dsimp only
          refine WP.fact (fun ⟨hmn, ⟨d2, hF2⟩, hk2, hlen⟩ => ?_)
          refine WP.seq ?_
          refine WP.seq ?_
          refine WP.region ?_
          refine WPL.val (v_move (v := .int .i64 _) rfl) ?_
          refine WPL.val (v_move (v := .int .i64 _) rfl) ?_
          refine WPL.val (v_lss rfl rfl) ?_
          refine WPL.nil (onto_of ?_)
          refine WP.condP rfl (fun h42 => ?_) (fun h42 => ?_)
          ·
            refine WP.skip (onto_of ?_)
            refine WP.seq ?_
            refine WP.block ?_
            refine WP.seq ?_
            refine WP.region ?_
            refine WPL.val (v_move (v := .pointer _) rfl) ?_
            refine WPL.ef (x_call Try.call32 (by have h := add_ct tp mb es2 hk2 hF2 0 0; rw [hF2.add_ok (by omega)] at h; dsimp only at h; exact h) [0] [] rfl (fun w hw => trivial) (τ := fun _ => [_]) (fun _ => rfl)) (fun es3 => ?_)
            refine WPL.fact (fun hf3 => ?_)
            refine WPL.val (v_move rfl) ?_
            refine WPL.val (v_extract (v := .int .i64 _) rfl rfl) ?_
            refine WPL.val (v_extract (v := .int .i64 _) rfl rfl) ?_
            refine WPL.val (v_assign (v := .int .i64 _) rfl) ?_
            refine WPL.val (v_assign (v := .int .i64 _) rfl) ?_
            refine WPL.nil (onto_of ?_)
            refine WP.seq ?_
            refine WP.seq ?_
            refine WP.region ?_
            refine WPL.val (v_move (v := .int .i64 _) rfl) ?_
            refine WPL.val (v_is (b := false) (v_neq rfl rfl) (decide_eq_false (fun h => h rfl))) ?_
            refine WPL.nil (onto_of ?_)
            refine WP.condF rfl ?_
            refine WP.skip (onto_of ?_)
            refine WP.seq ?_
            have hlo := hF2.least_ok
            have hF3 : ∃ d, WF (FoR es3) d := by rw [hf3.1]; have h := hF2.addR zeroS 0 0; rw [hF2.add_ok (by omega)] at h; exact h
            obtain ⟨d3, hF3⟩ := hF3
            refine WP.region ?_
            refine WPL.val (v_assign (v := .int .i64 (0)) rfl) ?_
            refine WPL.nil (onto_of ?_)
            refine WP.block ?_
            refine WP.loopK (X := Nat) [1, 5, 6, 8, 9] (fun j => [(11, .int .i64 (j : Int))]) (fun j w => (j : Int) ≤ least (FoR es2) ∧ St w0 (foots []) [treeI tp mb es3] w) (fun j => (least (FoR es2)).toNat - j) 0 ⟨rfl, trivial⟩ (fun w hw => ⟨hlo.1, (hw.sel [0] (by decide))⟩) (fun j ρ0 => ?_)
            refine WP.fact (fun hjl => ?_)
            refine WP.seq ?_
            refine WP.seq ?_
            refine WP.region ?_
            refine WPL.val (v_move (v := .int .i64 _) rfl) ?_
            refine WPL.val (v_move (v := .int .i64 _) rfl) ?_
            refine WPL.val (v_lss rfl rfl) ?_
            refine WPL.nil (onto_of ?_)
            refine WP.condP rfl (fun h54 => ?_) (fun h54 => ?_)
            ·
              have hj : hasF (FoR es3) (j : Int) = true := by rw [hf3.1]; exact addG_has (hlo.2.2.2 j (by omega) (by omega))
              refine WP.skip (onto_of ?_)
              refine WP.seq ?_
              refine WP.block ?_
              refine WP.seq ?_
              refine WP.region ?_
              refine WPL.val (v_move (v := .pointer _) rfl) ?_
              refine WPL.val (v_move (v := .int .i64 _) rfl) ?_
              refine WPL.ef (x_call Try.call14 (by have h := has_ct tp mb es3 (j : Int); rw [hj] at h; exact h) [0] [] rfl (fun w hw => trivial) (τ := fun _ => [_]) (fun _ => rfl)) (fun _ => ?_)
              refine WPL.fact (fun _ => ?_)
              refine WPL.val (v_not rfl) ?_
              refine WPL.nil (onto_of ?_)
              refine WP.condF rfl ?_
              refine WP.skip (onto_of ?_)
              refine WP.region ?_
              refine WPL.val (v_move (v := .int .i64 _) rfl) ?_
              refine WPL.val (v_add rfl rfl (by omega)) ?_
              refine WPL.val (v_assign (v := .int .i64 _) rfl) ?_
              exact WPL.nil fun w hw => ⟨rfl, j + 1, (by omega), ⟨rfl, (via (.int .i64 _) rfl rfl), (via (.bool _) rfl rfl), (via (.pointer _) rfl rfl), (via (.int .i64 _) rfl rfl), (via (.int .i64 _) rfl rfl), trivial⟩, ⟨by omega, (hw.sel [0] (by decide))⟩⟩
            ·
              refine WP.exit (onto_of ?_)
              refine WP.region ?_
              refine WPL.val (v_move (v := .int .i64 _) rfl) ?_
              refine WPL.val (v_add rfl rfl (by omega)) ?_
              refine WPL.val (v_assign (v := .int .i64 _) rfl) ?_
              exact WPL.nil fun w hw => ⟨rfl, (m + 1, es3), (by simp only; omega), ⟨rfl, (via (.int .i64 _) rfl rfl), (via (.bool _) rfl rfl), (via (.pointer _) rfl rfl), trivial⟩, ⟨⟨by simp only; omega, ⟨d3, hF3⟩, hf3.2, by rw [hf3.1]; have := hF2.len_le' (hf3.1 ▸ hF3) (least (FoR es2)) (fun x hx => has_addG hx); simp only; push_cast; omega⟩, (hw.sel [0] (by decide))⟩⟩
          ·
            have h0 : hasF (FoR es2) 0 = true := by obtain ⟨b, hb, _⟩ := hF2.root; exact has_some hb
            have hneg : hasF (FoR es2) (-1) = false := has_none (hF2.neg (by decide))
            refine WP.exit (onto_of ?_)
            refine WP.seq ?_
            refine WP.region ?_
            refine WPL.val (v_move (v := .bool _) rfl) ?_
            refine WPL.val (v_move (v := .bool _) rfl) ?_
            refine WPL.valG (v_move (v := .pointer _) rfl) ?_
            refine WPL.efG (x_call Try.call26 (order_ct tp mb es2 hk2 hF2) [0] [] rfl (fun w hw => trivial) (τ := fun _ => [_, _]) (fun _ => rfl)) (fun ⟨rA, rc⟩ => ?_)
            refine WPL.fact (fun _ => ?_)
            refine WPL.valG (v_len Try.underlying50 rfl) ?_
            refine WPL.valG (v_move (v := .pointer _) rfl) ?_
            refine WPL.efG (x_call Try.call27 (len_ct tp mb es2) [0] [1] rfl (fun w hw => trivial) (τ := fun _ => [_, _]) (fun _ => rfl)) (fun _ => ?_)
            refine WPL.fact (fun _ => ?_)
            refine WPL.valG (v_is (b := true) (v_eql rfl rfl) (decide_eq_true (by have := len_es hk2 hF2; exact this))) ?_
            refine WPL.val (v_pickT (u := .bool _) rfl rfl) ?_
            refine WPL.val (v_move (v := .bool _) rfl) ?_
            refine WPL.valG (v_move (v := .pointer _) rfl) ?_
            refine WPL.efG (x_call Try.call14 (by have h := has_ct tp mb es2 0; rw [h0] at h; exact h) [1] [0] rfl (fun w hw => trivial) (τ := fun _ => [_, _]) (fun _ => rfl)) (fun _ => ?_)
            refine WPL.fact (fun _ => ?_)
            refine WPL.val (v_pickT (u := .bool _) rfl rfl) ?_
            refine WPL.val (v_move (v := .bool _) rfl) ?_
            refine WPL.valG (v_move (v := .pointer _) rfl) ?_
            refine WPL.efG (x_call Try.call14 (by have h := has_ct tp mb es2 (-1); rw [hneg] at h; exact h) [1] [0] rfl (fun w hw => trivial) (τ := fun _ => [_, _]) (fun _ => rfl)) (fun _ => ?_)
            refine WPL.fact (fun _ => ?_)
            refine WPL.valG (v_not rfl) ?_
            refine WPL.val (v_pickT (u := .bool _) rfl rfl) ?_
            refine WPL.val (v_assign (v := .bool _) rfl) ?_
            refine WPL.nil (onto_of ?_)
            exact WP.ret1 Try.results9 (fun _ h => h) (fun w hw => ⟨(), rfl, trivial, hw.sel [] (by decide)⟩)
end Go.Proofs.Ytmjdmlgdffoimaa
