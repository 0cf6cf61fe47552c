/- record's walk through what is true, or not: as Put and as Get have it. -/
import Derived.Test.YtabdcfobdehhiaaRecLen
namespace Go.Proofs.Ytabdcfobdehhiaa
open Go.RowKit

theorem putBool_ct (wk sb lb j : Nat) (bad : Bool) (cs : List Value) (A : Option Addr) (c : Nat) (l : List Int) (b : Bool) (hl : l.length ≤ 100) (hj : cs[j]? = some (.bool b)) :
    Ct Try.prog 75 #[.pointer (some ⟨wk, 0, none⟩), .pointer (some ⟨sb, j, none⟩)] [walkI wk (putF lb) bad, styI sb cs, boxI lb A c l, intsI A c l] (fun _ => True) (X := Option Addr × Nat) (fun _ => .tuple #[]) (fun _ => True)
      (fun p => [walkI wk (putF lb) bad, styI sb cs, boxI lb p.1 p.2 (l ++ [bit01 b]), intsI p.1 p.2 (l ++ [bit01 b])]) := by
  refine Ct.intro Try.func75 rfl Try.ntmps75 (by simp) (fun w0 _ => ?_)
  refine WP.seq ?_
  refine WP.region ?_
  refine WPL.val (v_assign (v := .int .i64 (0)) rfl) ?_
  refine WPL.nil (onto_of ?_)
  refine WP.seq ?_
  refine WP.seq ?_
  have hjl := (List.getElem?_eq_some_iff.1 hj).1
  refine WP.region ?_
  refine WPL.val (v_move (v := .pointer _) rfl) ?_
  refine WPL.val (v_nil rfl) ?_
  refine WPL.val (v_load1 (u := .bool _) Try.isAgg4 rfl (fun w hw => hw.cl_at (i := 1) rfl j (cell_of hj))) ?_
  refine WPL.nil (onto_of ?_)
  refine WP.cond rfl (fun h7 => ?_) (fun h7 => ?_)
  ·
    subst h7
    refine WP.region ?_
    refine WPL.val (v_assign (v := .int .i64 (1)) rfl) ?_
    refine WPL.nil (onto_of ?_)
    refine WP.seq ?_
    refine WP.region ?_
    refine WPL.val (v_move (v := .pointer _) rfl) ?_
    refine WPL.val (v_nil rfl) ?_
    refine WPL.val (v_fieldL (o' := 0) Try.underlying96 rfl Try.sizeOf94 rfl rfl) ?_
    refine WPL.val (v_load1 (u := _) Try.isAgg94 rfl (fun w hw => hw.cl_at (i := 0) rfl _ rfl)) ?_
    refine WPL.val (v_move (v := .int .i64 _) rfl) ?_
    refine WPL.ef (x_callV Try.call54 (putEach_ct lb A c l _ hl) [2, 3] [0, 1] rfl (fun w hw => trivial) (τ := fun _ => [_, _, _, _]) (fun _ => rfl)) (fun ⟨A1, c1⟩ => ?_)
    refine WPL.fact (fun _ => ?_)
    refine WPL.val (v_assign (v := .int .i64 _) rfl) ?_
    refine WPL.nil (onto_of ?_)
    refine WP.seq ?_
    refine WP.region ?_
    refine WPL.val (v_move (v := .pointer _) rfl) ?_
    refine WPL.val (v_move (v := .pointer _) rfl) ?_
    refine WPL.val (v_nil rfl) ?_
    refine WPL.val (v_fieldL (o' := 1) Try.underlying96 rfl Try.sizeOf4 rfl rfl) ?_
    refine WPL.val (v_load1 (u := .bool _) Try.isAgg4 rfl (fun w hw => hw.cl_at (i := 0) rfl _ rfl)) ?_
    refine WPL.val (v_move (v := .bool _) rfl) ?_
    refine WPL.splitB 19 rfl (fun h19 => ?_) (fun h19 => ?_)
    ·
      subst h19
      refine WPL.skipG ?_
      refine WPL.skipG ?_
      refine WPL.skipG ?_
      refine WPL.val (v_pickT (u := .bool _) rfl rfl) ?_
      refine WPL.val (v_nil rfl) ?_
      refine WPL.val (v_fieldL (o' := 1) Try.underlying96 rfl Try.sizeOf4 rfl rfl) ?_
      refine WPL.ef0 (x_store (u := .bool _) (σ' := [.cl _ _ [_, _], _, _, _]) Try.sizeOf4 rfl rfl (i := 0) rfl (Nat.lt_of_lt_of_le (Nat.lt_succ_self _) (Nat.le_of_ble_eq_true rfl)) rfl) (fun _ => ?_)
      refine WPL.nil (onto_of ?_)
      refine WP.region ?_
      refine WPL.val (v_move (v := .pointer _) rfl) ?_
      refine WPL.val (v_move (v := .int .i64 _) rfl) ?_
      refine WPL.val (v_eql rfl rfl) ?_
      refine WPL.val (v_nil rfl) ?_
      refine WPL.ef0 (x_store (u := .bool _) (σ' := [_, _, _, _]) Try.sizeOf4 rfl rfl (i := 1) rfl (by first | omega | (simp; omega)) rfl) (fun _ => ?_)
      rw [show (Value.bool (decide ((1 : Int) = 1))) = .bool true from rfl, set_self hj]
      exact WPL.nil fun w hw => RetQ.of0 Try.results75 (.inr rfl) ⟨(A1, c1), rfl, trivial, (hw.sel [0, 1, 2, 3] (by decide))⟩
    ·
      subst h19
      refine WPL.valG (v_move (v := .int .i64 _) rfl) ?_
      refine WPL.valG (v_call Try.call44 (fun w hw => in44_any _ 0 1 _)) ?_
      refine WPL.valG (v_not rfl) ?_
      refine WPL.val (v_pickF (v := .bool _) rfl rfl) ?_
      refine WPL.val (v_nil rfl) ?_
      refine WPL.val (v_fieldL (o' := 1) Try.underlying96 rfl Try.sizeOf4 rfl rfl) ?_
      refine WPL.ef0 (x_store (u := .bool _) (σ' := [.cl _ _ [_, _], _, _, _]) Try.sizeOf4 rfl rfl (i := 0) rfl (Nat.lt_of_lt_of_le (Nat.lt_succ_self _) (Nat.le_of_ble_eq_true rfl)) rfl) (fun _ => ?_)
      refine WPL.nil (onto_of ?_)
      refine WP.region ?_
      refine WPL.val (v_move (v := .pointer _) rfl) ?_
      refine WPL.val (v_move (v := .int .i64 _) rfl) ?_
      refine WPL.val (v_eql rfl rfl) ?_
      refine WPL.val (v_nil rfl) ?_
      refine WPL.ef0 (x_store (u := .bool _) (σ' := [_, _, _, _]) Try.sizeOf4 rfl rfl (i := 1) rfl (by first | omega | (simp; omega)) rfl) (fun _ => ?_)
      rw [show (Value.bool (decide ((1 : Int) = 1))) = .bool true from rfl, set_self hj]
      exact WPL.nil fun w hw => RetQ.of0 Try.results75 (.inr rfl) ⟨(A1, c1), rfl, trivial, (hw.sel [0, 1, 2, 3] (by decide))⟩
  ·
    subst h7
    refine WP.skip (onto_of ?_)
    refine WP.seq ?_
    refine WP.region ?_
    refine WPL.val (v_move (v := .pointer _) rfl) ?_
    refine WPL.val (v_nil rfl) ?_
    refine WPL.val (v_fieldL (o' := 0) Try.underlying96 rfl Try.sizeOf94 rfl rfl) ?_
    refine WPL.val (v_load1 (u := _) Try.isAgg94 rfl (fun w hw => hw.cl_at (i := 0) rfl _ rfl)) ?_
    refine WPL.val (v_move (v := .int .i64 _) rfl) ?_
    refine WPL.ef (x_callV Try.call54 (putEach_ct lb A c l _ hl) [2, 3] [0, 1] rfl (fun w hw => trivial) (τ := fun _ => [_, _, _, _]) (fun _ => rfl)) (fun ⟨A1, c1⟩ => ?_)
    refine WPL.fact (fun _ => ?_)
    refine WPL.val (v_assign (v := .int .i64 _) rfl) ?_
    refine WPL.nil (onto_of ?_)
    refine WP.seq ?_
    refine WP.region ?_
    refine WPL.val (v_move (v := .pointer _) rfl) ?_
    refine WPL.val (v_move (v := .pointer _) rfl) ?_
    refine WPL.val (v_nil rfl) ?_
    refine WPL.val (v_fieldL (o' := 1) Try.underlying96 rfl Try.sizeOf4 rfl rfl) ?_
    refine WPL.val (v_load1 (u := .bool _) Try.isAgg4 rfl (fun w hw => hw.cl_at (i := 0) rfl _ rfl)) ?_
    refine WPL.val (v_move (v := .bool _) rfl) ?_
    refine WPL.splitB 19 rfl (fun h19 => ?_) (fun h19 => ?_)
    ·
      subst h19
      refine WPL.skipG ?_
      refine WPL.skipG ?_
      refine WPL.skipG ?_
      refine WPL.val (v_pickT (u := .bool _) rfl rfl) ?_
      refine WPL.val (v_nil rfl) ?_
      refine WPL.val (v_fieldL (o' := 1) Try.underlying96 rfl Try.sizeOf4 rfl rfl) ?_
      refine WPL.ef0 (x_store (u := .bool _) (σ' := [.cl _ _ [_, _], _, _, _]) Try.sizeOf4 rfl rfl (i := 0) rfl (Nat.lt_of_lt_of_le (Nat.lt_succ_self _) (Nat.le_of_ble_eq_true rfl)) rfl) (fun _ => ?_)
      refine WPL.nil (onto_of ?_)
      refine WP.region ?_
      refine WPL.val (v_move (v := .pointer _) rfl) ?_
      refine WPL.val (v_move (v := .int .i64 _) rfl) ?_
      refine WPL.val (v_eql rfl rfl) ?_
      refine WPL.val (v_nil rfl) ?_
      refine WPL.ef0 (x_store (u := .bool _) (σ' := [_, _, _, _]) Try.sizeOf4 rfl rfl (i := 1) rfl (by first | omega | (simp; omega)) rfl) (fun _ => ?_)
      rw [show (Value.bool (decide ((0 : Int) = 1))) = .bool false from rfl, set_self hj]
      exact WPL.nil fun w hw => RetQ.of0 Try.results75 (.inr rfl) ⟨(A1, c1), rfl, trivial, (hw.sel [0, 1, 2, 3] (by decide))⟩
    ·
      subst h19
      refine WPL.valG (v_move (v := .int .i64 _) rfl) ?_
      refine WPL.valG (v_call Try.call44 (fun w hw => in44_any _ 0 1 _)) ?_
      refine WPL.valG (v_not rfl) ?_
      refine WPL.val (v_pickF (v := .bool _) rfl rfl) ?_
      refine WPL.val (v_nil rfl) ?_
      refine WPL.val (v_fieldL (o' := 1) Try.underlying96 rfl Try.sizeOf4 rfl rfl) ?_
      refine WPL.ef0 (x_store (u := .bool _) (σ' := [.cl _ _ [_, _], _, _, _]) Try.sizeOf4 rfl rfl (i := 0) rfl (Nat.lt_of_lt_of_le (Nat.lt_succ_self _) (Nat.le_of_ble_eq_true rfl)) rfl) (fun _ => ?_)
      refine WPL.nil (onto_of ?_)
      refine WP.region ?_
      refine WPL.val (v_move (v := .pointer _) rfl) ?_
      refine WPL.val (v_move (v := .int .i64 _) rfl) ?_
      refine WPL.val (v_eql rfl rfl) ?_
      refine WPL.val (v_nil rfl) ?_
      refine WPL.ef0 (x_store (u := .bool _) (σ' := [_, _, _, _]) Try.sizeOf4 rfl rfl (i := 1) rfl (by first | omega | (simp; omega)) rfl) (fun _ => ?_)
      rw [show (Value.bool (decide ((0 : Int) = 1))) = .bool false from rfl, set_self hj]
      exact WPL.nil fun w hw => RetQ.of0 Try.results75 (.inr rfl) ⟨(A1, c1), rfl, trivial, (hw.sel [0, 1, 2, 3] (by decide))⟩
theorem getBool_ct (wk sb ab lb j k : Nat) (bad : Bool) (cs : List Value) (A : Option Addr) (c : Nat) (l : List Int) (v : Int) (b : Bool) (hl : l.length ≤ 100) (hj : cs[j]? = some (.bool b)) (hv : l[k]? = some v) :
    Ct Try.prog 75 #[.pointer (some ⟨wk, 0, none⟩), .pointer (some ⟨sb, j, none⟩)] [walkI wk (getF ab lb) bad, styI sb cs, atI ab k, boxI lb A c l] (fun w => RdI w A l ∧ Far A [wk, sb, ab, lb]) (X := Unit) (fun _ => .tuple #[]) (fun _ => True)
      (fun _ => [walkI wk (getF ab lb) (bad || !within v 0 1), styI sb (cs.set j (.bool (decide (v = 1)))), atI ab (k + 1), boxI lb A c l]) := by
  refine Ct.intro Try.func75 rfl Try.ntmps75 (by simp) (fun w0 ⟨hz, hfar⟩ => ?_)
  refine WP.seq ?_
  refine WP.region ?_
  refine WPL.val (v_assign (v := .int .i64 (0)) rfl) ?_
  refine WPL.nil (onto_of ?_)
  refine WP.seq ?_
  refine WP.seq ?_
  have hjl := (List.getElem?_eq_some_iff.1 hj).1
  refine WP.region ?_
  refine WPL.val (v_move (v := .pointer _) rfl) ?_
  refine WPL.val (v_nil rfl) ?_
  refine WPL.val (v_load1 (u := .bool _) Try.isAgg4 rfl (fun w hw => hw.cl_at (i := 1) rfl j (cell_of hj))) ?_
  refine WPL.nil (onto_of ?_)
  refine WP.cond rfl (fun h7 => ?_) (fun h7 => ?_)
  ·
    refine WP.region ?_
    refine WPL.val (v_assign (v := .int .i64 (1)) rfl) ?_
    refine WPL.nil (onto_of ?_)
    refine WP.seq ?_
    refine WP.region ?_
    refine WPL.val (v_move (v := .pointer _) rfl) ?_
    refine WPL.val (v_nil rfl) ?_
    refine WPL.val (v_fieldL (o' := 0) Try.underlying96 rfl Try.sizeOf94 rfl rfl) ?_
    refine WPL.val (v_load1 (u := _) Try.isAgg94 rfl (fun w hw => hw.cl_at (i := 0) rfl _ rfl)) ?_
    refine WPL.val (v_move (v := .int .i64 _) rfl) ?_
    refine WPL.ef (x_callV Try.call57 (getEach_ct ab lb A c l k v _ hv hl) [2, 3] [0, 1] rfl (fun w hw => ⟨hw.rdM hz (far_four hfar), far_two hfar⟩) (τ := fun _ => [_, _, _, _]) (fun _ => rfl)) (fun _ => ?_)
    refine WPL.fact (fun _ => ?_)
    refine WPL.val (v_assign (v := .int .i64 _) rfl) ?_
    refine WPL.nil (onto_of ?_)
    refine WP.seq ?_
    refine WP.region ?_
    refine WPL.val (v_move (v := .pointer _) rfl) ?_
    refine WPL.val (v_move (v := .pointer _) rfl) ?_
    refine WPL.val (v_nil rfl) ?_
    refine WPL.val (v_fieldL (o' := 1) Try.underlying96 rfl Try.sizeOf4 rfl rfl) ?_
    refine WPL.val (v_load1 (u := .bool _) Try.isAgg4 rfl (fun w hw => hw.cl_at (i := 0) rfl _ rfl)) ?_
    refine WPL.val (v_move (v := .bool _) rfl) ?_
    refine WPL.splitB 19 rfl (fun h19 => ?_) (fun h19 => ?_)
    ·
      subst h19
      refine WPL.skipG ?_
      refine WPL.skipG ?_
      refine WPL.skipG ?_
      refine WPL.val (v_pickT (u := .bool _) rfl rfl) ?_
      refine WPL.val (v_nil rfl) ?_
      refine WPL.val (v_fieldL (o' := 1) Try.underlying96 rfl Try.sizeOf4 rfl rfl) ?_
      refine WPL.ef0 (x_store (u := .bool _) (σ' := [.cl _ _ [_, _], _, _, _]) Try.sizeOf4 rfl rfl (i := 0) rfl (Nat.lt_of_lt_of_le (Nat.lt_succ_self _) (Nat.le_of_ble_eq_true rfl)) rfl) (fun _ => ?_)
      refine WPL.nil (onto_of ?_)
      refine WP.region ?_
      refine WPL.val (v_move (v := .pointer _) rfl) ?_
      refine WPL.val (v_move (v := .int .i64 _) rfl) ?_
      refine WPL.val (v_eql rfl rfl) ?_
      refine WPL.val (v_nil rfl) ?_
      refine WPL.ef0 (x_store (u := .bool _) (σ' := [_, _, _, _]) Try.sizeOf4 rfl rfl (i := 1) rfl (by first | omega | (simp; omega)) rfl) (fun _ => ?_)
      exact WPL.nil fun w hw => RetQ.of0 Try.results75 (.inr rfl) ⟨(), rfl, trivial, (hw.sel [0, 1, 2, 3] (by decide))⟩
    ·
      subst h19
      refine WPL.valG (v_move (v := .int .i64 _) rfl) ?_
      refine WPL.valG (v_call Try.call44 (fun w hw => in44_any _ 0 1 _)) ?_
      refine WPL.valG (v_not rfl) ?_
      refine WPL.val (v_pickF (v := .bool _) rfl rfl) ?_
      refine WPL.val (v_nil rfl) ?_
      refine WPL.val (v_fieldL (o' := 1) Try.underlying96 rfl Try.sizeOf4 rfl rfl) ?_
      refine WPL.ef0 (x_store (u := .bool _) (σ' := [.cl _ _ [_, _], _, _, _]) Try.sizeOf4 rfl rfl (i := 0) rfl (Nat.lt_of_lt_of_le (Nat.lt_succ_self _) (Nat.le_of_ble_eq_true rfl)) rfl) (fun _ => ?_)
      refine WPL.nil (onto_of ?_)
      refine WP.region ?_
      refine WPL.val (v_move (v := .pointer _) rfl) ?_
      refine WPL.val (v_move (v := .int .i64 _) rfl) ?_
      refine WPL.val (v_eql rfl rfl) ?_
      refine WPL.val (v_nil rfl) ?_
      refine WPL.ef0 (x_store (u := .bool _) (σ' := [_, _, _, _]) Try.sizeOf4 rfl rfl (i := 1) rfl (by first | omega | (simp; omega)) rfl) (fun _ => ?_)
      exact WPL.nil fun w hw => RetQ.of0 Try.results75 (.inr rfl) ⟨(), rfl, trivial, (hw.sel [0, 1, 2, 3] (by decide))⟩
  ·
    refine WP.skip (onto_of ?_)
    refine WP.seq ?_
    refine WP.region ?_
    refine WPL.val (v_move (v := .pointer _) rfl) ?_
    refine WPL.val (v_nil rfl) ?_
    refine WPL.val (v_fieldL (o' := 0) Try.underlying96 rfl Try.sizeOf94 rfl rfl) ?_
    refine WPL.val (v_load1 (u := _) Try.isAgg94 rfl (fun w hw => hw.cl_at (i := 0) rfl _ rfl)) ?_
    refine WPL.val (v_move (v := .int .i64 _) rfl) ?_
    refine WPL.ef (x_callV Try.call57 (getEach_ct ab lb A c l k v _ hv hl) [2, 3] [0, 1] rfl (fun w hw => ⟨hw.rdM hz (far_four hfar), far_two hfar⟩) (τ := fun _ => [_, _, _, _]) (fun _ => rfl)) (fun _ => ?_)
    refine WPL.fact (fun _ => ?_)
    refine WPL.val (v_assign (v := .int .i64 _) rfl) ?_
    refine WPL.nil (onto_of ?_)
    refine WP.seq ?_
    refine WP.region ?_
    refine WPL.val (v_move (v := .pointer _) rfl) ?_
    refine WPL.val (v_move (v := .pointer _) rfl) ?_
    refine WPL.val (v_nil rfl) ?_
    refine WPL.val (v_fieldL (o' := 1) Try.underlying96 rfl Try.sizeOf4 rfl rfl) ?_
    refine WPL.val (v_load1 (u := .bool _) Try.isAgg4 rfl (fun w hw => hw.cl_at (i := 0) rfl _ rfl)) ?_
    refine WPL.val (v_move (v := .bool _) rfl) ?_
    refine WPL.splitB 19 rfl (fun h19 => ?_) (fun h19 => ?_)
    ·
      subst h19
      refine WPL.skipG ?_
      refine WPL.skipG ?_
      refine WPL.skipG ?_
      refine WPL.val (v_pickT (u := .bool _) rfl rfl) ?_
      refine WPL.val (v_nil rfl) ?_
      refine WPL.val (v_fieldL (o' := 1) Try.underlying96 rfl Try.sizeOf4 rfl rfl) ?_
      refine WPL.ef0 (x_store (u := .bool _) (σ' := [.cl _ _ [_, _], _, _, _]) Try.sizeOf4 rfl rfl (i := 0) rfl (Nat.lt_of_lt_of_le (Nat.lt_succ_self _) (Nat.le_of_ble_eq_true rfl)) rfl) (fun _ => ?_)
      refine WPL.nil (onto_of ?_)
      refine WP.region ?_
      refine WPL.val (v_move (v := .pointer _) rfl) ?_
      refine WPL.val (v_move (v := .int .i64 _) rfl) ?_
      refine WPL.val (v_eql rfl rfl) ?_
      refine WPL.val (v_nil rfl) ?_
      refine WPL.ef0 (x_store (u := .bool _) (σ' := [_, _, _, _]) Try.sizeOf4 rfl rfl (i := 1) rfl (by first | omega | (simp; omega)) rfl) (fun _ => ?_)
      exact WPL.nil fun w hw => RetQ.of0 Try.results75 (.inr rfl) ⟨(), rfl, trivial, (hw.sel [0, 1, 2, 3] (by decide))⟩
    ·
      subst h19
      refine WPL.valG (v_move (v := .int .i64 _) rfl) ?_
      refine WPL.valG (v_call Try.call44 (fun w hw => in44_any _ 0 1 _)) ?_
      refine WPL.valG (v_not rfl) ?_
      refine WPL.val (v_pickF (v := .bool _) rfl rfl) ?_
      refine WPL.val (v_nil rfl) ?_
      refine WPL.val (v_fieldL (o' := 1) Try.underlying96 rfl Try.sizeOf4 rfl rfl) ?_
      refine WPL.ef0 (x_store (u := .bool _) (σ' := [.cl _ _ [_, _], _, _, _]) Try.sizeOf4 rfl rfl (i := 0) rfl (Nat.lt_of_lt_of_le (Nat.lt_succ_self _) (Nat.le_of_ble_eq_true rfl)) rfl) (fun _ => ?_)
      refine WPL.nil (onto_of ?_)
      refine WP.region ?_
      refine WPL.val (v_move (v := .pointer _) rfl) ?_
      refine WPL.val (v_move (v := .int .i64 _) rfl) ?_
      refine WPL.val (v_eql rfl rfl) ?_
      refine WPL.val (v_nil rfl) ?_
      refine WPL.ef0 (x_store (u := .bool _) (σ' := [_, _, _, _]) Try.sizeOf4 rfl rfl (i := 1) rfl (by first | omega | (simp; omega)) rfl) (fun _ => ?_)
      exact WPL.nil fun w hw => RetQ.of0 Try.results75 (.inr rfl) ⟨(), rfl, trivial, (hw.sel [0, 1, 2, 3] (by decide))⟩
end Go.Proofs.Ytabdcfobdehhiaa
