/- record's walk through a number: as Put and as Get have it. -/
import Derived.Test.YtabdcfobdehhiaaRecPure
namespace Go.Proofs.Ytabdcfobdehhiaa
open Go.RowKit

abbrev intsV (A : Option Addr) (c : Nat) (l : List Int) : Value := .slice A l.length c
abbrev intsI (A : Option Addr) (c : Nat) (l : List Int) : HI := .row 3 1 A l.length c (l.map (Value.int .i64))
theorem intsI_snoc (A : Option Addr) (c : Nat) (l : List Int) (x : Int) : intsI A c (l ++ [x]) = .row 3 1 A (l.length + 1) c (l.map (Value.int .i64) ++ [.int .i64 x]) := by simp [intsI]
theorem intsV_snoc (A : Option Addr) (c : Nat) (l : List Int) (x : Int) : intsV A c (l ++ [x]) = .slice A (l.length + 1) c := by simp [intsV]
abbrev boxI (b : Nat) (A : Option Addr) (c : Nat) (l : List Int) : HI := .cl b 32 [intsV A c l]
abbrev putF (lb : Nat) : Value := .func (.func 54) #[] #[.pointer (some ⟨lb, 0, none⟩)]
abbrev getF (ab lb : Nat) : Value := .func (.func 57) #[] #[.pointer (some ⟨ab, 0, none⟩), .pointer (some ⟨lb, 0, none⟩)]
abbrev walkI (wk : Nat) (f : Value) (bad : Bool) : HI := .cl wk 96 [f, .bool bad]
abbrev styI (sb : Nat) (cs : List Value) : HI := .cl sb 57 cs
abbrev atI (ab : Nat) (k : Nat) : HI := .cl ab 3 [.int .i64 (k : Int)]
theorem cell_of {cs : List Value} {j : Nat} {u : Value} (h : cs[j]? = some u) : (cs.drop j).take ([u] : List Value).length = [u] := by
  have hj := (List.getElem?_eq_some_iff.1 h).1
  rw [List.drop_eq_getElem_cons hj, (List.getElem?_eq_some_iff.1 h).2]
  rfl
theorem set_self {cs : List Value} {j : Nat} {u : Value} (h : cs[j]? = some u) : cs.set j u = cs := by
  apply List.ext_getElem?
  intro i
  by_cases e : i = j
  · subst e; rw [h, List.getElem?_set_self (List.getElem?_eq_some_iff.1 h).1]
  · rw [List.getElem?_set_ne (Ne.symm e)]

theorem not_two {ab lb b k : Nat} {A : Option Addr} {c : Nat} {l : List Int} (h1 : b ≠ ab) (h2 : b ≠ lb) : ¬ foots [atI ab k, boxI lb A c l] b := by
  simp [foots, HI.foot, h1, h2]
theorem putEach_ct (lb : Nat) (A : Option Addr) (c : Nat) (l : List Int) (z : Int) (hl : l.length ≤ 100) :
    Ct Try.prog 54 #[.int .i64 z, .pointer (some ⟨lb, 0, none⟩)] [boxI lb A c l, intsI A c l] (fun _ => True) (X := Option Addr × Nat) (fun _ => .int .i64 z) (fun _ => True) (fun p => [boxI lb p.1 p.2 (l ++ [z]), intsI p.1 p.2 (l ++ [z])]) := by
  refine Ct.intro Try.func54 rfl Try.ntmps54 (by simp) (fun w0 _ => ?_)
  refine WP.seq ?_
  refine WP.region ?_
  refine WPL.val (v_assign (v := .int .i64 (0)) rfl) ?_
  refine WPL.nil (onto_of ?_)
  refine WP.seq ?_
  refine WP.region ?_
  refine WPL.val (v_load1 (u := .slice _ _ _) Try.isAgg32 rfl (fun w hw => hw.cl_at (i := 0) rfl _ rfl)) ?_
  refine WPL.val (v_move (v := .int .i64 _) rfl) ?_
  refine WPL.ef (x_buildSlice (us := [.int .i64 _]) (σ' := fun _ => [_, _, _]) Try.underlying32 Try.sizeOf3 Try.zeroValue3 rfl rfl rfl (by decide) (by decide) (fun _ => rfl)) (fun g6 => ?_)
  refine WPL.ef (x_append (sz := 1) (σ' := fun _ => [_, _, _]) Try.underlying32 int_info rfl (by decide) rfl rfl (i := 1) rfl (fun w hw => hw.src_row (i := 2) rfl) rfl (by simp [Value.oneCell']) (by omega) (by omega) (fun _ => rfl)) (fun ⟨A7, c7⟩ => ?_)
  refine WPL.ef0 (x_store (u := .slice _ _ _) (σ' := [.cl _ _ [_], _, _]) Try.sizeOf32 rfl rfl (i := 0) rfl (Nat.lt_of_lt_of_le (Nat.lt_succ_self _) (Nat.le_of_ble_eq_true rfl)) rfl) (fun _ => ?_)
  refine WPL.nil (onto_of ?_)
  refine WP.seq ?_
  refine WP.region ?_
  refine WPL.val (v_move (v := .int .i64 _) rfl) ?_
  refine WPL.val (v_assign (v := .int .i64 _) rfl) ?_
  refine WPL.nil (onto_of ?_)
  exact WP.ret1 Try.results54 (fun _ h => h) (fun w hw => ⟨(A7, c7), rfl, trivial, by rw [intsI_snoc, show boxI lb A7 c7 (l ++ [z]) = .cl lb 32 [.slice A7 (l.length + 1) c7] by simp [boxI]]; exact (hw.sel [0, 1] (by decide))⟩)
theorem getEach_ct (ab lb : Nat) (A : Option Addr) (c : Nat) (l : List Int) (k : Nat) (v z : Int) (hv : l[k]? = some v) (hl : l.length ≤ 100) :
    Ct Try.prog 57 #[.int .i64 z, .pointer (some ⟨ab, 0, none⟩), .pointer (some ⟨lb, 0, none⟩)] [atI ab k, boxI lb A c l] (fun w => RdI w A l ∧ ∀ a, A = some a → a.block ≠ ab ∧ a.block ≠ lb) (X := Unit) (fun _ => .int .i64 v) (fun _ => True) (fun _ => [atI ab (k + 1), boxI lb A c l]) := by
  refine Ct.intro Try.func57 rfl Try.ntmps57 (by simp) (fun w0 ⟨hz, hne⟩ => ?_)
  refine WP.seq ?_
  refine WP.region ?_
  refine WPL.val (v_assign (v := .int .i64 (0)) rfl) ?_
  refine WPL.nil (onto_of ?_)
  refine WP.seq ?_
  have hk := (List.getElem?_eq_some_iff.1 hv).1
  refine WP.region ?_
  refine WPL.val (v_load1 (u := .int .i64 _) Try.isAgg3 rfl (fun w hw => hw.cl_at (i := 0) rfl _ rfl)) ?_
  refine WPL.val (v_add rfl rfl (by omega)) ?_
  refine WPL.ef0 (x_store (u := .int .i64 _) (σ' := [.cl _ _ [_], _]) Try.sizeOf3 rfl rfl (i := 0) rfl (Nat.lt_of_lt_of_le (Nat.lt_succ_self _) (Nat.le_of_ble_eq_true rfl)) rfl) (fun _ => ?_)
  refine WPL.nil (onto_of ?_)
  refine WP.seq ?_
  obtain ⟨b, o, rfl, hc⟩ := hz k v hv
  have hn2 := not_two (k := k) (A := some ⟨b, o, none⟩) (c := c) (l := l) (hne _ rfl).1 (hne _ rfl).2
  refine WP.region ?_
  refine WPL.val (v_load1 (u := .slice _ _ _) Try.isAgg32 rfl (fun w hw => hw.cl_at (i := 1) rfl _ rfl)) ?_
  refine WPL.val (v_load1 (u := .int .i64 _) Try.isAgg3 rfl (fun w hw => hw.cl_at (i := 0) rfl _ rfl)) ?_
  refine WPL.val (v_sub rfl rfl (by omega)) ?_
  refine WPL.val (v_index (j := k) Try.underlying32 Try.sizeOf3 rfl rfl (by omega) (by omega)) ?_
  refine WPL.val (v_load1 (u := .int .i64 _) Try.isAgg3 rfl (fun w hw => hw.old_at hc hn2)) ?_
  refine WPL.val (v_assign (v := .int .i64 _) rfl) ?_
  refine WPL.nil (onto_of ?_)
  exact WP.ret1 Try.results57 (fun _ h => h) (fun w hw => ⟨(), rfl, trivial, (hw.sel [0, 1] (by decide))⟩)
theorem put72_ct (wk sb lb j : Nat) (bad : Bool) (cs : List Value) (A : Option Addr) (c : Nat) (l : List Int) (z : Int) (hl : l.length ≤ 100) (hj : cs[j]? = some (.int .i64 z)) :
    Ct Try.prog 72 #[.pointer (some ⟨wk, 0, none⟩), .pointer (some ⟨sb, j, none⟩)] [walkI wk (putF lb) bad, styI sb cs, boxI lb A c l, intsI A c l] (fun _ => True) (X := Option Addr × Nat) (fun _ => .tuple #[]) (fun _ => True)
      (fun p => [walkI wk (putF lb) bad, styI sb cs, boxI lb p.1 p.2 (l ++ [z]), intsI p.1 p.2 (l ++ [z])]) := by
  refine Ct.intro Try.func72 rfl Try.ntmps72 (by simp) (fun w0 _ => ?_)
  have hjl := (List.getElem?_eq_some_iff.1 hj).1
  refine WP.drawSel (some 10) [0, 1] [(0, true), (1, true), (2, true), (3, true), (4, true), (5, true), (6, true), (7, true), (8, false), (9, true), (10, false)] mixed (by kernel_rfl) (by decide) ?_
  refine WPD.take rfl (v_move (v := .pointer _) rfl) ?_ (fun _ h => h.sel [0, 1] (by decide))
  refine WPD.take rfl (v_move (v := .pointer _) rfl) ?_ (fun _ h => h.sel [0, 1] (by decide))
  refine WPD.take rfl (v_nil rfl) ?_ (fun _ h => h.sel [0, 1] (by decide))
  refine WPD.take rfl (v_fieldL (o' := 0) Try.underlying96 rfl Try.sizeOf94 rfl rfl) ?_ (fun _ h => h.sel [0, 1] (by decide))
  refine WPD.take rfl (v_load1 (u := _) Try.isAgg94 rfl (fun w hw => hw.cl_at (i := 0) rfl _ rfl)) ?_ (fun _ h => h.sel [0, 1] (by decide))
  refine WPD.take rfl (v_move (v := .pointer _) rfl) ?_ (fun _ h => h.sel [0, 1] (by decide))
  refine WPD.take rfl (v_nil rfl) ?_ (fun _ h => h.sel [0, 1] (by decide))
  refine WPD.take rfl (v_load1 (u := .int .i64 _) Try.isAgg3 rfl (fun w hw => hw.cl_at (i := 1) rfl j (cell_of hj))) ?_ (fun _ h => h.sel [0, 1] (by decide))
  refine WPD.ef rfl (x_callV Try.call54 (putEach_ct lb A c l z hl) [2, 3] [0, 1] rfl (fun w hw => trivial) (τ := fun _ => [_, _, _, _]) (fun _ => rfl)) (fun _ _ _ h => h.2.sel [0, 1] (by decide)) (fun ⟨A1, c1⟩ => ?_)
  refine WPD.fact (fun _ => ?_)
  refine WPD.take rfl (v_nil rfl) ?_ (fun _ h => h.sel [0, 1] (by decide))
  refine WPD.ef0 rfl (x_store (u := .int .i64 _) (σ' := [_, _, _, _]) Try.sizeOf3 rfl rfl (i := 1) rfl (by first | omega | (simp; omega)) rfl) (fun h => absurd rfl h) (fun _ => ?_)
  exact WPD.nil fun w hw => RetQ.of0 Try.results72 (.inr rfl) ⟨(A1, c1), rfl, trivial, by have h := (hw.sel [0, 1, 2, 3] (by decide)); rw [set_self hj] at h; exact h⟩
theorem put68_ct (wk sb lb j : Nat) (bad : Bool) (cs : List Value) (A : Option Addr) (c : Nat) (l : List Int) (z : Int) (hl : l.length ≤ 100) (hj : cs[j]? = some (.int .i64 z)) :
    Ct Try.prog 68 #[.pointer (some ⟨wk, 0, none⟩), .pointer (some ⟨sb, j, none⟩)] [walkI wk (putF lb) bad, styI sb cs, boxI lb A c l, intsI A c l] (fun _ => True) (X := Option Addr × Nat) (fun _ => .tuple #[]) (fun _ => True)
      (fun p => [walkI wk (putF lb) bad, styI sb cs, boxI lb p.1 p.2 (l ++ [z]), intsI p.1 p.2 (l ++ [z])]) := by
  refine Ct.intro Try.func68 rfl Try.ntmps68 (by simp) (fun w0 _ => ?_)
  have hjl := (List.getElem?_eq_some_iff.1 hj).1
  refine WP.drawSel (some 10) [0, 1] [(0, true), (1, true), (2, true), (3, true), (4, true), (5, true), (6, true), (7, true), (8, false), (9, true), (10, false)] mixed (by kernel_rfl) (by decide) ?_
  refine WPD.take rfl (v_move (v := .pointer _) rfl) ?_ (fun _ h => h.sel [0, 1] (by decide))
  refine WPD.take rfl (v_move (v := .pointer _) rfl) ?_ (fun _ h => h.sel [0, 1] (by decide))
  refine WPD.take rfl (v_nil rfl) ?_ (fun _ h => h.sel [0, 1] (by decide))
  refine WPD.take rfl (v_fieldL (o' := 0) Try.underlying96 rfl Try.sizeOf94 rfl rfl) ?_ (fun _ h => h.sel [0, 1] (by decide))
  refine WPD.take rfl (v_load1 (u := _) Try.isAgg94 rfl (fun w hw => hw.cl_at (i := 0) rfl _ rfl)) ?_ (fun _ h => h.sel [0, 1] (by decide))
  refine WPD.take rfl (v_move (v := .pointer _) rfl) ?_ (fun _ h => h.sel [0, 1] (by decide))
  refine WPD.take rfl (v_nil rfl) ?_ (fun _ h => h.sel [0, 1] (by decide))
  refine WPD.take rfl (v_load1 (u := .int .i64 _) Try.isAgg43 rfl (fun w hw => hw.cl_at (i := 1) rfl j (cell_of hj))) ?_ (fun _ h => h.sel [0, 1] (by decide))
  refine WPD.ef rfl (x_callV Try.call54 (putEach_ct lb A c l z hl) [2, 3] [0, 1] rfl (fun w hw => trivial) (τ := fun _ => [_, _, _, _]) (fun _ => rfl)) (fun _ _ _ h => h.2.sel [0, 1] (by decide)) (fun ⟨A1, c1⟩ => ?_)
  refine WPD.fact (fun _ => ?_)
  refine WPD.take rfl (v_nil rfl) ?_ (fun _ h => h.sel [0, 1] (by decide))
  refine WPD.ef0 rfl (x_store (u := .int .i64 _) (σ' := [_, _, _, _]) Try.sizeOf43 rfl rfl (i := 1) rfl (by first | omega | (simp; omega)) rfl) (fun h => absurd rfl h) (fun _ => ?_)
  exact WPD.nil fun w hw => RetQ.of0 Try.results68 (.inr rfl) ⟨(A1, c1), rfl, trivial, by have h := (hw.sel [0, 1, 2, 3] (by decide)); rw [set_self hj] at h; exact h⟩
theorem put69_ct (wk sb lb j : Nat) (bad : Bool) (cs : List Value) (A : Option Addr) (c : Nat) (l : List Int) (z : Int) (hl : l.length ≤ 100) (hj : cs[j]? = some (.int .i64 z)) :
    Ct Try.prog 69 #[.pointer (some ⟨wk, 0, none⟩), .pointer (some ⟨sb, j, none⟩)] [walkI wk (putF lb) bad, styI sb cs, boxI lb A c l, intsI A c l] (fun _ => True) (X := Option Addr × Nat) (fun _ => .tuple #[]) (fun _ => True)
      (fun p => [walkI wk (putF lb) bad, styI sb cs, boxI lb p.1 p.2 (l ++ [z]), intsI p.1 p.2 (l ++ [z])]) := by
  refine Ct.intro Try.func69 rfl Try.ntmps69 (by simp) (fun w0 _ => ?_)
  have hjl := (List.getElem?_eq_some_iff.1 hj).1
  refine WP.drawSel (some 10) [0, 1] [(0, true), (1, true), (2, true), (3, true), (4, true), (5, true), (6, true), (7, true), (8, false), (9, true), (10, false)] mixed (by kernel_rfl) (by decide) ?_
  refine WPD.take rfl (v_move (v := .pointer _) rfl) ?_ (fun _ h => h.sel [0, 1] (by decide))
  refine WPD.take rfl (v_move (v := .pointer _) rfl) ?_ (fun _ h => h.sel [0, 1] (by decide))
  refine WPD.take rfl (v_nil rfl) ?_ (fun _ h => h.sel [0, 1] (by decide))
  refine WPD.take rfl (v_fieldL (o' := 0) Try.underlying96 rfl Try.sizeOf94 rfl rfl) ?_ (fun _ h => h.sel [0, 1] (by decide))
  refine WPD.take rfl (v_load1 (u := _) Try.isAgg94 rfl (fun w hw => hw.cl_at (i := 0) rfl _ rfl)) ?_ (fun _ h => h.sel [0, 1] (by decide))
  refine WPD.take rfl (v_move (v := .pointer _) rfl) ?_ (fun _ h => h.sel [0, 1] (by decide))
  refine WPD.take rfl (v_nil rfl) ?_ (fun _ h => h.sel [0, 1] (by decide))
  refine WPD.take rfl (v_load1 (u := .int .i64 _) Try.isAgg44 rfl (fun w hw => hw.cl_at (i := 1) rfl j (cell_of hj))) ?_ (fun _ h => h.sel [0, 1] (by decide))
  refine WPD.ef rfl (x_callV Try.call54 (putEach_ct lb A c l z hl) [2, 3] [0, 1] rfl (fun w hw => trivial) (τ := fun _ => [_, _, _, _]) (fun _ => rfl)) (fun _ _ _ h => h.2.sel [0, 1] (by decide)) (fun ⟨A1, c1⟩ => ?_)
  refine WPD.fact (fun _ => ?_)
  refine WPD.take rfl (v_nil rfl) ?_ (fun _ h => h.sel [0, 1] (by decide))
  refine WPD.ef0 rfl (x_store (u := .int .i64 _) (σ' := [_, _, _, _]) Try.sizeOf44 rfl rfl (i := 1) rfl (by first | omega | (simp; omega)) rfl) (fun h => absurd rfl h) (fun _ => ?_)
  exact WPD.nil fun w hw => RetQ.of0 Try.results69 (.inr rfl) ⟨(A1, c1), rfl, trivial, by have h := (hw.sel [0, 1, 2, 3] (by decide)); rw [set_self hj] at h; exact h⟩
theorem put70_ct (wk sb lb j : Nat) (bad : Bool) (cs : List Value) (A : Option Addr) (c : Nat) (l : List Int) (z : Int) (hl : l.length ≤ 100) (hj : cs[j]? = some (.int .i64 z)) :
    Ct Try.prog 70 #[.pointer (some ⟨wk, 0, none⟩), .pointer (some ⟨sb, j, none⟩)] [walkI wk (putF lb) bad, styI sb cs, boxI lb A c l, intsI A c l] (fun _ => True) (X := Option Addr × Nat) (fun _ => .tuple #[]) (fun _ => True)
      (fun p => [walkI wk (putF lb) bad, styI sb cs, boxI lb p.1 p.2 (l ++ [z]), intsI p.1 p.2 (l ++ [z])]) := by
  refine Ct.intro Try.func70 rfl Try.ntmps70 (by simp) (fun w0 _ => ?_)
  have hjl := (List.getElem?_eq_some_iff.1 hj).1
  refine WP.drawSel (some 10) [0, 1] [(0, true), (1, true), (2, true), (3, true), (4, true), (5, true), (6, true), (7, true), (8, false), (9, true), (10, false)] mixed (by kernel_rfl) (by decide) ?_
  refine WPD.take rfl (v_move (v := .pointer _) rfl) ?_ (fun _ h => h.sel [0, 1] (by decide))
  refine WPD.take rfl (v_move (v := .pointer _) rfl) ?_ (fun _ h => h.sel [0, 1] (by decide))
  refine WPD.take rfl (v_nil rfl) ?_ (fun _ h => h.sel [0, 1] (by decide))
  refine WPD.take rfl (v_fieldL (o' := 0) Try.underlying96 rfl Try.sizeOf94 rfl rfl) ?_ (fun _ h => h.sel [0, 1] (by decide))
  refine WPD.take rfl (v_load1 (u := _) Try.isAgg94 rfl (fun w hw => hw.cl_at (i := 0) rfl _ rfl)) ?_ (fun _ h => h.sel [0, 1] (by decide))
  refine WPD.take rfl (v_move (v := .pointer _) rfl) ?_ (fun _ h => h.sel [0, 1] (by decide))
  refine WPD.take rfl (v_nil rfl) ?_ (fun _ h => h.sel [0, 1] (by decide))
  refine WPD.take rfl (v_load1 (u := .int .i64 _) Try.isAgg45 rfl (fun w hw => hw.cl_at (i := 1) rfl j (cell_of hj))) ?_ (fun _ h => h.sel [0, 1] (by decide))
  refine WPD.ef rfl (x_callV Try.call54 (putEach_ct lb A c l z hl) [2, 3] [0, 1] rfl (fun w hw => trivial) (τ := fun _ => [_, _, _, _]) (fun _ => rfl)) (fun _ _ _ h => h.2.sel [0, 1] (by decide)) (fun ⟨A1, c1⟩ => ?_)
  refine WPD.fact (fun _ => ?_)
  refine WPD.take rfl (v_nil rfl) ?_ (fun _ h => h.sel [0, 1] (by decide))
  refine WPD.ef0 rfl (x_store (u := .int .i64 _) (σ' := [_, _, _, _]) Try.sizeOf45 rfl rfl (i := 1) rfl (by first | omega | (simp; omega)) rfl) (fun h => absurd rfl h) (fun _ => ?_)
  exact WPD.nil fun w hw => RetQ.of0 Try.results70 (.inr rfl) ⟨(A1, c1), rfl, trivial, by have h := (hw.sel [0, 1, 2, 3] (by decide)); rw [set_self hj] at h; exact h⟩
theorem put73_ct (wk sb lb j : Nat) (bad : Bool) (cs : List Value) (A : Option Addr) (c : Nat) (l : List Int) (z : Int) (hl : l.length ≤ 100) (hj : cs[j]? = some (.int .i64 z)) :
    Ct Try.prog 73 #[.pointer (some ⟨wk, 0, none⟩), .pointer (some ⟨sb, j, none⟩)] [walkI wk (putF lb) bad, styI sb cs, boxI lb A c l, intsI A c l] (fun _ => True) (X := Option Addr × Nat) (fun _ => .tuple #[]) (fun _ => True)
      (fun p => [walkI wk (putF lb) bad, styI sb cs, boxI lb p.1 p.2 (l ++ [z]), intsI p.1 p.2 (l ++ [z])]) := by
  refine Ct.intro Try.func73 rfl Try.ntmps73 (by simp) (fun w0 _ => ?_)
  have hjl := (List.getElem?_eq_some_iff.1 hj).1
  refine WP.drawSel (some 10) [0, 1] [(0, true), (1, true), (2, true), (3, true), (4, true), (5, true), (6, true), (7, true), (8, false), (9, true), (10, false)] mixed (by kernel_rfl) (by decide) ?_
  refine WPD.take rfl (v_move (v := .pointer _) rfl) ?_ (fun _ h => h.sel [0, 1] (by decide))
  refine WPD.take rfl (v_move (v := .pointer _) rfl) ?_ (fun _ h => h.sel [0, 1] (by decide))
  refine WPD.take rfl (v_nil rfl) ?_ (fun _ h => h.sel [0, 1] (by decide))
  refine WPD.take rfl (v_fieldL (o' := 0) Try.underlying96 rfl Try.sizeOf94 rfl rfl) ?_ (fun _ h => h.sel [0, 1] (by decide))
  refine WPD.take rfl (v_load1 (u := _) Try.isAgg94 rfl (fun w hw => hw.cl_at (i := 0) rfl _ rfl)) ?_ (fun _ h => h.sel [0, 1] (by decide))
  refine WPD.take rfl (v_move (v := .pointer _) rfl) ?_ (fun _ h => h.sel [0, 1] (by decide))
  refine WPD.take rfl (v_nil rfl) ?_ (fun _ h => h.sel [0, 1] (by decide))
  refine WPD.take rfl (v_load1 (u := .int .i64 _) Try.isAgg51 rfl (fun w hw => hw.cl_at (i := 1) rfl j (cell_of hj))) ?_ (fun _ h => h.sel [0, 1] (by decide))
  refine WPD.ef rfl (x_callV Try.call54 (putEach_ct lb A c l z hl) [2, 3] [0, 1] rfl (fun w hw => trivial) (τ := fun _ => [_, _, _, _]) (fun _ => rfl)) (fun _ _ _ h => h.2.sel [0, 1] (by decide)) (fun ⟨A1, c1⟩ => ?_)
  refine WPD.fact (fun _ => ?_)
  refine WPD.take rfl (v_nil rfl) ?_ (fun _ h => h.sel [0, 1] (by decide))
  refine WPD.ef0 rfl (x_store (u := .int .i64 _) (σ' := [_, _, _, _]) Try.sizeOf51 rfl rfl (i := 1) rfl (by first | omega | (simp; omega)) rfl) (fun h => absurd rfl h) (fun _ => ?_)
  exact WPD.nil fun w hw => RetQ.of0 Try.results73 (.inr rfl) ⟨(A1, c1), rfl, trivial, by have h := (hw.sel [0, 1, 2, 3] (by decide)); rw [set_self hj] at h; exact h⟩
theorem put74_ct (wk sb lb j : Nat) (bad : Bool) (cs : List Value) (A : Option Addr) (c : Nat) (l : List Int) (z : Int) (hl : l.length ≤ 100) (hj : cs[j]? = some (.int .i64 z)) :
    Ct Try.prog 74 #[.pointer (some ⟨wk, 0, none⟩), .pointer (some ⟨sb, j, none⟩)] [walkI wk (putF lb) bad, styI sb cs, boxI lb A c l, intsI A c l] (fun _ => True) (X := Option Addr × Nat) (fun _ => .tuple #[]) (fun _ => True)
      (fun p => [walkI wk (putF lb) bad, styI sb cs, boxI lb p.1 p.2 (l ++ [z]), intsI p.1 p.2 (l ++ [z])]) := by
  refine Ct.intro Try.func74 rfl Try.ntmps74 (by simp) (fun w0 _ => ?_)
  have hjl := (List.getElem?_eq_some_iff.1 hj).1
  refine WP.drawSel (some 10) [0, 1] [(0, true), (1, true), (2, true), (3, true), (4, true), (5, true), (6, true), (7, true), (8, false), (9, true), (10, false)] mixed (by kernel_rfl) (by decide) ?_
  refine WPD.take rfl (v_move (v := .pointer _) rfl) ?_ (fun _ h => h.sel [0, 1] (by decide))
  refine WPD.take rfl (v_move (v := .pointer _) rfl) ?_ (fun _ h => h.sel [0, 1] (by decide))
  refine WPD.take rfl (v_nil rfl) ?_ (fun _ h => h.sel [0, 1] (by decide))
  refine WPD.take rfl (v_fieldL (o' := 0) Try.underlying96 rfl Try.sizeOf94 rfl rfl) ?_ (fun _ h => h.sel [0, 1] (by decide))
  refine WPD.take rfl (v_load1 (u := _) Try.isAgg94 rfl (fun w hw => hw.cl_at (i := 0) rfl _ rfl)) ?_ (fun _ h => h.sel [0, 1] (by decide))
  refine WPD.take rfl (v_move (v := .pointer _) rfl) ?_ (fun _ h => h.sel [0, 1] (by decide))
  refine WPD.take rfl (v_nil rfl) ?_ (fun _ h => h.sel [0, 1] (by decide))
  refine WPD.take rfl (v_load1 (u := .int .i64 _) Try.isAgg52 rfl (fun w hw => hw.cl_at (i := 1) rfl j (cell_of hj))) ?_ (fun _ h => h.sel [0, 1] (by decide))
  refine WPD.ef rfl (x_callV Try.call54 (putEach_ct lb A c l z hl) [2, 3] [0, 1] rfl (fun w hw => trivial) (τ := fun _ => [_, _, _, _]) (fun _ => rfl)) (fun _ _ _ h => h.2.sel [0, 1] (by decide)) (fun ⟨A1, c1⟩ => ?_)
  refine WPD.fact (fun _ => ?_)
  refine WPD.take rfl (v_nil rfl) ?_ (fun _ h => h.sel [0, 1] (by decide))
  refine WPD.ef0 rfl (x_store (u := .int .i64 _) (σ' := [_, _, _, _]) Try.sizeOf52 rfl rfl (i := 1) rfl (by first | omega | (simp; omega)) rfl) (fun h => absurd rfl h) (fun _ => ?_)
  exact WPD.nil fun w hw => RetQ.of0 Try.results74 (.inr rfl) ⟨(A1, c1), rfl, trivial, by have h := (hw.sel [0, 1, 2, 3] (by decide)); rw [set_self hj] at h; exact h⟩
theorem put76_ct (wk sb lb j : Nat) (bad : Bool) (cs : List Value) (A : Option Addr) (c : Nat) (l : List Int) (z : Int) (hl : l.length ≤ 100) (hj : cs[j]? = some (.int .i64 z)) :
    Ct Try.prog 76 #[.pointer (some ⟨wk, 0, none⟩), .pointer (some ⟨sb, j, none⟩)] [walkI wk (putF lb) bad, styI sb cs, boxI lb A c l, intsI A c l] (fun _ => True) (X := Option Addr × Nat) (fun _ => .tuple #[]) (fun _ => True)
      (fun p => [walkI wk (putF lb) bad, styI sb cs, boxI lb p.1 p.2 (l ++ [z]), intsI p.1 p.2 (l ++ [z])]) := by
  refine Ct.intro Try.func76 rfl Try.ntmps76 (by simp) (fun w0 _ => ?_)
  have hjl := (List.getElem?_eq_some_iff.1 hj).1
  refine WP.drawSel (some 10) [0, 1] [(0, true), (1, true), (2, true), (3, true), (4, true), (5, true), (6, true), (7, true), (8, false), (9, true), (10, false)] mixed (by kernel_rfl) (by decide) ?_
  refine WPD.take rfl (v_move (v := .pointer _) rfl) ?_ (fun _ h => h.sel [0, 1] (by decide))
  refine WPD.take rfl (v_move (v := .pointer _) rfl) ?_ (fun _ h => h.sel [0, 1] (by decide))
  refine WPD.take rfl (v_nil rfl) ?_ (fun _ h => h.sel [0, 1] (by decide))
  refine WPD.take rfl (v_fieldL (o' := 0) Try.underlying96 rfl Try.sizeOf94 rfl rfl) ?_ (fun _ h => h.sel [0, 1] (by decide))
  refine WPD.take rfl (v_load1 (u := _) Try.isAgg94 rfl (fun w hw => hw.cl_at (i := 0) rfl _ rfl)) ?_ (fun _ h => h.sel [0, 1] (by decide))
  refine WPD.take rfl (v_move (v := .pointer _) rfl) ?_ (fun _ h => h.sel [0, 1] (by decide))
  refine WPD.take rfl (v_nil rfl) ?_ (fun _ h => h.sel [0, 1] (by decide))
  refine WPD.take rfl (v_load1 (u := .int .i64 _) Try.isAgg53 rfl (fun w hw => hw.cl_at (i := 1) rfl j (cell_of hj))) ?_ (fun _ h => h.sel [0, 1] (by decide))
  refine WPD.ef rfl (x_callV Try.call54 (putEach_ct lb A c l z hl) [2, 3] [0, 1] rfl (fun w hw => trivial) (τ := fun _ => [_, _, _, _]) (fun _ => rfl)) (fun _ _ _ h => h.2.sel [0, 1] (by decide)) (fun ⟨A1, c1⟩ => ?_)
  refine WPD.fact (fun _ => ?_)
  refine WPD.take rfl (v_nil rfl) ?_ (fun _ h => h.sel [0, 1] (by decide))
  refine WPD.ef0 rfl (x_store (u := .int .i64 _) (σ' := [_, _, _, _]) Try.sizeOf53 rfl rfl (i := 1) rfl (by first | omega | (simp; omega)) rfl) (fun h => absurd rfl h) (fun _ => ?_)
  exact WPD.nil fun w hw => RetQ.of0 Try.results76 (.inr rfl) ⟨(A1, c1), rfl, trivial, by have h := (hw.sel [0, 1, 2, 3] (by decide)); rw [set_self hj] at h; exact h⟩
theorem put77_ct (wk sb lb j : Nat) (bad : Bool) (cs : List Value) (A : Option Addr) (c : Nat) (l : List Int) (z : Int) (hl : l.length ≤ 100) (hj : cs[j]? = some (.int .i64 z)) :
    Ct Try.prog 77 #[.pointer (some ⟨wk, 0, none⟩), .pointer (some ⟨sb, j, none⟩)] [walkI wk (putF lb) bad, styI sb cs, boxI lb A c l, intsI A c l] (fun _ => True) (X := Option Addr × Nat) (fun _ => .tuple #[]) (fun _ => True)
      (fun p => [walkI wk (putF lb) bad, styI sb cs, boxI lb p.1 p.2 (l ++ [z]), intsI p.1 p.2 (l ++ [z])]) := by
  refine Ct.intro Try.func77 rfl Try.ntmps77 (by simp) (fun w0 _ => ?_)
  have hjl := (List.getElem?_eq_some_iff.1 hj).1
  refine WP.drawSel (some 10) [0, 1] [(0, true), (1, true), (2, true), (3, true), (4, true), (5, true), (6, true), (7, true), (8, false), (9, true), (10, false)] mixed (by kernel_rfl) (by decide) ?_
  refine WPD.take rfl (v_move (v := .pointer _) rfl) ?_ (fun _ h => h.sel [0, 1] (by decide))
  refine WPD.take rfl (v_move (v := .pointer _) rfl) ?_ (fun _ h => h.sel [0, 1] (by decide))
  refine WPD.take rfl (v_nil rfl) ?_ (fun _ h => h.sel [0, 1] (by decide))
  refine WPD.take rfl (v_fieldL (o' := 0) Try.underlying96 rfl Try.sizeOf94 rfl rfl) ?_ (fun _ h => h.sel [0, 1] (by decide))
  refine WPD.take rfl (v_load1 (u := _) Try.isAgg94 rfl (fun w hw => hw.cl_at (i := 0) rfl _ rfl)) ?_ (fun _ h => h.sel [0, 1] (by decide))
  refine WPD.take rfl (v_move (v := .pointer _) rfl) ?_ (fun _ h => h.sel [0, 1] (by decide))
  refine WPD.take rfl (v_nil rfl) ?_ (fun _ h => h.sel [0, 1] (by decide))
  refine WPD.take rfl (v_load1 (u := .int .i64 _) Try.isAgg54 rfl (fun w hw => hw.cl_at (i := 1) rfl j (cell_of hj))) ?_ (fun _ h => h.sel [0, 1] (by decide))
  refine WPD.ef rfl (x_callV Try.call54 (putEach_ct lb A c l z hl) [2, 3] [0, 1] rfl (fun w hw => trivial) (τ := fun _ => [_, _, _, _]) (fun _ => rfl)) (fun _ _ _ h => h.2.sel [0, 1] (by decide)) (fun ⟨A1, c1⟩ => ?_)
  refine WPD.fact (fun _ => ?_)
  refine WPD.take rfl (v_nil rfl) ?_ (fun _ h => h.sel [0, 1] (by decide))
  refine WPD.ef0 rfl (x_store (u := .int .i64 _) (σ' := [_, _, _, _]) Try.sizeOf54 rfl rfl (i := 1) rfl (by first | omega | (simp; omega)) rfl) (fun h => absurd rfl h) (fun _ => ?_)
  exact WPD.nil fun w hw => RetQ.of0 Try.results77 (.inr rfl) ⟨(A1, c1), rfl, trivial, by have h := (hw.sel [0, 1, 2, 3] (by decide)); rw [set_self hj] at h; exact h⟩
theorem put78_ct (wk sb lb j : Nat) (bad : Bool) (cs : List Value) (A : Option Addr) (c : Nat) (l : List Int) (z : Int) (hl : l.length ≤ 100) (hj : cs[j]? = some (.int .i64 z)) :
    Ct Try.prog 78 #[.pointer (some ⟨wk, 0, none⟩), .pointer (some ⟨sb, j, none⟩)] [walkI wk (putF lb) bad, styI sb cs, boxI lb A c l, intsI A c l] (fun _ => True) (X := Option Addr × Nat) (fun _ => .tuple #[]) (fun _ => True)
      (fun p => [walkI wk (putF lb) bad, styI sb cs, boxI lb p.1 p.2 (l ++ [z]), intsI p.1 p.2 (l ++ [z])]) := by
  refine Ct.intro Try.func78 rfl Try.ntmps78 (by simp) (fun w0 _ => ?_)
  have hjl := (List.getElem?_eq_some_iff.1 hj).1
  refine WP.drawSel (some 10) [0, 1] [(0, true), (1, true), (2, true), (3, true), (4, true), (5, true), (6, true), (7, true), (8, false), (9, true), (10, false)] mixed (by kernel_rfl) (by decide) ?_
  refine WPD.take rfl (v_move (v := .pointer _) rfl) ?_ (fun _ h => h.sel [0, 1] (by decide))
  refine WPD.take rfl (v_move (v := .pointer _) rfl) ?_ (fun _ h => h.sel [0, 1] (by decide))
  refine WPD.take rfl (v_nil rfl) ?_ (fun _ h => h.sel [0, 1] (by decide))
  refine WPD.take rfl (v_fieldL (o' := 0) Try.underlying96 rfl Try.sizeOf94 rfl rfl) ?_ (fun _ h => h.sel [0, 1] (by decide))
  refine WPD.take rfl (v_load1 (u := _) Try.isAgg94 rfl (fun w hw => hw.cl_at (i := 0) rfl _ rfl)) ?_ (fun _ h => h.sel [0, 1] (by decide))
  refine WPD.take rfl (v_move (v := .pointer _) rfl) ?_ (fun _ h => h.sel [0, 1] (by decide))
  refine WPD.take rfl (v_nil rfl) ?_ (fun _ h => h.sel [0, 1] (by decide))
  refine WPD.take rfl (v_load1 (u := .int .i64 _) Try.isAgg46 rfl (fun w hw => hw.cl_at (i := 1) rfl j (cell_of hj))) ?_ (fun _ h => h.sel [0, 1] (by decide))
  refine WPD.ef rfl (x_callV Try.call54 (putEach_ct lb A c l z hl) [2, 3] [0, 1] rfl (fun w hw => trivial) (τ := fun _ => [_, _, _, _]) (fun _ => rfl)) (fun _ _ _ h => h.2.sel [0, 1] (by decide)) (fun ⟨A1, c1⟩ => ?_)
  refine WPD.fact (fun _ => ?_)
  refine WPD.take rfl (v_nil rfl) ?_ (fun _ h => h.sel [0, 1] (by decide))
  refine WPD.ef0 rfl (x_store (u := .int .i64 _) (σ' := [_, _, _, _]) Try.sizeOf46 rfl rfl (i := 1) rfl (by first | omega | (simp; omega)) rfl) (fun h => absurd rfl h) (fun _ => ?_)
  exact WPD.nil fun w hw => RetQ.of0 Try.results78 (.inr rfl) ⟨(A1, c1), rfl, trivial, by have h := (hw.sel [0, 1, 2, 3] (by decide)); rw [set_self hj] at h; exact h⟩

end Go.Proofs.Ytabdcfobdehhiaa
