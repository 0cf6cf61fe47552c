/- record's walk through a number as Get has it; through a length and a bool, as Put and as Get have them. -/
import Derived.Test.YtabdcfobdehhiaaRecNum
namespace Go.Proofs.Ytabdcfobdehhiaa
open Go.RowKit

theorem St.rdM {α : Type} {w0 w : World} {M : Nat → Prop} {σ : List HI} {A : Option Addr} {sz : Nat} {enc : α → List Value} {l : List α} (h : St w0 M σ w) (hr : RdE w0 A sz enc l) (hM : ∀ b o, A = some ⟨b, o, none⟩ → ¬ M b) : RdE w A sz enc l := fun k x hx => by
  obtain ⟨b, o, e, hc⟩ := hr k x hx
  exact ⟨b, o, e, h.old_at hc (hM b o e)⟩
/-- The numbers lie apart from these blocks. -/
def Far (A : Option Addr) (bs : List Nat) : Prop := ∀ a, A = some a → ∀ b ∈ bs, a.block ≠ b
theorem far_four {wk sb ab lb : Nat} {A : Option Addr} (h : Far A [wk, sb, ab, lb]) {f : Value} {bad : Bool} {cs : List Value} {k c : Nat} {l : List Int} : ∀ b o, A = some ⟨b, o, none⟩ → ¬ foots [walkI wk f bad, styI sb cs, atI ab k, boxI lb A c l] b := by
  intro b o e
  have h1 := h _ e
  simp [foots, HI.foot] at h1 ⊢
  exact h1
theorem far_two {wk sb ab lb : Nat} {A : Option Addr} (h : Far A [wk, sb, ab, lb]) : ∀ a, A = some a → a.block ≠ ab ∧ a.block ≠ lb := fun a e => ⟨h a e ab (by simp), h a e lb (by simp)⟩
theorem get72_ct (wk sb ab lb j k : Nat) (bad : Bool) (cs : List Value) (A : Option Addr) (c : Nat) (l : List Int) (v z : Int) (hl : l.length ≤ 100) (hj : cs[j]? = some (.int .i64 z)) (hv : l[k]? = some v) :
    Ct Try.prog 72 #[.pointer (some ⟨wk, 0, none⟩), .pointer (some ⟨sb, j, none⟩)] [walkI wk (getF ab lb) bad, styI sb cs, atI ab k, boxI lb A c l] (fun w => RdI w A l ∧ Far A [wk, sb, ab, lb]) (X := Unit) (fun _ => .tuple #[]) (fun _ => True)
      (fun _ => [walkI wk (getF ab lb) bad, styI sb (cs.set j (.int .i64 v)), atI ab (k + 1), boxI lb A c l]) := by
  refine Ct.intro Try.func72 rfl Try.ntmps72 (by simp) (fun w0 ⟨hz, hfar⟩ => ?_)
  have hjl := (List.getElem?_eq_some_iff.1 hj).1
  refine WP.drawSel (some 10) [0, 1] [(0, true), (1, true), (2, true), (3, true), (4, true), (5, true), (6, true), (7, true), (8, false), (9, true), (10, false)] mixed (by kernel_rfl) (by decide) ?_
  refine WPD.take rfl (v_move (v := .pointer _) rfl) ?_ (fun _ h => h.sel [0, 1] (by decide))
  refine WPD.take rfl (v_move (v := .pointer _) rfl) ?_ (fun _ h => h.sel [0, 1] (by decide))
  refine WPD.take rfl (v_nil rfl) ?_ (fun _ h => h.sel [0, 1] (by decide))
  refine WPD.take rfl (v_fieldL (o' := 0) Try.underlying96 rfl Try.sizeOf94 rfl rfl) ?_ (fun _ h => h.sel [0, 1] (by decide))
  refine WPD.take rfl (v_load1 (u := _) Try.isAgg94 rfl (fun w hw => hw.cl_at (i := 0) rfl _ rfl)) ?_ (fun _ h => h.sel [0, 1] (by decide))
  refine WPD.take rfl (v_move (v := .pointer _) rfl) ?_ (fun _ h => h.sel [0, 1] (by decide))
  refine WPD.take rfl (v_nil rfl) ?_ (fun _ h => h.sel [0, 1] (by decide))
  refine WPD.take rfl (v_load1 (u := .int .i64 _) Try.isAgg3 rfl (fun w hw => hw.cl_at (i := 1) rfl j (cell_of hj))) ?_ (fun _ h => h.sel [0, 1] (by decide))
  refine WPD.ef rfl (x_callV Try.call57 (getEach_ct ab lb A c l k v z hv hl) [2, 3] [0, 1] rfl (fun w hw => ⟨hw.rdM hz (far_four hfar), far_two hfar⟩) (τ := fun _ => [_, _, _, _]) (fun _ => rfl)) (fun _ _ _ h => h.2.sel [0, 1] (by decide)) (fun _ => ?_)
  refine WPD.fact (fun _ => ?_)
  refine WPD.take rfl (v_nil rfl) ?_ (fun _ h => h.sel [0, 1] (by decide))
  refine WPD.ef0 rfl (x_store (u := .int .i64 _) (σ' := [_, _, _, _]) Try.sizeOf3 rfl rfl (i := 1) rfl (by first | omega | (simp; omega)) rfl) (fun h => absurd rfl h) (fun _ => ?_)
  exact WPD.nil fun w hw => RetQ.of0 Try.results72 (.inr rfl) ⟨(), rfl, trivial, (hw.sel [0, 1, 2, 3] (by decide))⟩
theorem get68_ct (wk sb ab lb j k : Nat) (bad : Bool) (cs : List Value) (A : Option Addr) (c : Nat) (l : List Int) (v z : Int) (hl : l.length ≤ 100) (hj : cs[j]? = some (.int .i64 z)) (hv : l[k]? = some v) :
    Ct Try.prog 68 #[.pointer (some ⟨wk, 0, none⟩), .pointer (some ⟨sb, j, none⟩)] [walkI wk (getF ab lb) bad, styI sb cs, atI ab k, boxI lb A c l] (fun w => RdI w A l ∧ Far A [wk, sb, ab, lb]) (X := Unit) (fun _ => .tuple #[]) (fun _ => True)
      (fun _ => [walkI wk (getF ab lb) bad, styI sb (cs.set j (.int .i64 v)), atI ab (k + 1), boxI lb A c l]) := by
  refine Ct.intro Try.func68 rfl Try.ntmps68 (by simp) (fun w0 ⟨hz, hfar⟩ => ?_)
  have hjl := (List.getElem?_eq_some_iff.1 hj).1
  refine WP.drawSel (some 10) [0, 1] [(0, true), (1, true), (2, true), (3, true), (4, true), (5, true), (6, true), (7, true), (8, false), (9, true), (10, false)] mixed (by kernel_rfl) (by decide) ?_
  refine WPD.take rfl (v_move (v := .pointer _) rfl) ?_ (fun _ h => h.sel [0, 1] (by decide))
  refine WPD.take rfl (v_move (v := .pointer _) rfl) ?_ (fun _ h => h.sel [0, 1] (by decide))
  refine WPD.take rfl (v_nil rfl) ?_ (fun _ h => h.sel [0, 1] (by decide))
  refine WPD.take rfl (v_fieldL (o' := 0) Try.underlying96 rfl Try.sizeOf94 rfl rfl) ?_ (fun _ h => h.sel [0, 1] (by decide))
  refine WPD.take rfl (v_load1 (u := _) Try.isAgg94 rfl (fun w hw => hw.cl_at (i := 0) rfl _ rfl)) ?_ (fun _ h => h.sel [0, 1] (by decide))
  refine WPD.take rfl (v_move (v := .pointer _) rfl) ?_ (fun _ h => h.sel [0, 1] (by decide))
  refine WPD.take rfl (v_nil rfl) ?_ (fun _ h => h.sel [0, 1] (by decide))
  refine WPD.take rfl (v_load1 (u := .int .i64 _) Try.isAgg43 rfl (fun w hw => hw.cl_at (i := 1) rfl j (cell_of hj))) ?_ (fun _ h => h.sel [0, 1] (by decide))
  refine WPD.ef rfl (x_callV Try.call57 (getEach_ct ab lb A c l k v z hv hl) [2, 3] [0, 1] rfl (fun w hw => ⟨hw.rdM hz (far_four hfar), far_two hfar⟩) (τ := fun _ => [_, _, _, _]) (fun _ => rfl)) (fun _ _ _ h => h.2.sel [0, 1] (by decide)) (fun _ => ?_)
  refine WPD.fact (fun _ => ?_)
  refine WPD.take rfl (v_nil rfl) ?_ (fun _ h => h.sel [0, 1] (by decide))
  refine WPD.ef0 rfl (x_store (u := .int .i64 _) (σ' := [_, _, _, _]) Try.sizeOf43 rfl rfl (i := 1) rfl (by first | omega | (simp; omega)) rfl) (fun h => absurd rfl h) (fun _ => ?_)
  exact WPD.nil fun w hw => RetQ.of0 Try.results68 (.inr rfl) ⟨(), rfl, trivial, (hw.sel [0, 1, 2, 3] (by decide))⟩
theorem get69_ct (wk sb ab lb j k : Nat) (bad : Bool) (cs : List Value) (A : Option Addr) (c : Nat) (l : List Int) (v z : Int) (hl : l.length ≤ 100) (hj : cs[j]? = some (.int .i64 z)) (hv : l[k]? = some v) :
    Ct Try.prog 69 #[.pointer (some ⟨wk, 0, none⟩), .pointer (some ⟨sb, j, none⟩)] [walkI wk (getF ab lb) bad, styI sb cs, atI ab k, boxI lb A c l] (fun w => RdI w A l ∧ Far A [wk, sb, ab, lb]) (X := Unit) (fun _ => .tuple #[]) (fun _ => True)
      (fun _ => [walkI wk (getF ab lb) bad, styI sb (cs.set j (.int .i64 v)), atI ab (k + 1), boxI lb A c l]) := by
  refine Ct.intro Try.func69 rfl Try.ntmps69 (by simp) (fun w0 ⟨hz, hfar⟩ => ?_)
  have hjl := (List.getElem?_eq_some_iff.1 hj).1
  refine WP.drawSel (some 10) [0, 1] [(0, true), (1, true), (2, true), (3, true), (4, true), (5, true), (6, true), (7, true), (8, false), (9, true), (10, false)] mixed (by kernel_rfl) (by decide) ?_
  refine WPD.take rfl (v_move (v := .pointer _) rfl) ?_ (fun _ h => h.sel [0, 1] (by decide))
  refine WPD.take rfl (v_move (v := .pointer _) rfl) ?_ (fun _ h => h.sel [0, 1] (by decide))
  refine WPD.take rfl (v_nil rfl) ?_ (fun _ h => h.sel [0, 1] (by decide))
  refine WPD.take rfl (v_fieldL (o' := 0) Try.underlying96 rfl Try.sizeOf94 rfl rfl) ?_ (fun _ h => h.sel [0, 1] (by decide))
  refine WPD.take rfl (v_load1 (u := _) Try.isAgg94 rfl (fun w hw => hw.cl_at (i := 0) rfl _ rfl)) ?_ (fun _ h => h.sel [0, 1] (by decide))
  refine WPD.take rfl (v_move (v := .pointer _) rfl) ?_ (fun _ h => h.sel [0, 1] (by decide))
  refine WPD.take rfl (v_nil rfl) ?_ (fun _ h => h.sel [0, 1] (by decide))
  refine WPD.take rfl (v_load1 (u := .int .i64 _) Try.isAgg44 rfl (fun w hw => hw.cl_at (i := 1) rfl j (cell_of hj))) ?_ (fun _ h => h.sel [0, 1] (by decide))
  refine WPD.ef rfl (x_callV Try.call57 (getEach_ct ab lb A c l k v z hv hl) [2, 3] [0, 1] rfl (fun w hw => ⟨hw.rdM hz (far_four hfar), far_two hfar⟩) (τ := fun _ => [_, _, _, _]) (fun _ => rfl)) (fun _ _ _ h => h.2.sel [0, 1] (by decide)) (fun _ => ?_)
  refine WPD.fact (fun _ => ?_)
  refine WPD.take rfl (v_nil rfl) ?_ (fun _ h => h.sel [0, 1] (by decide))
  refine WPD.ef0 rfl (x_store (u := .int .i64 _) (σ' := [_, _, _, _]) Try.sizeOf44 rfl rfl (i := 1) rfl (by first | omega | (simp; omega)) rfl) (fun h => absurd rfl h) (fun _ => ?_)
  exact WPD.nil fun w hw => RetQ.of0 Try.results69 (.inr rfl) ⟨(), rfl, trivial, (hw.sel [0, 1, 2, 3] (by decide))⟩
theorem get70_ct (wk sb ab lb j k : Nat) (bad : Bool) (cs : List Value) (A : Option Addr) (c : Nat) (l : List Int) (v z : Int) (hl : l.length ≤ 100) (hj : cs[j]? = some (.int .i64 z)) (hv : l[k]? = some v) :
    Ct Try.prog 70 #[.pointer (some ⟨wk, 0, none⟩), .pointer (some ⟨sb, j, none⟩)] [walkI wk (getF ab lb) bad, styI sb cs, atI ab k, boxI lb A c l] (fun w => RdI w A l ∧ Far A [wk, sb, ab, lb]) (X := Unit) (fun _ => .tuple #[]) (fun _ => True)
      (fun _ => [walkI wk (getF ab lb) bad, styI sb (cs.set j (.int .i64 v)), atI ab (k + 1), boxI lb A c l]) := by
  refine Ct.intro Try.func70 rfl Try.ntmps70 (by simp) (fun w0 ⟨hz, hfar⟩ => ?_)
  have hjl := (List.getElem?_eq_some_iff.1 hj).1
  refine WP.drawSel (some 10) [0, 1] [(0, true), (1, true), (2, true), (3, true), (4, true), (5, true), (6, true), (7, true), (8, false), (9, true), (10, false)] mixed (by kernel_rfl) (by decide) ?_
  refine WPD.take rfl (v_move (v := .pointer _) rfl) ?_ (fun _ h => h.sel [0, 1] (by decide))
  refine WPD.take rfl (v_move (v := .pointer _) rfl) ?_ (fun _ h => h.sel [0, 1] (by decide))
  refine WPD.take rfl (v_nil rfl) ?_ (fun _ h => h.sel [0, 1] (by decide))
  refine WPD.take rfl (v_fieldL (o' := 0) Try.underlying96 rfl Try.sizeOf94 rfl rfl) ?_ (fun _ h => h.sel [0, 1] (by decide))
  refine WPD.take rfl (v_load1 (u := _) Try.isAgg94 rfl (fun w hw => hw.cl_at (i := 0) rfl _ rfl)) ?_ (fun _ h => h.sel [0, 1] (by decide))
  refine WPD.take rfl (v_move (v := .pointer _) rfl) ?_ (fun _ h => h.sel [0, 1] (by decide))
  refine WPD.take rfl (v_nil rfl) ?_ (fun _ h => h.sel [0, 1] (by decide))
  refine WPD.take rfl (v_load1 (u := .int .i64 _) Try.isAgg45 rfl (fun w hw => hw.cl_at (i := 1) rfl j (cell_of hj))) ?_ (fun _ h => h.sel [0, 1] (by decide))
  refine WPD.ef rfl (x_callV Try.call57 (getEach_ct ab lb A c l k v z hv hl) [2, 3] [0, 1] rfl (fun w hw => ⟨hw.rdM hz (far_four hfar), far_two hfar⟩) (τ := fun _ => [_, _, _, _]) (fun _ => rfl)) (fun _ _ _ h => h.2.sel [0, 1] (by decide)) (fun _ => ?_)
  refine WPD.fact (fun _ => ?_)
  refine WPD.take rfl (v_nil rfl) ?_ (fun _ h => h.sel [0, 1] (by decide))
  refine WPD.ef0 rfl (x_store (u := .int .i64 _) (σ' := [_, _, _, _]) Try.sizeOf45 rfl rfl (i := 1) rfl (by first | omega | (simp; omega)) rfl) (fun h => absurd rfl h) (fun _ => ?_)
  exact WPD.nil fun w hw => RetQ.of0 Try.results70 (.inr rfl) ⟨(), rfl, trivial, (hw.sel [0, 1, 2, 3] (by decide))⟩
theorem get73_ct (wk sb ab lb j k : Nat) (bad : Bool) (cs : List Value) (A : Option Addr) (c : Nat) (l : List Int) (v z : Int) (hl : l.length ≤ 100) (hj : cs[j]? = some (.int .i64 z)) (hv : l[k]? = some v) :
    Ct Try.prog 73 #[.pointer (some ⟨wk, 0, none⟩), .pointer (some ⟨sb, j, none⟩)] [walkI wk (getF ab lb) bad, styI sb cs, atI ab k, boxI lb A c l] (fun w => RdI w A l ∧ Far A [wk, sb, ab, lb]) (X := Unit) (fun _ => .tuple #[]) (fun _ => True)
      (fun _ => [walkI wk (getF ab lb) bad, styI sb (cs.set j (.int .i64 v)), atI ab (k + 1), boxI lb A c l]) := by
  refine Ct.intro Try.func73 rfl Try.ntmps73 (by simp) (fun w0 ⟨hz, hfar⟩ => ?_)
  have hjl := (List.getElem?_eq_some_iff.1 hj).1
  refine WP.drawSel (some 10) [0, 1] [(0, true), (1, true), (2, true), (3, true), (4, true), (5, true), (6, true), (7, true), (8, false), (9, true), (10, false)] mixed (by kernel_rfl) (by decide) ?_
  refine WPD.take rfl (v_move (v := .pointer _) rfl) ?_ (fun _ h => h.sel [0, 1] (by decide))
  refine WPD.take rfl (v_move (v := .pointer _) rfl) ?_ (fun _ h => h.sel [0, 1] (by decide))
  refine WPD.take rfl (v_nil rfl) ?_ (fun _ h => h.sel [0, 1] (by decide))
  refine WPD.take rfl (v_fieldL (o' := 0) Try.underlying96 rfl Try.sizeOf94 rfl rfl) ?_ (fun _ h => h.sel [0, 1] (by decide))
  refine WPD.take rfl (v_load1 (u := _) Try.isAgg94 rfl (fun w hw => hw.cl_at (i := 0) rfl _ rfl)) ?_ (fun _ h => h.sel [0, 1] (by decide))
  refine WPD.take rfl (v_move (v := .pointer _) rfl) ?_ (fun _ h => h.sel [0, 1] (by decide))
  refine WPD.take rfl (v_nil rfl) ?_ (fun _ h => h.sel [0, 1] (by decide))
  refine WPD.take rfl (v_load1 (u := .int .i64 _) Try.isAgg51 rfl (fun w hw => hw.cl_at (i := 1) rfl j (cell_of hj))) ?_ (fun _ h => h.sel [0, 1] (by decide))
  refine WPD.ef rfl (x_callV Try.call57 (getEach_ct ab lb A c l k v z hv hl) [2, 3] [0, 1] rfl (fun w hw => ⟨hw.rdM hz (far_four hfar), far_two hfar⟩) (τ := fun _ => [_, _, _, _]) (fun _ => rfl)) (fun _ _ _ h => h.2.sel [0, 1] (by decide)) (fun _ => ?_)
  refine WPD.fact (fun _ => ?_)
  refine WPD.take rfl (v_nil rfl) ?_ (fun _ h => h.sel [0, 1] (by decide))
  refine WPD.ef0 rfl (x_store (u := .int .i64 _) (σ' := [_, _, _, _]) Try.sizeOf51 rfl rfl (i := 1) rfl (by first | omega | (simp; omega)) rfl) (fun h => absurd rfl h) (fun _ => ?_)
  exact WPD.nil fun w hw => RetQ.of0 Try.results73 (.inr rfl) ⟨(), rfl, trivial, (hw.sel [0, 1, 2, 3] (by decide))⟩
theorem get74_ct (wk sb ab lb j k : Nat) (bad : Bool) (cs : List Value) (A : Option Addr) (c : Nat) (l : List Int) (v z : Int) (hl : l.length ≤ 100) (hj : cs[j]? = some (.int .i64 z)) (hv : l[k]? = some v) :
    Ct Try.prog 74 #[.pointer (some ⟨wk, 0, none⟩), .pointer (some ⟨sb, j, none⟩)] [walkI wk (getF ab lb) bad, styI sb cs, atI ab k, boxI lb A c l] (fun w => RdI w A l ∧ Far A [wk, sb, ab, lb]) (X := Unit) (fun _ => .tuple #[]) (fun _ => True)
      (fun _ => [walkI wk (getF ab lb) bad, styI sb (cs.set j (.int .i64 v)), atI ab (k + 1), boxI lb A c l]) := by
  refine Ct.intro Try.func74 rfl Try.ntmps74 (by simp) (fun w0 ⟨hz, hfar⟩ => ?_)
  have hjl := (List.getElem?_eq_some_iff.1 hj).1
  refine WP.drawSel (some 10) [0, 1] [(0, true), (1, true), (2, true), (3, true), (4, true), (5, true), (6, true), (7, true), (8, false), (9, true), (10, false)] mixed (by kernel_rfl) (by decide) ?_
  refine WPD.take rfl (v_move (v := .pointer _) rfl) ?_ (fun _ h => h.sel [0, 1] (by decide))
  refine WPD.take rfl (v_move (v := .pointer _) rfl) ?_ (fun _ h => h.sel [0, 1] (by decide))
  refine WPD.take rfl (v_nil rfl) ?_ (fun _ h => h.sel [0, 1] (by decide))
  refine WPD.take rfl (v_fieldL (o' := 0) Try.underlying96 rfl Try.sizeOf94 rfl rfl) ?_ (fun _ h => h.sel [0, 1] (by decide))
  refine WPD.take rfl (v_load1 (u := _) Try.isAgg94 rfl (fun w hw => hw.cl_at (i := 0) rfl _ rfl)) ?_ (fun _ h => h.sel [0, 1] (by decide))
  refine WPD.take rfl (v_move (v := .pointer _) rfl) ?_ (fun _ h => h.sel [0, 1] (by decide))
  refine WPD.take rfl (v_nil rfl) ?_ (fun _ h => h.sel [0, 1] (by decide))
  refine WPD.take rfl (v_load1 (u := .int .i64 _) Try.isAgg52 rfl (fun w hw => hw.cl_at (i := 1) rfl j (cell_of hj))) ?_ (fun _ h => h.sel [0, 1] (by decide))
  refine WPD.ef rfl (x_callV Try.call57 (getEach_ct ab lb A c l k v z hv hl) [2, 3] [0, 1] rfl (fun w hw => ⟨hw.rdM hz (far_four hfar), far_two hfar⟩) (τ := fun _ => [_, _, _, _]) (fun _ => rfl)) (fun _ _ _ h => h.2.sel [0, 1] (by decide)) (fun _ => ?_)
  refine WPD.fact (fun _ => ?_)
  refine WPD.take rfl (v_nil rfl) ?_ (fun _ h => h.sel [0, 1] (by decide))
  refine WPD.ef0 rfl (x_store (u := .int .i64 _) (σ' := [_, _, _, _]) Try.sizeOf52 rfl rfl (i := 1) rfl (by first | omega | (simp; omega)) rfl) (fun h => absurd rfl h) (fun _ => ?_)
  exact WPD.nil fun w hw => RetQ.of0 Try.results74 (.inr rfl) ⟨(), rfl, trivial, (hw.sel [0, 1, 2, 3] (by decide))⟩
theorem get76_ct (wk sb ab lb j k : Nat) (bad : Bool) (cs : List Value) (A : Option Addr) (c : Nat) (l : List Int) (v z : Int) (hl : l.length ≤ 100) (hj : cs[j]? = some (.int .i64 z)) (hv : l[k]? = some v) :
    Ct Try.prog 76 #[.pointer (some ⟨wk, 0, none⟩), .pointer (some ⟨sb, j, none⟩)] [walkI wk (getF ab lb) bad, styI sb cs, atI ab k, boxI lb A c l] (fun w => RdI w A l ∧ Far A [wk, sb, ab, lb]) (X := Unit) (fun _ => .tuple #[]) (fun _ => True)
      (fun _ => [walkI wk (getF ab lb) bad, styI sb (cs.set j (.int .i64 v)), atI ab (k + 1), boxI lb A c l]) := by
  refine Ct.intro Try.func76 rfl Try.ntmps76 (by simp) (fun w0 ⟨hz, hfar⟩ => ?_)
  have hjl := (List.getElem?_eq_some_iff.1 hj).1
  refine WP.drawSel (some 10) [0, 1] [(0, true), (1, true), (2, true), (3, true), (4, true), (5, true), (6, true), (7, true), (8, false), (9, true), (10, false)] mixed (by kernel_rfl) (by decide) ?_
  refine WPD.take rfl (v_move (v := .pointer _) rfl) ?_ (fun _ h => h.sel [0, 1] (by decide))
  refine WPD.take rfl (v_move (v := .pointer _) rfl) ?_ (fun _ h => h.sel [0, 1] (by decide))
  refine WPD.take rfl (v_nil rfl) ?_ (fun _ h => h.sel [0, 1] (by decide))
  refine WPD.take rfl (v_fieldL (o' := 0) Try.underlying96 rfl Try.sizeOf94 rfl rfl) ?_ (fun _ h => h.sel [0, 1] (by decide))
  refine WPD.take rfl (v_load1 (u := _) Try.isAgg94 rfl (fun w hw => hw.cl_at (i := 0) rfl _ rfl)) ?_ (fun _ h => h.sel [0, 1] (by decide))
  refine WPD.take rfl (v_move (v := .pointer _) rfl) ?_ (fun _ h => h.sel [0, 1] (by decide))
  refine WPD.take rfl (v_nil rfl) ?_ (fun _ h => h.sel [0, 1] (by decide))
  refine WPD.take rfl (v_load1 (u := .int .i64 _) Try.isAgg53 rfl (fun w hw => hw.cl_at (i := 1) rfl j (cell_of hj))) ?_ (fun _ h => h.sel [0, 1] (by decide))
  refine WPD.ef rfl (x_callV Try.call57 (getEach_ct ab lb A c l k v z hv hl) [2, 3] [0, 1] rfl (fun w hw => ⟨hw.rdM hz (far_four hfar), far_two hfar⟩) (τ := fun _ => [_, _, _, _]) (fun _ => rfl)) (fun _ _ _ h => h.2.sel [0, 1] (by decide)) (fun _ => ?_)
  refine WPD.fact (fun _ => ?_)
  refine WPD.take rfl (v_nil rfl) ?_ (fun _ h => h.sel [0, 1] (by decide))
  refine WPD.ef0 rfl (x_store (u := .int .i64 _) (σ' := [_, _, _, _]) Try.sizeOf53 rfl rfl (i := 1) rfl (by first | omega | (simp; omega)) rfl) (fun h => absurd rfl h) (fun _ => ?_)
  exact WPD.nil fun w hw => RetQ.of0 Try.results76 (.inr rfl) ⟨(), rfl, trivial, (hw.sel [0, 1, 2, 3] (by decide))⟩
theorem get77_ct (wk sb ab lb j k : Nat) (bad : Bool) (cs : List Value) (A : Option Addr) (c : Nat) (l : List Int) (v z : Int) (hl : l.length ≤ 100) (hj : cs[j]? = some (.int .i64 z)) (hv : l[k]? = some v) :
    Ct Try.prog 77 #[.pointer (some ⟨wk, 0, none⟩), .pointer (some ⟨sb, j, none⟩)] [walkI wk (getF ab lb) bad, styI sb cs, atI ab k, boxI lb A c l] (fun w => RdI w A l ∧ Far A [wk, sb, ab, lb]) (X := Unit) (fun _ => .tuple #[]) (fun _ => True)
      (fun _ => [walkI wk (getF ab lb) bad, styI sb (cs.set j (.int .i64 v)), atI ab (k + 1), boxI lb A c l]) := by
  refine Ct.intro Try.func77 rfl Try.ntmps77 (by simp) (fun w0 ⟨hz, hfar⟩ => ?_)
  have hjl := (List.getElem?_eq_some_iff.1 hj).1
  refine WP.drawSel (some 10) [0, 1] [(0, true), (1, true), (2, true), (3, true), (4, true), (5, true), (6, true), (7, true), (8, false), (9, true), (10, false)] mixed (by kernel_rfl) (by decide) ?_
  refine WPD.take rfl (v_move (v := .pointer _) rfl) ?_ (fun _ h => h.sel [0, 1] (by decide))
  refine WPD.take rfl (v_move (v := .pointer _) rfl) ?_ (fun _ h => h.sel [0, 1] (by decide))
  refine WPD.take rfl (v_nil rfl) ?_ (fun _ h => h.sel [0, 1] (by decide))
  refine WPD.take rfl (v_fieldL (o' := 0) Try.underlying96 rfl Try.sizeOf94 rfl rfl) ?_ (fun _ h => h.sel [0, 1] (by decide))
  refine WPD.take rfl (v_load1 (u := _) Try.isAgg94 rfl (fun w hw => hw.cl_at (i := 0) rfl _ rfl)) ?_ (fun _ h => h.sel [0, 1] (by decide))
  refine WPD.take rfl (v_move (v := .pointer _) rfl) ?_ (fun _ h => h.sel [0, 1] (by decide))
  refine WPD.take rfl (v_nil rfl) ?_ (fun _ h => h.sel [0, 1] (by decide))
  refine WPD.take rfl (v_load1 (u := .int .i64 _) Try.isAgg54 rfl (fun w hw => hw.cl_at (i := 1) rfl j (cell_of hj))) ?_ (fun _ h => h.sel [0, 1] (by decide))
  refine WPD.ef rfl (x_callV Try.call57 (getEach_ct ab lb A c l k v z hv hl) [2, 3] [0, 1] rfl (fun w hw => ⟨hw.rdM hz (far_four hfar), far_two hfar⟩) (τ := fun _ => [_, _, _, _]) (fun _ => rfl)) (fun _ _ _ h => h.2.sel [0, 1] (by decide)) (fun _ => ?_)
  refine WPD.fact (fun _ => ?_)
  refine WPD.take rfl (v_nil rfl) ?_ (fun _ h => h.sel [0, 1] (by decide))
  refine WPD.ef0 rfl (x_store (u := .int .i64 _) (σ' := [_, _, _, _]) Try.sizeOf54 rfl rfl (i := 1) rfl (by first | omega | (simp; omega)) rfl) (fun h => absurd rfl h) (fun _ => ?_)
  exact WPD.nil fun w hw => RetQ.of0 Try.results77 (.inr rfl) ⟨(), rfl, trivial, (hw.sel [0, 1, 2, 3] (by decide))⟩
theorem get78_ct (wk sb ab lb j k : Nat) (bad : Bool) (cs : List Value) (A : Option Addr) (c : Nat) (l : List Int) (v z : Int) (hl : l.length ≤ 100) (hj : cs[j]? = some (.int .i64 z)) (hv : l[k]? = some v) :
    Ct Try.prog 78 #[.pointer (some ⟨wk, 0, none⟩), .pointer (some ⟨sb, j, none⟩)] [walkI wk (getF ab lb) bad, styI sb cs, atI ab k, boxI lb A c l] (fun w => RdI w A l ∧ Far A [wk, sb, ab, lb]) (X := Unit) (fun _ => .tuple #[]) (fun _ => True)
      (fun _ => [walkI wk (getF ab lb) bad, styI sb (cs.set j (.int .i64 v)), atI ab (k + 1), boxI lb A c l]) := by
  refine Ct.intro Try.func78 rfl Try.ntmps78 (by simp) (fun w0 ⟨hz, hfar⟩ => ?_)
  have hjl := (List.getElem?_eq_some_iff.1 hj).1
  refine WP.drawSel (some 10) [0, 1] [(0, true), (1, true), (2, true), (3, true), (4, true), (5, true), (6, true), (7, true), (8, false), (9, true), (10, false)] mixed (by kernel_rfl) (by decide) ?_
  refine WPD.take rfl (v_move (v := .pointer _) rfl) ?_ (fun _ h => h.sel [0, 1] (by decide))
  refine WPD.take rfl (v_move (v := .pointer _) rfl) ?_ (fun _ h => h.sel [0, 1] (by decide))
  refine WPD.take rfl (v_nil rfl) ?_ (fun _ h => h.sel [0, 1] (by decide))
  refine WPD.take rfl (v_fieldL (o' := 0) Try.underlying96 rfl Try.sizeOf94 rfl rfl) ?_ (fun _ h => h.sel [0, 1] (by decide))
  refine WPD.take rfl (v_load1 (u := _) Try.isAgg94 rfl (fun w hw => hw.cl_at (i := 0) rfl _ rfl)) ?_ (fun _ h => h.sel [0, 1] (by decide))
  refine WPD.take rfl (v_move (v := .pointer _) rfl) ?_ (fun _ h => h.sel [0, 1] (by decide))
  refine WPD.take rfl (v_nil rfl) ?_ (fun _ h => h.sel [0, 1] (by decide))
  refine WPD.take rfl (v_load1 (u := .int .i64 _) Try.isAgg46 rfl (fun w hw => hw.cl_at (i := 1) rfl j (cell_of hj))) ?_ (fun _ h => h.sel [0, 1] (by decide))
  refine WPD.ef rfl (x_callV Try.call57 (getEach_ct ab lb A c l k v z hv hl) [2, 3] [0, 1] rfl (fun w hw => ⟨hw.rdM hz (far_four hfar), far_two hfar⟩) (τ := fun _ => [_, _, _, _]) (fun _ => rfl)) (fun _ _ _ h => h.2.sel [0, 1] (by decide)) (fun _ => ?_)
  refine WPD.fact (fun _ => ?_)
  refine WPD.take rfl (v_nil rfl) ?_ (fun _ h => h.sel [0, 1] (by decide))
  refine WPD.ef0 rfl (x_store (u := .int .i64 _) (σ' := [_, _, _, _]) Try.sizeOf46 rfl rfl (i := 1) rfl (by first | omega | (simp; omega)) rfl) (fun h => absurd rfl h) (fun _ => ?_)
  exact WPD.nil fun w hw => RetQ.of0 Try.results78 (.inr rfl) ⟨(), rfl, trivial, (hw.sel [0, 1, 2, 3] (by decide))⟩

theorem putLen_ct (wk sb lb j : Nat) (bad : Bool) (cs : List Value) (A : Option Addr) (c : Nat) (l : List Int) (y z : Int) (hl : l.length ≤ 99) (hj : cs[j]? = some (.int .i64 y)) (hj2 : cs[j + 1]? = some (.int .i64 z)) :
    Ct Try.prog 71 #[.pointer (some ⟨wk, 0, none⟩), .pointer (some ⟨sb, j, none⟩)] [walkI wk (putF lb) bad, styI sb cs, boxI lb A c l, intsI A c l] (fun _ => True) (X := Option Addr × Nat) (fun _ => .tuple #[]) (fun _ => True)
      (fun p => [walkI wk (putF lb) bad, styI sb cs, boxI lb p.1 p.2 (l ++ [y] ++ [z]), intsI p.1 p.2 (l ++ [y] ++ [z])]) := by
  refine Ct.intro Try.func71 rfl Try.ntmps71 (by simp) (fun w0 _ => ?_)
  refine WP.seq ?_
  refine WP.region ?_
  refine WPL.val (v_move (v := .pointer _) rfl) ?_
  refine WPL.val (v_move (v := .pointer _) rfl) ?_
  refine WPL.val (v_nil rfl) ?_
  refine WPL.val (v_field (off := 0) Try.underlying48 rfl Try.sizeOf46 rfl) ?_
  refine WPL.ef (x_call Try.call78 (put78_ct wk sb lb j bad cs A c l y (by omega) hj) [0, 1, 2, 3] [] rfl (fun w hw => trivial) (τ := fun _ => [_, _, _, _]) (fun _ => rfl)) (fun ⟨A1, c1⟩ => ?_)
  refine WPL.fact (fun _ => ?_)
  refine WPL.nil (onto_of ?_)
  refine WP.region ?_
  refine WPL.val (v_move (v := .pointer _) rfl) ?_
  refine WPL.val (v_move (v := .pointer _) rfl) ?_
  refine WPL.val (v_nil rfl) ?_
  refine WPL.val (v_field (off := 1) Try.underlying48 rfl Try.sizeOf3 rfl) ?_
  refine WPL.ef (x_call Try.call72 (put72_ct wk sb lb (j + 1) bad cs A1 c1 (l ++ [y]) z (by simp; omega) hj2) [0, 1, 2, 3] [] rfl (fun w hw => trivial) (τ := fun _ => [_, _, _, _]) (fun _ => rfl)) (fun ⟨A2, c2⟩ => ?_)
  refine WPL.fact (fun _ => ?_)
  exact WPL.nil fun w hw => RetQ.of0 Try.results71 (.inr rfl) ⟨(A2, c2), rfl, trivial, (hw.sel [0, 1, 2, 3] (by decide))⟩
theorem getLen_ct (wk sb ab lb j k : Nat) (bad : Bool) (cs : List Value) (A : Option Addr) (c : Nat) (l : List Int) (u v y z : Int) (hl : l.length ≤ 100) (hj : cs[j]? = some (.int .i64 y)) (hj2 : cs[j + 1]? = some (.int .i64 z)) (hu : l[k]? = some u) (hv : l[k + 1]? = some v) :
    Ct Try.prog 71 #[.pointer (some ⟨wk, 0, none⟩), .pointer (some ⟨sb, j, none⟩)] [walkI wk (getF ab lb) bad, styI sb cs, atI ab k, boxI lb A c l] (fun w => RdI w A l ∧ Far A [wk, sb, ab, lb]) (X := Unit) (fun _ => .tuple #[]) (fun _ => True)
      (fun _ => [walkI wk (getF ab lb) bad, styI sb ((cs.set j (.int .i64 u)).set (j + 1) (.int .i64 v)), atI ab (k + 1 + 1), boxI lb A c l]) := by
  refine Ct.intro Try.func71 rfl Try.ntmps71 (by simp) (fun w0 ⟨hz, hfar⟩ => ?_)
  refine WP.seq ?_
  refine WP.region ?_
  refine WPL.val (v_move (v := .pointer _) rfl) ?_
  refine WPL.val (v_move (v := .pointer _) rfl) ?_
  refine WPL.val (v_nil rfl) ?_
  refine WPL.val (v_field (off := 0) Try.underlying48 rfl Try.sizeOf46 rfl) ?_
  refine WPL.ef (x_call Try.call78 (get78_ct wk sb ab lb j k bad cs A c l u y hl hj hu) [0, 1, 2, 3] [] rfl (fun w hw => ⟨hw.rdM hz (far_four hfar), hfar⟩) (τ := fun _ => [_, _, _, _]) (fun _ => rfl)) (fun _ => ?_)
  refine WPL.fact (fun _ => ?_)
  refine WPL.nil (onto_of ?_)
  have hj3 : (cs.set j (.int .i64 u))[j + 1]? = some (.int .i64 z) := by rw [List.getElem?_set_ne (by omega)]; exact hj2
  refine WP.region ?_
  refine WPL.val (v_move (v := .pointer _) rfl) ?_
  refine WPL.val (v_move (v := .pointer _) rfl) ?_
  refine WPL.val (v_nil rfl) ?_
  refine WPL.val (v_field (off := 1) Try.underlying48 rfl Try.sizeOf3 rfl) ?_
  refine WPL.ef (x_call Try.call72 (get72_ct wk sb ab lb (j + 1) (k + 1) bad (cs.set j (.int .i64 u)) A c l v z hl hj3 hv) [0, 1, 2, 3] [] rfl (fun w hw => ⟨hw.rdM hz (far_four hfar), hfar⟩) (τ := fun _ => [_, _, _, _]) (fun _ => rfl)) (fun _ => ?_)
  refine WPL.fact (fun _ => ?_)
  exact WPL.nil fun w hw => RetQ.of0 Try.results71 (.inr rfl) ⟨(), rfl, trivial, (hw.sel [0, 1, 2, 3] (by decide))⟩
end Go.Proofs.Ytabdcfobdehhiaa
