/- slices.Concat, slices.ContainsFunc, as record uses them. -/
import Derived.Test.YtmjdmlgdffoimaaRecPure
import Derived.Test.YtmjdmlgdffoimaaOps2
namespace Go.Proofs.Ytmjdmlgdffoimaa
open Go.RowKit

theorem info34 : (Try.prog.info? 34).map (fun i => (i.zero, i.size, i.bytes)) = some (some (.agg #[.int .i64 0, .int .i64 0]), 2, 16) := by kernel_rfl
theorem any_more {α : Type} {p : α → Bool} {l : List α} {k : Nat} {x : α} (h : (l.take k).any p = false) (hx : l[k]? = some x) (hp : p x = false) : (l.take (k + 1)).any p = false := by
  rw [List.take_add_one, hx, List.any_append, h]; simp [hp]
theorem any_at {α : Type} {p : α → Bool} {l : List α} {k : Nat} {x : α} (hx : l[k]? = some x) (hp : p x = true) : l.any p = true := List.any_eq_true.2 ⟨x, List.mem_of_getElem? hx, hp⟩

abbrev lenE (p : Int × Int) : List Value := [.int .i64 p.1, .int .i64 p.2]
theorem oddLen_ct (k n : Int) : Ct Try.prog 60 #[.agg #[.int .i64 k, .int .i64 n]] [] (fun _ => True) (X := Unit) (fun _ => .bool (!lenOk k n)) (fun _ => True) (fun _ => []) := by
  refine Ct.intro Try.func60 rfl Try.ntmps60 (by simp) (fun w0 _ => ?_)
  refine WP.seq ?_
  refine WP.region ?_
  refine WPL.ef (x_boxA (us := [.int .i64 _, .int .i64 _]) (σ' := fun _ => [_]) rfl (fun _ => rfl)) (fun b1 => ?_)
  refine WPL.val (v_assign (v := .bool false) rfl) ?_
  refine WPL.nil (onto_of ?_)
  refine WP.seq ?_
  refine WP.region ?_
  refine WPL.val (v_loadA (cs := [.int .i64 _, .int .i64 _]) Try.isAgg34 Try.sizeOf34 rfl (fun w hw => hw.cl_at (i := 0) rfl _ rfl)) ?_
  refine WPL.ef (x_call Try.call61 (lenValid_ct k n) [] [0] rfl (fun w hw => trivial) (τ := fun _ => [_]) (fun _ => rfl)) (fun _ => ?_)
  refine WPL.fact (fun _ => ?_)
  refine WPL.val (v_not rfl) ?_
  refine WPL.val (v_assign (v := .bool _) rfl) ?_
  refine WPL.nil (onto_of ?_)
  exact WP.ret1 Try.results60 (fun _ h => h) (fun w hw => ⟨(), rfl, trivial, hw.sel [] (by decide)⟩)
theorem farInt_ct (n : Int) : Ct Try.prog 62 #[.int .i64 n] [] (fun _ => True) (X := Unit) (fun _ => .bool (!within n 0 1048576)) (fun _ => True) (fun _ => []) := by
  refine Ct.intro Try.func62 rfl Try.ntmps62 (by simp) (fun w0 _ => ?_)
  refine WP.seq ?_
  refine WP.region ?_
  refine WPL.val (v_assign (v := .bool false) rfl) ?_
  refine WPL.nil (onto_of ?_)
  refine WP.seq ?_
  refine WP.region ?_
  refine WPL.val (v_move (v := .int .i64 _) rfl) ?_
  refine WPL.val (v_call Try.call63 (fun w hw => in63_any _ 0 1048576 _)) ?_
  refine WPL.val (v_not rfl) ?_
  refine WPL.val (v_assign (v := .bool _) rfl) ?_
  refine WPL.nil (onto_of ?_)
  exact WP.ret1 Try.results62 (fun _ h => h) (fun w hw => ⟨(), rfl, trivial, hw.sel [] (by decide)⟩)

theorem grow76_ct (n : Nat) (h0 : 0 < n) (hn : n ≤ 1000) : Ct Try.prog 76 #[.slice none 0 0, .int .i64 n] [] (fun _ => True) (X := Nat × Nat) (fun p => .slice (some ⟨p.1, 0, none⟩) 0 p.2) (fun _ => True) (fun p => [.row 34 2 (some ⟨p.1, 0, none⟩) 0 p.2 []]) := by
  refine Ct.intro Try.func76 rfl Try.ntmps76 (by simp) (fun w0 _ => ?_)
  refine WP.seq ?_
  refine WP.region ?_
  refine WPL.val (v_assign (v := .slice none 0 0) rfl) ?_
  refine WPL.nil (onto_of ?_)
  refine WP.seq ?_
  refine WP.seq ?_
  refine WP.region ?_
  refine WPL.val (v_move (v := .int .i64 _) rfl) ?_
  refine WPL.val (v_lss rfl rfl) ?_
  refine WPL.nil (onto_of ?_)
  refine WP.condP rfl (fun h => absurd h (by omega)) (fun h6 => ?_)
  refine WP.skip (onto_of ?_)
  refine WP.seq ?_
  refine WP.seq ?_
  refine WP.region ?_
  refine WPL.val (v_move (v := .int .i64 _) rfl) ?_
  refine WPL.val (v_move (v := .slice _ _ _) rfl) ?_
  refine WPL.val (v_cap Try.underlying93 rfl) ?_
  refine WPL.val (v_move (v := .slice _ _ _) rfl) ?_
  refine WPL.val (v_len Try.underlying93 rfl) ?_
  refine WPL.val (v_sub rfl rfl (by omega)) ?_
  refine WPL.val (v_sub rfl rfl (by omega)) ?_
  refine WPL.val (v_assign (v := .int .i64 _) rfl) ?_
  refine WPL.nil (onto_of ?_)
  refine WP.seq ?_
  refine WP.region ?_
  refine WPL.val (v_move (v := .int .i64 _) rfl) ?_
  refine WPL.val (v_gtr rfl rfl) ?_
  refine WPL.nil (onto_of ?_)
  refine WP.condP rfl (fun h16 => ?_) (fun h => absurd (by omega) h)
  refine WP.region ?_
  refine WPL.val (v_move (v := .slice _ _ _) rfl) ?_
  refine WPL.val (v_move (v := .slice _ _ _) rfl) ?_
  refine WPL.val (v_cap Try.underlying93 rfl) ?_
  refine WPL.val (v_slice (kl := 0) (l := 0) (h := 0) Try.underlying93 Try.sizeOf34 rfl rfl ⟨rfl, rfl⟩ (by omega) (by omega)) ?_
  refine WPL.val (v_move (v := .int .i64 _) rfl) ?_
  refine WPL.ef (x_grow (n := n) (σ' := fun _ => [_]) Try.underlying93 Try.underlying3 info34 rfl (by decide) rfl rfl (by omega) h0 hn (by decide) (fun _ => rfl)) (fun ⟨g, c22⟩ => ?_)
  refine WPL.fact (fun hcap => ?_)
  refine WPL.val (v_move (v := .slice _ _ _) rfl) ?_
  refine WPL.val (v_len Try.underlying93 rfl) ?_
  refine WPL.val (v_slice (kl := 0) (l := 0) (h := 0) Try.underlying93 Try.sizeOf34 rfl rfl ⟨rfl, rfl⟩ (by omega) (by omega)) ?_
  simp only [cutAddr_zero]
  refine WPL.val (v_assign (v := .slice _ _ _) rfl) ?_
  refine WPL.nil (onto_of ?_)
  refine WP.seq ?_
  refine WP.region ?_
  refine WPL.val (v_move (v := .slice _ _ _) rfl) ?_
  refine WPL.val (v_assign (v := .slice _ _ _) rfl) ?_
  refine WPL.nil (onto_of ?_)
  exact WP.ret1 Try.results76 (fun _ h => h) (fun w hw => ⟨(g, c22), rfl, trivial, hw⟩)

theorem grow77_ct (n : Nat) (h0 : 0 < n) (hn : n ≤ 1000) : Ct Try.prog 77 #[.slice none 0 0, .int .i64 n] [] (fun _ => True) (X := Nat × Nat) (fun p => .slice (some ⟨p.1, 0, none⟩) 0 p.2) (fun _ => True) (fun p => [.row 3 1 (some ⟨p.1, 0, none⟩) 0 p.2 []]) := by
  refine Ct.intro Try.func77 rfl Try.ntmps77 (by simp) (fun w0 _ => ?_)
  refine WP.seq ?_
  refine WP.region ?_
  refine WPL.val (v_assign (v := .slice none 0 0) rfl) ?_
  refine WPL.nil (onto_of ?_)
  refine WP.seq ?_
  refine WP.seq ?_
  refine WP.region ?_
  refine WPL.val (v_move (v := .int .i64 _) rfl) ?_
  refine WPL.val (v_lss rfl rfl) ?_
  refine WPL.nil (onto_of ?_)
  refine WP.condP rfl (fun h => absurd h (by omega)) (fun h6 => ?_)
  refine WP.skip (onto_of ?_)
  refine WP.seq ?_
  refine WP.seq ?_
  refine WP.region ?_
  refine WPL.val (v_move (v := .int .i64 _) rfl) ?_
  refine WPL.val (v_move (v := .slice _ _ _) rfl) ?_
  refine WPL.val (v_cap Try.underlying50 rfl) ?_
  refine WPL.val (v_move (v := .slice _ _ _) rfl) ?_
  refine WPL.val (v_len Try.underlying50 rfl) ?_
  refine WPL.val (v_sub rfl rfl (by omega)) ?_
  refine WPL.val (v_sub rfl rfl (by omega)) ?_
  refine WPL.val (v_assign (v := .int .i64 _) rfl) ?_
  refine WPL.nil (onto_of ?_)
  refine WP.seq ?_
  refine WP.region ?_
  refine WPL.val (v_move (v := .int .i64 _) rfl) ?_
  refine WPL.val (v_gtr rfl rfl) ?_
  refine WPL.nil (onto_of ?_)
  refine WP.condP rfl (fun h16 => ?_) (fun h => absurd (by omega) h)
  refine WP.region ?_
  refine WPL.val (v_move (v := .slice _ _ _) rfl) ?_
  refine WPL.val (v_move (v := .slice _ _ _) rfl) ?_
  refine WPL.val (v_cap Try.underlying50 rfl) ?_
  refine WPL.val (v_slice (kl := 0) (l := 0) (h := 0) Try.underlying50 Try.sizeOf3 rfl rfl ⟨rfl, rfl⟩ (by omega) (by omega)) ?_
  refine WPL.val (v_move (v := .int .i64 _) rfl) ?_
  refine WPL.ef (x_grow (n := n) (σ' := fun _ => [_]) Try.underlying50 Try.underlying3 int_info rfl (by decide) rfl rfl (by omega) h0 hn (by decide) (fun _ => rfl)) (fun ⟨g, c22⟩ => ?_)
  refine WPL.fact (fun hcap => ?_)
  refine WPL.val (v_move (v := .slice _ _ _) rfl) ?_
  refine WPL.val (v_len Try.underlying50 rfl) ?_
  refine WPL.val (v_slice (kl := 0) (l := 0) (h := 0) Try.underlying50 Try.sizeOf3 rfl rfl ⟨rfl, rfl⟩ (by omega) (by omega)) ?_
  simp only [cutAddr_zero]
  refine WPL.val (v_assign (v := .slice _ _ _) rfl) ?_
  refine WPL.nil (onto_of ?_)
  refine WP.seq ?_
  refine WP.region ?_
  refine WPL.val (v_move (v := .slice _ _ _) rfl) ?_
  refine WPL.val (v_assign (v := .slice _ _ _) rfl) ?_
  refine WPL.nil (onto_of ?_)
  exact WP.ret1 Try.results77 (fun _ h => h) (fun w hw => ⟨(g, c22), rfl, trivial, hw⟩)

theorem index80_ct (A : Option Addr) (c : Nat) (l : List (Int × Int)) (hl : l.length ≤ 1000) : Ct Try.prog 80 #[.slice A l.length c, .func (.func 60) #[] #[]] [] (fun w => RdE w A 2 lenE l) (X := Int) (fun z => .int .i64 z) (fun z => (0 ≤ z ↔ l.any (fun p => !lenOk p.1 p.2) = true) ∧ z ≤ 1000) (fun _ => []) := by
  refine Ct.intro Try.func80 rfl Try.ntmps80 (by simp) (fun w0 hz => ?_)
  refine WP.seq ?_
  refine WP.region ?_
  refine WPL.val (v_assign (v := .int .i64 (0)) rfl) ?_
  refine WPL.nil (onto_of ?_)
  refine WP.seq ?_
  refine WP.seq ?_
  refine WP.region ?_
  refine WPL.val (v_move (v := .slice _ _ _) rfl) ?_
  refine WPL.val (v_len Try.underlying93 rfl) ?_
  refine WPL.val (v_move (v := .int .i64 (0)) rfl) ?_
  refine WPL.nil (onto_of ?_)
  refine WP.block ?_
  refine WP.loopK (X := Nat) [0, 1, 7] (fun k => [(8, .int .i64 (k : Int))]) (fun k w => (k ≤ l.length ∧ (l.take k).any (fun p => !lenOk p.1 p.2) = false) ∧ St w0 (foots []) [] w) (fun k => l.length - k) 0 ⟨rfl, trivial⟩ (fun w hw => ⟨⟨by omega, by simp⟩, hw⟩) (fun k ρ0 => ?_)
  refine WP.fact (fun ⟨hk, ht⟩ => ?_)
  refine WP.seq ?_
  refine WP.region ?_
  refine WPL.val (v_lss rfl rfl) ?_
  refine WPL.nil (onto_of ?_)
  refine WP.seq ?_
  refine WP.condP rfl (fun h9 => ?_) (fun h9 => ?_)
  ·
    have hk' : k < l.length := by omega
    obtain ⟨x, hx⟩ : ∃ x, l[k]? = some x := ⟨_, List.getElem?_eq_getElem hk'⟩
    obtain ⟨b, o, rfl, hc⟩ := hz k x hx
    refine WP.skip (onto_of ?_)
    refine WP.seq ?_
    refine WP.block ?_
    refine WP.seq ?_
    refine WP.region ?_
    refine WPL.val (v_move (v := .int .i64 _) rfl) ?_
    refine WPL.val (v_assign (v := .int .i64 _) rfl) ?_
    refine WPL.nil (onto_of ?_)
    refine WP.seq ?_
    refine WP.region ?_
    refine WPL.val (v_move rfl) ?_
    refine WPL.val (v_move (v := .slice _ _ _) rfl) ?_
    refine WPL.val (v_move (v := .int .i64 _) rfl) ?_
    refine WPL.val (v_index Try.underlying93 Try.sizeOf34 rfl rfl rfl (by omega)) ?_
    refine WPL.val (v_loadA (cs := [.int .i64 _, .int .i64 _]) Try.isAgg34 Try.sizeOf34 rfl (fun w hw => hw.old_at hc (not_foots_nil _))) ?_
    refine WPL.ef (x_callV Try.call60 (oddLen_ct x.1 x.2) [] [] rfl (fun w hw => trivial) (τ := fun _ => []) (fun _ => rfl)) (fun _ => ?_)
    refine WPL.fact (fun _ => ?_)
    refine WPL.nil (onto_of ?_)
    refine WP.cond rfl (fun h16 => ?_) (fun h16 => ?_)
    ·
      refine WP.seq ?_
      refine WP.region ?_
      refine WPL.val (v_move (v := .int .i64 _) rfl) ?_
      refine WPL.val (v_assign (v := .int .i64 _) rfl) ?_
      refine WPL.nil (onto_of ?_)
      exact WP.ret1 Try.results80 (fun _ h => h) (fun w hw => ⟨_, rfl, by first | exact ⟨⟨fun _ => any_at hx h16, fun _ => by omega⟩, by omega⟩ | exact ⟨⟨fun h => absurd h (by decide), fun h => by rw [hall] at h; cases h⟩, by decide⟩, hw⟩)
    ·
      refine WP.skip (onto_of ?_)
      refine WP.region ?_
      refine WPL.val (v_add rfl rfl (by omega)) ?_
      refine WPL.val (v_move (v := .int .i64 _) rfl) ?_
      exact WPL.nil fun w hw => ⟨rfl, k + 1, (by omega), ⟨rfl, (via (.slice _ _ _) rfl rfl), rfl, (via (.int .i64 _) rfl rfl), trivial⟩, ⟨by omega, any_more ht hx h16⟩, hw⟩
  ·
    have hall : l.any (fun p => !lenOk p.1 p.2) = false := by rw [List.take_of_length_le (by omega)] at ht; exact ht
    refine WP.exit (onto_of ?_)
    refine WP.seq ?_
    refine WP.region ?_
    refine WPL.val (v_assign (v := .int .i64 (-1)) rfl) ?_
    refine WPL.nil (onto_of ?_)
    exact WP.ret1 Try.results80 (fun _ h => h) (fun w hw => ⟨_, rfl, by first | exact ⟨⟨fun _ => any_at hx h16, fun _ => by omega⟩, by omega⟩ | exact ⟨⟨fun h => absurd h (by decide), fun h => by rw [hall] at h; cases h⟩, by decide⟩, hw⟩)
theorem contains71_ct (A : Option Addr) (c : Nat) (l : List (Int × Int)) (hl : l.length ≤ 1000) : Ct Try.prog 71 #[.slice A l.length c, .func (.func 60) #[] #[]] [] (fun w => RdE w A 2 lenE l) (X := Unit) (fun _ => .bool (l.any (fun p => !lenOk p.1 p.2))) (fun _ => True) (fun _ => []) := by
  refine Ct.intro Try.func71 rfl Try.ntmps71 (by simp) (fun w0 hz => ?_)
  refine WP.seq ?_
  refine WP.region ?_
  refine WPL.val (v_assign (v := .bool false) rfl) ?_
  refine WPL.nil (onto_of ?_)
  refine WP.seq ?_
  refine WP.region ?_
  refine WPL.val (v_move (v := .slice _ _ _) rfl) ?_
  refine WPL.val (v_move rfl) ?_
  refine WPL.ef (x_call Try.call80 (index80_ct A c l hl) [] [] rfl (fun w hw => hw.rd hz (not_foots_nil)) (τ := fun _ => []) (fun _ => rfl)) (fun z => ?_)
  refine WPL.fact (fun ⟨hz1, hz2⟩ => ?_)
  refine WPL.val (v_geq rfl rfl) ?_
  refine WPL.val (v_assign (v := .bool _) rfl) ?_
  refine WPL.nil (onto_of ?_)
  exact WP.ret1 Try.results71 (fun _ h => h) (fun w hw => ⟨(), congrArg Value.bool (by rw [Bool.eq_iff_iff, decide_eq_true_iff]; exact hz1), trivial, hw⟩)

theorem index81_ct (A : Option Addr) (c : Nat) (l : List Int) (hl : l.length ≤ 1000) : Ct Try.prog 81 #[.slice A l.length c, .func (.func 62) #[] #[]] [] (fun w => RdE w A 1 encI l) (X := Int) (fun z => .int .i64 z) (fun z => (0 ≤ z ↔ l.any (fun n => !within n 0 1048576) = true) ∧ z ≤ 1000) (fun _ => []) := by
  refine Ct.intro Try.func81 rfl Try.ntmps81 (by simp) (fun w0 hz => ?_)
  refine WP.seq ?_
  refine WP.region ?_
  refine WPL.val (v_assign (v := .int .i64 (0)) rfl) ?_
  refine WPL.nil (onto_of ?_)
  refine WP.seq ?_
  refine WP.seq ?_
  refine WP.region ?_
  refine WPL.val (v_move (v := .slice _ _ _) rfl) ?_
  refine WPL.val (v_len Try.underlying50 rfl) ?_
  refine WPL.val (v_move (v := .int .i64 (0)) rfl) ?_
  refine WPL.nil (onto_of ?_)
  refine WP.block ?_
  refine WP.loopK (X := Nat) [0, 1, 7] (fun k => [(8, .int .i64 (k : Int))]) (fun k w => (k ≤ l.length ∧ (l.take k).any (fun n => !within n 0 1048576) = false) ∧ St w0 (foots []) [] w) (fun k => l.length - k) 0 ⟨rfl, trivial⟩ (fun w hw => ⟨⟨by omega, by simp⟩, hw⟩) (fun k ρ0 => ?_)
  refine WP.fact (fun ⟨hk, ht⟩ => ?_)
  refine WP.seq ?_
  refine WP.region ?_
  refine WPL.val (v_lss rfl rfl) ?_
  refine WPL.nil (onto_of ?_)
  refine WP.seq ?_
  refine WP.condP rfl (fun h9 => ?_) (fun h9 => ?_)
  ·
    have hk' : k < l.length := by omega
    obtain ⟨x, hx⟩ : ∃ x, l[k]? = some x := ⟨_, List.getElem?_eq_getElem hk'⟩
    obtain ⟨b, o, rfl, hc⟩ := hz k x hx
    refine WP.skip (onto_of ?_)
    refine WP.seq ?_
    refine WP.block ?_
    refine WP.seq ?_
    refine WP.region ?_
    refine WPL.val (v_move (v := .int .i64 _) rfl) ?_
    refine WPL.val (v_assign (v := .int .i64 _) rfl) ?_
    refine WPL.nil (onto_of ?_)
    refine WP.seq ?_
    refine WP.region ?_
    refine WPL.val (v_move rfl) ?_
    refine WPL.val (v_move (v := .slice _ _ _) rfl) ?_
    refine WPL.val (v_move (v := .int .i64 _) rfl) ?_
    refine WPL.val (v_index Try.underlying50 Try.sizeOf3 rfl rfl rfl (by omega)) ?_
    refine WPL.val (v_load1 (u := .int .i64 _) Try.isAgg3 rfl (fun w hw => hw.old_at hc (not_foots_nil _))) ?_
    refine WPL.ef (x_callV Try.call62 (farInt_ct x) [] [] rfl (fun w hw => trivial) (τ := fun _ => []) (fun _ => rfl)) (fun _ => ?_)
    refine WPL.fact (fun _ => ?_)
    refine WPL.nil (onto_of ?_)
    refine WP.cond rfl (fun h16 => ?_) (fun h16 => ?_)
    ·
      refine WP.seq ?_
      refine WP.region ?_
      refine WPL.val (v_move (v := .int .i64 _) rfl) ?_
      refine WPL.val (v_assign (v := .int .i64 _) rfl) ?_
      refine WPL.nil (onto_of ?_)
      exact WP.ret1 Try.results81 (fun _ h => h) (fun w hw => ⟨_, rfl, by first | exact ⟨⟨fun _ => any_at hx h16, fun _ => by omega⟩, by omega⟩ | exact ⟨⟨fun h => absurd h (by decide), fun h => by rw [hall] at h; cases h⟩, by decide⟩, hw⟩)
    ·
      refine WP.skip (onto_of ?_)
      refine WP.region ?_
      refine WPL.val (v_add rfl rfl (by omega)) ?_
      refine WPL.val (v_move (v := .int .i64 _) rfl) ?_
      exact WPL.nil fun w hw => ⟨rfl, k + 1, (by omega), ⟨rfl, (via (.slice _ _ _) rfl rfl), rfl, (via (.int .i64 _) rfl rfl), trivial⟩, ⟨by omega, any_more ht hx h16⟩, hw⟩
  ·
    have hall : l.any (fun n => !within n 0 1048576) = false := by rw [List.take_of_length_le (by omega)] at ht; exact ht
    refine WP.exit (onto_of ?_)
    refine WP.seq ?_
    refine WP.region ?_
    refine WPL.val (v_assign (v := .int .i64 (-1)) rfl) ?_
    refine WPL.nil (onto_of ?_)
    exact WP.ret1 Try.results81 (fun _ h => h) (fun w hw => ⟨_, rfl, by first | exact ⟨⟨fun _ => any_at hx h16, fun _ => by omega⟩, by omega⟩ | exact ⟨⟨fun h => absurd h (by decide), fun h => by rw [hall] at h; cases h⟩, by decide⟩, hw⟩)
theorem contains72_ct (A : Option Addr) (c : Nat) (l : List Int) (hl : l.length ≤ 1000) : Ct Try.prog 72 #[.slice A l.length c, .func (.func 62) #[] #[]] [] (fun w => RdE w A 1 encI l) (X := Unit) (fun _ => .bool (l.any (fun n => !within n 0 1048576))) (fun _ => True) (fun _ => []) := by
  refine Ct.intro Try.func72 rfl Try.ntmps72 (by simp) (fun w0 hz => ?_)
  refine WP.seq ?_
  refine WP.region ?_
  refine WPL.val (v_assign (v := .bool false) rfl) ?_
  refine WPL.nil (onto_of ?_)
  refine WP.seq ?_
  refine WP.region ?_
  refine WPL.val (v_move (v := .slice _ _ _) rfl) ?_
  refine WPL.val (v_move rfl) ?_
  refine WPL.ef (x_call Try.call81 (index81_ct A c l hl) [] [] rfl (fun w hw => hw.rd hz (not_foots_nil)) (τ := fun _ => []) (fun _ => rfl)) (fun z => ?_)
  refine WPL.fact (fun ⟨hz1, hz2⟩ => ?_)
  refine WPL.val (v_geq rfl rfl) ?_
  refine WPL.val (v_assign (v := .bool _) rfl) ?_
  refine WPL.nil (onto_of ?_)
  exact WP.ret1 Try.results72 (fun _ h => h) (fun w hw => ⟨(), congrArg Value.bool (by rw [Bool.eq_iff_iff, decide_eq_true_iff]; exact hz1), trivial, hw⟩)

theorem concat58_ct (ob oc : Nat) (A0 A1 A2 : Option Addr) (c0 c1 c2 : Nat) (xs0 xs1 xs2 : List Value) (hl0 : xs0.length = 7 * 2) (hl1 : xs1.length = 4 * 2) (hl2 : xs2.length = 4 * 2) (h1 : ∀ u ∈ xs0 ++ xs1 ++ xs2, u.oneCell' = true) :
    Ct Try.prog 58 #[.slice (some ⟨ob, 0, none⟩) 3 oc] [] (fun w => CellsAt w ob 0 [.slice A0 7 c0] ∧ CellsAt w ob 1 [.slice A1 4 c1] ∧ CellsAt w ob 2 [.slice A2 4 c2] ∧ Src w A0 7 xs0 ∧ Src w A1 4 xs1 ∧ Src w A2 4 xs2) (X := Nat × Nat) (fun p => .slice (some ⟨p.1, 0, none⟩) 15 p.2) (fun _ => True) (fun p => [.row 34 2 (some ⟨p.1, 0, none⟩) 15 p.2 (xs0 ++ xs1 ++ xs2)]) := by
  refine Ct.intro Try.func58 rfl Try.ntmps58 (by simp) (fun w0 ⟨ho0, ho1, ho2, hs0, hs1, hs2⟩ => ?_)
  refine WP.seq ?_
  refine WP.region ?_
  refine WPL.val (v_assign (v := .slice none 0 0) rfl) ?_
  refine WPL.nil (onto_of ?_)
  refine WP.seq ?_
  refine WP.region ?_
  refine WPL.val (v_assign (v := .int .i64 (0)) rfl) ?_
  refine WPL.nil (onto_of ?_)
  refine WP.seq ?_
  refine WP.seq ?_
  refine WP.region ?_
  refine WPL.val (v_move (v := .slice _ _ _) rfl) ?_
  refine WPL.val (v_len Try.underlying107 rfl) ?_
  refine WPL.val (v_move (v := .int .i64 (0)) rfl) ?_
  refine WPL.nil (onto_of ?_)
  refine WP.block ?_
  refine WP.loopN 4 ?_
  refine WPR.succ ?_
  refine WP.seq ?_
  refine WP.region ?_
  refine WPL.val (v_lit (b := true) (v_lss rfl rfl) (by decide)) ?_
  refine WPL.nil (onto_of ?_)
  refine WP.seq ?_
  refine WP.condT rfl ?_
  refine WP.skip (onto_of ?_)
  refine WP.seq ?_
  refine WP.block ?_
  refine WP.seq ?_
  refine WP.region ?_
  refine WPL.val (v_index (j := 0) Try.underlying107 Try.sizeOf93 rfl rfl rfl (by omega)) ?_
  refine WPL.val (v_load1 (u := .slice _ _ _) Try.isAgg93 rfl (fun w hw => hw.old_at ho0 (not_foots_nil _))) ?_
  refine WPL.val (v_assign (v := .slice _ _ _) rfl) ?_
  refine WPL.nil (onto_of ?_)
  refine WP.seq ?_
  refine WP.region ?_
  refine WPL.val (v_move (v := .int .i64 _) rfl) ?_
  refine WPL.val (v_move (v := .slice _ _ _) rfl) ?_
  refine WPL.val (v_len Try.underlying93 rfl) ?_
  refine WPL.val (v_addL (k := 7) rfl rfl) ?_
  refine WPL.val (v_assign (v := .int .i64 _) rfl) ?_
  refine WPL.nil (onto_of ?_)
  refine WP.seq ?_
  refine WP.region ?_
  refine WPL.val (v_move (v := .int .i64 _) rfl) ?_
  refine WPL.val (v_lit (b := false) (v_lss rfl rfl) (by decide)) ?_
  refine WPL.nil (onto_of ?_)
  refine WP.condF rfl ?_
  refine WP.skip (onto_of ?_)
  refine WP.region ?_
  refine WPL.val (v_addL (k := 1) rfl rfl) ?_
  refine WPL.val (v_move (v := .int .i64 _) rfl) ?_
  refine WPL.nil (rounds_of ?_)
  refine WPR.succ ?_
  refine WP.seq ?_
  refine WP.region ?_
  refine WPL.val (v_lit (b := true) (v_lss rfl rfl) (by decide)) ?_
  refine WPL.nil (onto_of ?_)
  refine WP.seq ?_
  refine WP.condT rfl ?_
  refine WP.skip (onto_of ?_)
  refine WP.seq ?_
  refine WP.block ?_
  refine WP.seq ?_
  refine WP.region ?_
  refine WPL.val (v_index (j := 1) Try.underlying107 Try.sizeOf93 rfl rfl rfl (by omega)) ?_
  refine WPL.val (v_load1 (u := .slice _ _ _) Try.isAgg93 rfl (fun w hw => hw.old_at ho1 (not_foots_nil _))) ?_
  refine WPL.val (v_assign (v := .slice _ _ _) rfl) ?_
  refine WPL.nil (onto_of ?_)
  refine WP.seq ?_
  refine WP.region ?_
  refine WPL.val (v_move (v := .int .i64 _) rfl) ?_
  refine WPL.val (v_move (v := .slice _ _ _) rfl) ?_
  refine WPL.val (v_len Try.underlying93 rfl) ?_
  refine WPL.val (v_addL (k := 11) rfl rfl) ?_
  refine WPL.val (v_assign (v := .int .i64 _) rfl) ?_
  refine WPL.nil (onto_of ?_)
  refine WP.seq ?_
  refine WP.region ?_
  refine WPL.val (v_move (v := .int .i64 _) rfl) ?_
  refine WPL.val (v_lit (b := false) (v_lss rfl rfl) (by decide)) ?_
  refine WPL.nil (onto_of ?_)
  refine WP.condF rfl ?_
  refine WP.skip (onto_of ?_)
  refine WP.region ?_
  refine WPL.val (v_addL (k := 2) rfl rfl) ?_
  refine WPL.val (v_move (v := .int .i64 _) rfl) ?_
  refine WPL.nil (rounds_of ?_)
  refine WPR.succ ?_
  refine WP.seq ?_
  refine WP.region ?_
  refine WPL.val (v_lit (b := true) (v_lss rfl rfl) (by decide)) ?_
  refine WPL.nil (onto_of ?_)
  refine WP.seq ?_
  refine WP.condT rfl ?_
  refine WP.skip (onto_of ?_)
  refine WP.seq ?_
  refine WP.block ?_
  refine WP.seq ?_
  refine WP.region ?_
  refine WPL.val (v_index (j := 2) Try.underlying107 Try.sizeOf93 rfl rfl rfl (by omega)) ?_
  refine WPL.val (v_load1 (u := .slice _ _ _) Try.isAgg93 rfl (fun w hw => hw.old_at ho2 (not_foots_nil _))) ?_
  refine WPL.val (v_assign (v := .slice _ _ _) rfl) ?_
  refine WPL.nil (onto_of ?_)
  refine WP.seq ?_
  refine WP.region ?_
  refine WPL.val (v_move (v := .int .i64 _) rfl) ?_
  refine WPL.val (v_move (v := .slice _ _ _) rfl) ?_
  refine WPL.val (v_len Try.underlying93 rfl) ?_
  refine WPL.val (v_addL (k := 15) rfl rfl) ?_
  refine WPL.val (v_assign (v := .int .i64 _) rfl) ?_
  refine WPL.nil (onto_of ?_)
  refine WP.seq ?_
  refine WP.region ?_
  refine WPL.val (v_move (v := .int .i64 _) rfl) ?_
  refine WPL.val (v_lit (b := false) (v_lss rfl rfl) (by decide)) ?_
  refine WPL.nil (onto_of ?_)
  refine WP.condF rfl ?_
  refine WP.skip (onto_of ?_)
  refine WP.region ?_
  refine WPL.val (v_addL (k := 3) rfl rfl) ?_
  refine WPL.val (v_move (v := .int .i64 _) rfl) ?_
  refine WPL.nil (rounds_of ?_)
  refine WPR.succ ?_
  refine WP.seq ?_
  refine WP.region ?_
  refine WPL.val (v_lit (b := false) (v_lss rfl rfl) (by decide)) ?_
  refine WPL.nil (onto_of ?_)
  refine WP.seq ?_
  refine WP.condF rfl ?_
  refine WP.exit (onto_of ?_)
  refine WP.seq ?_
  refine WP.region ?_
  refine WPL.val (v_move (v := .int .i64 _) rfl) ?_
  refine WPL.ef (x_call Try.call76 (grow76_ct 15 (by decide) (by decide)) [] [] rfl (fun w hw => trivial) (τ := fun _ => [_]) (fun _ => rfl)) (fun ⟨b24, c24⟩ => ?_)
  refine WPL.fact (fun _ => ?_)
  refine WPL.val (v_assign (v := .slice _ _ _) rfl) ?_
  refine WPL.nil (onto_of ?_)
  refine WP.seq ?_
  refine WP.seq ?_
  refine WP.region ?_
  refine WPL.val (v_move (v := .slice _ _ _) rfl) ?_
  refine WPL.val (v_len Try.underlying107 rfl) ?_
  refine WPL.val (v_move (v := .int .i64 (0)) rfl) ?_
  refine WPL.nil (onto_of ?_)
  refine WP.block ?_
  refine WP.loopN 4 ?_
  refine WPR.succ ?_
  refine WP.seq ?_
  refine WP.region ?_
  refine WPL.val (v_lit (b := true) (v_lss rfl rfl) (by decide)) ?_
  refine WPL.nil (onto_of ?_)
  refine WP.seq ?_
  refine WP.condT rfl ?_
  refine WP.skip (onto_of ?_)
  refine WP.seq ?_
  refine WP.block ?_
  refine WP.seq ?_
  refine WP.region ?_
  refine WPL.val (v_index (j := 0) Try.underlying107 Try.sizeOf93 rfl rfl rfl (by omega)) ?_
  refine WPL.val (v_load1 (u := .slice _ _ _) Try.isAgg93 rfl (fun w hw => hw.old_at ho0 (not_foots_nil _))) ?_
  refine WPL.val (v_assign (v := .slice _ _ _) rfl) ?_
  refine WPL.nil (onto_of ?_)
  refine WP.region ?_
  refine WPL.val (v_move (v := .slice _ _ _) rfl) ?_
  refine WPL.val (v_move (v := .slice _ _ _) rfl) ?_
  refine WPL.ef (x_append (sz := 2) (m := 7) (news := xs0) (σ' := fun p => [.row 34 2 p.1 _ p.2 _]) Try.underlying93 info34 rfl (by decide) rfl rfl (i := 0) rfl (fun w hw => hw.oldSrc hs0 (fun _ _ => not_foots_nil _)) hl0 (fun u hu => h1 u (by simp [hu])) (by omega) (by omega) (fun _ => rfl)) (fun ⟨B0, d0⟩ => ?_)
  refine WPL.val (v_assign (v := .slice _ _ _) rfl) ?_
  refine WPL.nil (onto_of ?_)
  refine WP.region ?_
  refine WPL.val (v_addL (k := 1) rfl rfl) ?_
  refine WPL.val (v_move (v := .int .i64 _) rfl) ?_
  refine WPL.nil (rounds_of ?_)
  refine WPR.succ ?_
  refine WP.seq ?_
  refine WP.region ?_
  refine WPL.val (v_lit (b := true) (v_lss rfl rfl) (by decide)) ?_
  refine WPL.nil (onto_of ?_)
  refine WP.seq ?_
  refine WP.condT rfl ?_
  refine WP.skip (onto_of ?_)
  refine WP.seq ?_
  refine WP.block ?_
  refine WP.seq ?_
  refine WP.region ?_
  refine WPL.val (v_index (j := 1) Try.underlying107 Try.sizeOf93 rfl rfl rfl (by omega)) ?_
  refine WPL.val (v_load1 (u := .slice _ _ _) Try.isAgg93 rfl (fun w hw => hw.old_at ho1 (not_foots_nil _))) ?_
  refine WPL.val (v_assign (v := .slice _ _ _) rfl) ?_
  refine WPL.nil (onto_of ?_)
  refine WP.region ?_
  refine WPL.val (v_move (v := .slice _ _ _) rfl) ?_
  refine WPL.val (v_move (v := .slice _ _ _) rfl) ?_
  refine WPL.ef (x_append (sz := 2) (m := 4) (news := xs1) (σ' := fun p => [.row 34 2 p.1 _ p.2 _]) Try.underlying93 info34 rfl (by decide) rfl rfl (i := 0) rfl (fun w hw => hw.oldSrc hs1 (fun _ _ => not_foots_nil _)) hl1 (fun u hu => h1 u (by simp [hu])) (by omega) (by omega) (fun _ => rfl)) (fun ⟨B1, d1⟩ => ?_)
  refine WPL.val (v_assign (v := .slice _ _ _) rfl) ?_
  refine WPL.nil (onto_of ?_)
  refine WP.region ?_
  refine WPL.val (v_addL (k := 2) rfl rfl) ?_
  refine WPL.val (v_move (v := .int .i64 _) rfl) ?_
  refine WPL.nil (rounds_of ?_)
  refine WPR.succ ?_
  refine WP.seq ?_
  refine WP.region ?_
  refine WPL.val (v_lit (b := true) (v_lss rfl rfl) (by decide)) ?_
  refine WPL.nil (onto_of ?_)
  refine WP.seq ?_
  refine WP.condT rfl ?_
  refine WP.skip (onto_of ?_)
  refine WP.seq ?_
  refine WP.block ?_
  refine WP.seq ?_
  refine WP.region ?_
  refine WPL.val (v_index (j := 2) Try.underlying107 Try.sizeOf93 rfl rfl rfl (by omega)) ?_
  refine WPL.val (v_load1 (u := .slice _ _ _) Try.isAgg93 rfl (fun w hw => hw.old_at ho2 (not_foots_nil _))) ?_
  refine WPL.val (v_assign (v := .slice _ _ _) rfl) ?_
  refine WPL.nil (onto_of ?_)
  refine WP.region ?_
  refine WPL.val (v_move (v := .slice _ _ _) rfl) ?_
  refine WPL.val (v_move (v := .slice _ _ _) rfl) ?_
  refine WPL.ef (x_append (sz := 2) (m := 4) (news := xs2) (σ' := fun p => [.row 34 2 p.1 _ p.2 _]) Try.underlying93 info34 rfl (by decide) rfl rfl (i := 0) rfl (fun w hw => hw.oldSrc hs2 (fun _ _ => not_foots_nil _)) hl2 (fun u hu => h1 u (by simp [hu])) (by omega) (by omega) (fun _ => rfl)) (fun ⟨B2, d2⟩ => ?_)
  refine WPL.val (v_assign (v := .slice _ _ _) rfl) ?_
  refine WPL.nil (onto_of ?_)
  refine WP.region ?_
  refine WPL.val (v_addL (k := 3) rfl rfl) ?_
  refine WPL.val (v_move (v := .int .i64 _) rfl) ?_
  refine WPL.nil (rounds_of ?_)
  refine WPR.succ ?_
  refine WP.seq ?_
  refine WP.region ?_
  refine WPL.val (v_lit (b := false) (v_lss rfl rfl) (by decide)) ?_
  refine WPL.nil (onto_of ?_)
  refine WP.seq ?_
  refine WP.condF rfl ?_
  refine WP.exit (onto_of ?_)
  refine WP.seq ?_
  refine WP.region ?_
  refine WPL.val (v_move (v := .slice _ _ _) rfl) ?_
  refine WPL.val (v_assign (v := .slice _ _ _) rfl) ?_
  refine WPL.nil (onto_of ?_)
  exact WP.ret1 Try.results58 (fun _ h => h) (fun w hw => by obtain ⟨bb, hbb⟩ := hw.row_pos (i := 0) rfl (by decide); subst hbb; exact ⟨(bb, d2), rfl, trivial, hw⟩)

theorem concat59_ct (ob oc : Nat) (A0 A1 A2 A3 : Option Addr) (c0 c1 c2 c3 : Nat) (xs0 xs1 xs2 xs3 : List Value) (hl0 : xs0.length = 1 * 1) (hl1 : xs1.length = 4 * 1) (hl2 : xs2.length = 4 * 1) (hl3 : xs3.length = 2 * 1) (h1 : ∀ u ∈ xs0 ++ xs1 ++ xs2 ++ xs3, u.oneCell' = true) :
    Ct Try.prog 59 #[.slice (some ⟨ob, 0, none⟩) 4 oc] [] (fun w => CellsAt w ob 0 [.slice A0 1 c0] ∧ CellsAt w ob 1 [.slice A1 4 c1] ∧ CellsAt w ob 2 [.slice A2 4 c2] ∧ CellsAt w ob 3 [.slice A3 2 c3] ∧ Src w A0 1 xs0 ∧ Src w A1 4 xs1 ∧ Src w A2 4 xs2 ∧ Src w A3 2 xs3) (X := Nat × Nat) (fun p => .slice (some ⟨p.1, 0, none⟩) 11 p.2) (fun _ => True) (fun p => [.row 3 1 (some ⟨p.1, 0, none⟩) 11 p.2 (xs0 ++ xs1 ++ xs2 ++ xs3)]) := by
  refine Ct.intro Try.func59 rfl Try.ntmps59 (by simp) (fun w0 ⟨ho0, ho1, ho2, ho3, hs0, hs1, hs2, hs3⟩ => ?_)
  refine WP.seq ?_
  refine WP.region ?_
  refine WPL.val (v_assign (v := .slice none 0 0) rfl) ?_
  refine WPL.nil (onto_of ?_)
  refine WP.seq ?_
  refine WP.region ?_
  refine WPL.val (v_assign (v := .int .i64 (0)) rfl) ?_
  refine WPL.nil (onto_of ?_)
  refine WP.seq ?_
  refine WP.seq ?_
  refine WP.region ?_
  refine WPL.val (v_move (v := .slice _ _ _) rfl) ?_
  refine WPL.val (v_len Try.underlying109 rfl) ?_
  refine WPL.val (v_move (v := .int .i64 (0)) rfl) ?_
  refine WPL.nil (onto_of ?_)
  refine WP.block ?_
  refine WP.loopN 5 ?_
  refine WPR.succ ?_
  refine WP.seq ?_
  refine WP.region ?_
  refine WPL.val (v_lit (b := true) (v_lss rfl rfl) (by decide)) ?_
  refine WPL.nil (onto_of ?_)
  refine WP.seq ?_
  refine WP.condT rfl ?_
  refine WP.skip (onto_of ?_)
  refine WP.seq ?_
  refine WP.block ?_
  refine WP.seq ?_
  refine WP.region ?_
  refine WPL.val (v_index (j := 0) Try.underlying109 Try.sizeOf50 rfl rfl rfl (by omega)) ?_
  refine WPL.val (v_load1 (u := .slice _ _ _) Try.isAgg50 rfl (fun w hw => hw.old_at ho0 (not_foots_nil _))) ?_
  refine WPL.val (v_assign (v := .slice _ _ _) rfl) ?_
  refine WPL.nil (onto_of ?_)
  refine WP.seq ?_
  refine WP.region ?_
  refine WPL.val (v_move (v := .int .i64 _) rfl) ?_
  refine WPL.val (v_move (v := .slice _ _ _) rfl) ?_
  refine WPL.val (v_len Try.underlying50 rfl) ?_
  refine WPL.val (v_addL (k := 1) rfl rfl) ?_
  refine WPL.val (v_assign (v := .int .i64 _) rfl) ?_
  refine WPL.nil (onto_of ?_)
  refine WP.seq ?_
  refine WP.region ?_
  refine WPL.val (v_move (v := .int .i64 _) rfl) ?_
  refine WPL.val (v_lit (b := false) (v_lss rfl rfl) (by decide)) ?_
  refine WPL.nil (onto_of ?_)
  refine WP.condF rfl ?_
  refine WP.skip (onto_of ?_)
  refine WP.region ?_
  refine WPL.val (v_addL (k := 1) rfl rfl) ?_
  refine WPL.val (v_move (v := .int .i64 _) rfl) ?_
  refine WPL.nil (rounds_of ?_)
  refine WPR.succ ?_
  refine WP.seq ?_
  refine WP.region ?_
  refine WPL.val (v_lit (b := true) (v_lss rfl rfl) (by decide)) ?_
  refine WPL.nil (onto_of ?_)
  refine WP.seq ?_
  refine WP.condT rfl ?_
  refine WP.skip (onto_of ?_)
  refine WP.seq ?_
  refine WP.block ?_
  refine WP.seq ?_
  refine WP.region ?_
  refine WPL.val (v_index (j := 1) Try.underlying109 Try.sizeOf50 rfl rfl rfl (by omega)) ?_
  refine WPL.val (v_load1 (u := .slice _ _ _) Try.isAgg50 rfl (fun w hw => hw.old_at ho1 (not_foots_nil _))) ?_
  refine WPL.val (v_assign (v := .slice _ _ _) rfl) ?_
  refine WPL.nil (onto_of ?_)
  refine WP.seq ?_
  refine WP.region ?_
  refine WPL.val (v_move (v := .int .i64 _) rfl) ?_
  refine WPL.val (v_move (v := .slice _ _ _) rfl) ?_
  refine WPL.val (v_len Try.underlying50 rfl) ?_
  refine WPL.val (v_addL (k := 5) rfl rfl) ?_
  refine WPL.val (v_assign (v := .int .i64 _) rfl) ?_
  refine WPL.nil (onto_of ?_)
  refine WP.seq ?_
  refine WP.region ?_
  refine WPL.val (v_move (v := .int .i64 _) rfl) ?_
  refine WPL.val (v_lit (b := false) (v_lss rfl rfl) (by decide)) ?_
  refine WPL.nil (onto_of ?_)
  refine WP.condF rfl ?_
  refine WP.skip (onto_of ?_)
  refine WP.region ?_
  refine WPL.val (v_addL (k := 2) rfl rfl) ?_
  refine WPL.val (v_move (v := .int .i64 _) rfl) ?_
  refine WPL.nil (rounds_of ?_)
  refine WPR.succ ?_
  refine WP.seq ?_
  refine WP.region ?_
  refine WPL.val (v_lit (b := true) (v_lss rfl rfl) (by decide)) ?_
  refine WPL.nil (onto_of ?_)
  refine WP.seq ?_
  refine WP.condT rfl ?_
  refine WP.skip (onto_of ?_)
  refine WP.seq ?_
  refine WP.block ?_
  refine WP.seq ?_
  refine WP.region ?_
  refine WPL.val (v_index (j := 2) Try.underlying109 Try.sizeOf50 rfl rfl rfl (by omega)) ?_
  refine WPL.val (v_load1 (u := .slice _ _ _) Try.isAgg50 rfl (fun w hw => hw.old_at ho2 (not_foots_nil _))) ?_
  refine WPL.val (v_assign (v := .slice _ _ _) rfl) ?_
  refine WPL.nil (onto_of ?_)
  refine WP.seq ?_
  refine WP.region ?_
  refine WPL.val (v_move (v := .int .i64 _) rfl) ?_
  refine WPL.val (v_move (v := .slice _ _ _) rfl) ?_
  refine WPL.val (v_len Try.underlying50 rfl) ?_
  refine WPL.val (v_addL (k := 9) rfl rfl) ?_
  refine WPL.val (v_assign (v := .int .i64 _) rfl) ?_
  refine WPL.nil (onto_of ?_)
  refine WP.seq ?_
  refine WP.region ?_
  refine WPL.val (v_move (v := .int .i64 _) rfl) ?_
  refine WPL.val (v_lit (b := false) (v_lss rfl rfl) (by decide)) ?_
  refine WPL.nil (onto_of ?_)
  refine WP.condF rfl ?_
  refine WP.skip (onto_of ?_)
  refine WP.region ?_
  refine WPL.val (v_addL (k := 3) rfl rfl) ?_
  refine WPL.val (v_move (v := .int .i64 _) rfl) ?_
  refine WPL.nil (rounds_of ?_)
  refine WPR.succ ?_
  refine WP.seq ?_
  refine WP.region ?_
  refine WPL.val (v_lit (b := true) (v_lss rfl rfl) (by decide)) ?_
  refine WPL.nil (onto_of ?_)
  refine WP.seq ?_
  refine WP.condT rfl ?_
  refine WP.skip (onto_of ?_)
  refine WP.seq ?_
  refine WP.block ?_
  refine WP.seq ?_
  refine WP.region ?_
  refine WPL.val (v_index (j := 3) Try.underlying109 Try.sizeOf50 rfl rfl rfl (by omega)) ?_
  refine WPL.val (v_load1 (u := .slice _ _ _) Try.isAgg50 rfl (fun w hw => hw.old_at ho3 (not_foots_nil _))) ?_
  refine WPL.val (v_assign (v := .slice _ _ _) rfl) ?_
  refine WPL.nil (onto_of ?_)
  refine WP.seq ?_
  refine WP.region ?_
  refine WPL.val (v_move (v := .int .i64 _) rfl) ?_
  refine WPL.val (v_move (v := .slice _ _ _) rfl) ?_
  refine WPL.val (v_len Try.underlying50 rfl) ?_
  refine WPL.val (v_addL (k := 11) rfl rfl) ?_
  refine WPL.val (v_assign (v := .int .i64 _) rfl) ?_
  refine WPL.nil (onto_of ?_)
  refine WP.seq ?_
  refine WP.region ?_
  refine WPL.val (v_move (v := .int .i64 _) rfl) ?_
  refine WPL.val (v_lit (b := false) (v_lss rfl rfl) (by decide)) ?_
  refine WPL.nil (onto_of ?_)
  refine WP.condF rfl ?_
  refine WP.skip (onto_of ?_)
  refine WP.region ?_
  refine WPL.val (v_addL (k := 4) rfl rfl) ?_
  refine WPL.val (v_move (v := .int .i64 _) rfl) ?_
  refine WPL.nil (rounds_of ?_)
  refine WPR.succ ?_
  refine WP.seq ?_
  refine WP.region ?_
  refine WPL.val (v_lit (b := false) (v_lss rfl rfl) (by decide)) ?_
  refine WPL.nil (onto_of ?_)
  refine WP.seq ?_
  refine WP.condF rfl ?_
  refine WP.exit (onto_of ?_)
  refine WP.seq ?_
  refine WP.region ?_
  refine WPL.val (v_move (v := .int .i64 _) rfl) ?_
  refine WPL.ef (x_call Try.call77 (grow77_ct 11 (by decide) (by decide)) [] [] rfl (fun w hw => trivial) (τ := fun _ => [_]) (fun _ => rfl)) (fun ⟨b24, c24⟩ => ?_)
  refine WPL.fact (fun _ => ?_)
  refine WPL.val (v_assign (v := .slice _ _ _) rfl) ?_
  refine WPL.nil (onto_of ?_)
  refine WP.seq ?_
  refine WP.seq ?_
  refine WP.region ?_
  refine WPL.val (v_move (v := .slice _ _ _) rfl) ?_
  refine WPL.val (v_len Try.underlying109 rfl) ?_
  refine WPL.val (v_move (v := .int .i64 (0)) rfl) ?_
  refine WPL.nil (onto_of ?_)
  refine WP.block ?_
  refine WP.loopN 5 ?_
  refine WPR.succ ?_
  refine WP.seq ?_
  refine WP.region ?_
  refine WPL.val (v_lit (b := true) (v_lss rfl rfl) (by decide)) ?_
  refine WPL.nil (onto_of ?_)
  refine WP.seq ?_
  refine WP.condT rfl ?_
  refine WP.skip (onto_of ?_)
  refine WP.seq ?_
  refine WP.block ?_
  refine WP.seq ?_
  refine WP.region ?_
  refine WPL.val (v_index (j := 0) Try.underlying109 Try.sizeOf50 rfl rfl rfl (by omega)) ?_
  refine WPL.val (v_load1 (u := .slice _ _ _) Try.isAgg50 rfl (fun w hw => hw.old_at ho0 (not_foots_nil _))) ?_
  refine WPL.val (v_assign (v := .slice _ _ _) rfl) ?_
  refine WPL.nil (onto_of ?_)
  refine WP.region ?_
  refine WPL.val (v_move (v := .slice _ _ _) rfl) ?_
  refine WPL.val (v_move (v := .slice _ _ _) rfl) ?_
  refine WPL.ef (x_append (sz := 1) (m := 1) (news := xs0) (σ' := fun p => [.row 3 1 p.1 _ p.2 _]) Try.underlying50 int_info rfl (by decide) rfl rfl (i := 0) rfl (fun w hw => hw.oldSrc hs0 (fun _ _ => not_foots_nil _)) hl0 (fun u hu => h1 u (by simp [hu])) (by omega) (by omega) (fun _ => rfl)) (fun ⟨B0, d0⟩ => ?_)
  refine WPL.val (v_assign (v := .slice _ _ _) rfl) ?_
  refine WPL.nil (onto_of ?_)
  refine WP.region ?_
  refine WPL.val (v_addL (k := 1) rfl rfl) ?_
  refine WPL.val (v_move (v := .int .i64 _) rfl) ?_
  refine WPL.nil (rounds_of ?_)
  refine WPR.succ ?_
  refine WP.seq ?_
  refine WP.region ?_
  refine WPL.val (v_lit (b := true) (v_lss rfl rfl) (by decide)) ?_
  refine WPL.nil (onto_of ?_)
  refine WP.seq ?_
  refine WP.condT rfl ?_
  refine WP.skip (onto_of ?_)
  refine WP.seq ?_
  refine WP.block ?_
  refine WP.seq ?_
  refine WP.region ?_
  refine WPL.val (v_index (j := 1) Try.underlying109 Try.sizeOf50 rfl rfl rfl (by omega)) ?_
  refine WPL.val (v_load1 (u := .slice _ _ _) Try.isAgg50 rfl (fun w hw => hw.old_at ho1 (not_foots_nil _))) ?_
  refine WPL.val (v_assign (v := .slice _ _ _) rfl) ?_
  refine WPL.nil (onto_of ?_)
  refine WP.region ?_
  refine WPL.val (v_move (v := .slice _ _ _) rfl) ?_
  refine WPL.val (v_move (v := .slice _ _ _) rfl) ?_
  refine WPL.ef (x_append (sz := 1) (m := 4) (news := xs1) (σ' := fun p => [.row 3 1 p.1 _ p.2 _]) Try.underlying50 int_info rfl (by decide) rfl rfl (i := 0) rfl (fun w hw => hw.oldSrc hs1 (fun _ _ => not_foots_nil _)) hl1 (fun u hu => h1 u (by simp [hu])) (by omega) (by omega) (fun _ => rfl)) (fun ⟨B1, d1⟩ => ?_)
  refine WPL.val (v_assign (v := .slice _ _ _) rfl) ?_
  refine WPL.nil (onto_of ?_)
  refine WP.region ?_
  refine WPL.val (v_addL (k := 2) rfl rfl) ?_
  refine WPL.val (v_move (v := .int .i64 _) rfl) ?_
  refine WPL.nil (rounds_of ?_)
  refine WPR.succ ?_
  refine WP.seq ?_
  refine WP.region ?_
  refine WPL.val (v_lit (b := true) (v_lss rfl rfl) (by decide)) ?_
  refine WPL.nil (onto_of ?_)
  refine WP.seq ?_
  refine WP.condT rfl ?_
  refine WP.skip (onto_of ?_)
  refine WP.seq ?_
  refine WP.block ?_
  refine WP.seq ?_
  refine WP.region ?_
  refine WPL.val (v_index (j := 2) Try.underlying109 Try.sizeOf50 rfl rfl rfl (by omega)) ?_
  refine WPL.val (v_load1 (u := .slice _ _ _) Try.isAgg50 rfl (fun w hw => hw.old_at ho2 (not_foots_nil _))) ?_
  refine WPL.val (v_assign (v := .slice _ _ _) rfl) ?_
  refine WPL.nil (onto_of ?_)
  refine WP.region ?_
  refine WPL.val (v_move (v := .slice _ _ _) rfl) ?_
  refine WPL.val (v_move (v := .slice _ _ _) rfl) ?_
  refine WPL.ef (x_append (sz := 1) (m := 4) (news := xs2) (σ' := fun p => [.row 3 1 p.1 _ p.2 _]) Try.underlying50 int_info rfl (by decide) rfl rfl (i := 0) rfl (fun w hw => hw.oldSrc hs2 (fun _ _ => not_foots_nil _)) hl2 (fun u hu => h1 u (by simp [hu])) (by omega) (by omega) (fun _ => rfl)) (fun ⟨B2, d2⟩ => ?_)
  refine WPL.val (v_assign (v := .slice _ _ _) rfl) ?_
  refine WPL.nil (onto_of ?_)
  refine WP.region ?_
  refine WPL.val (v_addL (k := 3) rfl rfl) ?_
  refine WPL.val (v_move (v := .int .i64 _) rfl) ?_
  refine WPL.nil (rounds_of ?_)
  refine WPR.succ ?_
  refine WP.seq ?_
  refine WP.region ?_
  refine WPL.val (v_lit (b := true) (v_lss rfl rfl) (by decide)) ?_
  refine WPL.nil (onto_of ?_)
  refine WP.seq ?_
  refine WP.condT rfl ?_
  refine WP.skip (onto_of ?_)
  refine WP.seq ?_
  refine WP.block ?_
  refine WP.seq ?_
  refine WP.region ?_
  refine WPL.val (v_index (j := 3) Try.underlying109 Try.sizeOf50 rfl rfl rfl (by omega)) ?_
  refine WPL.val (v_load1 (u := .slice _ _ _) Try.isAgg50 rfl (fun w hw => hw.old_at ho3 (not_foots_nil _))) ?_
  refine WPL.val (v_assign (v := .slice _ _ _) rfl) ?_
  refine WPL.nil (onto_of ?_)
  refine WP.region ?_
  refine WPL.val (v_move (v := .slice _ _ _) rfl) ?_
  refine WPL.val (v_move (v := .slice _ _ _) rfl) ?_
  refine WPL.ef (x_append (sz := 1) (m := 2) (news := xs3) (σ' := fun p => [.row 3 1 p.1 _ p.2 _]) Try.underlying50 int_info rfl (by decide) rfl rfl (i := 0) rfl (fun w hw => hw.oldSrc hs3 (fun _ _ => not_foots_nil _)) hl3 (fun u hu => h1 u (by simp [hu])) (by omega) (by omega) (fun _ => rfl)) (fun ⟨B3, d3⟩ => ?_)
  refine WPL.val (v_assign (v := .slice _ _ _) rfl) ?_
  refine WPL.nil (onto_of ?_)
  refine WP.region ?_
  refine WPL.val (v_addL (k := 4) rfl rfl) ?_
  refine WPL.val (v_move (v := .int .i64 _) rfl) ?_
  refine WPL.nil (rounds_of ?_)
  refine WPR.succ ?_
  refine WP.seq ?_
  refine WP.region ?_
  refine WPL.val (v_lit (b := false) (v_lss rfl rfl) (by decide)) ?_
  refine WPL.nil (onto_of ?_)
  refine WP.seq ?_
  refine WP.condF rfl ?_
  refine WP.exit (onto_of ?_)
  refine WP.seq ?_
  refine WP.region ?_
  refine WPL.val (v_move (v := .slice _ _ _) rfl) ?_
  refine WPL.val (v_assign (v := .slice _ _ _) rfl) ?_
  refine WPL.nil (onto_of ?_)
  exact WP.ret1 Try.results59 (fun _ h => h) (fun w hw => by obtain ⟨bb, hbb⟩ := hw.row_pos (i := 0) rfl (by decide); subst hbb; exact ⟨(bb, d3), rfl, trivial, hw⟩)
end Go.Proofs.Ytmjdmlgdffoimaa

