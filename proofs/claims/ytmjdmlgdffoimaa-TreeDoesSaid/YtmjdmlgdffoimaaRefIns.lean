/- The document's tree: without, with, Inside, Len. -/
import Derived.Test.YtmjdmlgdffoimaaRefRead
import Derived.Test.YtmjdmlgdffoimaaTreeLib
import Derived.Test.YtmjdmlgdffoimaaTreeInside
namespace Go.Proofs.Ytmjdmlgdffoimaa
open Go.RowKit

theorem cutK_ne {l : List Int} {k : Nat} {y n : Int} (h : l[k]? = some y) (hn : y ≠ n) : cutK (l.take (k + 1)) n = cutK (l.take k) n ++ [y] := by
  rw [take_snoc h, cutK, List.filter_append]
  simp [cutK, hn]
theorem cutK_eq {l : List Int} {k : Nat} {y n : Int} (h : l[k]? = some y) (hn : y = n) : cutK (l.take (k + 1)) n = cutK (l.take k) n := by
  rw [take_snoc h, cutK, List.filter_append]
  simp [cutK, hn]
theorem cutK_le (l : List Int) (n : Int) : (cutK l n).length ≤ l.length := List.length_filter_le _ _
theorem Src.cut {w : World} {A : Option Addr} {l : List Int} (h : Src w A l.length (l.map (Value.int .i64))) (lo m q : Nat) (hm : m = lo → l.drop lo = []) (hq : q ≤ l.length - lo) : Src w (cutAddr A lo m 1) q (((l.drop lo).take q).map (Value.int .i64)) := by
  rcases h with ⟨rfl, h0⟩ | ⟨b, o, rfl, hc⟩
  · exact .inl ⟨by unfold cutAddr; split <;> rfl, by omega⟩
  · unfold cutAddr
    split
    · rename_i e
      rw [hm e]
      exact .inr ⟨b, o, rfl, fun j u hj => by simp at hj⟩
    · refine .inr ⟨b, o + lo * 1, by simp [Addr.add], fun j u hj => ?_⟩
      rw [List.getElem?_map, List.getElem?_take] at hj
      split at hj
      · rw [List.getElem?_drop] at hj
        have h1 := hc (lo + j) u (by rw [List.getElem?_map, hj])
        rw [show o + lo * 1 + j = o + (lo + j) by omega]
        exact h1
      · cases hj
theorem Src.rd {w : World} {A : Option Addr} {l : List Int} (h : Src w A l.length (l.map (Value.int .i64))) : RdI w A l := fun k x hx => by
  have hk := (List.getElem?_eq_some_iff.1 hx).1
  rcases h with ⟨rfl, h0⟩ | ⟨b, o, rfl, hc⟩
  · omega
  · refine ⟨b, o, rfl, fun j u hj => ?_⟩
    match j, hj with
    | 0, hj =>
      cases hj
      have := hc k (.int .i64 x) (by rw [List.getElem?_map, hx]; rfl)
      rw [Nat.mul_one]; exact this
    | j + 1, hj => simp at hj
theorem without_ct (A : Option Addr) (c : Nat) (l : List Int) (n : Int) (hl : l.length ≤ 5000) : Ct Try.prog 48 #[.slice A l.length c, .int .i64 n] [] (fun w => Src w A l.length (l.map (Value.int .i64))) (X := Option Addr × Nat) (fun p => .slice p.1 (cutK l n).length p.2) (fun _ => True) (fun p => [kidsI p.1 (cutK l n).length p.2 (cutK l n)]) := by
  refine Ct.intro Try.func48 rfl Try.ntmps48 (by simp) (fun w0 hz0 => ?_)
  have hz := hz0.rd
  refine WP.seq ?_
  refine WP.region ?_
  refine WPL.val (v_assign (v := .slice none 0 0) rfl) ?_
  refine WPL.nil (onto_of ?_)
  refine WP.seq ?_
  refine WP.region ?_
  refine WPL.val (v_assign (v := .slice none 0 0) rfl) ?_
  refine WPL.nil (onto_of ?_)
  refine WP.seq ?_
  refine WP.seq ?_
  refine WP.pre ?_ (fun w hw => hw.nilRow 3 1)
  refine WP.region ?_
  refine WPL.val (v_assign (v := .int .i64 (0)) rfl) ?_
  refine WPL.nil (onto_of ?_)
  refine WP.block ?_
  refine WP.loopK (X := Nat × Option Addr × Nat) [0, 1] (fun p => [(6, .int .i64 (p.1 : Int)), (5, .slice p.2.1 (cutK (l.take p.1) n).length p.2.2)]) (fun p w => p.1 ≤ l.length ∧ St w0 (foots []) [kidsI p.2.1 (cutK (l.take p.1) n).length p.2.2 (cutK (l.take p.1) n)] w) (fun p => l.length - p.1) (0, none, 0) ⟨rfl, rfl, trivial⟩ (fun w hw => ⟨Nat.zero_le _, hw⟩) (fun p ρ0 => ?_)
  obtain ⟨k, zA, zc⟩ := p
  dsimp only
  refine WP.fact (fun hkl => ?_)
  refine WP.seq ?_
  refine WP.seq ?_
  refine WP.region ?_
  refine WPL.val (v_move (v := .int .i64 _) rfl) ?_
  refine WPL.val (v_move (v := .slice _ _ _) rfl) ?_
  refine WPL.val (v_len Try.underlying50 rfl) ?_
  refine WPL.val (v_lss rfl rfl) ?_
  refine WPL.nil (onto_of ?_)
  refine WP.condP rfl (fun h10 => ?_) (fun h10 => ?_)
  ·
    obtain ⟨y, hy⟩ : ∃ y, l[k]? = some y := ⟨_, List.getElem?_eq_getElem (by omega)⟩
    obtain ⟨ab, ao, rfl, hc⟩ := hz k y hy
    have hcl := cutK_le (l.take k) n
    rw [List.length_take] at hcl
    refine WP.skip (onto_of ?_)
    refine WP.seq ?_
    refine WP.block ?_
    refine WP.seq ?_
    refine WP.region ?_
    refine WPL.val (v_move (v := .slice _ _ _) rfl) ?_
    refine WPL.val (v_move (v := .int .i64 _) rfl) ?_
    refine WPL.val (v_index Try.underlying50 Try.sizeOf3 rfl rfl rfl (by omega)) ?_
    refine WPL.val (v_load1 (u := .int .i64 _) Try.isAgg3 rfl (fun w hw => hw.old_at hc (not_foots_nil _))) ?_
    refine WPL.val (v_move (v := .int .i64 _) rfl) ?_
    refine WPL.val (v_neq rfl rfl) ?_
    refine WPL.nil (onto_of ?_)
    refine WP.condP rfl (fun h18 => ?_) (fun h18 => ?_)
    ·
      have hck := cutK_ne hy h18
      refine WP.region ?_
      refine WPL.val (v_move (v := .slice _ _ _) rfl) ?_
      refine WPL.val (v_move (v := .slice _ _ _) rfl) ?_
      refine WPL.val (v_move (v := .int .i64 _) rfl) ?_
      refine WPL.val (v_index Try.underlying50 Try.sizeOf3 rfl rfl rfl (by omega)) ?_
      refine WPL.val (v_load1 (u := .int .i64 _) Try.isAgg3 rfl (fun w hw => hw.old_at hc (not_foots_nil _))) ?_
      refine WPL.ef (x_buildSlice (us := [.int .i64 _]) (σ' := fun _ => [_, _]) Try.underlying50 Try.sizeOf3 Try.zeroValue3 rfl rfl rfl (by decide) (by decide) (fun _ => rfl)) (fun g24 => ?_)
      refine WPL.ef (x_append (sz := 1) (σ' := fun _ => [_, _]) Try.underlying50 int_info rfl (by decide) rfl rfl (i := 0) rfl (fun w hw => hw.src_row (i := 1) rfl) rfl (by simp [Value.oneCell']) (by omega) (by omega) (fun _ => rfl)) (fun ⟨A25, c25⟩ => ?_)
      refine WPL.val (v_assign (v := .slice _ _ _) rfl) ?_
      refine WPL.nil (onto_of ?_)
      refine WP.region ?_
      refine WPL.val (v_move (v := .int .i64 _) rfl) ?_
      refine WPL.val (v_add rfl rfl (by omega)) ?_
      refine WPL.val (v_assign (v := .int .i64 _) rfl) ?_
      exact WPL.nil fun w hw => ⟨rfl, (k + 1, A25, c25), (by simp only; omega), ⟨rfl, (by show Value.slice A25 ((cutK (l.take k) n).length + 1) c25 = Value.slice A25 (cutK (l.take (k + 1)) n).length c25; rw [hck, List.length_append]; rfl), (via (.slice _ _ _) rfl rfl), (via (.int .i64 _) rfl rfl), trivial⟩, ⟨by simp only; omega, by have h := (hw.sel [0] (by decide)); rw [show kidsI A25 (cutK (l.take (k + 1)) n).length c25 (cutK (l.take (k + 1)) n) = .row 3 1 A25 ((cutK (l.take k) n).length + 1) c25 ((cutK (l.take k) n).map (Value.int .i64) ++ [.int .i64 y]) by rw [kidsI, hck, List.length_append, List.map_append]; rfl]; exact h⟩⟩
    ·
      have hck := cutK_eq hy (Decidable.not_not.1 h18)
      refine WP.skip (onto_of ?_)
      refine WP.region ?_
      refine WPL.val (v_move (v := .int .i64 _) rfl) ?_
      refine WPL.val (v_add rfl rfl (by omega)) ?_
      refine WPL.val (v_assign (v := .int .i64 _) rfl) ?_
      exact WPL.nil fun w hw => ⟨rfl, (k + 1, zA, zc), (by simp only; omega), ⟨rfl, (by show Value.slice zA (cutK (l.take k) n).length zc = Value.slice zA (cutK (l.take (k + 1)) n).length zc; rw [hck]), (via (.slice _ _ _) rfl rfl), (via (.int .i64 _) rfl rfl), trivial⟩, ⟨by simp only; omega, by rw [hck]; exact (hw.sel [0] (by decide))⟩⟩
  ·
    obtain rfl : k = l.length := by omega
    rw [List.take_of_length_le (Nat.le_refl _)]
    refine WP.exit (onto_of ?_)
    refine WP.seq ?_
    refine WP.region ?_
    refine WPL.val (v_move (v := .slice _ _ _) rfl) ?_
    refine WPL.val (v_assign (v := .slice _ _ _) rfl) ?_
    refine WPL.nil (onto_of ?_)
    exact WP.ret1 Try.results48 (fun _ h => h) (fun w hw => ⟨(zA, zc), rfl, trivial, hw⟩)
theorem with_ct (A : Option Addr) (c : Nat) (l : List Int) (k : Nat) (hk : k ≤ l.length) (hlc : l.length ≤ c) (n : Int) (hl : l.length ≤ 5000) : Ct Try.prog 49 #[.slice A l.length c, .int .i64 k, .int .i64 n] [] (fun w => Src w A l.length (l.map (Value.int .i64))) (X := Option Addr × Nat) (fun p => .slice p.1 (l.length + 1) p.2) (fun _ => True) (fun p => [kidsI p.1 (l.length + 1) p.2 (insAt l k n)]) := by
  refine Ct.intro Try.func49 rfl Try.ntmps49 (by simp) (fun w0 hz => ?_)
  refine WP.seq ?_
  refine WP.region ?_
  refine WPL.val (v_assign (v := .slice none 0 0) rfl) ?_
  refine WPL.nil (onto_of ?_)
  refine WP.seq ?_
  refine WP.region ?_
  refine WPL.val (v_assign (v := .slice none 0 0) rfl) ?_
  refine WPL.nil (onto_of ?_)
  refine WP.seq ?_
  refine WP.pre ?_ (fun w hw => hw.nilRow 3 1)
  refine WP.region ?_
  refine WPL.val (v_move (v := .slice _ _ _) rfl) ?_
  refine WPL.val (v_move (v := .slice _ _ _) rfl) ?_
  refine WPL.val (v_move (v := .int .i64 _) rfl) ?_
  refine WPL.val (v_slice (kl := 0) (l := 0) (h := k) Try.underlying50 Try.sizeOf3 rfl rfl ⟨rfl, rfl⟩ (by omega) (by omega)) ?_
  refine WPL.ef (x_append (sz := 1) (σ' := fun _ => [_]) Try.underlying50 int_info rfl (by decide) rfl rfl (i := 0) rfl (fun w hw => (hw.oldSrc hz (fun _ _ => not_foots_nil _)).cut 0 c (k - 0) (fun e => by rw [List.drop_eq_nil_of_le]; omega) (by omega)) (by simp; omega) (ints_one _) (by omega) (by omega) (fun _ => rfl)) (fun ⟨A12, c12⟩ => ?_)
  refine WPL.val (v_assign (v := .slice _ _ _) rfl) ?_
  refine WPL.nil (onto_of ?_)
  refine WP.seq ?_
  refine WP.region ?_
  refine WPL.val (v_move (v := .slice _ _ _) rfl) ?_
  refine WPL.val (v_move (v := .int .i64 _) rfl) ?_
  refine WPL.ef (x_buildSlice (us := [.int .i64 _]) (σ' := fun _ => [_, _]) Try.underlying50 Try.sizeOf3 Try.zeroValue3 rfl rfl rfl (by decide) (by decide) (fun _ => rfl)) (fun g15 => ?_)
  refine WPL.ef (x_append (sz := 1) (σ' := fun _ => [_, _]) Try.underlying50 int_info rfl (by decide) rfl rfl (i := 0) rfl (fun w hw => hw.src_row (i := 1) rfl) rfl (by simp [Value.oneCell']) (by omega) (by omega) (fun _ => rfl)) (fun ⟨A16, c16⟩ => ?_)
  refine WPL.val (v_assign (v := .slice _ _ _) rfl) ?_
  refine WPL.nil (onto_of ?_)
  refine WP.seq ?_
  refine WP.region ?_
  refine WPL.val (v_move (v := .slice _ _ _) rfl) ?_
  refine WPL.val (v_move (v := .slice _ _ _) rfl) ?_
  refine WPL.val (v_move (v := .int .i64 _) rfl) ?_
  refine WPL.val (v_slice (kh := 0) (l := k) (h := l.length) Try.underlying50 Try.sizeOf3 rfl ⟨rfl, rfl⟩ rfl (by omega) (by omega)) ?_
  refine WPL.ef (x_append (sz := 1) (σ' := fun _ => [_, _]) Try.underlying50 int_info rfl (by decide) rfl rfl (i := 0) rfl (fun w hw => (hw.oldSrc hz (fun _ _ => not_foots_nil _)).cut k c (l.length - k) (fun e => List.drop_eq_nil_of_le (by omega)) (by omega)) (by simp) (ints_one _) (by omega) (by omega) (fun _ => rfl)) (fun ⟨A21, c21⟩ => ?_)
  refine WPL.val (v_assign (v := .slice _ _ _) rfl) ?_
  refine WPL.nil (onto_of ?_)
  exact WP.ret1 Try.results49 (fun _ h => h) (fun w hw => ⟨(A21, c21), by show Value.slice A21 _ c21 = Value.slice A21 _ c21; congr 1; omega, trivial, by have h := (hw.sel [0] (by decide)); rw [show 0 + (k - 0) + 1 + (l.length - k) = l.length + 1 by omega, show ([] : List Value) ++ ((l.drop 0).take (k - 0)).map (Value.int .i64) ++ [.int .i64 n] ++ ((l.drop k).take (l.length - k)).map (Value.int .i64) = (insAt l k n).map (Value.int .i64) by rw [show (l.drop k).take (l.length - k) = l.drop k from List.take_of_length_le (by rw [List.length_drop]; exact Nat.le_refl _)]; simp [insAt]] at h; exact h⟩)
def LS (F : Forest (List Value)) (x : Int) (l : List Int) (k : Nat) : List Int := x :: (l.take k).flatMap (sub F)
theorem LS_succ (F : Forest (List Value)) (x : Int) {l : List Int} {k : Nat} {y : Int} (h : l[k]? = some y) : LS F x l (k + 1) = LS F x l k ++ sub F y := by
  unfold LS
  rw [take_snoc h, List.flatMap_append]
  simp
theorem LS_le (F : Forest (List Value)) (x : Int) (l : List Int) (k : Nat) : (LS F x l k).length ≤ (x :: l.flatMap (sub F)).length := by
  have h : l.flatMap (sub F) = (l.take k).flatMap (sub F) ++ (l.drop k).flatMap (sub F) := by rw [← List.flatMap_append, List.take_append_drop]
  rw [h]
  simp only [LS, List.length_cons, List.length_append]
  omega
set_option maxHeartbeats 1000000 in
theorem rinside_step (rp g bc : Nat) (bs : List RB) (hk : ROk bs) {d : Int → Nat} (hF : WF (absR bs) d) (x : Int)
    (ih : ∀ kid ∈ kidsF (absR bs) x, Ct Try.prog 25 #[.pointer (some ⟨rp, 0, none⟩), .int .i64 kid] [refI rp g bc bs] (fun _ => True) (X := Option Addr × Nat) (fun p => .slice p.1 (sub (absR bs) kid).length p.2) (fun _ => True) (fun p => [refI rp g bc bs, kidsI p.1 (sub (absR bs) kid).length p.2 (sub (absR bs) kid)])) :
    Ct Try.prog 25 #[.pointer (some ⟨rp, 0, none⟩), .int .i64 x] [refI rp g bc bs] (fun _ => True) (X := Option Addr × Nat) (fun p => .slice p.1 (sub (absR bs) x).length p.2) (fun _ => True) (fun p => [refI rp g bc bs, kidsI p.1 (sub (absR bs) x).length p.2 (sub (absR bs) x)]) := by
  refine Ct.intro Try.func25 rfl Try.ntmps25 (by simp) (fun w0 _ => ?_)
  refine WP.seq ?_
  refine WP.region ?_
  refine WPL.val (v_assign (v := .slice none 0 0) rfl) ?_
  refine WPL.nil (onto_of ?_)
  refine WP.seq ?_
  refine WP.seq ?_
  refine WP.region ?_
  refine WPL.val (v_move (v := .pointer _) rfl) ?_
  refine WPL.val (v_move (v := .int .i64 _) rfl) ?_
  refine WPL.ef (x_call Try.call15 (rhas_ct rp g bc bs hk x) [0] [] rfl (fun w hw => trivial) (τ := fun _ => [_]) (fun _ => rfl)) (fun _ => ?_)
  refine WPL.fact (fun _ => ?_)
  refine WPL.val (v_not rfl) ?_
  refine WPL.nil (onto_of ?_)
  refine WP.cond rfl (fun h10 => ?_) (fun h10 => ?_)
  ·
    have hno : hasF (absR bs) x = false := by simpa using h10
    have hnil : sub (absR bs) x = [] := sub_none (none_has hno)
    refine WP.seq ?_
    refine WP.region ?_
    refine WPL.val (v_assign (v := .slice none 0 0) rfl) ?_
    refine WPL.nil (onto_of ?_)
    exact WP.ret1 Try.results25 (fun _ h => h) (fun w hw => ⟨(none, 0), by rw [hnil]; rfl, trivial, by rw [hnil]; exact hw.nilRow 3 1⟩)
  ·
    obtain ⟨i, b, rfl, hb, hl⟩ := absR_has (bs := bs) (x := x) (by simpa using h10)
    have hbb := absR_at hb hl
    have hib := (List.getElem?_eq_some_iff.1 hb).1
    have hsub := hF.sub_eq hbb
    have hkb : b.kids.length ≤ 4096 := hF.kids_le hbb
    have hsl := hF.len_le (i : Int)
    refine WP.skip (onto_of ?_)
    refine WP.seq ?_
    refine WP.region ?_
    refine WPL.val (v_move (v := .int .i64 _) rfl) ?_
    refine WPL.ef (x_buildSlice (us := [.int .i64 _]) (σ' := fun _ => [_, _]) Try.underlying50 Try.sizeOf3 Try.zeroValue3 rfl rfl rfl (by decide) (by decide) (fun _ => rfl)) (fun g12 => ?_)
    refine WPL.val (v_assign (v := .slice _ _ _) rfl) ?_
    refine WPL.nil (onto_of ?_)
    refine WP.seq ?_
    refine WP.seq ?_
    refine WP.region ?_
    refine WPL.val (v_assign (v := .int .i64 (0)) rfl) ?_
    refine WPL.nil (onto_of ?_)
    refine WP.block ?_
    refine WP.loopK (X := Nat × Option Addr × Nat) [0, 1] (fun p => [(6, .int .i64 (p.1 : Int)), (5, .slice p.2.1 (LS (absR bs) i b.kids p.1).length p.2.2)]) (fun p w => p.1 ≤ b.kids.length ∧ St w0 (foots [refI rp g bc bs]) [refI rp g bc bs, kidsI p.2.1 (LS (absR bs) i b.kids p.1).length p.2.2 (LS (absR bs) i b.kids p.1)] w) (fun p => b.kids.length - p.1) (0, some ⟨g12, 0, none⟩, 1) ⟨rfl, rfl, trivial⟩ (fun w hw => ⟨Nat.zero_le _, (hw.sel [0, 1] (by decide))⟩) (fun p ρ0 => ?_)
    obtain ⟨k, zA, zc⟩ := p
    dsimp only
    refine WP.fact (fun hkl => ?_)
    refine WP.seq ?_
    refine WP.seq ?_
    refine WP.region ?_
    refine WPL.val (v_move (v := .int .i64 _) rfl) ?_
    refine WPL.val (v_move (v := .pointer _) rfl) ?_
    refine WPL.val (v_nil rfl) ?_
    refine WPL.val (v_field (off := 0) Try.underlying77 rfl Try.sizeOf75 rfl) ?_
    refine WPL.val (v_load1 (u := .slice _ _ _) Try.isAgg75 rfl (fun w hw => hw.refRoot (i := 0) rfl)) ?_
    refine WPL.val (v_move (v := .int .i64 _) rfl) ?_
    refine WPL.val (v_index (j := i) Try.underlying75 Try.sizeOf74 rfl rfl rfl (by omega)) ?_
    refine WPL.val (v_field (off := 2) Try.underlying74 rfl Try.sizeOf50 rfl) ?_
    refine WPL.val (v_load1 (u := .slice _ _ _) Try.isAgg50 rfl (fun w hw => hw.refAt (i := 0) rfl hk hb 2 (us := [.slice b.A b.kids.length b.c]) rfl)) ?_
    refine WPL.val (v_len Try.underlying50 rfl) ?_
    refine WPL.val (v_lss rfl rfl) ?_
    refine WPL.nil (onto_of ?_)
    refine WP.condP rfl (fun h23 => ?_) (fun h23 => ?_)
    ·
      obtain ⟨kid, hkid⟩ : ∃ kid, b.kids[k]? = some kid := ⟨_, List.getElem?_eq_getElem (by omega)⟩
      have hl1 := LS_le (absR bs) i b.kids k
      simp only at hsub
      rw [← hsub] at hl1
      have hl2 := hF.len_le kid
      refine WP.holds (p := ∃ kb ko, b.A = some ⟨kb, ko, none⟩) (fun w hw => by obtain ⟨kb, ko, e1, _⟩ := (hw.refKids (i := 0) rfl hb).1 k kid hkid; exact ⟨kb, ko, e1⟩) (fun ⟨kb, ko, hbA⟩ => ?_)
      refine WP.skip (onto_of ?_)
      refine WP.seq ?_
      refine WP.block ?_
      refine WP.region ?_
      refine WPL.val (v_move (v := .slice _ _ _) rfl) ?_
      refine WPL.val (v_move (v := .pointer _) rfl) ?_
      refine WPL.val (v_move (v := .pointer _) rfl) ?_
      refine WPL.val (v_nil rfl) ?_
      refine WPL.val (v_field (off := 0) Try.underlying77 rfl Try.sizeOf75 rfl) ?_
      refine WPL.val (v_load1 (u := .slice _ _ _) Try.isAgg75 rfl (fun w hw => hw.refRoot (i := 0) rfl)) ?_
      refine WPL.val (v_move (v := .int .i64 _) rfl) ?_
      refine WPL.val (v_index (j := i) Try.underlying75 Try.sizeOf74 rfl rfl rfl (by omega)) ?_
      refine WPL.val (v_field (off := 2) Try.underlying74 rfl Try.sizeOf50 rfl) ?_
      refine WPL.val (v_load1 (u := .slice _ _ _) Try.isAgg50 rfl (fun w hw => hw.refAt (i := 0) rfl hk hb 2 (us := [.slice b.A b.kids.length b.c]) rfl)) ?_
      refine WPL.val (v_move (v := .int .i64 _) rfl) ?_
      rw [hbA]
      refine WPL.val (v_index (j := k) Try.underlying50 Try.sizeOf3 rfl rfl rfl (by omega)) ?_
      refine WPL.val (v_load1 (u := .int .i64 _) Try.isAgg3 rfl (fun w hw => by obtain ⟨b1, o1, e1, hc⟩ := (hw.refKids (i := 0) rfl hb).1 k kid hkid; rw [hbA] at e1; cases e1; exact hc)) ?_
      refine WPL.ef (x_call Try.call25 (ih kid (by rw [kids_some hbb]; exact List.mem_of_getElem? hkid)) [0] [1] rfl (fun w hw => trivial) (τ := fun _ => [_, _, _]) (fun _ => rfl)) (fun ⟨A39, c39⟩ => ?_)
      refine WPL.fact (fun _ => ?_)
      refine WPL.ef (x_append (sz := 1) (σ' := fun _ => [_, _, _]) Try.underlying50 int_info rfl (by decide) rfl rfl (i := 0) rfl (fun w hw => hw.src_row (i := 2) rfl) (by simp) (ints_one _) (by omega) (by omega) (fun _ => rfl)) (fun ⟨A40, c40⟩ => ?_)
      refine WPL.val (v_assign (v := .slice _ _ _) rfl) ?_
      refine WPL.nil (onto_of ?_)
      refine WP.region ?_
      refine WPL.val (v_move (v := .int .i64 _) rfl) ?_
      refine WPL.val (v_add rfl rfl (by omega)) ?_
      refine WPL.val (v_assign (v := .int .i64 _) rfl) ?_
      exact WPL.nil fun w hw => ⟨rfl, (k + 1, A40, c40), (by simp only; omega), ⟨rfl, (by show Value.slice A40 ((LS (absR bs) i b.kids k).length + (sub (absR bs) kid).length) c40 = Value.slice A40 (LS (absR bs) i b.kids (k + 1)).length c40; rw [LS_succ _ _ hkid, List.length_append]), (via (.pointer _) rfl rfl), (via (.int .i64 _) rfl rfl), trivial⟩, ⟨by simp only; omega, by have h := (hw.sel [1, 0] (by decide)); simp only; rw [show kidsI A40 (LS (absR bs) i b.kids (k + 1)).length c40 (LS (absR bs) i b.kids (k + 1)) = .row 3 1 A40 ((LS (absR bs) i b.kids k).length + (sub (absR bs) kid).length) c40 ((LS (absR bs) i b.kids k).map (Value.int .i64) ++ (sub (absR bs) kid).map (Value.int .i64)) by rw [kidsI, LS_succ _ _ hkid, List.length_append, List.map_append]]; exact h⟩⟩
    ·
      obtain rfl : k = b.kids.length := by omega
      have hsub2 : (sub (absR bs) i) = (LS (absR bs) i b.kids b.kids.length) := by rw [hsub, LS, List.take_of_length_le (Nat.le_refl _)]
      refine WP.exit (onto_of ?_)
      refine WP.seq ?_
      refine WP.region ?_
      refine WPL.val (v_move (v := .slice _ _ _) rfl) ?_
      refine WPL.val (v_assign (v := .slice _ _ _) rfl) ?_
      refine WPL.nil (onto_of ?_)
      exact WP.ret1 Try.results25 (fun _ h => h) (fun w hw => ⟨(zA, zc), by rw [hsub2]; rfl, trivial, by rw [hsub2]; exact (hw.sel [0, 1] (by decide))⟩)
theorem rinside_all (rp g bc : Nat) (bs : List RB) (hk : ROk bs) {d : Int → Nat} (hF : WF (absR bs) d) : ∀ (n : Nat) (x : Int), 64 ≤ n + d x →
    Ct Try.prog 25 #[.pointer (some ⟨rp, 0, none⟩), .int .i64 x] [refI rp g bc bs] (fun _ => True) (X := Option Addr × Nat) (fun p => .slice p.1 (sub (absR bs) x).length p.2) (fun _ => True) (fun p => [refI rp g bc bs, kidsI p.1 (sub (absR bs) x).length p.2 (sub (absR bs) x)])
  | 0, x, hn => rinside_step rp g bc bs hk hF x fun kid hm => by
    cases e : absR bs x with
    | none => simp [kidsF, e] at hm
    | some b => have := hF.deep x b e; omega
  | n + 1, x, hn => rinside_step rp g bc bs hk hF x fun kid hm => by
    cases e : absR bs x with
    | none => simp [kidsF, e] at hm
    | some b =>
      rw [kids_some e] at hm
      have := hF.kid_rank e hm
      exact rinside_all rp g bc bs hk hF n kid (by omega)
theorem rinside_ct (rp g bc : Nat) (bs : List RB) (hk : ROk bs) {d : Int → Nat} (hF : WF (absR bs) d) (x : Int) :
    Ct Try.prog 25 #[.pointer (some ⟨rp, 0, none⟩), .int .i64 x] [refI rp g bc bs] (fun _ => True) (X := Option Addr × Nat) (fun p => .slice p.1 (sub (absR bs) x).length p.2) (fun _ => True) (fun p => [refI rp g bc bs, kidsI p.1 (sub (absR bs) x).length p.2 (sub (absR bs) x)]) :=
  rinside_all rp g bc bs hk hF 64 x (by omega)
theorem rlen_ct (rp g bc : Nat) (bs : List RB) (hk : ROk bs) {d : Int → Nat} (hF : WF (absR bs) d) :
    Ct Try.prog 51 #[.pointer (some ⟨rp, 0, none⟩)] [refI rp g bc bs] (fun _ => True) (X := Unit) (fun _ => .int .i64 (lenF (absR bs))) (fun _ => True) (fun _ => [refI rp g bc bs]) := by
  refine Ct.intro Try.func51 rfl Try.ntmps51 (by simp) (fun w0 _ => ?_)
  refine WP.seq ?_
  refine WP.region ?_
  refine WPL.val (v_assign (v := .int .i64 (0)) rfl) ?_
  refine WPL.nil (onto_of ?_)
  refine WP.seq ?_
  refine WP.region ?_
  refine WPL.val (v_move (v := .pointer _) rfl) ?_
  refine WPL.ef (x_call Try.call25 (rinside_ct rp g bc bs hk hF 0) [0] [] rfl (fun w hw => trivial) (τ := fun _ => [_, _]) (fun _ => rfl)) (fun ⟨A4, c4⟩ => ?_)
  refine WPL.fact (fun _ => ?_)
  refine WPL.val (v_len Try.underlying50 rfl) ?_
  refine WPL.val (v_assign (v := .int .i64 _) rfl) ?_
  refine WPL.nil (onto_of ?_)
  exact WP.ret1 Try.results51 (fun _ h => h) (fun w hw => ⟨(), rfl, trivial, (hw.sel [0] (by decide))⟩)
end Go.Proofs.Ytmjdmlgdffoimaa
