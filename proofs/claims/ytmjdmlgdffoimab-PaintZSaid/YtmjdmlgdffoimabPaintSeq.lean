/- slices.Collect of numbers; nodes, as they are told one by one. -/
import Derived.Test.YtmjdmlgdffoimabPaintPic
namespace Go.Proofs.Ytmjdmlgdffoimab
open Go.RowKit

def intA (x : Int) : List Value := [.int .i64 x]
theorem appendSeq_ct (gf : Nat) (cap : List Value) (eg : ∀ args w, (callFunc gf args).run Try.prog w = .ok (.enter gf args) w) (R : HI) (xs : List Int) (hl : xs.length ≤ 100000) (hit : IterOK Try.prog gf [] cap [R] intA xs) :
    Ct Try.prog 36 #[.slice none 0 0, .func (.func gf) #[] cap.toArray] [R] (fun _ => True) (X := Option Addr × Nat) (fun p => .slice p.1 xs.length p.2) (fun _ => True) (fun p => [R, kidsI p.1 xs.length p.2 xs]) := by
  refine Ct.intro Try.func36 rfl Try.ntmps36 (by simp) (fun w0 _ => ?_)
  refine WP.seq ?_
  refine WP.region ?_
  refine WPL.ef (x_box1 (u := .slice _ _ _) (σ' := fun _ => [_, _]) rfl (fun _ => rfl)) (fun b2 => ?_)
  refine WPL.val (v_assign (v := .slice none 0 0) rfl) ?_
  refine WPL.nil (onto_of ?_)
  refine WP.seq ?_
  refine WP.seq ?_
  refine WP.pre ?_ (fun w hw => hw.nilRow 3 1)
  refine WP.region ?_
  refine WPL.val (v_move rfl) ?_
  refine WPL.nil (onto_of ?_)
  refine WP.block ?_
  refine WP.pre ?_ (fun w hw => (hw.sel [0, 1, 2] (by decide)))
  refine WP.rangeIter (gf := gf) (first := []) (cap := cap) rfl eg hit (Z := Option Addr × Nat) (own := fun k z => [.cl b2 26 [.slice z.1 k z.2], kidsI z.1 k z.2 (xs.take k)]) (Inv := fun _ _ => True) (none, 0) trivial (List.Perm.refl _) (fun _ => rfl) (by decide) (Y := Unit) (fun _ _ _ => False) (fun _ => []) ?_ ?_ ?_
  · intro lk l2 D2 k x z hx hz w1 M1
    have hkl := (List.getElem?_eq_some_iff.1 hx).1
    obtain ⟨zA, zc⟩ := z
    dsimp only
    refine WP.region ?_
    refine WPL.val (v_assign (v := .int .i64 _) rfl) ?_
    refine WPL.nil (begun_of (i := 0) rfl ?_)
    refine WP.block ?_
    refine WP.region ?_
    refine WPL.val (v_load1 (u := .slice _ _ _) Try.isAgg26 rfl (fun w hw => hw.cl_at (i := 4) rfl _ rfl)) ?_
    refine WPL.val (v_move (v := .int .i64 _) rfl) ?_
    refine WPL.ef (x_buildSlice (us := [.int .i64 _]) (σ' := fun _ => [_, _, _, _, _, _, _]) Try.underlying26 Try.sizeOf3 Try.zeroValue3 rfl rfl rfl (by decide) (by decide) (fun _ => rfl)) (fun g10 => ?_)
    refine WPL.ef (x_append (sz := 1) (σ' := fun _ => [_, _, _, _, _, _, _]) Try.underlying26 int_info rfl (by decide) rfl rfl (i := 5) rfl (fun w hw => hw.src_row (i := 6) rfl) rfl (by simp [Value.oneCell']) (by omega) (by omega) (fun _ => rfl)) (fun ⟨A11, c11⟩ => ?_)
    refine WPL.ef0 (x_store (u := .slice _ _ _) (σ' := [_, _, _, _, .cl _ _ [_], _, _]) Try.sizeOf26 rfl rfl (i := 4) rfl (Nat.lt_of_lt_of_le (Nat.lt_succ_self _) (Nat.le_of_ble_eq_true rfl)) rfl) (fun _ => ?_)
    exact WPL.nil (fun w hw => RoundQ.normal (i := 0) rfl hw (fun w2 hw2 => .inl ⟨(A11, c11), rfl, trivial, by dsimp only; rw [show kidsI A11 (k + 1) c11 (xs.take (k + 1)) = .row 3 1 A11 (k + 1) c11 ((xs.take k).map (Value.int .i64) ++ [.int .i64 x]) by rw [kidsI, take_snoc hx, List.map_append]; rfl]; exact (hw2.sel [0, 1, 2, 3, 4, 5] (by decide))⟩))
  · intro D z hz
    obtain ⟨zA, zc⟩ := z
    rw [List.take_of_length_le (Nat.le_refl xs.length)]
    refine fin_id (onto_of ?_)
    refine WP.seq ?_
    refine WP.region ?_
    refine WPL.val (v_load1 (u := .slice _ _ _) Try.isAgg26 rfl (fun w hw => hw.cl_at (i := 1) rfl _ rfl)) ?_
    refine WPL.val (v_assign (v := .slice _ _ _) rfl) ?_
    refine WPL.nil (onto_of ?_)
    exact WP.retM [D] (τ := [R, kidsI zA xs.length zc xs]) (fun w hw => (hw.sel [0, 2, 3] (by decide))) (fun _ h => h) (fun w hw => RetQ.of1 Try.results36 (.inl rfl) ⟨(zA, zc), rfl, trivial, hw⟩)
  · intro D c k y hf; exact hf.elim
theorem collect_ct (gf : Nat) (cap : List Value) (eg : ∀ args w, (callFunc gf args).run Try.prog w = .ok (.enter gf args) w) (R : HI) (xs : List Int) (hl : xs.length ≤ 100000) (hit : IterOK Try.prog gf [] cap [R] intA xs) :
    Ct Try.prog 29 #[.func (.func gf) #[] cap.toArray] [R] (fun _ => True) (X := Option Addr × Nat) (fun p => .slice p.1 xs.length p.2) (fun _ => True) (fun p => [R, kidsI p.1 xs.length p.2 xs]) := by
  refine Ct.intro Try.func29 rfl Try.ntmps29 (by simp) (fun w0 _ => ?_)
  refine WP.seq ?_
  refine WP.region ?_
  refine WPL.val (v_assign (v := .slice none 0 0) rfl) ?_
  refine WPL.nil (onto_of ?_)
  refine WP.seq ?_
  refine WP.region ?_
  refine WPL.val (v_move rfl) ?_
  refine WPL.ef (x_call Try.call36 (appendSeq_ct gf cap eg R xs hl hit) [0] [] rfl (fun w hw => trivial) (τ := fun _ => [_, _]) (fun _ => rfl)) (fun ⟨A4, c4⟩ => ?_)
  refine WPL.fact (fun _ => ?_)
  refine WPL.val (v_assign (v := .slice _ _ _) rfl) ?_
  refine WPL.nil (onto_of ?_)
  exact WP.ret1 Try.results29 (fun _ h => h) (fun w hw => ⟨(A4, c4), rfl, trivial, (hw.sel [0, 1] (by decide))⟩)
end Go.Proofs.Ytmjdmlgdffoimab
