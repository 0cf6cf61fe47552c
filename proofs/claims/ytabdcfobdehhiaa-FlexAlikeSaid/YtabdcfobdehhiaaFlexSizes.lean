/- flex: begin, Sizes. -/
import Derived.Test.YtabdcfobdehhiaaFlexRound
namespace Go.Proofs.Ytabdcfobdehhiaa
open Go.RowKit

theorem info74 : (Try.prog.info? 74).map (fun i => (i.zero, i.size, i.bytes)) = some (some (.agg #[.int .i64 0, .int .i64 0, .int .i64 0, .int .i64 0, .int .i64 0, .int .i64 0, .bool false]), 7, 56) := by kernel_rfl
def raw (x : FItem) : FE := ⟨x.sound, basic x, false⟩
def begun0 (l : List FItem) (k : Nat) : List FE := (l.take k).map raw
theorem begun0_length (l : List FItem) (k : Nat) (h : k ≤ l.length) : (begun0 l k).length = k := by simp [begun0]; omega
theorem begun0_succ (l : List FItem) (k : Nat) {x : FItem} (h : l[k]? = some x) : begun0 l (k + 1) = begun0 l k ++ [raw x] := by simp [begun0, take_snoc h]
theorem raw_fit (x : FItem) : x.fit x.sound.base = basic x := rfl
theorem entI_snoc (A : Option Addr) (n c : Nat) (es : List FE) (e : FE) : entI A n c (es ++ [e]) = .row 74 7 A n c (es.flatMap FE.enc ++ e.enc) := by simp [entI]
def frst (g : Bool) (_ : Nat) (e : FE) : FE := { e with fr := if g then (decide (e.it.grow = 0) || decide (e.it.base > e.size)) else (decide (e.it.shrink = 0) || decide (e.it.base < e.size)) }
theorem frst_all (g : Bool) (l : List FItem) : upto (frst g) (begun0 l l.length) l.length = l.map (start g) := by
  rw [upto_all _ _ (by rw [begun0_length l _ (Nat.le_refl _)]; omega)]
  apply List.ext_getElem?
  intro i
  simp only [begun0, List.getElem?_mapIdx, List.getElem?_map, List.take_length]
  cases l[i]? with
  | none => rfl
  | some x => rfl
theorem frst_cell {g : Bool} {e : FE} {c : Bool} {i : Nat} (hc : c = true ↔ (g = true ∧ (e.it.grow = 0 ∨ e.size < e.it.base)) ∨ (g = false ∧ (e.it.shrink = 0 ∨ e.it.base < e.size))) : e.enc.set 6 (.bool c) = (frst g i e).enc := by
  have h2 : (if g then (decide (e.it.grow = 0) || decide (e.it.base > e.size)) else (decide (e.it.shrink = 0) || decide (e.it.base < e.size))) = c := by
    rw [Bool.eq_iff_iff, hc]
    cases g <;> simp
  simp [frst, h2]

theorem begin_ct (A : Option Addr) (c : Nat) (l : List FItem) (room : Int) (hl : l.length ≤ 64) :
    Ct Try.prog 33 #[.slice A l.length c, .int .i64 room] [] (fun w => RdE w A 5 FItem.enc l) (X := Nat × Option Addr × Nat) (fun p => .pointer (some ⟨p.1, 0, none⟩)) (fun _ => True)
      (fun p => [tblI p.1 p.2.1 l.length p.2.2 (lot room) (grows l room), entI p.2.1 l.length p.2.2 (l.map (start (grows l room)))]) := by
  refine Ct.intro Try.func33 rfl Try.ntmps33 (by simp) (fun w0 hz => ?_)
  refine WP.seq ?_
  refine WP.region ?_
  refine WPL.val (v_assign (v := .pointer none) rfl) ?_
  refine WPL.nil (onto_of ?_)
  refine WP.seq ?_
  refine WP.region ?_
  refine WPL.val (v_move (v := .int .i64 _) rfl) ?_
  refine WPL.val (v_call Try.call36 (fun w hw => clamp_eq (clamp_lot room) _)) ?_
  refine WPL.val (v_struct (us := [.slice _ _ _, .int .i64 _, .bool _]) (pl := [(0, 1), (1, 1), (2, 1)]) Try.underlying72 Try.zeroValue72 rfl (by kernel_rfl) rfl rfl (by kernel_rfl)) ?_
  refine WPL.ef (x_boxA (us := [.slice _ _ _, .int .i64 _, .bool _]) (σ' := fun _ => [_]) rfl (fun _ => rfl)) (fun b16 => ?_)
  refine WPL.val (v_assign (v := .pointer _) rfl) ?_
  refine WPL.nil (onto_of ?_)
  refine WP.seq ?_
  refine WP.pre ?_ (fun w hw => hw.nilRow 74 7)
  refine WP.region ?_
  refine WPL.val (v_assign (v := .int .i64 (0)) rfl) ?_
  refine WPL.nil (onto_of ?_)
  refine WP.seq ?_
  refine WP.seq ?_
  refine WP.region ?_
  refine WPL.val (v_move (v := .slice _ _ _) rfl) ?_
  refine WPL.val (v_len Try.underlying22 rfl) ?_
  refine WPL.val (v_move (v := .int .i64 (0)) rfl) ?_
  refine WPL.nil (onto_of ?_)
  refine WP.block ?_
  refine WP.loopK (X := Nat) [5, 17, 18] (fun k => [(6, .int .i64 (tot l k)), (19, .int .i64 (k : Int))]) (fun k w => k ≤ l.length ∧ ∃ p : Option Addr × Nat, St w0 (foots []) [tblI b16 p.1 k p.2 (lot room) false, entI p.1 k p.2 (begun0 l k)] w) (fun k => l.length - k) 0 ⟨by rw [tot_zero]; rfl, rfl, trivial⟩ (fun w hw => ⟨by omega, (none, 0), hw⟩) (fun k ρ0 => ?_)
  refine WP.fact (fun hk => ?_)
  refine WP.ex (fun ⟨A1, c1⟩ => ?_)
  dsimp only
  refine WP.seq ?_
  refine WP.region ?_
  refine WPL.val (v_lss rfl rfl) ?_
  refine WPL.nil (onto_of ?_)
  refine WP.seq ?_
  refine WP.condP rfl (fun h20 => ?_) (fun h20 => ?_)
  ·
    have hk' : k < l.length := by omega
    obtain ⟨x, hx⟩ : ∃ x, l[k]? = some x := ⟨_, List.getElem?_eq_getElem hk'⟩
    obtain ⟨b, o, rfl, hc⟩ := hz k x hx
    have hb1 := tot_bd l k
    have hb2 := basic_bd x
    have hbl := begun0_length l k hk
    refine WP.skip (onto_of ?_)
    refine WP.seq ?_
    refine WP.block ?_
    refine WP.seq ?_
    refine WP.region ?_
    refine WPL.val (v_index Try.underlying22 Try.sizeOf28 rfl rfl rfl (by omega)) ?_
    refine WPL.val (v_loadA (cs := [.int .i64 _, .int .i64 _, .int .i64 _, .int .i64 _, .int .i64 _]) Try.isAgg28 Try.sizeOf28 rfl (fun w hw => hw.old_at hc (not_foots_nil _))) ?_
    refine WPL.ef (x_alloc (us := [_, _, _, _, _]) (σ' := fun _ => [_, _, _]) Try.zeroValue28 rfl (fun _ => rfl)) (fun b8 => ?_)
    refine WPL.ef0 (x_storeA (us := [.int .i64 _, .int .i64 _, .int .i64 _, .int .i64 _, .int .i64 _]) (σ' := [_, _, .cl _ _ [_, _, _, _, _]]) Try.sizeOf28 rfl rfl (i := 2) rfl (Nat.le_of_ble_eq_true rfl) rfl (by simp [Value.oneCell'])) (fun _ => ?_)
    refine WPL.nil (onto_of ?_)
    refine WP.seq ?_
    refine WP.region ?_
    refine WPL.val (v_loadA (cs := [.int .i64 _, .int .i64 _, .int .i64 _, .int .i64 _, .int .i64 _]) Try.isAgg28 Try.sizeOf28 rfl (fun w hw => hw.cl_at (i := 2) rfl _ rfl)) ?_
    refine WPL.ef (x_call Try.call31 (sound_ct x) [] [0, 1, 2] rfl (fun w hw => trivial) (τ := fun _ => [_, _, _]) (fun _ => rfl)) (fun _ => ?_)
    refine WPL.fact (fun _ => ?_)
    refine WPL.val (v_struct (us := [.int .i64 _, .int .i64 _, .int .i64 _, .int .i64 _, .int .i64 _, .int .i64 _, .bool _]) (pl := [(0, 5), (5, 1), (6, 1)]) Try.underlying74 Try.zeroValue74 rfl (by kernel_rfl) rfl rfl (by kernel_rfl)) ?_
    refine WPL.ef (x_alloc (us := [_, _, _, _, _, _, _]) (σ' := fun _ => [_, _, _, _]) Try.zeroValue74 rfl (fun _ => rfl)) (fun b9 => ?_)
    refine WPL.ef0 (x_storeA (us := [.int .i64 _, .int .i64 _, .int .i64 _, .int .i64 _, .int .i64 _, .int .i64 _, .bool _]) (σ' := [_, _, _, .cl _ _ [_, _, _, _, _, _, _]]) Try.sizeOf74 rfl rfl (i := 3) rfl (Nat.le_of_ble_eq_true rfl) rfl (by simp [Value.oneCell'])) (fun _ => ?_)
    refine WPL.nil (onto_of ?_)
    refine WP.seq ?_
    refine WP.region ?_
    refine WPL.val (v_loadA (cs := [.int .i64 _, .int .i64 _, .int .i64 _, .int .i64 _, .int .i64 _]) Try.isAgg28 Try.sizeOf28 rfl (fun w hw => hw.cl_at (i := 2) rfl _ rfl)) ?_
    refine WPL.val (v_fieldL (o' := 0) Try.underlying74 rfl Try.sizeOf28 rfl rfl) ?_
    refine WPL.val (v_fieldL (o' := 0) Try.underlying28 rfl Try.sizeOf3 rfl rfl) ?_
    refine WPL.val (v_load1 (u := .int .i64 _) Try.isAgg3 rfl (fun w hw => hw.cl_at (i := 3) rfl _ rfl)) ?_
    refine WPL.ef (x_call Try.call17 (fit_ct x x.sound.base) [] [0, 1, 2, 3] rfl (fun w hw => trivial) (τ := fun _ => [_, _, _, _]) (fun _ => rfl)) (fun _ => ?_)
    refine WPL.fact (fun _ => ?_)
    rw [raw_fit x]
    refine WPL.val (v_fieldL (o' := 5) Try.underlying74 rfl Try.sizeOf3 rfl rfl) ?_
    refine WPL.ef0 (x_store (u := .int .i64 _) (σ' := [_, _, _, .cl _ _ [_, _, _, _, _, _, _]]) Try.sizeOf3 rfl rfl (i := 3) rfl (Nat.lt_of_lt_of_le (Nat.lt_succ_self _) (Nat.le_of_ble_eq_true rfl)) rfl) (fun _ => ?_)
    refine WPL.nil (onto_of ?_)
    refine WP.seq ?_
    refine WP.region ?_
    refine WPL.val (v_move (v := .int .i64 _) rfl) ?_
    refine WPL.val (v_fieldL (o' := 5) Try.underlying74 rfl Try.sizeOf3 rfl rfl) ?_
    refine WPL.val (v_load1 (u := .int .i64 _) Try.isAgg3 rfl (fun w hw => hw.cl_at (i := 3) rfl _ rfl)) ?_
    refine WPL.val (v_add rfl rfl (by omega)) ?_
    refine WPL.val (v_assign (v := .int .i64 _) rfl) ?_
    rw [← tot_succ l k x hx]
    refine WPL.nil (onto_of ?_)
    refine WP.drawSel (some 10) [0, 2, 3] [(0, true), (1, true), (2, true), (3, true), (4, true), (5, true), (6, false), (7, false), (8, false), (9, true), (10, false)] mixed (by kernel_rfl) (by decide) ?_
    refine WPD.take rfl (v_move (v := .pointer _) rfl) ?_ (fun _ h => h.sel [0, 2, 3] (by decide))
    refine WPD.take rfl (v_move (v := .pointer _) rfl) ?_ (fun _ h => h.sel [0, 2, 3] (by decide))
    refine WPD.take rfl (v_nil rfl) ?_ (fun _ h => h.sel [0, 2, 3] (by decide))
    refine WPD.take rfl (v_fieldL (o' := 0) Try.underlying72 rfl Try.sizeOf70 rfl rfl) ?_ (fun _ h => h.sel [0, 2, 3] (by decide))
    refine WPD.take rfl (v_load1 (u := .slice _ _ _) Try.isAgg70 rfl (fun w hw => hw.cl_at (i := 0) rfl _ rfl)) ?_ (fun _ h => h.sel [0, 2, 3] (by decide))
    refine WPD.take rfl (v_loadA (cs := [.int .i64 _, .int .i64 _, .int .i64 _, .int .i64 _, .int .i64 _, .int .i64 _, .bool _]) Try.isAgg74 Try.sizeOf74 rfl (fun w hw => hw.cl_at (i := 2) rfl _ rfl)) ?_ (fun _ h => h.sel [0, 2, 3] (by decide))
    refine WPD.ef rfl (x_buildSlice (us := [.int .i64 _, .int .i64 _, .int .i64 _, .int .i64 _, .int .i64 _, .int .i64 _, .bool _]) (σ' := fun _ => [_, _, _, _, _]) Try.underlying70 Try.sizeOf74 Try.zeroValue74 rfl rfl rfl (by decide) (by decide) (fun _ => rfl)) (fun _ _ _ h => h.sel [0, 2, 3] (by decide)) (fun g42 => ?_)
    refine WPD.ef rfl (x_append (sz := 7) (σ' := fun _ => [_, _, _, _, _]) Try.underlying70 info74 rfl (by decide) rfl rfl (i := 1) rfl (fun w hw => hw.src_row (i := 4) rfl) rfl (by simp [Value.oneCell']) (by omega) (by omega) (fun _ => rfl)) (fun _ _ _ h => h.sel [0, 2, 3] (by decide)) (fun ⟨A43, c43⟩ => ?_)
    refine WPD.val rfl (v_nil rfl) (fun _ h => h.sel [0, 2, 3] (by decide)) ?_
    refine WPD.take rfl (v_fieldL (o' := 0) Try.underlying72 rfl Try.sizeOf70 rfl rfl) ?_ (fun _ h => h.sel [0, 2, 3] (by decide))
    refine WPD.ef0 rfl (x_store (u := .slice _ _ _) (σ' := [.cl _ _ [_, _, _], _, _, _, _]) Try.sizeOf70 rfl rfl (i := 0) rfl (Nat.lt_of_lt_of_le (Nat.lt_succ_self _) (Nat.le_of_ble_eq_true rfl)) rfl) (fun h => absurd rfl h) (fun _ => ?_)
    refine WPD.nil (onto_of ?_)
    refine WP.region ?_
    refine WPL.val (v_add rfl rfl (by omega)) ?_
    refine WPL.val (v_move (v := .int .i64 _) rfl) ?_
    exact WPL.nil fun w hw => ⟨rfl, k + 1, (by omega), ⟨rfl, rfl, (via (.pointer _) rfl rfl), (via (.slice _ _ _) rfl rfl), (via (.int .i64 _) rfl rfl), trivial⟩, by omega, (A43, c43), by rw [begun0_succ l k hx, entI_snoc]; exact hw.sel [0, 1] (by decide)⟩
  ·
    obtain rfl : k = l.length := by omega
    refine WP.exit (onto_of ?_)
    refine WP.seq ?_
    refine WP.region ?_
    refine WPL.val (v_move (v := .pointer _) rfl) ?_
    refine WPL.val (v_move (v := .int .i64 _) rfl) ?_
    refine WPL.val (v_move (v := .pointer _) rfl) ?_
    refine WPL.val (v_nil rfl) ?_
    refine WPL.val (v_fieldL (o' := 1) Try.underlying72 rfl Try.sizeOf3 rfl rfl) ?_
    refine WPL.val (v_load1 (u := .int .i64 _) Try.isAgg3 rfl (fun w hw => hw.cl_at (i := 0) rfl _ rfl)) ?_
    refine WPL.val (v_lss rfl rfl) ?_
    refine WPL.val (v_nil rfl) ?_
    refine WPL.val (v_fieldL (o' := 2) Try.underlying72 rfl Try.sizeOf4 rfl rfl) ?_
    refine WPL.ef0 (x_store (u := .bool _) (σ' := [.cl _ _ [_, _, _], _]) Try.sizeOf4 rfl rfl (i := 0) rfl (Nat.lt_of_lt_of_le (Nat.lt_succ_self _) (Nat.le_of_ble_eq_true rfl)) rfl) (fun _ => ?_)
    refine WPL.nil (onto_of ?_)
    refine WP.seq ?_
    refine WP.seq ?_
    refine WP.region ?_
    refine WPL.val (v_move (v := .pointer _) rfl) ?_
    refine WPL.val (v_nil rfl) ?_
    refine WPL.val (v_fieldL (o' := 0) Try.underlying72 rfl Try.sizeOf70 rfl rfl) ?_
    refine WPL.val (v_load1 (u := .slice _ _ _) Try.isAgg70 rfl (fun w hw => hw.cl_at (i := 0) rfl _ rfl)) ?_
    refine WPL.val (v_len Try.underlying70 rfl) ?_
    refine WPL.val (v_move (v := .int .i64 (0)) rfl) ?_
    refine WPL.nil (onto_of ?_)
    refine WP.block ?_
    refine WP.loopK (X := Nat) [5, 60] (fun k => [(61, .int .i64 (k : Int))]) (fun k w => k ≤ l.length ∧ St w0 (foots []) [tblI b16 A1 l.length c1 (lot room) (grows l room), entI A1 l.length c1 (upto (frst (grows l room)) (begun0 l l.length) k)] w) (fun k => l.length - k) 0 ⟨rfl, trivial⟩ (fun w hw => ⟨by omega, by rw [upto_zero]; exact hw⟩) (fun k ρ0 => ?_)
    refine WP.fact (fun hk => ?_)
    refine WP.seq ?_
    refine WP.region ?_
    refine WPL.val (v_lss rfl rfl) ?_
    refine WPL.nil (onto_of ?_)
    refine WP.seq ?_
    refine WP.condP rfl (fun h62 => ?_) (fun h62 => ?_)
    ·
      have hk' : k < l.length := by omega
      obtain ⟨x, hx⟩ : ∃ x, l[k]? = some x := ⟨_, List.getElem?_eq_getElem hk'⟩
      obtain ⟨e, he⟩ : ∃ e, (begun0 l l.length)[k]? = some e := ⟨_, List.getElem?_eq_getElem (by rw [begun0_length l _ (Nat.le_refl _)]; exact hk')⟩
      have he1 := (upto_at (frst (grows l room)) (begun0 l l.length) k).trans he
      refine WP.holds (fun w hw => hw.row_pos (i := 1) rfl (by omega)) (fun ⟨b, hA⟩ => ?_)
      subst hA
      refine WP.skip (onto_of ?_)
      refine WP.seq ?_
      refine WP.block ?_
      refine WP.seq ?_
      refine WP.region ?_
      refine WPL.val (v_move (v := .int .i64 _) rfl) ?_
      refine WPL.val (v_assign (v := .int .i64 _) rfl) ?_
      refine WPL.nil (onto_of ?_)
      refine WP.seq ?_
      refine WP.region ?_
      refine WPL.val (v_move (v := .pointer _) rfl) ?_
      refine WPL.val (v_nil rfl) ?_
      refine WPL.val (v_fieldL (o' := 0) Try.underlying72 rfl Try.sizeOf70 rfl rfl) ?_
      refine WPL.val (v_load1 (u := .slice _ _ _) Try.isAgg70 rfl (fun w hw => hw.cl_at (i := 0) rfl _ rfl)) ?_
      refine WPL.val (v_move (v := .int .i64 _) rfl) ?_
      refine WPL.val (v_index Try.underlying70 Try.sizeOf74 rfl rfl rfl (by omega)) ?_
      refine WPL.val (v_assign (v := .pointer _) rfl) ?_
      refine WPL.nil (onto_of ?_)
      refine WP.seq ?_
      refine WP.drawS none [(0, true), (1, true), (2, true), (3, true), (4, true), (5, true), (6, true), (7, true), (8, true), (9, true), (10, true)] mixed (by kernel_rfl) (by decide) (fun _ h => h.drawn) ?_
      refine WPD.take rfl (v_move (v := .pointer _) rfl) ?_ (fun _ h => h)
      refine WPD.take rfl (v_nil rfl) ?_ (fun _ h => h)
      refine WPD.take rfl (v_field (off := 0) Try.underlying74 rfl Try.sizeOf28 rfl) ?_ (fun _ h => h)
      refine WPD.take rfl (v_field (off := 0) Try.underlying28 rfl Try.sizeOf3 rfl) ?_ (fun _ h => h)
      refine WPD.take rfl (v_load1 (u := .int .i64 _) Try.isAgg3 rfl (fun w hw => hw.row_at1 (i := 1) rfl (flat_at FE.enc 7 (fun _ => rfl) _ k 0 e _ he1 rfl) (by omega))) ?_ (fun _ h => h)
      refine WPD.take rfl (v_move (v := .pointer _) rfl) ?_ (fun _ h => h)
      refine WPD.take rfl (v_nil rfl) ?_ (fun _ h => h)
      refine WPD.take rfl (v_field (off := 5) Try.underlying74 rfl Try.sizeOf3 rfl) ?_ (fun _ h => h)
      refine WPD.take rfl (v_load1 (u := .int .i64 _) Try.isAgg3 rfl (fun w hw => hw.row_at1 (i := 1) rfl (flat_at FE.enc 7 (fun _ => rfl) _ k 5 e _ he1 rfl) (by omega))) ?_ (fun _ h => h)
      refine WPD.take rfl (v_gtr rfl rfl) ?_ (fun _ h => h)
      refine WPD.take rfl (v_assign (v := .bool _) rfl) ?_ (fun _ h => h)
      refine WPD.nil (onto_of ?_)
      refine WP.seq ?_
      refine WP.seq ?_
      refine WP.region ?_
      refine WPL.val (v_move (v := .pointer _) rfl) ?_
      refine WPL.val (v_nil rfl) ?_
      refine WPL.val (v_fieldL (o' := 2) Try.underlying72 rfl Try.sizeOf4 rfl rfl) ?_
      refine WPL.val (v_load1 (u := .bool _) Try.isAgg4 rfl (fun w hw => hw.cl_at (i := 0) rfl _ rfl)) ?_
      refine WPL.val (v_not rfl) ?_
      refine WPL.nil (onto_of ?_)
      refine WP.cond rfl (fun h84 => ?_) (fun h84 => ?_)
      ·
        have hgf : grows l room = false := by simpa using h84
        refine WP.drawS none [(0, true), (1, true), (2, true), (3, true), (4, true), (5, true), (6, true), (7, true), (8, true), (9, true), (10, true)] mixed (by kernel_rfl) (by decide) (fun _ h => h.drawn) ?_
        refine WPD.take rfl (v_move (v := .pointer _) rfl) ?_ (fun _ h => h)
        refine WPD.take rfl (v_nil rfl) ?_ (fun _ h => h)
        refine WPD.take rfl (v_field (off := 0) Try.underlying74 rfl Try.sizeOf28 rfl) ?_ (fun _ h => h)
        refine WPD.take rfl (v_field (off := 0) Try.underlying28 rfl Try.sizeOf3 rfl) ?_ (fun _ h => h)
        refine WPD.take rfl (v_load1 (u := .int .i64 _) Try.isAgg3 rfl (fun w hw => hw.row_at1 (i := 1) rfl (flat_at FE.enc 7 (fun _ => rfl) _ k 0 e _ he1 rfl) (by omega))) ?_ (fun _ h => h)
        refine WPD.take rfl (v_move (v := .pointer _) rfl) ?_ (fun _ h => h)
        refine WPD.take rfl (v_nil rfl) ?_ (fun _ h => h)
        refine WPD.take rfl (v_field (off := 5) Try.underlying74 rfl Try.sizeOf3 rfl) ?_ (fun _ h => h)
        refine WPD.take rfl (v_load1 (u := .int .i64 _) Try.isAgg3 rfl (fun w hw => hw.row_at1 (i := 1) rfl (flat_at FE.enc 7 (fun _ => rfl) _ k 5 e _ he1 rfl) (by omega))) ?_ (fun _ h => h)
        refine WPD.take rfl (v_lss rfl rfl) ?_ (fun _ h => h)
        refine WPD.take rfl (v_assign (v := .bool _) rfl) ?_ (fun _ h => h)
        refine WPD.nil (onto_of ?_)
        refine WP.region ?_
        refine WPL.val (v_move (v := .pointer _) rfl) ?_
        refine WPL.val (v_move (v := .bool _) rfl) ?_
        refine WPL.val (v_move (v := .bool _) rfl) ?_
        refine WPL.split 97 rfl (fun h97 => ?_) (fun h97 => ?_)
        ·
          refine WPL.skipG ?_
          refine WPL.skipG ?_
          refine WPL.skipG ?_
          refine WPL.skipG ?_
          refine WPL.skipG ?_
          refine WPL.skipG ?_
          refine WPL.val (v_pickT (u := .bool _) rfl rfl) ?_
          refine WPL.val (v_nil rfl) ?_
          refine WPL.val (v_field (off := 6) Try.underlying74 rfl Try.sizeOf4 rfl) ?_
          refine WPL.ef0 (x_storeRow' (u := .bool _) (xs' := (upto (frst (grows l room)) (begun0 l l.length) (k + 1)).flatMap FE.enc) (σ' := [_, _]) Try.sizeOf4 rfl rfl (i := 1) rfl (by rw [flat_len, begun0_length l _ (Nat.le_refl _)]; omega) (by rw [Nat.zero_add, flat_set FE.enc 7 (fun _ => rfl) _ k 6 e (frst (grows l room) k e) _ he1 (by decide) (frst_cell (by first | (rw [hgf]; simp; omega) | (rw [hgf]; simp [fct]; omega) | (rw [hgt]; simp; omega) | (rw [hgt]; simp [fct]; omega))), upto_succ _ _ _ he]) rfl) (fun _ => ?_)
          refine WPL.nil (onto_of ?_)
          refine WP.region ?_
          refine WPL.val (v_add rfl rfl (by omega)) ?_
          refine WPL.val (v_move (v := .int .i64 _) rfl) ?_
          exact WPL.nil fun w hw => ⟨rfl, k + 1, (by omega), ⟨rfl, (via (.pointer _) rfl rfl), (via (.int .i64 _) rfl rfl), trivial⟩, by omega, (hw.sel [0, 1] (by decide))⟩
        ·
          refine WPL.valG (v_move (v := .pointer _) rfl) ?_
          refine WPL.valG (v_move (v := .pointer _) rfl) ?_
          refine WPL.valG (v_nil rfl) ?_
          refine WPL.valG (v_loadA (cs := [.int .i64 _, .int .i64 _, .int .i64 _, .int .i64 _, .int .i64 _, .int .i64 _, .bool _]) Try.isAgg74 Try.sizeOf74 rfl (fun w hw => hw.row_at (i := 1) rfl _ (fun j u hu => by rw [Nat.zero_add]; exact flat_at FE.enc 7 (fun _ => rfl) _ k j e u he1 hu))) ?_
          refine WPL.efG (x_call Try.call59 (factor_ct b16 _ l.length c1 (lot room) (grows l room) e) [0] [1] rfl (fun w hw => trivial) (τ := fun _ => [_, _]) (fun _ => rfl)) (fun _ => ?_)
          refine WPL.fact (fun _ => ?_)
          refine WPL.valG (v_eql rfl rfl) ?_
          refine WPL.val (v_pickF (v := .bool _) rfl rfl) ?_
          refine WPL.val (v_nil rfl) ?_
          refine WPL.val (v_field (off := 6) Try.underlying74 rfl Try.sizeOf4 rfl) ?_
          refine WPL.ef0 (x_storeRow' (u := .bool _) (xs' := (upto (frst (grows l room)) (begun0 l l.length) (k + 1)).flatMap FE.enc) (σ' := [_, _]) Try.sizeOf4 rfl rfl (i := 0) rfl (by rw [flat_len, begun0_length l _ (Nat.le_refl _)]; omega) (by rw [Nat.zero_add, flat_set FE.enc 7 (fun _ => rfl) _ k 6 e (frst (grows l room) k e) _ he1 (by decide) (frst_cell (by first | (rw [hgf]; simp; omega) | (rw [hgf]; simp [fct]; omega) | (rw [hgt]; simp; omega) | (rw [hgt]; simp [fct]; omega))), upto_succ _ _ _ he]) rfl) (fun _ => ?_)
          refine WPL.nil (onto_of ?_)
          refine WP.region ?_
          refine WPL.val (v_add rfl rfl (by omega)) ?_
          refine WPL.val (v_move (v := .int .i64 _) rfl) ?_
          exact WPL.nil fun w hw => ⟨rfl, k + 1, (by omega), ⟨rfl, (via (.pointer _) rfl rfl), (via (.int .i64 _) rfl rfl), trivial⟩, by omega, (hw.sel [1, 0] (by decide))⟩
      ·
        have hgt : grows l room = true := by simpa using h84
        refine WP.skip (onto_of ?_)
        refine WP.region ?_
        refine WPL.val (v_move (v := .pointer _) rfl) ?_
        refine WPL.val (v_move (v := .bool _) rfl) ?_
        refine WPL.val (v_move (v := .bool _) rfl) ?_
        refine WPL.split 97 rfl (fun h97 => ?_) (fun h97 => ?_)
        ·
          refine WPL.skipG ?_
          refine WPL.skipG ?_
          refine WPL.skipG ?_
          refine WPL.skipG ?_
          refine WPL.skipG ?_
          refine WPL.skipG ?_
          refine WPL.val (v_pickT (u := .bool _) rfl rfl) ?_
          refine WPL.val (v_nil rfl) ?_
          refine WPL.val (v_field (off := 6) Try.underlying74 rfl Try.sizeOf4 rfl) ?_
          refine WPL.ef0 (x_storeRow' (u := .bool _) (xs' := (upto (frst (grows l room)) (begun0 l l.length) (k + 1)).flatMap FE.enc) (σ' := [_, _]) Try.sizeOf4 rfl rfl (i := 1) rfl (by rw [flat_len, begun0_length l _ (Nat.le_refl _)]; omega) (by rw [Nat.zero_add, flat_set FE.enc 7 (fun _ => rfl) _ k 6 e (frst (grows l room) k e) _ he1 (by decide) (frst_cell (by first | (rw [hgf]; simp; omega) | (rw [hgf]; simp [fct]; omega) | (rw [hgt]; simp; omega) | (rw [hgt]; simp [fct]; omega))), upto_succ _ _ _ he]) rfl) (fun _ => ?_)
          refine WPL.nil (onto_of ?_)
          refine WP.region ?_
          refine WPL.val (v_add rfl rfl (by omega)) ?_
          refine WPL.val (v_move (v := .int .i64 _) rfl) ?_
          exact WPL.nil fun w hw => ⟨rfl, k + 1, (by omega), ⟨rfl, (via (.pointer _) rfl rfl), (via (.int .i64 _) rfl rfl), trivial⟩, by omega, (hw.sel [0, 1] (by decide))⟩
        ·
          refine WPL.valG (v_move (v := .pointer _) rfl) ?_
          refine WPL.valG (v_move (v := .pointer _) rfl) ?_
          refine WPL.valG (v_nil rfl) ?_
          refine WPL.valG (v_loadA (cs := [.int .i64 _, .int .i64 _, .int .i64 _, .int .i64 _, .int .i64 _, .int .i64 _, .bool _]) Try.isAgg74 Try.sizeOf74 rfl (fun w hw => hw.row_at (i := 1) rfl _ (fun j u hu => by rw [Nat.zero_add]; exact flat_at FE.enc 7 (fun _ => rfl) _ k j e u he1 hu))) ?_
          refine WPL.efG (x_call Try.call59 (factor_ct b16 _ l.length c1 (lot room) (grows l room) e) [0] [1] rfl (fun w hw => trivial) (τ := fun _ => [_, _]) (fun _ => rfl)) (fun _ => ?_)
          refine WPL.fact (fun _ => ?_)
          refine WPL.valG (v_eql rfl rfl) ?_
          refine WPL.val (v_pickF (v := .bool _) rfl rfl) ?_
          refine WPL.val (v_nil rfl) ?_
          refine WPL.val (v_field (off := 6) Try.underlying74 rfl Try.sizeOf4 rfl) ?_
          refine WPL.ef0 (x_storeRow' (u := .bool _) (xs' := (upto (frst (grows l room)) (begun0 l l.length) (k + 1)).flatMap FE.enc) (σ' := [_, _]) Try.sizeOf4 rfl rfl (i := 0) rfl (by rw [flat_len, begun0_length l _ (Nat.le_refl _)]; omega) (by rw [Nat.zero_add, flat_set FE.enc 7 (fun _ => rfl) _ k 6 e (frst (grows l room) k e) _ he1 (by decide) (frst_cell (by first | (rw [hgf]; simp; omega) | (rw [hgf]; simp [fct]; omega) | (rw [hgt]; simp; omega) | (rw [hgt]; simp [fct]; omega))), upto_succ _ _ _ he]) rfl) (fun _ => ?_)
          refine WPL.nil (onto_of ?_)
          refine WP.region ?_
          refine WPL.val (v_add rfl rfl (by omega)) ?_
          refine WPL.val (v_move (v := .int .i64 _) rfl) ?_
          exact WPL.nil fun w hw => ⟨rfl, k + 1, (by omega), ⟨rfl, (via (.pointer _) rfl rfl), (via (.int .i64 _) rfl rfl), trivial⟩, by omega, (hw.sel [1, 0] (by decide))⟩
    ·
      obtain rfl : k = l.length := by omega
      refine WP.exit (onto_of ?_)
      refine WP.seq ?_
      refine WP.region ?_
      refine WPL.val (v_move (v := .pointer _) rfl) ?_
      refine WPL.val (v_assign (v := .pointer _) rfl) ?_
      refine WPL.nil (onto_of ?_)
      exact WP.ret1 Try.results33 (fun _ h => h) (fun w hw => ⟨(b16, A1, c1), rfl, trivial, by have h := hw.sel [0, 1] (by decide); rw [frst_all] at h; exact h⟩)

def fillTo (vs : List Int) (k : Nat) : List Int := (List.range vs.length).map fun j => if j < k then vs.getD j 0 else 0
theorem fillTo_length (vs : List Int) (k : Nat) : (fillTo vs k).length = vs.length := by simp [fillTo]
theorem fillTo_zero (vs : List Int) : fillTo vs 0 = List.replicate vs.length 0 := by
  apply List.ext_getElem?
  intro i
  by_cases h : i < vs.length <;> simp [fillTo, h]
theorem fillTo_all (vs : List Int) : fillTo vs vs.length = vs := by
  apply List.ext_getElem?
  intro i
  by_cases h : i < vs.length
  · simp [fillTo, h]
  · simp [fillTo, h]
theorem fillTo_succ (vs : List Int) (k : Nat) {v : Int} (h : vs[k]? = some v) : (fillTo vs k).set k v = fillTo vs (k + 1) := by
  have hk := (List.getElem?_eq_some_iff.1 h).1
  apply List.ext_getElem?
  intro i
  by_cases hi : i = k
  · subst hi
    have hv : vs[i] = v := (List.getElem?_eq_some_iff.1 h).2
    simp [fillTo, hk, hv]
  · rw [List.getElem?_set_ne (Ne.symm hi)]
    by_cases hl : i < vs.length
    · simp only [fillTo, List.getElem?_map, List.getElem?_range hl, Option.map_some]
      congr 1
      by_cases h1 : i < k <;> by_cases h2 : i < k + 1 <;> simp [h1, h2] <;> omega
    · simp [fillTo, hl]

/-- Where the rounds stand. -/
structure Stand where
  t : Nat
  A : Option Addr
  cap : Nat
  es : List FE
set_option maxRecDepth 100000 in
theorem sizes_ct (A : Option Addr) (c : Nat) (l : List FItem) (room : Int) (hl : l.length ≤ 64) :
    Ct Try.prog 20 #[.slice A l.length c, .int .i64 room] [] (fun w => RdE w A 5 FItem.enc l) (X := Option Addr × Nat) (fun p => .slice p.1 l.length p.2) (fun _ => True)
      (fun p => [.row 3 1 p.1 l.length p.2 ((sizes l room).map (Value.int .i64))]) := by
  refine Ct.intro Try.func20 rfl Try.ntmps20 (by simp) (fun w0 hz => ?_)
  refine WP.seq ?_
  refine WP.region ?_
  refine WPL.val (v_assign (v := .slice none 0 0) rfl) ?_
  refine WPL.nil (onto_of ?_)
  refine WP.scopeL (X := Stand) 0 rfl [0] (fun x => [(5, .pointer (some ⟨x.t, 0, none⟩))]) (fun x w => (x.es.length = l.length ∧ oks x.es ∧ (final (grows l room) (lot room) x.es).map FE.size = sizes l room) ∧ St w0 (foots []) [tblI x.t x.A x.es.length x.cap (lot room) (grows l room), entI x.A x.es.length x.cap x.es] w) (fun x => kth x.es x.es.length) (fun hL => ?_) (fun x ρ0 => ?_)
  ·
    refine WP.seq ?_
    refine WP.seq ?_
    refine WP.region ?_
    refine WPL.val (v_move (v := .slice _ _ _) rfl) ?_
    refine WPL.val (v_len Try.underlying22 rfl) ?_
    refine WPL.val (v_gtr rfl rfl) ?_
    refine WPL.nil (onto_of ?_)
    refine WP.condP rfl (fun h => absurd h (by omega)) (fun h11 => ?_)
    refine WP.skip (onto_of ?_)
    refine WP.seq ?_
    refine WP.region ?_
    refine WPL.val (v_move (v := .slice _ _ _) rfl) ?_
    refine WPL.val (v_move (v := .int .i64 _) rfl) ?_
    refine WPL.ef (x_call Try.call33 (begin_ct A c l room hl) [] [] rfl (fun w hw => hw.rd hz not_foots_nil) (τ := fun _ => [_, _]) (fun _ => rfl)) (fun ⟨t, A1, c1⟩ => ?_)
    refine WPL.fact (fun _ => ?_)
    refine WPL.val (v_assign (v := .pointer _) rfl) ?_
    refine WPL.nil (onto_of ?_)
    exact hL ⟨t, A1, c1, l.map (start (grows l room))⟩ _ _ ⟨rfl, rfl, trivial⟩ (fun w hw => ⟨⟨by simp, start_oks _ _, rfl⟩, by simp only [List.length_map]; exact hw⟩)
  ·
    obtain ⟨xt, xA, xc, xes⟩ := x
    dsimp only
    refine WP.fact (fun ⟨hlen, hok, hfin⟩ => ?_)
    refine WP.seq ?_
    refine WP.seq ?_
    refine WP.region ?_
    refine WPL.val (v_move (v := .pointer _) rfl) ?_
    refine WPL.ef (x_call Try.call34 (round_ct xt xA xc (lot room) (grows l room) xes hok (by omega) (lot_bd room)) [0, 1] [] rfl (fun w hw => trivial) (τ := fun _ => [_, _]) (fun _ => rfl)) (fun _ => ?_)
    refine WPL.fact (fun _ => ?_)
    refine WPL.nil (onto_of ?_)
    refine WP.condP rfl (fun h16 => ?_) (fun h16 => ?_)
    ·
      have hkw := kth_wts (grows l room) xes xes.length
      exact WP.goto (fun w hw => ⟨rfl, rfl, ⟨xt, xA, xc, round (grows l room) (lot room) xes⟩, (round_less (by omega)), ⟨rfl, (via (.slice _ _ _) rfl rfl), trivial⟩, ⟨⟨by rw [round_length]; exact hlen, round_oks hok, by rw [final_step (by omega)]; exact hfin⟩, by simp only [round_length]; exact hw⟩⟩)
    ·
      have hkw := kth_wts (grows l room) xes xes.length
      have hk0 : kth xes xes.length = 0 := by omega
      rw [final_done hk0] at hfin
      have hrd : round (grows l room) (lot room) xes = xes := by
        apply List.ext_getElem?
        intro i
        simp only [round, List.getElem?_mapIdx]
        cases he : xes[i]? with
        | none => rfl
        | some e =>
          cases hf : e.fr with
          | true => simp [froze, hf]
          | false => have := kth_lt he hf; omega
      rw [hrd]
      have hsl : (sizes l room).length = l.length := sizes_length l room
      have hso : ∀ (k : Nat) (e : FE), xes[k]? = some e → (sizes l room)[k]? = some e.size := fun k e he => by rw [← hfin, List.getElem?_map, he]; rfl
      refine WP.skip (onto_of ?_)
      refine WP.seq ?_
      refine WP.region ?_
      refine WPL.val (v_move (v := .slice _ _ _) rfl) ?_
      refine WPL.val (v_len Try.underlying22 rfl) ?_
      refine WPL.ef (x_make1 (n := l.length) (σ' := fun _ => [_, _, _]) Try.underlying32 int_info rfl rfl rfl rfl rfl (by omega) (by omega) (fun _ => rfl)) (fun g19 => ?_)
      refine WPL.val (v_assign (v := .slice _ _ _) rfl) ?_
      refine WPL.nil (onto_of ?_)
      refine WP.seq ?_
      refine WP.seq ?_
      refine WP.region ?_
      refine WPL.val (v_move (v := .pointer _) rfl) ?_
      refine WPL.val (v_nil rfl) ?_
      refine WPL.val (v_fieldL (o' := 0) Try.underlying72 rfl Try.sizeOf70 rfl rfl) ?_
      refine WPL.val (v_load1 (u := .slice _ _ _) Try.isAgg70 rfl (fun w hw => hw.cl_at (i := 0) rfl _ rfl)) ?_
      refine WPL.val (v_len Try.underlying70 rfl) ?_
      refine WPL.val (v_move (v := .int .i64 (0)) rfl) ?_
      refine WPL.nil (onto_of ?_)
      refine WP.block ?_
      refine WP.loopK (X := Nat) [6, 23, 24] (fun k => [(25, .int .i64 (k : Int))]) (fun k w => k ≤ l.length ∧ St w0 (foots []) [tblI xt xA xes.length xc (lot room) (grows l room), entI xA xes.length xc xes, .row 3 1 (some ⟨g19, 0, none⟩) l.length l.length ((fillTo (sizes l room) k).map (Value.int .i64))] w) (fun k => l.length - k) 0 ⟨rfl, trivial⟩ (fun w hw => ⟨by omega, by rw [fillTo_zero, hsl]; simpa using hw⟩) (fun k ρ0 => ?_)
      refine WP.fact (fun hk => ?_)
      refine WP.seq ?_
      refine WP.region ?_
      refine WPL.val (v_lss rfl rfl) ?_
      refine WPL.nil (onto_of ?_)
      refine WP.seq ?_
      refine WP.condP rfl (fun h26 => ?_) (fun h26 => ?_)
      ·
        have hk' : k < xes.length := by omega
        obtain ⟨e, he⟩ : ∃ e, xes[k]? = some e := ⟨_, List.getElem?_eq_getElem hk'⟩
        have hse := hso k e he
        refine WP.holds (fun w hw => hw.row_pos (i := 1) rfl (by omega)) (fun ⟨b, hA⟩ => ?_)
        subst hA
        refine WP.skip (onto_of ?_)
        refine WP.seq ?_
        refine WP.block ?_
        refine WP.seq ?_
        refine WP.region ?_
        refine WPL.val (v_move (v := .int .i64 _) rfl) ?_
        refine WPL.val (v_index Try.underlying70 Try.sizeOf74 rfl rfl rfl (by omega)) ?_
        refine WPL.val (v_loadA (cs := [.int .i64 _, .int .i64 _, .int .i64 _, .int .i64 _, .int .i64 _, .int .i64 _, .bool _]) Try.isAgg74 Try.sizeOf74 rfl (fun w hw => hw.row_at (i := 1) rfl _ (fun j u hu => by rw [Nat.zero_add]; exact flat_at FE.enc 7 (fun _ => rfl) xes k j e u he hu))) ?_
        refine WPL.ef (x_alloc (us := [_, _, _, _, _, _, _]) (σ' := fun _ => [_, _, _, _]) Try.zeroValue74 rfl (fun _ => rfl)) (fun b8 => ?_)
        refine WPL.val (v_assign (v := .int .i64 _) rfl) ?_
        refine WPL.ef0 (x_storeA (us := [.int .i64 _, .int .i64 _, .int .i64 _, .int .i64 _, .int .i64 _, .int .i64 _, .bool _]) (σ' := [_, _, _, .cl _ _ [_, _, _, _, _, _, _]]) Try.sizeOf74 rfl rfl (i := 3) rfl (Nat.le_of_ble_eq_true rfl) rfl (by simp [Value.oneCell'])) (fun _ => ?_)
        refine WPL.nil (onto_of ?_)
        refine WP.region ?_
        refine WPL.val (v_move (v := .slice _ _ _) rfl) ?_
        refine WPL.val (v_move (v := .int .i64 _) rfl) ?_
        refine WPL.val (v_fieldL (o' := 5) Try.underlying74 rfl Try.sizeOf3 rfl rfl) ?_
        refine WPL.val (v_load1 (u := .int .i64 _) Try.isAgg3 rfl (fun w hw => hw.cl_at (i := 3) rfl _ rfl)) ?_
        refine WPL.val (v_index Try.underlying32 Try.sizeOf3 rfl rfl rfl (by omega)) ?_
        refine WPL.ef0 (x_storeRow' (u := .int .i64 _) (xs' := (fillTo (sizes l room) (k + 1)).map (Value.int .i64)) (σ' := [_, _, _, _]) Try.sizeOf3 rfl rfl (i := 2) rfl (by simp [fillTo_length]; omega) (by rw [← fillTo_succ _ k hse, List.map_set, Nat.zero_add, Nat.mul_one]) rfl) (fun _ => ?_)
        refine WPL.nil (onto_of ?_)
        refine WP.region ?_
        refine WPL.val (v_add rfl rfl (by omega)) ?_
        refine WPL.val (v_move (v := .int .i64 _) rfl) ?_
        exact WPL.nil fun w hw => ⟨rfl, k + 1, (by omega), ⟨rfl, (via (.slice _ _ _) rfl rfl), (via (.slice _ _ _) rfl rfl), (via (.int .i64 _) rfl rfl), trivial⟩, by omega, (hw.sel [0, 1, 2] (by decide))⟩
      ·
        have hkn : k = (sizes l room).length := by omega
        refine WP.exit (onto_of ?_)
        refine WP.seq ?_
        refine WP.region ?_
        refine WPL.val (v_move (v := .slice _ _ _) rfl) ?_
        refine WPL.val (v_assign (v := .slice _ _ _) rfl) ?_
        refine WPL.nil (onto_of ?_)
        exact WP.ret1 Try.results20 (fun _ h => h) (fun w hw => ⟨(some ⟨g19, 0, none⟩, l.length), rfl, trivial, by have h := (hw.sel [2] (by decide)); rw [hkn, fillTo_all] at h; exact h⟩)
theorem sizes_big (A : Option Addr) (c n : Nat) (room : Int) (hl : 64 < n) (w : World) :
    Calls Try.prog 20 #[.slice A n c, .int .i64 room] w fun e w' => e = .returned (.slice none 0 0) ∧ w = w' := by
  refine enter_pure Try.func20 rfl Try.ntmps20 (by simp) ?_
  refine WP.seq ?_
  refine WP.region ?_
  refine WPL.val (v_assign (v := .slice none 0 0) rfl) ?_
  refine WPL.nil (onto_of ?_)
  refine WP.scopeL (X := Empty) 0 rfl [] (fun x => nomatch x) (fun x => nomatch x) (fun x => nomatch x) (fun _ => ?_) (fun x => nomatch x)
  refine WP.seq ?_
  refine WP.seq ?_
  refine WP.region ?_
  refine WPL.val (v_move (v := .slice _ _ _) rfl) ?_
  refine WPL.val (v_len Try.underlying22 rfl) ?_
  refine WPL.val (v_gtr rfl rfl) ?_
  refine WPL.nil (onto_of ?_)
  refine WP.condP rfl (fun h11 => ?_) (fun h => absurd (by omega) h)
  refine WP.seq ?_
  refine WP.region ?_
  refine WPL.val (v_assign (v := .slice none 0 0) rfl) ?_
  refine WPL.nil (onto_of ?_)
  exact WP.ret1 Try.results20 (fun _ h => h) (fun w hw => ⟨rfl, hw.symm⟩)
end Go.Proofs.Ytabdcfobdehhiaa
