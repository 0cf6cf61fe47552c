/- The document's Sizes: what it computes. -/
import Derived.Test.YtabdcfobdehhiaaFlexSizes
namespace Go.Proofs.Ytabdcfobdehhiaa
open Go.RowKit

theorem info4 : (Try.prog.info? 4).map (fun i => (i.zero, i.size, i.bytes)) = some (some (.bool false), 1, 1) := by kernel_rfl
theorem info30 : (Try.prog.info? 30).map (fun i => (i.zero, i.size, i.bytes)) = some (some (.agg #[.int .i64 0, .int .i64 0, .int .i64 0, .int .i64 0, .int .i64 0]), 5, 40) := by kernel_rfl
def fillD {α : Type} (d : α) (vs : List α) (k : Nat) : List α := (List.range vs.length).map fun j => if j < k then vs.getD j d else d
theorem fillD_length {α : Type} (d : α) (vs : List α) (k : Nat) : (fillD d vs k).length = vs.length := by simp [fillD]
theorem fillD_zero {α : Type} (d : α) (vs : List α) : fillD d vs 0 = List.replicate vs.length d := by
  apply List.ext_getElem?
  intro i
  by_cases h : i < vs.length <;> simp [fillD, h]
theorem fillD_all {α : Type} (d : α) (vs : List α) (k : Nat) (hk : vs.length ≤ k) : fillD d vs k = vs := by
  apply List.ext_getElem?
  intro i
  by_cases h : i < vs.length
  · simp [fillD, h, show i < k by omega]
  · simp [fillD, h]
theorem fillD_at {α : Type} (d : α) (vs : List α) (k i : Nat) {v : α} (h : vs[i]? = some v) (hi : i < k) : (fillD d vs k)[i]? = some v := by
  have hk := (List.getElem?_eq_some_iff.1 h).1
  have hv : vs[i] = v := (List.getElem?_eq_some_iff.1 h).2
  simp [fillD, hk, hv, hi]
theorem fillD_succ {α : Type} (d : α) (vs : List α) (k : Nat) {v : α} (h : vs[k]? = some v) : (fillD d vs k).set k v = fillD d vs (k + 1) := by
  have hk := (List.getElem?_eq_some_iff.1 h).1
  apply List.ext_getElem?
  intro i
  by_cases hi : i = k
  · subst hi
    have hv : vs[i] = v := (List.getElem?_eq_some_iff.1 h).2
    simp [fillD, hk, hv]
  · rw [List.getElem?_set_ne (Ne.symm hi)]
    by_cases hl : i < vs.length
    · simp only [fillD, List.getElem?_map, List.getElem?_range hl, Option.map_some]
      congr 1
      by_cases h1 : i < k <;> by_cases h2 : i < k + 1 <;> simp [h1, h2] <;> omega
    · simp [fillD, hl]

abbrev ritI (A : Option Addr) (n c : Nat) (xs : List FItem) : HI := .row 30 5 A n c (xs.flatMap FItem.enc)
theorem ritI_snoc (A : Option Addr) (n c : Nat) (xs : List FItem) (x : FItem) : ritI A n c (xs ++ [x]) = .row 30 5 A n c (xs.flatMap FItem.enc ++ x.enc) := by simp [ritI]
abbrev outI (b n : Nat) (vs : List Int) : HI := .row 3 1 (some ⟨b, 0, none⟩) n n (vs.map (Value.int .i64))
abbrev frI (b n : Nat) (vs : List Bool) : HI := .row 4 1 (some ⟨b, 0, none⟩) n n (vs.map Value.bool)
abbrev natsI (A : Option Addr) (c : Nat) (l : List Nat) : HI := .row 3 1 A l.length c (l.map fun j : Nat => Value.int .i64 (j : Int))
theorem outI_zero (b n : Nat) : outI b n (List.replicate n 0) = .row 3 1 (some ⟨b, 0, none⟩) n n (List.replicate n (.int .i64 0)) := by simp [outI]
theorem frI_zero (b n : Nat) : frI b n (List.replicate n false) = .row 4 1 (some ⟨b, 0, none⟩) n n (List.replicate n (.bool false)) := by simp [frI]
theorem natsI_snoc (A : Option Addr) (c : Nat) (l : List Nat) (x : Nat) : natsI A c (l ++ [x]) = .row 3 1 A (l.length + 1) c ((l.map fun j : Nat => Value.int .i64 (j : Int)) ++ [.int .i64 (x : Int)]) := by simp [natsI]

/-- From p to q there is nothing open. -/
theorem same_to {g : Bool} {room : Int} {es : List FE} {p : Nat} : ∀ {q : Nat}, p ≤ q → kth es p = kth es q → wtd g room es p = wtd g room es q ∧ moreTo g room es p = moreTo g room es q ∧ upto (froze g room es) es p = upto (froze g room es) es q
  | 0, h, _ => by obtain rfl : p = 0 := by omega
                  exact ⟨rfl, rfl, rfl⟩
  | q + 1, h, hk => by
    by_cases e : p = q + 1
    · subst e; exact ⟨rfl, rfl, rfl⟩
    · have h1 := kth_mono es (i := p) (j := q) (by omega)
      have h2 := kth_step es q
      obtain ⟨i1, i2, i3⟩ := same_to (g := g) (room := room) (es := es) (p := p) (q := q) (by omega) (by omega)
      rw [i1, i2, i3]
      cases he : es[q]? with
      | none =>
        refine ⟨by simp [wtd, he], by simp [moreTo, he], ?_⟩
        apply List.ext_getElem?
        intro i
        simp only [upto, List.getElem?_mapIdx]
        cases hi : es[i]? with
        | none => rfl
        | some x =>
          have h3 := (List.getElem?_eq_some_iff.1 hi).1
          have h4 := List.getElem?_eq_none_iff.1 he
          simp [show i < q by omega, show i < q + 1 by omega]
      | some x =>
        cases hf : x.fr with
        | true => exact ⟨(wtd_shut he hf).symm, (more_shut he hf).symm, (upto_skip _ _ _ he (by simp [froze, hf])).symm⟩
        | false => have := kth_open he hf; omega
theorem map_it (g : Bool) (room : Int) (es : List FE) : (round g room es).map FE.it = es.map FE.it := by
  apply List.ext_getElem?
  intro i
  simp only [round, List.getElem?_map, List.getElem?_mapIdx]
  cases es[i]? with
  | none => rfl
  | some e => simp only [Option.map_some]; congr 1; unfold froze; split <;> rfl
theorem start_it (g : Bool) (l : List FItem) : (l.map (start g)).map FE.it = l.map FItem.sound := by simp [start, Function.comp_def]
theorem start_size (g : Bool) (l : List FItem) : (l.map (start g)).map FE.size = l.map basic := by simp [start, Function.comp_def]
theorem fit_sound (x : FItem) : x.sound.fit x.sound.base = basic x := sound_fit x _
theorem start_fr {g : Bool} {x : FItem} {c : Bool} (hc : c = true ↔ (g = true ∧ (x.sound.grow = 0 ∨ basic x < x.sound.base)) ∨ (g = false ∧ (x.sound.shrink = 0 ∨ x.sound.base < basic x))) : (start g x).fr = c := by
  unfold start
  rw [Bool.eq_iff_iff, hc]
  cases g <;> simp
theorem sg_t {g : Bool} (h : (!g) = false) : sg g = 1 := by simp [sg, show g = true by simpa using h]
theorem sg_f {g : Bool} (h : (!g) = true) : sg g = -1 := by simp [sg, show g = false by simpa using h]
theorem froze_size {g : Bool} {room : Int} {es : List FE} {i : Nat} {e : FE} (hf : e.fr = false) : (froze g room es i e).size = e.it.fit (want g room es i e) := by simp [froze, hf]
theorem froze_fr {g : Bool} {room : Int} {es : List FE} {i : Nat} {e : FE} {c : Bool} (hf : e.fr = false) (hc : c = judge (moreTo g room es es.length) (gap g room es i e)) : (froze g room es i e).fr = c := by simp [froze, hf, hc]
theorem set_map {α β : Type} (f : α → β) {l l' : List α} {i : Nat} {a : α} {b : β} (h : l.set i a = l') (hb : f a = b) : (l.map f).set i b = l'.map f := by rw [← h, ← hb, List.map_set]
theorem map_at {α β : Type} (f : α → β) {l : List α} {i : Nat} {a : α} {b : β} (h : l[i]? = some a) (hb : f a = b) : (l.map f)[i]? = some b := by rw [List.getElem?_map, h, ← hb]; rfl

set_option maxRecDepth 100000 in
theorem rsizes_ct (A : Option Addr) (c : Nat) (l : List FItem) (room : Int) (hl : l.length ≤ 64) :
    Ct Try.prog 21 #[.slice A l.length c, .int .i64 room] [] (fun w => RdE w A 5 FItem.enc l) (X := Option Addr × Nat) (fun p => .slice p.1 l.length p.2) (fun _ => True)
      (fun p => [.row 3 1 p.1 l.length p.2 ((sizes l room).map (Value.int .i64))]) := by
  refine Ct.intro Try.func21 rfl Try.ntmps21 (by simp) (fun w0 hz => ?_)
  refine WP.seq ?_
  refine WP.region ?_
  refine WPL.val (v_assign (v := .slice none 0 0) rfl) ?_
  refine WPL.nil (onto_of ?_)
  refine WP.seq ?_
  refine WP.seq ?_
  refine WP.region ?_
  refine WPL.val (v_move (v := .slice _ _ _) rfl) ?_
  refine WPL.val (v_len Try.underlying24 rfl) ?_
  refine WPL.val (v_gtr rfl rfl) ?_
  refine WPL.nil (onto_of ?_)
  refine WP.condP rfl (fun h => absurd h (by omega)) (fun h26 => ?_)
  refine WP.skip (onto_of ?_)
  refine WP.seq ?_
  refine WP.region ?_
  refine WPL.val (v_move (v := .int .i64 _) rfl) ?_
  refine WPL.val (v_call Try.call35 (fun w hw => to_lot _ _)) ?_
  refine WPL.val (v_assign (v := .int .i64 _) rfl) ?_
  refine WPL.nil (onto_of ?_)
  refine WP.seq ?_
  refine WP.region ?_
  refine WPL.val (v_assign (v := .slice none 0 0) rfl) ?_
  refine WPL.nil (onto_of ?_)
  refine WP.seq ?_
  refine WP.region ?_
  refine WPL.val (v_move (v := .slice _ _ _) rfl) ?_
  refine WPL.val (v_len Try.underlying24 rfl) ?_
  refine WPL.ef (x_make1 (n := l.length) (σ' := fun _ => [_]) Try.underlying32 int_info rfl rfl rfl rfl rfl (by omega) (by omega) (fun _ => rfl)) (fun g31 => ?_)
  refine WPL.val (v_assign (v := .slice _ _ _) rfl) ?_
  refine WPL.nil (onto_of ?_)
  refine WP.seq ?_
  refine WP.region ?_
  refine WPL.val (v_assign (v := .int .i64 (0)) rfl) ?_
  refine WPL.nil (onto_of ?_)
  refine WP.seq ?_
  refine WP.seq ?_
  refine WP.pre ?_ (fun w hw => (hw.nilRow 30 5).sel [1, 0] (by decide))
  refine WP.region ?_
  refine WPL.val (v_assign (v := .int .i64 (0)) rfl) ?_
  refine WPL.nil (onto_of ?_)
  refine WP.block ?_
  refine WP.loopK (X := Nat × Option Addr × Nat) [0, 1, 6] (fun p => [(5, .slice p.2.1 p.1 p.2.2), (7, .int .i64 (tot l p.1)), (8, .int .i64 (p.1 : Int))]) (fun p w => p.1 ≤ l.length ∧ St w0 (foots []) [ritI p.2.1 p.1 p.2.2 ((l.take p.1).map FItem.sound), outI g31 l.length (fillD 0 (l.map basic) p.1)] w) (fun p => l.length - p.1) (0, none, 0) ⟨rfl, by rw [tot_zero]; rfl, rfl, trivial⟩ (fun w hw => ⟨by omega, by rw [fillD_zero, List.length_map, outI_zero]; exact hw⟩) (fun p ρ0 => ?_)
  obtain ⟨k, A1, c1⟩ := p
  dsimp only
  refine WP.fact (fun hk => ?_)
  refine WP.seq ?_
  refine WP.seq ?_
  refine WP.region ?_
  refine WPL.val (v_move (v := .int .i64 _) rfl) ?_
  refine WPL.val (v_move (v := .slice _ _ _) rfl) ?_
  refine WPL.val (v_len Try.underlying24 rfl) ?_
  refine WPL.val (v_lss rfl rfl) ?_
  refine WPL.nil (onto_of ?_)
  refine WP.condP rfl (fun h35 => ?_) (fun h35 => ?_)
  ·
    have hk' : k < l.length := by omega
    obtain ⟨x, hx⟩ : ∃ x, l[k]? = some x := ⟨_, List.getElem?_eq_getElem hk'⟩
    obtain ⟨b, o, rfl, hc⟩ := hz k x hx
    have hb1 := tot_bd l k
    have hb2 := basic_bd x
    have htl : (l.take k).length = k := by simp; omega
    refine WP.skip (onto_of ?_)
    refine WP.seq ?_
    refine WP.block ?_
    refine WP.seq ?_
    refine WP.region ?_
    refine WPL.val (v_move (v := .slice _ _ _) rfl) ?_
    refine WPL.val (v_move (v := .slice _ _ _) rfl) ?_
    refine WPL.val (v_move (v := .int .i64 _) rfl) ?_
    refine WPL.val (v_index Try.underlying24 Try.sizeOf30 rfl rfl rfl (by omega)) ?_
    refine WPL.val (v_loadA (cs := [.int .i64 _, .int .i64 _, .int .i64 _, .int .i64 _, .int .i64 _]) Try.isAgg30 Try.sizeOf30 rfl (fun w hw => hw.old_at hc (not_foots_nil _))) ?_
    refine WPL.ef (x_call Try.call32 (rsound_ct x) [] [0, 1] rfl (fun w hw => trivial) (τ := fun _ => [_, _]) (fun _ => rfl)) (fun _ => ?_)
    refine WPL.fact (fun _ => ?_)
    refine WPL.ef (x_buildSlice (us := [.int .i64 _, .int .i64 _, .int .i64 _, .int .i64 _, .int .i64 _]) (σ' := fun _ => [_, _, _]) Try.underlying24 Try.sizeOf30 Try.zeroValue30 rfl rfl rfl (by decide) (by decide) (fun _ => rfl)) (fun g44 => ?_)
    refine WPL.ef (x_append (sz := 5) (σ' := fun _ => [_, _, _]) Try.underlying24 info30 rfl (by decide) rfl rfl (i := 0) rfl (fun w hw => hw.src_row (i := 2) rfl) rfl (by simp [Value.oneCell']) (by omega) (by omega) (fun _ => rfl)) (fun ⟨A45, c45⟩ => ?_)
    refine WPL.val (v_assign (v := .slice _ _ _) rfl) ?_
    refine WPL.pre ?_ (fun w hw => (hw.sel [0, 1] (by decide)))
    have hxs : ((l.take (k + 1)).map FItem.sound)[k]? = some x.sound := by rw [take_snoc hx, List.map_append, List.getElem?_append_right (by simp; omega), List.length_map, htl, Nat.sub_self]; rfl
    refine WPL.pre (S' := St w0 (foots []) [ritI A45 (k + 1) c45 ((l.take (k + 1)).map FItem.sound), outI g31 l.length (fillD 0 (l.map basic) k)]) ?_ (fun w hw => by rw [take_snoc hx, List.map_append, show [x].map FItem.sound = [x.sound] from rfl, ritI_snoc]; exact hw)
    refine WPL.holds (fun w hw => hw.row_pos (i := 0) rfl (by omega)) (fun ⟨xb, hA⟩ => ?_)
    subst hA
    refine WPL.nil (onto_of ?_)
    refine WP.seq ?_
    refine WP.drawSel (some 13) [0, 1] [(0, true), (1, true), (2, true), (3, true), (4, true), (5, true), (6, true), (7, true), (8, true), (9, true), (10, true), (11, false), (12, true), (13, false)] mixed (by kernel_rfl) (by decide) ?_
    refine WPD.take rfl (v_move (v := .slice _ _ _) rfl) ?_ (fun _ h => h.sel [0, 1] (by decide))
    refine WPD.take rfl (v_move (v := .int .i64 _) rfl) ?_ (fun _ h => h.sel [0, 1] (by decide))
    refine WPD.take rfl (v_move (v := .slice _ _ _) rfl) ?_ (fun _ h => h.sel [0, 1] (by decide))
    refine WPD.take rfl (v_move (v := .int .i64 _) rfl) ?_ (fun _ h => h.sel [0, 1] (by decide))
    refine WPD.take rfl (v_index Try.underlying24 Try.sizeOf30 rfl rfl rfl (by omega)) ?_ (fun _ h => h.sel [0, 1] (by decide))
    refine WPD.take rfl (v_loadA (cs := [.int .i64 _, .int .i64 _, .int .i64 _, .int .i64 _, .int .i64 _]) Try.isAgg30 Try.sizeOf30 rfl (fun w hw => hw.row_at (i := 0) rfl _ (fun jj u hu => by rw [Nat.zero_add]; exact flat_at FItem.enc 5 (fun _ => rfl) _ k jj x.sound u hxs hu))) ?_ (fun _ h => h.sel [0, 1] (by decide))
    refine WPD.take rfl (v_move (v := .slice _ _ _) rfl) ?_ (fun _ h => h.sel [0, 1] (by decide))
    refine WPD.take rfl (v_move (v := .int .i64 _) rfl) ?_ (fun _ h => h.sel [0, 1] (by decide))
    refine WPD.take rfl (v_index Try.underlying24 Try.sizeOf30 rfl rfl rfl (by omega)) ?_ (fun _ h => h.sel [0, 1] (by decide))
    refine WPD.take rfl (v_field (off := 0) Try.underlying30 rfl Try.sizeOf3 rfl) ?_ (fun _ h => h.sel [0, 1] (by decide))
    refine WPD.take rfl (v_load1 (u := .int .i64 _) Try.isAgg3 rfl (fun w hw => hw.row_at1 (i := 0) rfl (flat_at FItem.enc 5 (fun _ => rfl) _ k 0 x.sound _ hxs rfl) (by omega))) ?_ (fun _ h => h.sel [0, 1] (by decide))
    refine WPD.ef rfl (x_call Try.call18 (rfit_ct x.sound x.sound.base) [] [0, 1] rfl (fun w hw => trivial) (τ := fun _ => [_, _]) (fun _ => rfl)) (fun _ _ _ h => h.2.sel [0, 1] (by decide)) (fun _ => ?_)
    refine WPD.fact (fun _ => ?_)
    rw [fit_sound x]
    refine WPD.take rfl (v_index Try.underlying32 Try.sizeOf3 rfl rfl rfl (by omega)) ?_ (fun _ h => h.sel [0, 1] (by decide))
    refine WPD.ef0 rfl (x_storeRow' (u := .int .i64 _) (xs' := (fillD 0 (l.map basic) (k + 1)).map (Value.int .i64)) (σ' := [_, _]) Try.sizeOf3 rfl rfl (i := 1) rfl (by simp [fillD_length]; omega) (by rw [Nat.zero_add, Nat.mul_one]; exact set_map _ (fillD_succ 0 _ k (map_at basic hx rfl)) rfl) rfl) (fun h => absurd rfl h) (fun _ => ?_)
    refine WPD.nil (onto_of ?_)
    refine WP.region ?_
    refine WPL.val (v_move (v := .int .i64 _) rfl) ?_
    refine WPL.val (v_move (v := .slice _ _ _) rfl) ?_
    refine WPL.val (v_move (v := .int .i64 _) rfl) ?_
    refine WPL.val (v_index Try.underlying32 Try.sizeOf3 rfl rfl rfl (by omega)) ?_
    refine WPL.val (v_load1 (u := .int .i64 _) Try.isAgg3 rfl (fun w hw => hw.row_at1 (i := 1) rfl (map_at _ (fillD_at 0 (l.map basic) (k + 1) k (map_at basic hx rfl) (by omega)) rfl) (by omega))) ?_
    refine WPL.val (v_add rfl rfl (by omega)) ?_
    rw [← tot_succ l k x hx]
    refine WPL.val (v_assign (v := .int .i64 _) rfl) ?_
    refine WPL.nil (onto_of ?_)
    refine WP.region ?_
    refine WPL.val (v_move (v := .int .i64 _) rfl) ?_
    refine WPL.val (v_add rfl rfl (by omega)) ?_
    refine WPL.val (v_assign (v := .int .i64 _) rfl) ?_
    exact WPL.nil fun w hw => ⟨rfl, (k + 1, _, c45), (by simp only; omega), ⟨rfl, rfl, rfl, (via (.slice _ _ _) rfl rfl), (via (.int .i64 _) rfl rfl), (via (.slice _ _ _) rfl rfl), trivial⟩, by simp only; omega, (hw.sel [0, 1] (by decide))⟩
  ·
    obtain rfl : k = l.length := by omega
    rw [fillD_all 0 (l.map basic) l.length (by simp), List.take_length]
    refine WP.exit (onto_of ?_)
    refine WP.seq ?_
    refine WP.region ?_
    refine WPL.val (v_move (v := .int .i64 _) rfl) ?_
    refine WPL.val (v_move (v := .int .i64 _) rfl) ?_
    refine WPL.val (v_lss rfl rfl) ?_
    rw [show decide (tot l l.length < lot room) = grows l room from rfl]
    refine WPL.val (v_assign (v := .bool _) rfl) ?_
    refine WPL.nil (onto_of ?_)
    refine WP.seq ?_
    refine WP.region ?_
    refine WPL.val (v_move (v := .slice _ _ _) rfl) ?_
    refine WPL.val (v_len Try.underlying24 rfl) ?_
    refine WPL.ef (x_make1 (n := l.length) (σ' := fun _ => [_, _, _]) Try.underlying76 info4 rfl rfl rfl rfl rfl (by omega) (by omega) (fun _ => rfl)) (fun g70 => ?_)
    refine WPL.val (v_assign (v := .slice _ _ _) rfl) ?_
    refine WPL.nil (onto_of ?_)
    refine WP.seq ?_
    refine WP.seq ?_
    refine WP.region ?_
    refine WPL.val (v_assign (v := .int .i64 (0)) rfl) ?_
    refine WPL.nil (onto_of ?_)
    refine WP.block ?_
    refine WP.loopK (X := Nat) [0, 1, 5, 6, 9, 10] (fun k => [(11, .int .i64 (k : Int))]) (fun k w => k ≤ l.length ∧ St w0 (foots []) [ritI A1 l.length c1 (l.map FItem.sound), outI g31 l.length (l.map basic), frI g70 l.length (fillD false ((l.map (start (grows l room))).map FE.fr) k)] w) (fun k => l.length - k) 0 ⟨rfl, trivial⟩ (fun w hw => ⟨by omega, by rw [fillD_zero, List.length_map, List.length_map, frI_zero]; exact hw⟩) (fun k ρ0 => ?_)
    refine WP.fact (fun hk => ?_)
    refine WP.seq ?_
    refine WP.seq ?_
    refine WP.region ?_
    refine WPL.val (v_move (v := .int .i64 _) rfl) ?_
    refine WPL.val (v_move (v := .slice _ _ _) rfl) ?_
    refine WPL.val (v_len Try.underlying24 rfl) ?_
    refine WPL.val (v_lss rfl rfl) ?_
    refine WPL.nil (onto_of ?_)
    refine WP.condP rfl (fun h74 => ?_) (fun h74 => ?_)
    ·
      have hk' : k < l.length := by omega
      obtain ⟨x, hx⟩ : ∃ x, l[k]? = some x := ⟨_, List.getElem?_eq_getElem hk'⟩
      have hxs : (l.map FItem.sound)[k]? = some x.sound := map_at _ hx rfl
      refine WP.holds (fun w hw => hw.row_pos (i := 0) rfl (by omega)) (fun ⟨xb, hA⟩ => ?_)
      subst hA
      refine WP.skip (onto_of ?_)
      refine WP.seq ?_
      refine WP.block ?_
      refine WP.drawS (some 48) [(0, true), (1, true), (2, true), (3, true), (4, true), (5, true), (6, true), (7, true), (8, true), (9, true), (10, true), (11, true), (12, true), (13, true), (14, true), (15, true), (16, true), (17, true), (18, true), (19, true), (20, true), (21, true), (22, true), (23, true), (24, true), (25, true), (26, true), (27, true), (28, true), (29, true), (30, true), (31, true), (32, true), (33, true), (34, true), (35, true), (36, true), (37, true), (38, true), (39, true), (40, true), (41, true), (42, true), (43, true), (44, true), (45, true), (46, true), (47, true), (48, false)] mixed (by kernel_rfl) (by decide) (fun _ h => h.drawn) ?_
      refine WPD.take rfl (v_move (v := .slice _ _ _) rfl) ?_ (fun _ h => h)
      refine WPD.take rfl (v_move (v := .int .i64 _) rfl) ?_ (fun _ h => h)
      refine WPD.take rfl (v_move (v := .bool _) rfl) ?_ (fun _ h => h)
      refine WPD.take rfl (v_move (v := .bool _) rfl) ?_ (fun _ h => h)
      refine WPD.splitB 80 rfl (fun h80 => ?_) (fun h80 => ?_)
      ·
        refine WPD.take rfl (v_move (v := .slice _ _ _) rfl) ?_ (fun _ h => h)
        refine WPD.take rfl (v_move (v := .int .i64 _) rfl) ?_ (fun _ h => h)
        refine WPD.take rfl (v_index Try.underlying24 Try.sizeOf30 rfl rfl rfl (by omega)) ?_ (fun _ h => h)
        refine WPD.take rfl (v_field (off := 3) Try.underlying30 rfl Try.sizeOf3 rfl) ?_ (fun _ h => h)
        refine WPD.take rfl (v_load1 (u := .int .i64 _) Try.isAgg3 rfl (fun w hw => hw.row_at1 (i := 0) rfl (flat_at FItem.enc 5 (fun _ => rfl) _ k 3 x.sound _ hxs rfl) (by omega))) ?_ (fun _ h => h)
        refine WPD.take rfl (v_eql rfl rfl) ?_ (fun _ h => h)
        refine WPD.take rfl (v_move (v := .bool _) rfl) ?_ (fun _ h => h)
        refine WPD.split 87 rfl (fun h87 => ?_) (fun h87 => ?_)
        ·
          refine WPD.skip rfl ?_ (fun _ h => h)
          refine WPD.skip rfl ?_ (fun _ h => h)
          refine WPD.skip rfl ?_ (fun _ h => h)
          refine WPD.skip rfl ?_ (fun _ h => h)
          refine WPD.skip rfl ?_ (fun _ h => h)
          refine WPD.skip rfl ?_ (fun _ h => h)
          refine WPD.skip rfl ?_ (fun _ h => h)
          refine WPD.skip rfl ?_ (fun _ h => h)
          refine WPD.skip rfl ?_ (fun _ h => h)
          refine WPD.skip rfl ?_ (fun _ h => h)
          refine WPD.take rfl (v_pickT (u := .bool _) rfl rfl) ?_ (fun _ h => h)
          refine WPD.take rfl (v_pickT (u := .bool _) rfl rfl) ?_ (fun _ h => h)
          refine WPD.take rfl (v_move (v := .bool _) rfl) ?_ (fun _ h => h)
          refine WPD.skip rfl ?_ (fun _ h => h)
          refine WPD.skip rfl ?_ (fun _ h => h)
          refine WPD.skip rfl ?_ (fun _ h => h)
          refine WPD.skip rfl ?_ (fun _ h => h)
          refine WPD.skip rfl ?_ (fun _ h => h)
          refine WPD.skip rfl ?_ (fun _ h => h)
          refine WPD.skip rfl ?_ (fun _ h => h)
          refine WPD.skip rfl ?_ (fun _ h => h)
          refine WPD.skip rfl ?_ (fun _ h => h)
          refine WPD.skip rfl ?_ (fun _ h => h)
          refine WPD.skip rfl ?_ (fun _ h => h)
          refine WPD.skip rfl ?_ (fun _ h => h)
          refine WPD.skip rfl ?_ (fun _ h => h)
          refine WPD.skip rfl ?_ (fun _ h => h)
          refine WPD.skip rfl ?_ (fun _ h => h)
          refine WPD.skip rfl ?_ (fun _ h => h)
          refine WPD.skip rfl ?_ (fun _ h => h)
          refine WPD.skip rfl ?_ (fun _ h => h)
          refine WPD.skip rfl ?_ (fun _ h => h)
          refine WPD.skip rfl ?_ (fun _ h => h)
          refine WPD.skip rfl ?_ (fun _ h => h)
          refine WPD.skip rfl ?_ (fun _ h => h)
          refine WPD.take rfl (v_pickT (u := .bool _) rfl rfl) ?_ (fun _ h => h)
          refine WPD.take rfl (v_index Try.underlying76 Try.sizeOf4 rfl rfl rfl (by omega)) ?_ (fun _ h => h)
          refine WPD.ef0 rfl (x_storeRow' (u := .bool _) (xs' := (fillD false ((l.map (start (grows l room))).map FE.fr) (k + 1)).map Value.bool) (σ' := [_, _, _]) Try.sizeOf4 rfl rfl (i := 2) rfl (by simp [fillD_length]; omega) (by rw [Nat.zero_add, Nat.mul_one]; exact set_map _ (fillD_succ false _ k (map_at FE.fr (map_at (start (grows l room)) hx rfl) (start_fr (by rw [h80]; simp; omega)))) rfl) rfl) (fun h => absurd rfl h) (fun _ => ?_)
          refine WPD.nil (onto_of ?_)
          refine WP.region ?_
          refine WPL.val (v_move (v := .int .i64 _) rfl) ?_
          refine WPL.val (v_add rfl rfl (by omega)) ?_
          refine WPL.val (v_assign (v := .int .i64 _) rfl) ?_
          exact WPL.nil fun w hw => ⟨rfl, k + 1, (by omega), ⟨rfl, (via (.slice _ _ _) rfl rfl), (via (.int .i64 _) rfl rfl), (via (.slice _ _ _) rfl rfl), (via (.slice _ _ _) rfl rfl), (via (.bool _) rfl rfl), (via (.slice _ _ _) rfl rfl), trivial⟩, by omega, hw⟩
        ·
          refine WPD.take rfl (v_move (v := .slice _ _ _) rfl) ?_ (fun _ h => h)
          refine WPD.take rfl (v_move (v := .int .i64 _) rfl) ?_ (fun _ h => h)
          refine WPD.take rfl (v_index Try.underlying24 Try.sizeOf30 rfl rfl rfl (by omega)) ?_ (fun _ h => h)
          refine WPD.take rfl (v_field (off := 0) Try.underlying30 rfl Try.sizeOf3 rfl) ?_ (fun _ h => h)
          refine WPD.take rfl (v_load1 (u := .int .i64 _) Try.isAgg3 rfl (fun w hw => hw.row_at1 (i := 0) rfl (flat_at FItem.enc 5 (fun _ => rfl) _ k 0 x.sound _ hxs rfl) (by omega))) ?_ (fun _ h => h)
          refine WPD.take rfl (v_move (v := .slice _ _ _) rfl) ?_ (fun _ h => h)
          refine WPD.take rfl (v_move (v := .int .i64 _) rfl) ?_ (fun _ h => h)
          refine WPD.take rfl (v_index Try.underlying32 Try.sizeOf3 rfl rfl rfl (by omega)) ?_ (fun _ h => h)
          refine WPD.take rfl (v_load1 (u := .int .i64 _) Try.isAgg3 rfl (fun w hw => hw.row_at1 (i := 1) rfl (map_at _ (map_at basic hx rfl) rfl) (by omega))) ?_ (fun _ h => h)
          refine WPD.take rfl (v_gtr rfl rfl) ?_ (fun _ h => h)
          refine WPD.take rfl (v_pickF (v := .bool _) rfl rfl) ?_ (fun _ h => h)
          refine WPD.take rfl (v_pickT (u := .bool _) rfl rfl) ?_ (fun _ h => h)
          refine WPD.take rfl (v_move (v := .bool _) rfl) ?_ (fun _ h => h)
          refine WPD.split 100 rfl (fun h100 => ?_) (fun h100 => ?_)
          ·
            refine WPD.skip rfl ?_ (fun _ h => h)
            refine WPD.skip rfl ?_ (fun _ h => h)
            refine WPD.skip rfl ?_ (fun _ h => h)
            refine WPD.skip rfl ?_ (fun _ h => h)
            refine WPD.skip rfl ?_ (fun _ h => h)
            refine WPD.skip rfl ?_ (fun _ h => h)
            refine WPD.skip rfl ?_ (fun _ h => h)
            refine WPD.skip rfl ?_ (fun _ h => h)
            refine WPD.skip rfl ?_ (fun _ h => h)
            refine WPD.skip rfl ?_ (fun _ h => h)
            refine WPD.skip rfl ?_ (fun _ h => h)
            refine WPD.skip rfl ?_ (fun _ h => h)
            refine WPD.skip rfl ?_ (fun _ h => h)
            refine WPD.skip rfl ?_ (fun _ h => h)
            refine WPD.skip rfl ?_ (fun _ h => h)
            refine WPD.skip rfl ?_ (fun _ h => h)
            refine WPD.skip rfl ?_ (fun _ h => h)
            refine WPD.skip rfl ?_ (fun _ h => h)
            refine WPD.skip rfl ?_ (fun _ h => h)
            refine WPD.skip rfl ?_ (fun _ h => h)
            refine WPD.skip rfl ?_ (fun _ h => h)
            refine WPD.skip rfl ?_ (fun _ h => h)
            refine WPD.take rfl (v_pickT (u := .bool _) rfl rfl) ?_ (fun _ h => h)
            refine WPD.take rfl (v_index Try.underlying76 Try.sizeOf4 rfl rfl rfl (by omega)) ?_ (fun _ h => h)
            refine WPD.ef0 rfl (x_storeRow' (u := .bool _) (xs' := (fillD false ((l.map (start (grows l room))).map FE.fr) (k + 1)).map Value.bool) (σ' := [_, _, _]) Try.sizeOf4 rfl rfl (i := 2) rfl (by simp [fillD_length]; omega) (by rw [Nat.zero_add, Nat.mul_one]; exact set_map _ (fillD_succ false _ k (map_at FE.fr (map_at (start (grows l room)) hx rfl) (start_fr (by rw [h80]; simp; omega)))) rfl) rfl) (fun h => absurd rfl h) (fun _ => ?_)
            refine WPD.nil (onto_of ?_)
            refine WP.region ?_
            refine WPL.val (v_move (v := .int .i64 _) rfl) ?_
            refine WPL.val (v_add rfl rfl (by omega)) ?_
            refine WPL.val (v_assign (v := .int .i64 _) rfl) ?_
            exact WPL.nil fun w hw => ⟨rfl, k + 1, (by omega), ⟨rfl, (via (.slice _ _ _) rfl rfl), (via (.int .i64 _) rfl rfl), (via (.slice _ _ _) rfl rfl), (via (.slice _ _ _) rfl rfl), (via (.bool _) rfl rfl), (via (.slice _ _ _) rfl rfl), trivial⟩, by omega, hw⟩
          ·
            refine WPD.take rfl (v_move (v := .bool true) (congrArg Value.bool h80)) ?_ (fun _ h => h)
            refine WPD.take rfl (v_not rfl) ?_ (fun _ h => h)
            refine WPD.take rfl (v_move (v := .bool _) rfl) ?_ (fun _ h => h)
            refine WPD.skip rfl ?_ (fun _ h => h)
            refine WPD.skip rfl ?_ (fun _ h => h)
            refine WPD.skip rfl ?_ (fun _ h => h)
            refine WPD.skip rfl ?_ (fun _ h => h)
            refine WPD.skip rfl ?_ (fun _ h => h)
            refine WPD.skip rfl ?_ (fun _ h => h)
            refine WPD.skip rfl ?_ (fun _ h => h)
            refine WPD.skip rfl ?_ (fun _ h => h)
            refine WPD.skip rfl ?_ (fun _ h => h)
            refine WPD.skip rfl ?_ (fun _ h => h)
            refine WPD.skip rfl ?_ (fun _ h => h)
            refine WPD.skip rfl ?_ (fun _ h => h)
            refine WPD.skip rfl ?_ (fun _ h => h)
            refine WPD.skip rfl ?_ (fun _ h => h)
            refine WPD.skip rfl ?_ (fun _ h => h)
            refine WPD.skip rfl ?_ (fun _ h => h)
            refine WPD.skip rfl ?_ (fun _ h => h)
            refine WPD.skip rfl ?_ (fun _ h => h)
            refine WPD.take rfl (v_pickF (v := .bool _) rfl rfl) ?_ (fun _ h => h)
            refine WPD.take rfl (v_pickF (v := .bool _) rfl rfl) ?_ (fun _ h => h)
            refine WPD.take rfl (v_index Try.underlying76 Try.sizeOf4 rfl rfl rfl (by omega)) ?_ (fun _ h => h)
            refine WPD.ef0 rfl (x_storeRow' (u := .bool _) (xs' := (fillD false ((l.map (start (grows l room))).map FE.fr) (k + 1)).map Value.bool) (σ' := [_, _, _]) Try.sizeOf4 rfl rfl (i := 2) rfl (by simp [fillD_length]; omega) (by rw [Nat.zero_add, Nat.mul_one]; exact set_map _ (fillD_succ false _ k (map_at FE.fr (map_at (start (grows l room)) hx rfl) (start_fr (by rw [h80]; simp; omega)))) rfl) rfl) (fun h => absurd rfl h) (fun _ => ?_)
            refine WPD.nil (onto_of ?_)
            refine WP.region ?_
            refine WPL.val (v_move (v := .int .i64 _) rfl) ?_
            refine WPL.val (v_add rfl rfl (by omega)) ?_
            refine WPL.val (v_assign (v := .int .i64 _) rfl) ?_
            exact WPL.nil fun w hw => ⟨rfl, k + 1, (by omega), ⟨rfl, (via (.slice _ _ _) rfl rfl), (via (.int .i64 _) rfl rfl), (via (.slice _ _ _) rfl rfl), (via (.slice _ _ _) rfl rfl), (via (.bool _) rfl rfl), (via (.slice _ _ _) rfl rfl), trivial⟩, by omega, hw⟩
      ·
        refine WPD.skip rfl ?_ (fun _ h => h)
        refine WPD.skip rfl ?_ (fun _ h => h)
        refine WPD.skip rfl ?_ (fun _ h => h)
        refine WPD.skip rfl ?_ (fun _ h => h)
        refine WPD.skip rfl ?_ (fun _ h => h)
        refine WPD.skip rfl ?_ (fun _ h => h)
        refine WPD.skip rfl ?_ (fun _ h => h)
        refine WPD.skip rfl ?_ (fun _ h => h)
        refine WPD.skip rfl ?_ (fun _ h => h)
        refine WPD.skip rfl ?_ (fun _ h => h)
        refine WPD.skip rfl ?_ (fun _ h => h)
        refine WPD.skip rfl ?_ (fun _ h => h)
        refine WPD.skip rfl ?_ (fun _ h => h)
        refine WPD.skip rfl ?_ (fun _ h => h)
        refine WPD.skip rfl ?_ (fun _ h => h)
        refine WPD.skip rfl ?_ (fun _ h => h)
        refine WPD.skip rfl ?_ (fun _ h => h)
        refine WPD.skip rfl ?_ (fun _ h => h)
        refine WPD.take rfl (v_pickF (v := .bool _) rfl rfl) ?_ (fun _ h => h)
        refine WPD.take rfl (v_move (v := .bool _) rfl) ?_ (fun _ h => h)
        refine WPD.take rfl (v_move (v := .bool false) (congrArg Value.bool h80)) ?_ (fun _ h => h)
        refine WPD.take rfl (v_not rfl) ?_ (fun _ h => h)
        refine WPD.take rfl (v_move (v := .bool _) rfl) ?_ (fun _ h => h)
        refine WPD.take rfl (v_move (v := .slice _ _ _) rfl) ?_ (fun _ h => h)
        refine WPD.take rfl (v_move (v := .int .i64 _) rfl) ?_ (fun _ h => h)
        refine WPD.take rfl (v_index Try.underlying24 Try.sizeOf30 rfl rfl rfl (by omega)) ?_ (fun _ h => h)
        refine WPD.take rfl (v_field (off := 4) Try.underlying30 rfl Try.sizeOf3 rfl) ?_ (fun _ h => h)
        refine WPD.take rfl (v_load1 (u := .int .i64 _) Try.isAgg3 rfl (fun w hw => hw.row_at1 (i := 0) rfl (flat_at FItem.enc 5 (fun _ => rfl) _ k 4 x.sound _ hxs rfl) (by omega))) ?_ (fun _ h => h)
        refine WPD.take rfl (v_eql rfl rfl) ?_ (fun _ h => h)
        refine WPD.take rfl (v_move (v := .bool _) rfl) ?_ (fun _ h => h)
        refine WPD.split 110 rfl (fun h110 => ?_) (fun h110 => ?_)
        ·
          refine WPD.skip rfl ?_ (fun _ h => h)
          refine WPD.skip rfl ?_ (fun _ h => h)
          refine WPD.skip rfl ?_ (fun _ h => h)
          refine WPD.skip rfl ?_ (fun _ h => h)
          refine WPD.skip rfl ?_ (fun _ h => h)
          refine WPD.skip rfl ?_ (fun _ h => h)
          refine WPD.skip rfl ?_ (fun _ h => h)
          refine WPD.skip rfl ?_ (fun _ h => h)
          refine WPD.skip rfl ?_ (fun _ h => h)
          refine WPD.skip rfl ?_ (fun _ h => h)
          refine WPD.take rfl (v_pickT (u := .bool _) rfl rfl) ?_ (fun _ h => h)
          refine WPD.take rfl (v_pickT (u := .bool _) rfl rfl) ?_ (fun _ h => h)
          refine WPD.take rfl (v_pickF (v := .bool _) rfl rfl) ?_ (fun _ h => h)
          refine WPD.take rfl (v_index Try.underlying76 Try.sizeOf4 rfl rfl rfl (by omega)) ?_ (fun _ h => h)
          refine WPD.ef0 rfl (x_storeRow' (u := .bool _) (xs' := (fillD false ((l.map (start (grows l room))).map FE.fr) (k + 1)).map Value.bool) (σ' := [_, _, _]) Try.sizeOf4 rfl rfl (i := 2) rfl (by simp [fillD_length]; omega) (by rw [Nat.zero_add, Nat.mul_one]; exact set_map _ (fillD_succ false _ k (map_at FE.fr (map_at (start (grows l room)) hx rfl) (start_fr (by rw [h80]; simp; omega)))) rfl) rfl) (fun h => absurd rfl h) (fun _ => ?_)
          refine WPD.nil (onto_of ?_)
          refine WP.region ?_
          refine WPL.val (v_move (v := .int .i64 _) rfl) ?_
          refine WPL.val (v_add rfl rfl (by omega)) ?_
          refine WPL.val (v_assign (v := .int .i64 _) rfl) ?_
          exact WPL.nil fun w hw => ⟨rfl, k + 1, (by omega), ⟨rfl, (via (.slice _ _ _) rfl rfl), (via (.int .i64 _) rfl rfl), (via (.slice _ _ _) rfl rfl), (via (.slice _ _ _) rfl rfl), (via (.bool _) rfl rfl), (via (.slice _ _ _) rfl rfl), trivial⟩, by omega, hw⟩
        ·
          refine WPD.take rfl (v_move (v := .slice _ _ _) rfl) ?_ (fun _ h => h)
          refine WPD.take rfl (v_move (v := .int .i64 _) rfl) ?_ (fun _ h => h)
          refine WPD.take rfl (v_index Try.underlying24 Try.sizeOf30 rfl rfl rfl (by omega)) ?_ (fun _ h => h)
          refine WPD.take rfl (v_field (off := 0) Try.underlying30 rfl Try.sizeOf3 rfl) ?_ (fun _ h => h)
          refine WPD.take rfl (v_load1 (u := .int .i64 _) Try.isAgg3 rfl (fun w hw => hw.row_at1 (i := 0) rfl (flat_at FItem.enc 5 (fun _ => rfl) _ k 0 x.sound _ hxs rfl) (by omega))) ?_ (fun _ h => h)
          refine WPD.take rfl (v_move (v := .slice _ _ _) rfl) ?_ (fun _ h => h)
          refine WPD.take rfl (v_move (v := .int .i64 _) rfl) ?_ (fun _ h => h)
          refine WPD.take rfl (v_index Try.underlying32 Try.sizeOf3 rfl rfl rfl (by omega)) ?_ (fun _ h => h)
          refine WPD.take rfl (v_load1 (u := .int .i64 _) Try.isAgg3 rfl (fun w hw => hw.row_at1 (i := 1) rfl (map_at _ (map_at basic hx rfl) rfl) (by omega))) ?_ (fun _ h => h)
          refine WPD.take rfl (v_lss rfl rfl) ?_ (fun _ h => h)
          refine WPD.take rfl (v_pickF (v := .bool _) rfl rfl) ?_ (fun _ h => h)
          refine WPD.take rfl (v_pickT (u := .bool _) rfl rfl) ?_ (fun _ h => h)
          refine WPD.take rfl (v_pickF (v := .bool _) rfl rfl) ?_ (fun _ h => h)
          refine WPD.take rfl (v_index Try.underlying76 Try.sizeOf4 rfl rfl rfl (by omega)) ?_ (fun _ h => h)
          refine WPD.ef0 rfl (x_storeRow' (u := .bool _) (xs' := (fillD false ((l.map (start (grows l room))).map FE.fr) (k + 1)).map Value.bool) (σ' := [_, _, _]) Try.sizeOf4 rfl rfl (i := 2) rfl (by simp [fillD_length]; omega) (by rw [Nat.zero_add, Nat.mul_one]; exact set_map _ (fillD_succ false _ k (map_at FE.fr (map_at (start (grows l room)) hx rfl) (start_fr (by rw [h80]; simp; omega)))) rfl) rfl) (fun h => absurd rfl h) (fun _ => ?_)
          refine WPD.nil (onto_of ?_)
          refine WP.region ?_
          refine WPL.val (v_move (v := .int .i64 _) rfl) ?_
          refine WPL.val (v_add rfl rfl (by omega)) ?_
          refine WPL.val (v_assign (v := .int .i64 _) rfl) ?_
          exact WPL.nil fun w hw => ⟨rfl, k + 1, (by omega), ⟨rfl, (via (.slice _ _ _) rfl rfl), (via (.int .i64 _) rfl rfl), (via (.slice _ _ _) rfl rfl), (via (.slice _ _ _) rfl rfl), (via (.bool _) rfl rfl), (via (.slice _ _ _) rfl rfl), trivial⟩, by omega, hw⟩
    ·
      obtain rfl : k = l.length := by omega
      rw [fillD_all false ((l.map (start (grows l room))).map FE.fr) l.length (by simp)]
      refine WP.exit (onto_of ?_)
      refine WP.block ?_
      refine WP.loopK (X := List FE) [0, 1, 5, 6, 9, 10] (fun es => []) (fun es w => (es.length = l.length ∧ oks es ∧ es.map FE.it = l.map FItem.sound ∧ (final (grows l room) (lot room) es).map FE.size = sizes l room) ∧ St w0 (foots []) [ritI A1 l.length c1 (l.map FItem.sound), outI g31 l.length (es.map FE.size), frI g70 l.length (es.map FE.fr)] w) (fun es => kth es es.length) (l.map (start (grows l room))) trivial (fun w hw => ⟨⟨by simp, start_oks _ _, start_it _ _, rfl⟩, by rw [start_size]; exact hw⟩) (fun es ρ0 => ?_)
      refine WP.fact (fun ⟨hlen, hok, hit, hfin⟩ => ?_)
      refine WP.block ?_
      refine WP.seq ?_
      refine WP.region ?_
      refine WPL.val (v_move (v := .int .i64 _) rfl) ?_
      refine WPL.val (v_assign (v := .int .i64 _) rfl) ?_
      refine WPL.nil (onto_of ?_)
      refine WP.seq ?_
      refine WP.region ?_
      refine WPL.val (v_assign (v := .slice none 0 0) rfl) ?_
      refine WPL.nil (onto_of ?_)
      refine WP.seq ?_
      refine WP.region ?_
      refine WPL.val (v_assign (v := .slice none 0 0) rfl) ?_
      refine WPL.nil (onto_of ?_)
      refine WP.seq ?_
      refine WP.seq ?_
      refine WP.pre ?_ (fun w hw => (hw.nilRow 3 1).nilRow 3 1)
      refine WP.region ?_
      refine WPL.val (v_assign (v := .int .i64 (0)) rfl) ?_
      refine WPL.nil (onto_of ?_)
      refine WP.block ?_
      refine WP.loopK (X := Nat × (Option Addr × Nat) × (Option Addr × Nat)) [0, 1, 5, 6, 9, 10] (fun p => [(12, .int .i64 ((lot room) - took es p.1)), (13, intsV p.2.1.1 p.2.1.2 (wts (grows l room) es p.1)), (14, .slice p.2.2.1 (ats es p.1).length p.2.2.2), (15, .int .i64 (p.1 : Int))]) (fun p w => p.1 ≤ l.length ∧ St w0 (foots []) [ritI A1 l.length c1 (l.map FItem.sound), outI g31 l.length (es.map FE.size), frI g70 l.length (es.map FE.fr), intsI p.2.1.1 p.2.1.2 (wts (grows l room) es p.1), natsI p.2.2.1 p.2.2.2 (ats es p.1)] w) (fun p => l.length - p.1) (0, (none, 0), (none, 0)) ⟨by rw [show (lot room) - took es (0, ((none : Option Addr), 0), ((none : Option Addr), 0)).1 = (lot room) by simp [took]]; rfl, rfl, rfl, rfl, trivial⟩ (fun w hw => ⟨by omega, hw⟩) (fun p ρ0 => ?_)
      obtain ⟨k, ⟨wA, wc⟩, ⟨aA, ac⟩⟩ := p
      dsimp only
      refine WP.fact (fun hk => ?_)
      refine WP.seq ?_
      refine WP.seq ?_
      refine WP.region ?_
      refine WPL.val (v_move (v := .int .i64 _) rfl) ?_
      refine WPL.val (v_move (v := .slice _ _ _) rfl) ?_
      refine WPL.val (v_len Try.underlying24 rfl) ?_
      refine WPL.val (v_lss rfl rfl) ?_
      refine WPL.nil (onto_of ?_)
      refine WP.condP rfl (fun h129 => ?_) (fun h129 => ?_)
      ·
        have hk' : k < es.length := by omega
        obtain ⟨e, he⟩ : ∃ e, es[k]? = some e := ⟨_, List.getElem?_eq_getElem hk'⟩
        have hxe : (l.map FItem.sound)[k]? = some e.it := by rw [← hit, List.getElem?_map, he]; rfl
        have hok1 := hok k e he
        have hmb := mul_bd hok1
        have hob := took_bd hok k
        have hlb := lot_bd room
        have hwl : (wts (grows l room) es k).length ≤ k := by rw [kth_wts]; exact kth_le es _
        have hal : (ats es k).length ≤ k := kth_le es k
        unfold FE.ok at hok1
        refine WP.holds (fun w hw => hw.row_pos (i := 0) rfl (by omega)) (fun ⟨xb, hA⟩ => ?_)
        subst hA
        refine WP.skip (onto_of ?_)
        refine WP.seq ?_
        refine WP.block ?_
        refine WP.seq ?_
        refine WP.seq ?_
        refine WP.region ?_
        refine WPL.val (v_move (v := .slice _ _ _) rfl) ?_
        refine WPL.val (v_move (v := .int .i64 _) rfl) ?_
        refine WPL.val (v_index Try.underlying76 Try.sizeOf4 rfl rfl rfl (by omega)) ?_
        refine WPL.val (v_load1 (u := .bool e.fr) Try.isAgg4 rfl (fun w hw => hw.row_at1 (i := 2) rfl (map_at Value.bool (map_at FE.fr he rfl) rfl) (by omega))) ?_
        refine WPL.nil (onto_of ?_)
        refine WP.cond rfl (fun h135 => ?_) (fun h135 => ?_)
        ·
          have hob := took_bd hok k
          refine WP.seq ?_
          refine WP.region ?_
          refine WPL.val (v_move (v := .int .i64 _) rfl) ?_
          refine WPL.val (v_move (v := .slice _ _ _) rfl) ?_
          refine WPL.val (v_move (v := .int .i64 _) rfl) ?_
          refine WPL.val (v_index Try.underlying32 Try.sizeOf3 rfl rfl rfl (by omega)) ?_
          refine WPL.val (v_load1 (u := .int .i64 _) Try.isAgg3 rfl (fun w hw => hw.row_at1 (i := 1) rfl (map_at _ (map_at FE.size he rfl) rfl) (by omega))) ?_
          refine WPL.val (v_sub rfl rfl (by omega)) ?_
          rw [show lot room - took es k - e.size = lot room - took es (k + 1) by rw [took_shut he h135]; omega]
          refine WPL.val (v_assign (v := .int .i64 _) rfl) ?_
          refine WPL.nil (onto_of ?_)
          refine WP.exit (onto_of ?_)
          refine WP.region ?_
          refine WPL.val (v_move (v := .int .i64 _) rfl) ?_
          refine WPL.val (v_add rfl rfl (by omega)) ?_
          refine WPL.val (v_assign (v := .int .i64 _) rfl) ?_
          exact WPL.nil fun w hw => ⟨rfl, (k + 1, (wA, wc), (aA, ac)), (by simp only; omega), ⟨rfl, (by rw [wts_shut he h135]; rfl), (by rw [ats_shut he h135]; rfl), rfl, rfl, rfl, rfl, rfl, rfl, rfl, trivial⟩, by simp only; omega, by simp only [wts_shut (g := (grows l room)) he h135, ats_shut he h135]; exact (hw.sel [0, 1, 2, 3, 4] (by decide))⟩
        ·
          refine WP.skip (onto_of ?_)
          refine WP.seq ?_
          refine WP.region ?_
          refine WPL.val (v_move (v := .int .i64 _) rfl) ?_
          refine WPL.val (v_move (v := .slice _ _ _) rfl) ?_
          refine WPL.val (v_move (v := .int .i64 _) rfl) ?_
          refine WPL.val (v_index Try.underlying24 Try.sizeOf30 rfl rfl rfl (by omega)) ?_
          refine WPL.val (v_field (off := 0) Try.underlying30 rfl Try.sizeOf3 rfl) ?_
          refine WPL.val (v_load1 (u := .int .i64 _) Try.isAgg3 rfl (fun w hw => hw.row_at1 (i := 0) rfl (flat_at FItem.enc 5 (fun _ => rfl) _ k 0 e.it _ hxe rfl) (by omega))) ?_
          refine WPL.val (v_sub rfl rfl (by omega)) ?_
          rw [show lot room - took es k - e.it.base = lot room - took es (k + 1) by rw [took_open he h135]; omega]
          refine WPL.val (v_assign (v := .int .i64 _) rfl) ?_
          refine WPL.nil (onto_of ?_)
          refine WP.seq ?_
          refine WP.region ?_
          refine WPL.val (v_move (v := .slice _ _ _) rfl) ?_
          refine WPL.val (v_move (v := .int .i64 _) rfl) ?_
          refine WPL.ef (x_buildSlice (us := [.int .i64 _]) (σ' := fun _ => [_, _, _, _, _, _]) Try.underlying32 Try.sizeOf3 Try.zeroValue3 rfl rfl rfl (by decide) (by decide) (fun _ => rfl)) (fun g151 => ?_)
          refine WPL.ef (x_append (sz := 1) (σ' := fun _ => [_, _, _, _, _, _]) Try.underlying32 int_info rfl (by decide) rfl rfl (i := 4) rfl (fun w hw => hw.src_row (i := 5) rfl) rfl (by simp [Value.oneCell']) (by omega) (by omega) (fun _ => rfl)) (fun ⟨A152, c152⟩ => ?_)
          refine WPL.val (v_assign (v := .slice _ _ _) rfl) ?_
          refine WPL.nil (onto_of ?_)
          refine WP.seq ?_
          refine WP.region ?_
          refine WPL.val (v_move (v := .bool _) rfl) ?_
          refine WPL.nil (onto_of ?_)
          refine WP.cond rfl (fun h153 => ?_) (fun h153 => ?_)
          ·
            have hwt : e.it.grow = wt (grows l room) e := by simp [wt, h153]
            refine WP.region ?_
            refine WPL.val (v_move (v := .slice _ _ _) rfl) ?_
            refine WPL.val (v_move (v := .slice _ _ _) rfl) ?_
            refine WPL.val (v_move (v := .int .i64 _) rfl) ?_
            refine WPL.val (v_index Try.underlying24 Try.sizeOf30 rfl rfl rfl (by omega)) ?_
            refine WPL.val (v_field (off := 3) Try.underlying30 rfl Try.sizeOf3 rfl) ?_
            refine WPL.val (v_load1 (u := .int .i64 _) Try.isAgg3 rfl (fun w hw => hw.row_at1 (i := 0) rfl (flat_at FItem.enc 5 (fun _ => rfl) _ k 3 e.it _ hxe rfl) (by omega))) ?_
            rw [hwt]
            refine WPL.ef (x_buildSlice (us := [.int .i64 _]) (σ' := fun _ => [_, _, _, _, _, _, _]) Try.underlying32 Try.sizeOf3 Try.zeroValue3 rfl rfl rfl (by decide) (by decide) (fun _ => rfl)) (fun g160 => ?_)
            refine WPL.ef (x_append (sz := 1) (σ' := fun _ => [_, _, _, _, _, _, _]) Try.underlying32 int_info rfl (by decide) rfl rfl (i := 3) rfl (fun w hw => hw.src_row (i := 6) rfl) rfl (by simp [Value.oneCell']) (by omega) (by omega) (fun _ => rfl)) (fun ⟨A161, c161⟩ => ?_)
            refine WPL.val (v_assign (v := .slice _ _ _) rfl) ?_
            refine WPL.nil (onto_of ?_)
            refine WP.region ?_
            refine WPL.val (v_move (v := .int .i64 _) rfl) ?_
            refine WPL.val (v_add rfl rfl (by omega)) ?_
            refine WPL.val (v_assign (v := .int .i64 _) rfl) ?_
            exact WPL.nil fun w hw => ⟨rfl, (k + 1, (A161, c161), (A152, c152)), (by simp only; omega), ⟨rfl, (by rw [wts_open he h135, intsV_snoc]; rfl), (by rw [ats_open he h135, List.length_append]; rfl), rfl, rfl, rfl, rfl, rfl, rfl, rfl, trivial⟩, by simp only; omega, by simp only [wts_open (g := (grows l room)) he h135, ats_open he h135, intsI_snoc, natsI_snoc]; exact (hw.sel [0, 1, 2, 3, 4] (by decide))⟩
          ·
            have hwt : e.it.shrink * e.it.base = wt (grows l room) e := by simp [wt, h153]
            refine WP.drawSel none [0, 1, 2, 4, 5] [(0, true), (1, true), (2, true), (3, true), (4, true), (5, true), (6, true), (7, true), (8, true), (9, true), (10, true), (11, true), (12, false), (13, false), (14, true)] mixed (by kernel_rfl) (by decide) ?_
            refine WPD.take rfl (v_move (v := .slice _ _ _) rfl) ?_ (fun _ h => h.sel [0, 1, 2, 4, 5] (by decide))
            refine WPD.take rfl (v_move (v := .slice _ _ _) rfl) ?_ (fun _ h => h.sel [0, 1, 2, 4, 5] (by decide))
            refine WPD.take rfl (v_move (v := .int .i64 _) rfl) ?_ (fun _ h => h.sel [0, 1, 2, 4, 5] (by decide))
            refine WPD.take rfl (v_index Try.underlying24 Try.sizeOf30 rfl rfl rfl (by omega)) ?_ (fun _ h => h.sel [0, 1, 2, 4, 5] (by decide))
            refine WPD.take rfl (v_field (off := 4) Try.underlying30 rfl Try.sizeOf3 rfl) ?_ (fun _ h => h.sel [0, 1, 2, 4, 5] (by decide))
            refine WPD.take rfl (v_load1 (u := .int .i64 _) Try.isAgg3 rfl (fun w hw => hw.row_at1 (i := 0) rfl (flat_at FItem.enc 5 (fun _ => rfl) _ k 4 e.it _ hxe rfl) (by omega))) ?_ (fun _ h => h.sel [0, 1, 2, 4, 5] (by decide))
            refine WPD.take rfl (v_move (v := .slice _ _ _) rfl) ?_ (fun _ h => h.sel [0, 1, 2, 4, 5] (by decide))
            refine WPD.take rfl (v_move (v := .int .i64 _) rfl) ?_ (fun _ h => h.sel [0, 1, 2, 4, 5] (by decide))
            refine WPD.take rfl (v_index Try.underlying24 Try.sizeOf30 rfl rfl rfl (by omega)) ?_ (fun _ h => h.sel [0, 1, 2, 4, 5] (by decide))
            refine WPD.take rfl (v_field (off := 0) Try.underlying30 rfl Try.sizeOf3 rfl) ?_ (fun _ h => h.sel [0, 1, 2, 4, 5] (by decide))
            refine WPD.take rfl (v_load1 (u := .int .i64 _) Try.isAgg3 rfl (fun w hw => hw.row_at1 (i := 0) rfl (flat_at FItem.enc 5 (fun _ => rfl) _ k 0 e.it _ hxe rfl) (by omega))) ?_ (fun _ h => h.sel [0, 1, 2, 4, 5] (by decide))
            refine WPD.take rfl (v_mul rfl rfl (by omega)) ?_ (fun _ h => h.sel [0, 1, 2, 4, 5] (by decide))
            rw [hwt]
            refine WPD.ef rfl (x_buildSlice (us := [.int .i64 _]) (σ' := fun _ => [_, _, _, _, _, _, _]) Try.underlying32 Try.sizeOf3 Try.zeroValue3 rfl rfl rfl (by decide) (by decide) (fun _ => rfl)) (fun _ _ _ h => h.sel [0, 1, 2, 4, 5] (by decide)) (fun g174 => ?_)
            refine WPD.ef rfl (x_append (sz := 1) (σ' := fun _ => [_, _, _, _, _, _, _]) Try.underlying32 int_info rfl (by decide) rfl rfl (i := 3) rfl (fun w hw => hw.src_row (i := 6) rfl) rfl (by simp [Value.oneCell']) (by omega) (by omega) (fun _ => rfl)) (fun _ _ _ h => h.sel [0, 1, 2, 4, 5] (by decide)) (fun ⟨A175, c175⟩ => ?_)
            refine WPD.take rfl (v_assign (v := .slice _ _ _) rfl) ?_ (fun _ h => h.sel [0, 1, 2, 4, 5] (by decide))
            refine WPD.nil (onto_of ?_)
            refine WP.region ?_
            refine WPL.val (v_move (v := .int .i64 _) rfl) ?_
            refine WPL.val (v_add rfl rfl (by omega)) ?_
            refine WPL.val (v_assign (v := .int .i64 _) rfl) ?_
            exact WPL.nil fun w hw => ⟨rfl, (k + 1, (A175, c175), (A152, c152)), (by simp only; omega), ⟨rfl, (by rw [wts_open he h135, intsV_snoc]; rfl), (by rw [ats_open he h135, List.length_append]; rfl), rfl, rfl, rfl, rfl, rfl, rfl, rfl, trivial⟩, by simp only; omega, by simp only [wts_open (g := (grows l room)) he h135, ats_open he h135, intsI_snoc, natsI_snoc]; exact (hw.sel [0, 1, 2, 3, 4] (by decide))⟩
      ·
        obtain rfl : k = es.length := by omega
        refine WP.exit (onto_of ?_)
        refine WP.seq ?_
        refine WP.seq ?_
        refine WP.region ?_
        refine WPL.val (v_move (v := .slice _ _ _) rfl) ?_
        refine WPL.val (v_len Try.underlying32 rfl) ?_
        refine WPL.val (v_eql rfl rfl) ?_
        refine WPL.nil (onto_of ?_)
        refine WP.condP rfl (fun h178 => ?_) (fun h178 => ?_)
        ·
          have hk0 : kth es es.length = 0 := by unfold kth; omega
          rw [final_done hk0] at hfin
          refine WP.seq ?_
          refine WP.region ?_
          refine WPL.val (v_move (v := .slice _ _ _) rfl) ?_
          refine WPL.val (v_assign (v := .slice _ _ _) rfl) ?_
          refine WPL.nil (onto_of ?_)
          exact WP.ret1 Try.results21 (fun _ h => h) (fun w hw => ⟨(some ⟨g31, 0, none⟩, l.length), rfl, trivial, by have h := (hw.sel [1] (by decide)); rw [hfin] at h; exact h⟩)
        ·
          have hk0 : kth es es.length ≠ 0 := by unfold kth; omega
          have hob := took_bd hok es.length
          have hlb := lot_bd room
          have hsg := sg_or (grows l room)
          have hmul : -9223372036854775808 ≤ sg (grows l room) * (lot room - took es es.length) ∧ sg (grows l room) * (lot room - took es es.length) ≤ 9223372036854775807 := by rcases hsg with ⟨_, h⟩ | ⟨_, h⟩ <;> rw [h] <;> omega
          refine WP.skip (onto_of ?_)
          refine WP.seq ?_
          refine WP.region ?_
          refine WPL.val (v_assign (v := .int .i64 (1)) rfl) ?_
          refine WPL.nil (onto_of ?_)
          refine WP.midK [0, 1, 5, 6, 9, 10, 12, 13, 14] (X := Unit) (fun _ => [(16, .int .i64 (sg (grows l room)))]) (fun _ => St w0 (foots []) [ritI A1 l.length c1 (l.map FItem.sound), outI g31 l.length (es.map FE.size), frI g70 l.length (es.map FE.fr), intsI wA wc (wts (grows l room) es es.length), natsI aA ac (ats es es.length)]) ?_ (fun _ ρ0 => ?_)
          ·
            refine WP.seq ?_
            refine WP.region ?_
            refine WPL.val (v_move (v := .bool _) rfl) ?_
            refine WPL.val (v_not rfl) ?_
            refine WPL.nil (onto_of ?_)
            refine WP.cond rfl (fun h181 => ?_) (fun h181 => ?_)
            ·
              refine WP.region ?_
              refine WPL.val (v_assign (v := .int .i64 (-1)) rfl) ?_
              exact WPL.nil fun w hw => ⟨rfl, (), ⟨by first | (rw [show sg (grows l room) = -1 from sg_f h181]; rfl) | (rw [show sg (grows l room) = 1 from sg_t h181]; rfl), rfl, rfl, rfl, rfl, rfl, rfl, rfl, rfl, rfl, trivial⟩, hw⟩
            ·
              exact WP.skip fun w hw => ⟨rfl, (), ⟨by first | (rw [show sg (grows l room) = -1 from sg_f h181]; rfl) | (rw [show sg (grows l room) = 1 from sg_t h181]; rfl), rfl, rfl, rfl, rfl, rfl, rfl, rfl, rfl, rfl, trivial⟩, hw⟩
          ·
            refine WP.seq ?_
            refine WP.region ?_
            refine WPL.val (v_move (v := .int .i64 _) rfl) ?_
            refine WPL.val (v_move (v := .int .i64 _) rfl) ?_
            refine WPL.val (v_mul rfl rfl hmul) ?_
            rw [show sg (grows l room) * (lot room - took es es.length) = fre (grows l room) (lot room) es from rfl]
            refine WPL.val (v_move (v := .slice _ _ _) rfl) ?_
            refine WPL.ef (x_call Try.call23 (rshare_ct wA wc (fre (grows l room) (lot room) es) (wts (grows l room) es es.length) (by rw [kth_wts]; exact Nat.le_trans (kth_le es _) (by omega))) [] [0, 1, 2, 3, 4] rfl (fun w hw => hw.rd_row1 (i := 3) rfl) (τ := fun _ => [_, _, _, _, _, _]) (fun _ => rfl)) (fun ⟨P, pc⟩ => ?_)
            refine WPL.fact (fun _ => ?_)
            refine WPL.val (v_assign (v := .slice _ _ _) rfl) ?_
            refine WPL.nil (onto_of ?_)
            refine WP.seq ?_
            refine WP.region ?_
            refine WPL.val (v_assign (v := .int .i64 (0)) rfl) ?_
            refine WPL.nil (onto_of ?_)
            refine WP.seq ?_
            refine WP.region ?_
            refine WPL.val (v_assign (v := .slice none 0 0) rfl) ?_
            refine WPL.nil (onto_of ?_)
            refine WP.seq ?_
            refine WP.seq ?_
            refine WP.pre ?_ (fun w hw => ((hw.sel [0, 1, 2, 4, 5] (by decide))).nilRow 3 1)
            refine WP.region ?_
            refine WPL.val (v_assign (v := .int .i64 (0)) rfl) ?_
            refine WPL.nil (onto_of ?_)
            refine WP.block ?_
            refine WP.loopK (X := Nat × Option Addr × Nat) [0, 1, 5, 6, 9, 10, 14, 16, 17] (fun p => [(18, .int .i64 (moreTo (grows l room) (lot room) es p.1)), (19, intsV p.2.1 p.2.2 (wtd (grows l room) (lot room) es p.1)), (20, .int .i64 (kth es p.1 : Nat))]) (fun p w => p.1 ≤ es.length ∧ St w0 (foots []) [ritI A1 l.length c1 (l.map FItem.sound), outI g31 l.length (es.map FE.size), frI g70 l.length (es.map FE.fr), natsI aA ac (ats es es.length), .row 3 1 P (wts (grows l room) es es.length).length pc ((parts (grows l room) (lot room) es).map (Value.int .i64)), intsI p.2.1 p.2.2 (wtd (grows l room) (lot room) es p.1)] w) (fun p => es.length - p.1) (0, none, 0) ⟨rfl, rfl, rfl, trivial⟩ (fun w hw => ⟨by omega, hw⟩) (fun p ρ0 => ?_)
            obtain ⟨q, vA, vc⟩ := p
            dsimp only
            refine WP.fact (fun hq => ?_)
            refine WP.seq ?_
            refine WP.seq ?_
            refine WP.region ?_
            refine WPL.val (v_move (v := .int .i64 _) rfl) ?_
            refine WPL.val (v_move (v := .slice _ _ _) rfl) ?_
            refine WPL.val (v_len Try.underlying32 rfl) ?_
            refine WPL.val (v_lss rfl rfl) ?_
            refine WPL.nil (onto_of ?_)
            refine WP.condP rfl (fun h190 => ?_) (fun h190 => ?_)
            ·
              obtain ⟨j, hj⟩ : ∃ j, (ats es es.length)[kth es q]? = some j := ⟨_, List.getElem?_eq_getElem (by omega)⟩
              obtain ⟨e, he, hf, hkj, hjn⟩ := ats_find es _ hj
              have hqj : q ≤ j := by
                by_cases h : q ≤ j
                · exact h
                · have h1 := kth_mono es (i := j + 1) (j := q) (by omega)
                  have h2 := kth_open he hf
                  omega
              obtain ⟨hs1, hs2, hs3⟩ := same_to (g := (grows l room)) (room := (lot room)) hqj hkj.symm
              rw [← hkj] at hj
              have hxe : (l.map FItem.sound)[j]? = some e.it := by rw [← hit, List.getElem?_map, he]; rfl
              have hpg := parts_get (g := (grows l room)) (room := (lot room)) he hf
              have hwg := wtd_get (g := (grows l room)) (room := (lot room)) he hf
              have hpb : 0 ≤ (parts (grows l room) (lot room) es).getD (kth es j) 0 ∧ (parts (grows l room) (lot room) es).getD (kth es j) 0 ≤ 67108864 := share_bd _ _ _
              have hwb := want_bd (g := (grows l room)) (room := (lot room)) hok he
              have hgb := gap_bd (g := (grows l room)) (room := (lot room)) hok he
              have hmb := more_bd (g := (grows l room)) (room := (lot room)) hok j
              have hmn := more_bd (g := (grows l room)) (room := (lot room)) hok es.length
              have hwl := kth_wtd (grows l room) (lot room) es
              have hwj := hwl j
              have hkl : kth es j < (ats es es.length).length := kth_lt he hf
              have hkle := kth_le es j
              have hplen : (wts (grows l room) es es.length).length = (ats es es.length).length := kth_wts _ _ _
              have hsg := sg_or (grows l room)
              have hok1 := hok j e he
              unfold FE.ok at hok1
              unfold gap at hgb
              rw [hs1, hs2, ← hkj]
              refine WP.holds (fun w hw => hw.row_pos (i := 0) rfl (by omega)) (fun ⟨xb, hA⟩ => ?_)
              subst hA
              refine WP.holds (fun w hw => hw.row_pos (i := 3) rfl (by omega)) (fun ⟨ab, hA⟩ => ?_)
              subst hA
              refine WP.holds (fun w hw => hw.row_pos (i := 4) rfl (by omega)) (fun ⟨pb, hA⟩ => ?_)
              subst hA
              have hmul2 : -67108864 ≤ sg (grows l room) * (parts (grows l room) (lot room) es).getD (kth es j) 0 ∧ sg (grows l room) * (parts (grows l room) (lot room) es).getD (kth es j) 0 ≤ 67108864 := by rcases hsg with ⟨_, h⟩ | ⟨_, h⟩ <;> rw [h] <;> omega
              refine WP.skip (onto_of ?_)
              refine WP.seq ?_
              refine WP.block ?_
              refine WP.seq ?_
              refine WP.drawS none [(0, true), (1, true), (2, true), (3, true), (4, true), (5, true), (6, true), (7, true), (8, true), (9, true), (10, true), (11, true), (12, true), (13, true), (14, true), (15, true)] mixed (by kernel_rfl) (by decide) (fun _ h => h.drawn) ?_
              refine WPD.take rfl (v_move (v := .slice _ _ _) rfl) ?_ (fun _ h => h)
              refine WPD.take rfl (v_move (v := .slice _ _ _) rfl) ?_ (fun _ h => h)
              refine WPD.take rfl (v_move (v := .int .i64 _) rfl) ?_ (fun _ h => h)
              refine WPD.take rfl (v_index (j := kth es j) Try.underlying32 Try.sizeOf3 rfl rfl (by omega) (by omega)) ?_ (fun _ h => h)
              refine WPD.take rfl (v_load1 (u := .int .i64 _) Try.isAgg3 rfl (fun w hw => hw.row_at1 (i := 3) rfl (map_at _ hj rfl) (by omega))) ?_ (fun _ h => h)
              refine WPD.take rfl (v_index (j := j) Try.underlying24 Try.sizeOf30 rfl rfl (by omega) (by omega)) ?_ (fun _ h => h)
              refine WPD.take rfl (v_field (off := 0) Try.underlying30 rfl Try.sizeOf3 rfl) ?_ (fun _ h => h)
              refine WPD.take rfl (v_load1 (u := .int .i64 _) Try.isAgg3 rfl (fun w hw => hw.row_at1 (i := 0) rfl (flat_at FItem.enc 5 (fun _ => rfl) _ j 0 e.it _ hxe rfl) (by omega))) ?_ (fun _ h => h)
              refine WPD.take rfl (v_move (v := .int .i64 _) rfl) ?_ (fun _ h => h)
              refine WPD.take rfl (v_move (v := .slice _ _ _) rfl) ?_ (fun _ h => h)
              refine WPD.take rfl (v_move (v := .int .i64 _) rfl) ?_ (fun _ h => h)
              refine WPD.take rfl (v_index (j := kth es j) Try.underlying32 Try.sizeOf3 rfl rfl (by omega) (by omega)) ?_ (fun _ h => h)
              refine WPD.take rfl (v_load1 (u := .int .i64 _) Try.isAgg3 rfl (fun w hw => hw.row_at1 (i := 4) rfl (ints_at hpg) (by omega))) ?_ (fun _ h => h)
              refine WPD.take rfl (v_mul rfl rfl (by omega)) ?_ (fun _ h => h)
              refine WPD.take rfl (v_add rfl rfl (by omega)) ?_ (fun _ h => h)
              rw [show e.it.base + sg (grows l room) * (parts (grows l room) (lot room) es).getD (kth es j) 0 = want (grows l room) (lot room) es j e from rfl]
              refine WPD.take rfl (v_assign (v := .int .i64 _) rfl) ?_ (fun _ h => h)
              refine WPD.nil (onto_of ?_)
              refine WP.seq ?_
              refine WP.region ?_
              refine WPL.val (v_move (v := .slice _ _ _) rfl) ?_
              refine WPL.val (v_move (v := .int .i64 _) rfl) ?_
              refine WPL.ef (x_buildSlice (us := [.int .i64 _]) (σ' := fun _ => [_, _, _, _, _, _, _]) Try.underlying32 Try.sizeOf3 Try.zeroValue3 rfl rfl rfl (by decide) (by decide) (fun _ => rfl)) (fun g210 => ?_)
              refine WPL.ef (x_append (sz := 1) (σ' := fun _ => [_, _, _, _, _, _, _]) Try.underlying32 int_info rfl (by decide) rfl rfl (i := 5) rfl (fun w hw => hw.src_row (i := 6) rfl) rfl (by simp [Value.oneCell']) (by omega) (by omega) (fun _ => rfl)) (fun ⟨A211, c211⟩ => ?_)
              refine WPL.val (v_assign (v := .slice _ _ _) rfl) ?_
              refine WPL.nil (onto_of ?_)
              refine WP.region ?_
              refine WPL.val (v_move (v := .int .i64 _) rfl) ?_
              refine WPL.val (v_move (v := .slice _ _ _) rfl) ?_
              refine WPL.val (v_move (v := .slice _ _ _) rfl) ?_
              refine WPL.val (v_move (v := .int .i64 _) rfl) ?_
              refine WPL.val (v_index (j := kth es j) Try.underlying32 Try.sizeOf3 rfl rfl (by omega) (by omega)) ?_
              refine WPL.val (v_load1 (u := .int .i64 _) Try.isAgg3 rfl (fun w hw => hw.row_at1 (i := 3) rfl (map_at _ hj rfl) (by omega))) ?_
              refine WPL.val (v_index (j := j) Try.underlying24 Try.sizeOf30 rfl rfl (by omega) (by omega)) ?_
              refine WPL.val (v_loadA (cs := [.int .i64 _, .int .i64 _, .int .i64 _, .int .i64 _, .int .i64 _]) Try.isAgg30 Try.sizeOf30 rfl (fun w hw => hw.row_at (i := 0) rfl _ (fun jj u hu => by rw [Nat.zero_add]; exact flat_at FItem.enc 5 (fun _ => rfl) _ j jj e.it u hxe hu))) ?_
              refine WPL.val (v_move (v := .int .i64 _) rfl) ?_
              refine WPL.ef (x_call Try.call18 (rfit_ct e.it (want (grows l room) (lot room) es j e)) [] [0, 1, 2, 3, 4, 5, 6] rfl (fun w hw => trivial) (τ := fun _ => [_, _, _, _, _, _, _]) (fun _ => rfl)) (fun _ => ?_)
              refine WPL.fact (fun _ => ?_)
              refine WPL.val (v_add rfl rfl (by omega)) ?_
              refine WPL.val (v_move (v := .int .i64 _) rfl) ?_
              refine WPL.val (v_sub rfl rfl (by omega)) ?_
              rw [show moreTo (grows l room) (lot room) es j + e.it.fit (want (grows l room) (lot room) es j e) - want (grows l room) (lot room) es j e = moreTo (grows l room) (lot room) es (j + 1) by rw [more_open he hf]; unfold gap; omega]
              refine WPL.val (v_assign (v := .int .i64 _) rfl) ?_
              refine WPL.nil (onto_of ?_)
              refine WP.region ?_
              refine WPL.val (v_move (v := .int .i64 _) rfl) ?_
              refine WPL.val (v_add rfl rfl (by omega)) ?_
              refine WPL.val (v_assign (v := .int .i64 _) rfl) ?_
              exact WPL.nil fun w hw => ⟨rfl, (j + 1, A211, c211), (by simp only; omega), ⟨rfl, (by rw [wtd_open he hf, intsV_snoc]; rfl), (by rw [kth_open he hf]; rfl), (via (.slice _ _ _) rfl rfl), (via (.int .i64 _) rfl rfl), (via (.slice _ _ _) rfl rfl), (via (.slice _ _ _) rfl rfl), (via (.bool _) rfl rfl), (via (.slice _ _ _) rfl rfl), (via (.slice _ _ _) rfl rfl), (via (.int .i64 _) rfl rfl), (via (.slice _ _ _) rfl rfl), trivial⟩, by simp only; omega, by simp only [wtd_open (g := (grows l room)) (room := (lot room)) he hf, intsI_snoc]; exact (hw.sel [0, 1, 2, 3, 4, 5] (by decide))⟩
            ·
              have hkq : kth es q = kth es es.length := by
                have := kth_mono es hq
                unfold kth at this ⊢
                unfold kth at h190
                omega
              rw [(same_to (g := (grows l room)) (room := (lot room)) hq hkq).1, (same_to (g := (grows l room)) (room := (lot room)) hq hkq).2.1]
              refine WP.exit (onto_of ?_)
              refine WP.seq ?_
              refine WP.region ?_
              refine WPL.val (v_assign (v := .int .i64 (0)) rfl) ?_
              refine WPL.nil (onto_of ?_)
              refine WP.block ?_
              refine WP.loopK (X := Nat) [0, 1, 5, 6, 9, 10, 14, 18, 19] (fun q => [(22, .int .i64 (kth es q : Nat))]) (fun q w => q ≤ es.length ∧ St w0 (foots []) [ritI A1 l.length c1 (l.map FItem.sound), outI g31 l.length ((upto (froze (grows l room) (lot room) es) es q).map FE.size), frI g70 l.length ((upto (froze (grows l room) (lot room) es) es q).map FE.fr), natsI aA ac (ats es es.length), intsI vA vc (wtd (grows l room) (lot room) es es.length)] w) (fun q => es.length - q) 0 ⟨rfl, trivial⟩ (fun w hw => ⟨by omega, by rw [upto_zero]; exact (hw.sel [0, 1, 2, 3, 5] (by decide))⟩) (fun q ρ0 => ?_)
              refine WP.fact (fun hq => ?_)
              refine WP.seq ?_
              refine WP.seq ?_
              refine WP.region ?_
              refine WPL.val (v_move (v := .int .i64 _) rfl) ?_
              refine WPL.val (v_move (v := .slice _ _ _) rfl) ?_
              refine WPL.val (v_len Try.underlying32 rfl) ?_
              refine WPL.val (v_lss rfl rfl) ?_
              refine WPL.nil (onto_of ?_)
              refine WP.condP rfl (fun h228 => ?_) (fun h228 => ?_)
              ·
                obtain ⟨j, hj⟩ : ∃ j, (ats es es.length)[kth es q]? = some j := ⟨_, List.getElem?_eq_getElem (by omega)⟩
                obtain ⟨e, he, hf, hkj, hjn⟩ := ats_find es _ hj
                have hqj : q ≤ j := by
                  by_cases h : q ≤ j
                  · exact h
                  · have h1 := kth_mono es (i := j + 1) (j := q) (by omega)
                    have h2 := kth_open he hf
                    omega
                obtain ⟨hs1, hs2, hs3⟩ := same_to (g := (grows l room)) (room := (lot room)) hqj hkj.symm
                rw [← hkj] at hj
                have hxe : (l.map FItem.sound)[j]? = some e.it := by rw [← hit, List.getElem?_map, he]; rfl
                have hpg := parts_get (g := (grows l room)) (room := (lot room)) he hf
                have hwg := wtd_get (g := (grows l room)) (room := (lot room)) he hf
                have hpb : 0 ≤ (parts (grows l room) (lot room) es).getD (kth es j) 0 ∧ (parts (grows l room) (lot room) es).getD (kth es j) 0 ≤ 67108864 := share_bd _ _ _
                have hwb := want_bd (g := (grows l room)) (room := (lot room)) hok he
                have hgb := gap_bd (g := (grows l room)) (room := (lot room)) hok he
                have hmb := more_bd (g := (grows l room)) (room := (lot room)) hok j
                have hmn := more_bd (g := (grows l room)) (room := (lot room)) hok es.length
                have hwl := kth_wtd (grows l room) (lot room) es
                have hwj := hwl j
                have hkl : kth es j < (ats es es.length).length := kth_lt he hf
                have hkle := kth_le es j
                have hplen : (wts (grows l room) es es.length).length = (ats es es.length).length := kth_wts _ _ _
                have hsg := sg_or (grows l room)
                have hok1 := hok j e he
                unfold FE.ok at hok1
                unfold gap at hgb
                rw [hs3, ← hkj]
                refine WP.holds (fun w hw => hw.row_pos (i := 0) rfl (by omega)) (fun ⟨xb, hA⟩ => ?_)
                subst hA
                refine WP.holds (fun w hw => hw.row_pos (i := 3) rfl (by omega)) (fun ⟨ab, hA⟩ => ?_)
                subst hA
                refine WP.holds (fun w hw => hw.row_pos (i := 4) rfl (by rw [hwl]; unfold kth; omega)) (fun ⟨vb, hA⟩ => ?_)
                subst hA
                have hwn := hwl es.length
                have hul : (upto (froze (grows l room) (lot room) es) es j).length = es.length := upto_length _ _ _
                refine WP.skip (onto_of ?_)
                refine WP.seq ?_
                refine WP.block ?_
                refine WP.seq ?_
                refine WP.drawSel none [0, 1, 2, 3, 4] [(0, true), (1, true), (2, true), (3, true), (4, true), (5, true), (6, true), (7, true), (8, true), (9, true), (10, true), (11, false), (12, true)] mixed (by kernel_rfl) (by decide) ?_
                refine WPD.take rfl (v_move (v := .slice _ _ _) rfl) ?_ (fun _ h => h.sel [0, 1, 2, 3, 4] (by decide))
                refine WPD.take rfl (v_move (v := .slice _ _ _) rfl) ?_ (fun _ h => h.sel [0, 1, 2, 3, 4] (by decide))
                refine WPD.take rfl (v_move (v := .int .i64 _) rfl) ?_ (fun _ h => h.sel [0, 1, 2, 3, 4] (by decide))
                refine WPD.take rfl (v_index (j := kth es j) Try.underlying32 Try.sizeOf3 rfl rfl (by omega) (by omega)) ?_ (fun _ h => h.sel [0, 1, 2, 3, 4] (by decide))
                refine WPD.take rfl (v_load1 (u := .int .i64 _) Try.isAgg3 rfl (fun w hw => hw.row_at1 (i := 3) rfl (map_at _ hj rfl) (by omega))) ?_ (fun _ h => h.sel [0, 1, 2, 3, 4] (by decide))
                refine WPD.take rfl (v_index (j := j) Try.underlying24 Try.sizeOf30 rfl rfl (by omega) (by omega)) ?_ (fun _ h => h.sel [0, 1, 2, 3, 4] (by decide))
                refine WPD.take rfl (v_loadA (cs := [.int .i64 _, .int .i64 _, .int .i64 _, .int .i64 _, .int .i64 _]) Try.isAgg30 Try.sizeOf30 rfl (fun w hw => hw.row_at (i := 0) rfl _ (fun jj u hu => by rw [Nat.zero_add]; exact flat_at FItem.enc 5 (fun _ => rfl) _ j jj e.it u hxe hu))) ?_ (fun _ h => h.sel [0, 1, 2, 3, 4] (by decide))
                refine WPD.take rfl (v_move (v := .slice _ _ _) rfl) ?_ (fun _ h => h.sel [0, 1, 2, 3, 4] (by decide))
                refine WPD.take rfl (v_move (v := .int .i64 _) rfl) ?_ (fun _ h => h.sel [0, 1, 2, 3, 4] (by decide))
                refine WPD.take rfl (v_index (j := kth es j) Try.underlying32 Try.sizeOf3 rfl rfl (by omega) (by omega)) ?_ (fun _ h => h.sel [0, 1, 2, 3, 4] (by decide))
                refine WPD.take rfl (v_load1 (u := .int .i64 _) Try.isAgg3 rfl (fun w hw => hw.row_at1 (i := 4) rfl (ints_at hwg) (by omega))) ?_ (fun _ h => h.sel [0, 1, 2, 3, 4] (by decide))
                refine WPD.ef rfl (x_call Try.call18 (rfit_ct e.it (want (grows l room) (lot room) es j e)) [] [0, 1, 2, 3, 4] rfl (fun w hw => trivial) (τ := fun _ => [_, _, _, _, _]) (fun _ => rfl)) (fun _ _ _ h => h.2.sel [0, 1, 2, 3, 4] (by decide)) (fun _ => ?_)
                refine WPD.fact (fun _ => ?_)
                refine WPD.take rfl (v_assign (v := .int .i64 _) rfl) ?_ (fun _ h => h.sel [0, 1, 2, 3, 4] (by decide))
                refine WPD.nil (onto_of ?_)
                refine WP.seq ?_
                refine WP.region ?_
                refine WPL.val (v_move (v := .slice _ _ _) rfl) ?_
                refine WPL.val (v_move (v := .slice _ _ _) rfl) ?_
                refine WPL.val (v_move (v := .int .i64 _) rfl) ?_
                refine WPL.val (v_index (j := kth es j) Try.underlying32 Try.sizeOf3 rfl rfl (by omega) (by omega)) ?_
                refine WPL.val (v_load1 (u := .int .i64 _) Try.isAgg3 rfl (fun w hw => hw.row_at1 (i := 3) rfl (map_at _ hj rfl) (by omega))) ?_
                refine WPL.val (v_move (v := .int .i64 _) rfl) ?_
                refine WPL.val (v_index (j := j) Try.underlying32 Try.sizeOf3 rfl rfl (by omega) (by omega)) ?_
                refine WPL.ef0 (x_storeRow' (u := .int .i64 _) (xs' := ((upto (froze (grows l room) (lot room) es) es (j + 1)).map FE.size).map (Value.int .i64)) (σ' := [_, _, _, _, _]) Try.sizeOf3 rfl rfl (i := 1) rfl (by simp [upto_length]; omega) (by rw [Nat.zero_add, Nat.mul_one]; exact set_map _ (set_map FE.size (upto_succ (froze (grows l room) (lot room) es) es j he) (froze_size hf)) rfl) rfl) (fun _ => ?_)
                refine WPL.nil (onto_of ?_)
                refine WP.drawS (some 32) [(0, true), (1, true), (2, true), (3, true), (4, true), (5, true), (6, true), (7, true), (8, true), (9, true), (10, true), (11, true), (12, true), (13, true), (14, true), (15, true), (16, true), (17, true), (18, true), (19, true), (20, true), (21, true), (22, true), (23, true), (24, true), (25, true), (26, true), (27, true), (28, true), (29, true), (30, true), (31, true), (32, false)] mixed (by kernel_rfl) (by decide) (fun _ h => h.drawn) ?_
                refine WPD.take rfl (v_move (v := .slice _ _ _) rfl) ?_ (fun _ h => h)
                refine WPD.take rfl (v_move (v := .slice _ _ _) rfl) ?_ (fun _ h => h)
                refine WPD.take rfl (v_move (v := .int .i64 _) rfl) ?_ (fun _ h => h)
                refine WPD.take rfl (v_index (j := kth es j) Try.underlying32 Try.sizeOf3 rfl rfl (by omega) (by omega)) ?_ (fun _ h => h)
                refine WPD.take rfl (v_load1 (u := .int .i64 _) Try.isAgg3 rfl (fun w hw => hw.row_at1 (i := 3) rfl (map_at _ hj rfl) (by omega))) ?_ (fun _ h => h)
                refine WPD.take rfl (v_move (v := .int .i64 _) rfl) ?_ (fun _ h => h)
                refine WPD.take rfl (v_eql rfl rfl) ?_ (fun _ h => h)
                refine WPD.take rfl (v_move (v := .bool _) rfl) ?_ (fun _ h => h)
                refine WPD.split 257 rfl (fun h257 => ?_) (fun h257 => ?_)
                ·
                  refine WPD.skip rfl ?_ (fun _ h => h)
                  refine WPD.skip rfl ?_ (fun _ h => h)
                  refine WPD.skip rfl ?_ (fun _ h => h)
                  refine WPD.skip rfl ?_ (fun _ h => h)
                  refine WPD.skip rfl ?_ (fun _ h => h)
                  refine WPD.skip rfl ?_ (fun _ h => h)
                  refine WPD.skip rfl ?_ (fun _ h => h)
                  refine WPD.skip rfl ?_ (fun _ h => h)
                  refine WPD.skip rfl ?_ (fun _ h => h)
                  refine WPD.skip rfl ?_ (fun _ h => h)
                  refine WPD.take rfl (v_pickT (u := .bool _) rfl rfl) ?_ (fun _ h => h)
                  refine WPD.take rfl (v_move (v := .bool _) rfl) ?_ (fun _ h => h)
                  refine WPD.skip rfl ?_ (fun _ h => h)
                  refine WPD.skip rfl ?_ (fun _ h => h)
                  refine WPD.skip rfl ?_ (fun _ h => h)
                  refine WPD.skip rfl ?_ (fun _ h => h)
                  refine WPD.skip rfl ?_ (fun _ h => h)
                  refine WPD.skip rfl ?_ (fun _ h => h)
                  refine WPD.skip rfl ?_ (fun _ h => h)
                  refine WPD.skip rfl ?_ (fun _ h => h)
                  refine WPD.skip rfl ?_ (fun _ h => h)
                  refine WPD.skip rfl ?_ (fun _ h => h)
                  refine WPD.take rfl (v_pickT (u := .bool _) rfl rfl) ?_ (fun _ h => h)
                  refine WPD.take rfl (v_index (j := j) Try.underlying76 Try.sizeOf4 rfl rfl (by omega) (by omega)) ?_ (fun _ h => h)
                  refine WPD.ef0 rfl (x_storeRow' (u := .bool _) (xs' := ((upto (froze (grows l room) (lot room) es) es (j + 1)).map FE.fr).map Value.bool) (σ' := [_, _, _, _, _]) Try.sizeOf4 rfl rfl (i := 2) rfl (by simp [upto_length]; omega) (by rw [Nat.zero_add, Nat.mul_one]; exact set_map _ (set_map FE.fr (upto_succ (froze (grows l room) (lot room) es) es j he) (froze_fr hf (judge_of (by unfold gap; simp; omega)))) rfl) rfl) (fun h => absurd rfl h) (fun _ => ?_)
                  refine WPD.nil (onto_of ?_)
                  refine WP.region ?_
                  refine WPL.val (v_move (v := .int .i64 _) rfl) ?_
                  refine WPL.val (v_add rfl rfl (by omega)) ?_
                  refine WPL.val (v_assign (v := .int .i64 _) rfl) ?_
                  exact WPL.nil fun w hw => ⟨rfl, j + 1, (by omega), ⟨(by rw [kth_open he hf]; rfl), (via (.slice _ _ _) rfl rfl), (via (.int .i64 _) rfl rfl), (via (.slice _ _ _) rfl rfl), (via (.slice _ _ _) rfl rfl), (via (.bool _) rfl rfl), (via (.slice _ _ _) rfl rfl), (via (.slice _ _ _) rfl rfl), (via (.int .i64 _) rfl rfl), (via (.slice _ _ _) rfl rfl), trivial⟩, by omega, (hw.sel [0, 1, 2, 3, 4] (by decide))⟩
                ·
                  refine WPD.take rfl (v_move (v := .int .i64 _) rfl) ?_ (fun _ h => h)
                  refine WPD.take rfl (v_gtr rfl rfl) ?_ (fun _ h => h)
                  refine WPD.take rfl (v_move (v := .bool _) rfl) ?_ (fun _ h => h)
                  refine WPD.split 260 rfl (fun h260 => ?_) (fun h260 => ?_)
                  ·
                    refine WPD.take rfl (v_move (v := .int .i64 _) rfl) ?_ (fun _ h => h)
                    refine WPD.take rfl (v_move (v := .slice _ _ _) rfl) ?_ (fun _ h => h)
                    refine WPD.take rfl (v_move (v := .int .i64 _) rfl) ?_ (fun _ h => h)
                    refine WPD.take rfl (v_index (j := kth es j) Try.underlying32 Try.sizeOf3 rfl rfl (by omega) (by omega)) ?_ (fun _ h => h)
                    refine WPD.take rfl (v_load1 (u := .int .i64 _) Try.isAgg3 rfl (fun w hw => hw.row_at1 (i := 4) rfl (ints_at hwg) (by omega))) ?_ (fun _ h => h)
                    refine WPD.take rfl (v_gtr rfl rfl) ?_ (fun _ h => h)
                    refine WPD.take rfl (v_pickT (u := .bool _) rfl rfl) ?_ (fun _ h => h)
                    refine WPD.take rfl (v_pickF (v := .bool _) rfl rfl) ?_ (fun _ h => h)
                    refine WPD.take rfl (v_move (v := .bool _) rfl) ?_ (fun _ h => h)
                    refine WPD.split 269 rfl (fun h269 => ?_) (fun h269 => ?_)
                    ·
                      refine WPD.skip rfl ?_ (fun _ h => h)
                      refine WPD.skip rfl ?_ (fun _ h => h)
                      refine WPD.skip rfl ?_ (fun _ h => h)
                      refine WPD.skip rfl ?_ (fun _ h => h)
                      refine WPD.skip rfl ?_ (fun _ h => h)
                      refine WPD.skip rfl ?_ (fun _ h => h)
                      refine WPD.skip rfl ?_ (fun _ h => h)
                      refine WPD.skip rfl ?_ (fun _ h => h)
                      refine WPD.skip rfl ?_ (fun _ h => h)
                      refine WPD.skip rfl ?_ (fun _ h => h)
                      refine WPD.take rfl (v_pickT (u := .bool _) rfl rfl) ?_ (fun _ h => h)
                      refine WPD.take rfl (v_index (j := j) Try.underlying76 Try.sizeOf4 rfl rfl (by omega) (by omega)) ?_ (fun _ h => h)
                      refine WPD.ef0 rfl (x_storeRow' (u := .bool _) (xs' := ((upto (froze (grows l room) (lot room) es) es (j + 1)).map FE.fr).map Value.bool) (σ' := [_, _, _, _, _]) Try.sizeOf4 rfl rfl (i := 2) rfl (by simp [upto_length]; omega) (by rw [Nat.zero_add, Nat.mul_one]; exact set_map _ (set_map FE.fr (upto_succ (froze (grows l room) (lot room) es) es j he) (froze_fr hf (judge_of (by unfold gap; simp; omega)))) rfl) rfl) (fun h => absurd rfl h) (fun _ => ?_)
                      refine WPD.nil (onto_of ?_)
                      refine WP.region ?_
                      refine WPL.val (v_move (v := .int .i64 _) rfl) ?_
                      refine WPL.val (v_add rfl rfl (by omega)) ?_
                      refine WPL.val (v_assign (v := .int .i64 _) rfl) ?_
                      exact WPL.nil fun w hw => ⟨rfl, j + 1, (by omega), ⟨(by rw [kth_open he hf]; rfl), (via (.slice _ _ _) rfl rfl), (via (.int .i64 _) rfl rfl), (via (.slice _ _ _) rfl rfl), (via (.slice _ _ _) rfl rfl), (via (.bool _) rfl rfl), (via (.slice _ _ _) rfl rfl), (via (.slice _ _ _) rfl rfl), (via (.int .i64 _) rfl rfl), (via (.slice _ _ _) rfl rfl), trivial⟩, by omega, (hw.sel [0, 1, 2, 3, 4] (by decide))⟩
                    ·
                      refine WPD.take rfl (v_move (v := .int .i64 _) rfl) ?_ (fun _ h => h)
                      refine WPD.take rfl (v_lss rfl rfl) ?_ (fun _ h => h)
                      refine WPD.take rfl (v_move (v := .bool _) rfl) ?_ (fun _ h => h)
                      refine WPD.split 272 rfl (fun h272 => ?_) (fun h272 => ?_)
                      ·
                        refine WPD.take rfl (v_move (v := .int .i64 _) rfl) ?_ (fun _ h => h)
                        refine WPD.take rfl (v_move (v := .slice _ _ _) rfl) ?_ (fun _ h => h)
                        refine WPD.take rfl (v_move (v := .int .i64 _) rfl) ?_ (fun _ h => h)
                        refine WPD.take rfl (v_index (j := kth es j) Try.underlying32 Try.sizeOf3 rfl rfl (by omega) (by omega)) ?_ (fun _ h => h)
                        refine WPD.take rfl (v_load1 (u := .int .i64 _) Try.isAgg3 rfl (fun w hw => hw.row_at1 (i := 4) rfl (ints_at hwg) (by omega))) ?_ (fun _ h => h)
                        refine WPD.take rfl (v_lss rfl rfl) ?_ (fun _ h => h)
                        refine WPD.take rfl (v_pickT (u := .bool _) rfl rfl) ?_ (fun _ h => h)
                        refine WPD.take rfl (v_pickF (v := .bool _) rfl rfl) ?_ (fun _ h => h)
                        refine WPD.take rfl (v_index (j := j) Try.underlying76 Try.sizeOf4 rfl rfl (by omega) (by omega)) ?_ (fun _ h => h)
                        refine WPD.ef0 rfl (x_storeRow' (u := .bool _) (xs' := ((upto (froze (grows l room) (lot room) es) es (j + 1)).map FE.fr).map Value.bool) (σ' := [_, _, _, _, _]) Try.sizeOf4 rfl rfl (i := 2) rfl (by simp [upto_length]; omega) (by rw [Nat.zero_add, Nat.mul_one]; exact set_map _ (set_map FE.fr (upto_succ (froze (grows l room) (lot room) es) es j he) (froze_fr hf (judge_of (by unfold gap; simp; omega)))) rfl) rfl) (fun h => absurd rfl h) (fun _ => ?_)
                        refine WPD.nil (onto_of ?_)
                        refine WP.region ?_
                        refine WPL.val (v_move (v := .int .i64 _) rfl) ?_
                        refine WPL.val (v_add rfl rfl (by omega)) ?_
                        refine WPL.val (v_assign (v := .int .i64 _) rfl) ?_
                        exact WPL.nil fun w hw => ⟨rfl, j + 1, (by omega), ⟨(by rw [kth_open he hf]; rfl), (via (.slice _ _ _) rfl rfl), (via (.int .i64 _) rfl rfl), (via (.slice _ _ _) rfl rfl), (via (.slice _ _ _) rfl rfl), (via (.bool _) rfl rfl), (via (.slice _ _ _) rfl rfl), (via (.slice _ _ _) rfl rfl), (via (.int .i64 _) rfl rfl), (via (.slice _ _ _) rfl rfl), trivial⟩, by omega, (hw.sel [0, 1, 2, 3, 4] (by decide))⟩
                      ·
                        refine WPD.skip rfl ?_ (fun _ h => h)
                        refine WPD.skip rfl ?_ (fun _ h => h)
                        refine WPD.skip rfl ?_ (fun _ h => h)
                        refine WPD.skip rfl ?_ (fun _ h => h)
                        refine WPD.skip rfl ?_ (fun _ h => h)
                        refine WPD.skip rfl ?_ (fun _ h => h)
                        refine WPD.take rfl (v_pickF (v := .bool _) rfl rfl) ?_ (fun _ h => h)
                        refine WPD.take rfl (v_pickF (v := .bool _) rfl rfl) ?_ (fun _ h => h)
                        refine WPD.take rfl (v_index (j := j) Try.underlying76 Try.sizeOf4 rfl rfl (by omega) (by omega)) ?_ (fun _ h => h)
                        refine WPD.ef0 rfl (x_storeRow' (u := .bool _) (xs' := ((upto (froze (grows l room) (lot room) es) es (j + 1)).map FE.fr).map Value.bool) (σ' := [_, _, _, _, _]) Try.sizeOf4 rfl rfl (i := 2) rfl (by simp [upto_length]; omega) (by rw [Nat.zero_add, Nat.mul_one]; exact set_map _ (set_map FE.fr (upto_succ (froze (grows l room) (lot room) es) es j he) (froze_fr hf (judge_of (by unfold gap; simp; omega)))) rfl) rfl) (fun h => absurd rfl h) (fun _ => ?_)
                        refine WPD.nil (onto_of ?_)
                        refine WP.region ?_
                        refine WPL.val (v_move (v := .int .i64 _) rfl) ?_
                        refine WPL.val (v_add rfl rfl (by omega)) ?_
                        refine WPL.val (v_assign (v := .int .i64 _) rfl) ?_
                        exact WPL.nil fun w hw => ⟨rfl, j + 1, (by omega), ⟨(by rw [kth_open he hf]; rfl), (via (.slice _ _ _) rfl rfl), (via (.int .i64 _) rfl rfl), (via (.slice _ _ _) rfl rfl), (via (.slice _ _ _) rfl rfl), (via (.bool _) rfl rfl), (via (.slice _ _ _) rfl rfl), (via (.slice _ _ _) rfl rfl), (via (.int .i64 _) rfl rfl), (via (.slice _ _ _) rfl rfl), trivial⟩, by omega, (hw.sel [0, 1, 2, 3, 4] (by decide))⟩
                  ·
                    refine WPD.skip rfl ?_ (fun _ h => h)
                    refine WPD.skip rfl ?_ (fun _ h => h)
                    refine WPD.skip rfl ?_ (fun _ h => h)
                    refine WPD.skip rfl ?_ (fun _ h => h)
                    refine WPD.skip rfl ?_ (fun _ h => h)
                    refine WPD.skip rfl ?_ (fun _ h => h)
                    refine WPD.take rfl (v_pickF (v := .bool _) rfl rfl) ?_ (fun _ h => h)
                    refine WPD.take rfl (v_pickF (v := .bool _) rfl rfl) ?_ (fun _ h => h)
                    refine WPD.take rfl (v_move (v := .bool _) rfl) ?_ (fun _ h => h)
                    refine WPD.take rfl (v_move (v := .int .i64 _) rfl) ?_ (fun _ h => h)
                    refine WPD.take rfl (v_lss rfl rfl) ?_ (fun _ h => h)
                    refine WPD.take rfl (v_move (v := .bool _) rfl) ?_ (fun _ h => h)
                    refine WPD.split 272 rfl (fun h272 => ?_) (fun h272 => ?_)
                    ·
                      refine WPD.take rfl (v_move (v := .int .i64 _) rfl) ?_ (fun _ h => h)
                      refine WPD.take rfl (v_move (v := .slice _ _ _) rfl) ?_ (fun _ h => h)
                      refine WPD.take rfl (v_move (v := .int .i64 _) rfl) ?_ (fun _ h => h)
                      refine WPD.take rfl (v_index (j := kth es j) Try.underlying32 Try.sizeOf3 rfl rfl (by omega) (by omega)) ?_ (fun _ h => h)
                      refine WPD.take rfl (v_load1 (u := .int .i64 _) Try.isAgg3 rfl (fun w hw => hw.row_at1 (i := 4) rfl (ints_at hwg) (by omega))) ?_ (fun _ h => h)
                      refine WPD.take rfl (v_lss rfl rfl) ?_ (fun _ h => h)
                      refine WPD.take rfl (v_pickT (u := .bool _) rfl rfl) ?_ (fun _ h => h)
                      refine WPD.take rfl (v_pickF (v := .bool _) rfl rfl) ?_ (fun _ h => h)
                      refine WPD.take rfl (v_index (j := j) Try.underlying76 Try.sizeOf4 rfl rfl (by omega) (by omega)) ?_ (fun _ h => h)
                      refine WPD.ef0 rfl (x_storeRow' (u := .bool _) (xs' := ((upto (froze (grows l room) (lot room) es) es (j + 1)).map FE.fr).map Value.bool) (σ' := [_, _, _, _, _]) Try.sizeOf4 rfl rfl (i := 2) rfl (by simp [upto_length]; omega) (by rw [Nat.zero_add, Nat.mul_one]; exact set_map _ (set_map FE.fr (upto_succ (froze (grows l room) (lot room) es) es j he) (froze_fr hf (judge_of (by unfold gap; simp; omega)))) rfl) rfl) (fun h => absurd rfl h) (fun _ => ?_)
                      refine WPD.nil (onto_of ?_)
                      refine WP.region ?_
                      refine WPL.val (v_move (v := .int .i64 _) rfl) ?_
                      refine WPL.val (v_add rfl rfl (by omega)) ?_
                      refine WPL.val (v_assign (v := .int .i64 _) rfl) ?_
                      exact WPL.nil fun w hw => ⟨rfl, j + 1, (by omega), ⟨(by rw [kth_open he hf]; rfl), (via (.slice _ _ _) rfl rfl), (via (.int .i64 _) rfl rfl), (via (.slice _ _ _) rfl rfl), (via (.slice _ _ _) rfl rfl), (via (.bool _) rfl rfl), (via (.slice _ _ _) rfl rfl), (via (.slice _ _ _) rfl rfl), (via (.int .i64 _) rfl rfl), (via (.slice _ _ _) rfl rfl), trivial⟩, by omega, (hw.sel [0, 1, 2, 3, 4] (by decide))⟩
                    ·
                      refine WPD.skip rfl ?_ (fun _ h => h)
                      refine WPD.skip rfl ?_ (fun _ h => h)
                      refine WPD.skip rfl ?_ (fun _ h => h)
                      refine WPD.skip rfl ?_ (fun _ h => h)
                      refine WPD.skip rfl ?_ (fun _ h => h)
                      refine WPD.skip rfl ?_ (fun _ h => h)
                      refine WPD.take rfl (v_pickF (v := .bool _) rfl rfl) ?_ (fun _ h => h)
                      refine WPD.take rfl (v_pickF (v := .bool _) rfl rfl) ?_ (fun _ h => h)
                      refine WPD.take rfl (v_index (j := j) Try.underlying76 Try.sizeOf4 rfl rfl (by omega) (by omega)) ?_ (fun _ h => h)
                      refine WPD.ef0 rfl (x_storeRow' (u := .bool _) (xs' := ((upto (froze (grows l room) (lot room) es) es (j + 1)).map FE.fr).map Value.bool) (σ' := [_, _, _, _, _]) Try.sizeOf4 rfl rfl (i := 2) rfl (by simp [upto_length]; omega) (by rw [Nat.zero_add, Nat.mul_one]; exact set_map _ (set_map FE.fr (upto_succ (froze (grows l room) (lot room) es) es j he) (froze_fr hf (judge_of (by unfold gap; simp; omega)))) rfl) rfl) (fun h => absurd rfl h) (fun _ => ?_)
                      refine WPD.nil (onto_of ?_)
                      refine WP.region ?_
                      refine WPL.val (v_move (v := .int .i64 _) rfl) ?_
                      refine WPL.val (v_add rfl rfl (by omega)) ?_
                      refine WPL.val (v_assign (v := .int .i64 _) rfl) ?_
                      exact WPL.nil fun w hw => ⟨rfl, j + 1, (by omega), ⟨(by rw [kth_open he hf]; rfl), (via (.slice _ _ _) rfl rfl), (via (.int .i64 _) rfl rfl), (via (.slice _ _ _) rfl rfl), (via (.slice _ _ _) rfl rfl), (via (.bool _) rfl rfl), (via (.slice _ _ _) rfl rfl), (via (.slice _ _ _) rfl rfl), (via (.int .i64 _) rfl rfl), (via (.slice _ _ _) rfl rfl), trivial⟩, by omega, (hw.sel [0, 1, 2, 3, 4] (by decide))⟩
              ·
                have hkq : kth es q = kth es es.length := by
                  have := kth_mono es hq
                  unfold kth at this ⊢
                  unfold kth at h228
                  omega
                rw [(same_to (g := (grows l room)) (room := (lot room)) hq hkq).2.2, upto_all _ _ (Nat.le_refl _), show es.mapIdx (froze (grows l room) (lot room) es) = round (grows l room) (lot room) es from rfl]
                exact WP.exit fun w hw => ⟨rfl, round (grows l room) (lot room) es, (round_less hk0), ⟨(via (.slice _ _ _) rfl rfl), (via (.int .i64 _) rfl rfl), (via (.slice _ _ _) rfl rfl), (via (.slice _ _ _) rfl rfl), (via (.bool _) rfl rfl), (via (.slice _ _ _) rfl rfl), trivial⟩, ⟨by rw [round_length]; exact hlen, round_oks hok, by rw [map_it]; exact hit, by rw [final_step hk0]; exact hfin⟩, (hw.sel [0, 1, 2] (by decide))⟩
theorem rsizes_big (A : Option Addr) (c n : Nat) (room : Int) (hl : 64 < n) (w : World) :
    Calls Try.prog 21 #[.slice A n c, .int .i64 room] w fun e w' => e = .returned (.slice none 0 0) ∧ w = w' := by
  refine enter_pure Try.func21 rfl Try.ntmps21 (by simp) ?_
  refine WP.seq ?_
  refine WP.region ?_
  refine WPL.val (v_assign (v := .slice none 0 0) rfl) ?_
  refine WPL.nil (onto_of ?_)
  refine WP.seq ?_
  refine WP.seq ?_
  refine WP.region ?_
  refine WPL.val (v_move (v := .slice _ _ _) rfl) ?_
  refine WPL.val (v_len Try.underlying24 rfl) ?_
  refine WPL.val (v_gtr rfl rfl) ?_
  refine WPL.nil (onto_of ?_)
  refine WP.condP rfl (fun h26 => ?_) (fun h => absurd (by omega) h)
  refine WP.seq ?_
  refine WP.region ?_
  refine WPL.val (v_assign (v := .slice none 0 0) rfl) ?_
  refine WPL.nil (onto_of ?_)
  exact WP.ret1 Try.results21 (fun _ h => h) (fun w hw => ⟨rfl, hw.symm⟩)
end Go.Proofs.Ytabdcfobdehhiaa
