/- slices.SortFunc of the members of a layer, by contract. -/
import Derived.Shelf.SlSortCmp.Whole1
import Derived.Test.YtmjdmlgdffoimabPaintCmp
namespace Go.Proofs.Ytmjdmlgdffoimab
open Go.Shelf Go.RowKit Go.Lib Go.Sort

def sortR : Go.Shelf.Ren := ⟨fun | 6 => 28 | 15 => 35 | 14 => 34 | 28 => 46 | 29 => 47 | 20 => 38 | 21 => 39 | 22 => 40 | 23 => 41 | 24 => 42 | 25 => 43 | 26 => 44 | 27 => 45 | 46 => 48 | 47 => 49 | 48 => 50 | 49 => 51 | 50 => 52 | 57 => 53 | n => n, fun | 22 => 26 | 24 => 3 | 25 => 48 | 3 => 3 | 39 => 57 | 0 => 0 | 53 => 69 | 55 => 71 | 4 => 4 | 46 => 62 | 45 => 61 | 50 => 66 | 5 => 5 | 9 => 9 | 66 => 72 | 70 => 76 | 76 => 78 | 77 => 79 | n => n, fun n => n⟩
theorem sortL : SlLaysF.n6 Try.prog sortR := {
  mixed := by kernel_rfl,
  f6 := ⟨Try.f28.name, by decide, Try.func28.trans (congrArg some (by kernel_rfl))⟩,
  f14 := ⟨Try.f34.name, by decide, Try.func34.trans (congrArg some (by kernel_rfl))⟩,
  f15 := Try.func35.trans (congrArg some (by kernel_rfl)),
  f20 := ⟨Try.f38.name, by decide, Try.func38.trans (congrArg some (by kernel_rfl))⟩,
  f21 := ⟨Try.f39.name, by decide, Try.func39.trans (congrArg some (by kernel_rfl))⟩,
  f22 := ⟨Try.f40.name, by decide, Try.func40.trans (congrArg some (by kernel_rfl))⟩,
  f23 := ⟨Try.f41.name, by decide, Try.func41.trans (congrArg some (by kernel_rfl))⟩,
  f24 := ⟨Try.f42.name, by decide, Try.func42.trans (congrArg some (by kernel_rfl))⟩,
  f25 := ⟨Try.f43.name, by decide, Try.func43.trans (congrArg some (by kernel_rfl))⟩,
  f26 := ⟨Try.f44.name, by decide, Try.func44.trans (congrArg some (by kernel_rfl))⟩,
  f27 := ⟨Try.f45.name, by decide, Try.func45.trans (congrArg some (by kernel_rfl))⟩,
  f28 := Try.func46.trans (congrArg some (by kernel_rfl)),
  f29 := Try.func47.trans (congrArg some (by kernel_rfl)),
  f46 := ⟨Try.f48.name, by decide, Try.func48.trans (congrArg some (by kernel_rfl))⟩,
  f47 := Try.func49.trans (congrArg some (by kernel_rfl)),
  f48 := Try.func50.trans (congrArg some (by kernel_rfl)),
  f49 := ⟨Try.f51.name, by decide, Try.func51.trans (congrArg some (by kernel_rfl))⟩,
  f50 := ⟨Try.f52.name, by decide, Try.func52.trans (congrArg some (by kernel_rfl))⟩,
  f57 := ⟨Try.f53.name, by decide, Try.func53.trans (congrArg some (by kernel_rfl))⟩,
  t0 := Try.underlying0,
  a0 := Try.isAgg0,
  z0 := Try.sizeOf0,
  v0 := Try.zeroValue0,
  t3 := Try.underlying3,
  a3 := Try.isAgg3,
  z3 := Try.sizeOf3,
  v3 := Try.zeroValue3,
  t4 := Try.underlying4,
  a4 := Try.isAgg4,
  z4 := Try.sizeOf4,
  v4 := Try.zeroValue4,
  t5 := Try.underlying5,
  a5 := Try.isAgg5,
  z5 := Try.sizeOf5,
  v5 := Try.zeroValue5,
  t9 := Try.underlying9,
  a9 := Try.isAgg9,
  z9 := Try.sizeOf9,
  v9 := Try.zeroValue9,
  t22 := Try.underlying26,
  a22 := Try.isAgg26,
  z22 := Try.sizeOf26,
  v22 := Try.zeroValue26,
  a24 := Try.isAgg3,
  z24 := Try.sizeOf3,
  t25 := Try.underlying48,
  a25 := Try.isAgg48,
  z25 := Try.sizeOf48,
  v25 := Try.zeroValue48,
  t39 := Try.underlying57,
  a39 := Try.isAgg57,
  z39 := Try.sizeOf57,
  v39 := Try.zeroValue57,
  t45 := Try.underlying61,
  a45 := Try.isAgg61,
  z45 := Try.sizeOf61,
  v45 := Try.zeroValue61,
  t46 := Try.underlying62,
  a46 := Try.isAgg62,
  z46 := Try.sizeOf62,
  v46 := Try.zeroValue62,
  t50 := Try.underlying66,
  a50 := Try.isAgg66,
  z50 := Try.sizeOf66,
  v50 := Try.zeroValue66,
  t53 := Try.underlying69,
  a53 := Try.isAgg69,
  z53 := Try.sizeOf69,
  v53 := Try.zeroValue69,
  t55 := Try.underlying71,
  a55 := Try.isAgg71,
  z55 := Try.sizeOf71,
  v55 := Try.zeroValue71,
  t66 := Try.underlying72,
  a66 := Try.isAgg72,
  z66 := Try.sizeOf72,
  v66 := Try.zeroValue72,
  t70 := Try.underlying76,
  a70 := Try.isAgg76,
  z70 := Try.sizeOf76,
  v70 := Try.zeroValue76,
  t76 := Try.underlying78,
  a76 := Try.isAgg78,
  z76 := Try.sizeOf78,
  v76 := Try.zeroValue78,
  t77 := Try.underlying79,
  a77 := Try.isAgg79,
  z77 := Try.sizeOf79,
  v77 := Try.zeroValue79 }
/-! ### The sort's world as a state -/
theorem Q.St.grown {w w' : World} (h : Q.St w (foots []) [] w') : ∃ q os, w' = grow (w.drewN q) os := by
  refine ⟨w'.drawn - w.drawn, w'.heap.extract w.heap.size w'.heap.size, ?_⟩
  have hh : w'.heap = w.heap ++ w'.heap.extract w.heap.size w'.heap.size := by
    apply Array.ext_getElem?
    intro k
    by_cases hk : k < w.heap.size
    · rw [Array.getElem?_append_left hk, h.old k hk (not_foots_nil k)]
    · rw [Array.getElem?_append_right (by omega)]
      have hs := h.size
      by_cases h2 : k < w'.heap.size
      · rw [Array.getElem?_extract]
        rw [if_pos (by omega)]
        congr 1
        omega
      · rw [Array.getElem?_eq_none (by omega), Array.getElem?_eq_none (by simp; omega)]
  have hd : w'.drawn = w.drawn + (w'.drawn - w.drawn) := by have := h.fwd; omega
  show w' = { w with heap := w.heap ++ _, drawn := w.drawn + (w'.drawn - w.drawn) }
  rw [← hh, ← hd, ← h.os, ← h.tape, ← h.output]
/-- Nodes by their places. -/
abbrev Ix (L : List PN) := { x : Int // 0 ≤ x ∧ x < L.length }
abbrev encX (L : List PN) : Ix L → Value := fun a => .int .i64 a.1
section
variable {L : List PN} [Inhabited (Ix L)] {w : World} {gb n : Nat} {d : Array (Ix L)} {os : Array Obj} {cur : Array Value} {t : TypeId}
theorem sort_heap (k : Nat) (hk : k < w.heap.size) (hne : k ≠ gb) : (sortWorld (encX L) w gb 0 n d os).heap[k]? = w.heap[k]? := by
  unfold sortWorld
  rw [heap_grow_old _ _ (by rw [size_putRow]; exact hk)]
  show (w.heap.modify gb _)[k]? = _
  rw [Array.getElem?_modify, if_neg (Ne.symm hne)]
theorem sort_cell {b o : Nat} {v : Value} (hc : w.cell? ⟨b, o, none⟩ = some v) (hne : b ≠ gb) : (sortWorld (encX L) w gb 0 n d os).cell? ⟨b, o, none⟩ = some v :=
  (World.cell?_of_block (sort_heap b (cell_lt hc) hne)).trans hc
theorem sort_cells {b o : Nat} {us : List Value} (hc : CellsAt w b o us) (hne : b ≠ gb) : CellsAt (sortWorld (encX L) w gb 0 n d os) b o us := fun j u hj => sort_cell (hc j u hj) hne
theorem sort_own (hh : w.heap[gb]? = some (.cells cur t (0, 0))) : (sortWorld (encX L) w gb 0 n d os).heap[gb]? = some (.cells (putCells (encX L) 0 d cur) t (0, 0)) := by
  have hlt : gb < w.heap.size := (Array.getElem?_eq_some_iff.1 hh).1
  unfold sortWorld
  rw [heap_grow_old _ _ (by rw [size_putRow]; exact hlt)]
  show (w.heap.modify gb _)[gb]? = _
  rw [Array.getElem?_modify, if_pos rfl, hh]
  rfl
theorem put_take (hs : d.size ≤ cur.size) : (putCells (encX L) 0 d cur).toList.take d.size = d.toList.map (encX L) := by
  apply List.ext_getElem?
  intro k
  rw [List.getElem?_take, List.getElem?_map]
  by_cases hk : k < d.size
  · rw [if_pos hk, Array.getElem?_toList, Array.getElem?_toList]
    unfold putCells
    rw [Array.getElem?_mapIdx, Array.getElem?_eq_getElem (xs := cur) (by omega), Array.getElem?_eq_getElem (xs := d) hk, Option.map_some, if_pos ⟨Nat.zero_le _, by omega⟩, Nat.sub_zero, getElem!_pos d k hk, Option.map_some]
  · rw [if_neg hk, Array.getElem?_toList, Array.getElem?_eq_none (by omega)]; rfl
end
theorem nodupLen : ∀ {l m : List Int}, l.Nodup → (∀ x ∈ l, x ∈ m) → l.length ≤ m.length
  | [], _, _, _ => Nat.zero_le _
  | x :: l, m, hn, h => by
    rw [List.nodup_cons] at hn
    have hx := h x (by simp)
    have h1 := nodupLen (l := l) (m := m.erase x) hn.2 fun y hy => (List.mem_erase_of_ne (fun e => hn.1 (by rw [← e]; exact hy))).2 (h y (by simp [hy]))
    have h2 := List.length_erase_of_mem hx
    have h3 := List.length_pos_of_mem hx
    simp only [List.length_cons]
    omega
theorem memlen_le {L : List PN} {l : List Int} (hl : ∀ x ∈ l, 0 ≤ x ∧ x < L.length) (hn : l.Nodup) : l.length ≤ L.length := by
  have h1 := nodupLen (l := l) (m := (List.range L.length).map fun i : Nat => (i : Int)) hn fun x hx => by
    have := hl x hx
    exact List.mem_map.2 ⟨x.toNat, List.mem_range.2 (by omega), by omega⟩
  simpa using h1
set_option maxHeartbeats 1000000 in
theorem sort_ct (gb cap : Nat) (A : Option Addr) (c : Nat) (L : List PN) (hL : L.length ≤ 1000) (mb : Option Nat) (pb lb : Nat) (l : List Int) (hl : ∀ x ∈ l, 0 ≤ x ∧ x < L.length) (hn : l.Nodup) (h0 : 0 < l.length) :
    Ct Try.prog 28 #[.slice (some ⟨gb, 0, none⟩) l.length cap, .func (.func 24) #[] #[.pointer (some ⟨pb, 0, none⟩), .pointer (some ⟨lb, 0, none⟩)]] [intsI (some ⟨gb, 0, none⟩) cap l]
      (fun w => (RdN w A L ∧ CellsAt w pb 0 [.slice A L.length c, .map mb] ∧ CellsAt w lb 0 [.slice A L.length c]) ∧ (∀ b o, A = some ⟨b, o, none⟩ → b ≠ gb) ∧ pb ≠ gb ∧ lb ≠ gb) (X := Unit) (fun _ => .tuple #[]) (fun _ => True) (fun _ => [intsI (some ⟨gb, 0, none⟩) cap (soF L l)]) := by
  intro w h1 _ ⟨⟨hz, hp, hlb⟩, hA, hpb, hlbn⟩
  have hrow : w.ownsRow 0 3 1 (.slice (some ⟨gb, 0, none⟩) l.length cap) l.length (l.map (Value.int .i64)) := h1 _ (List.mem_singleton_self _)
  obtain ⟨hlen, h2⟩ := hrow
  rcases h2 with ⟨hv, _⟩ | ⟨g, cap', cur, hv, hb, hh, hnc, hm, hsz, htake⟩
  · cases hv
  injection hv with e1 e2 e3
  injection e1 with e1
  injection e1 with e1
  subst e1 e3
  obtain ⟨x0, hx0⟩ : ∃ x0, x0 ∈ l := ⟨l[0], List.getElem_mem h0⟩
  haveI : Inhabited (Ix L) := ⟨⟨x0, hl x0 hx0⟩⟩
  let dl : List (Ix L) := l.attach.map fun x => ⟨x.1, hl x.1 x.2⟩
  have hdl : dl.map (·.1) = l := by
    simp [dl, List.map_map, Function.comp_def]
  have hds : dl.toArray.size = l.length := by simp [dl]
  have henc : dl.map (encX L) = l.map (Value.int .i64) := by
    have h := congrArg (List.map (Value.int .i64)) hdl
    rw [List.map_map] at h
    exact h
  have hlt : gb < w.heap.size := (Array.getElem?_eq_some_iff.1 hh).1
  have hH : Holds (encX L) w gb 0 dl.toArray := fun j hj => by
    have hj' : j < l.length := by rw [← hds]; exact hj
    refine ⟨?_, by rw [Nat.zero_add]; exact frozen_of_row w gb j cur _ hh⟩
    rw [Nat.zero_add, cell_of_row w gb j cur _ (0, 0) hh]
    have h3 := congrArg (·[j]?) htake
    simp only [← henc, List.getElem?_map] at h3
    rw [List.getElem?_take, if_pos (by omega), Array.getElem?_toList] at h3
    rw [h3, List.getElem?_eq_getElem (by simpa using hj), getElem!_pos dl.toArray j hj]
    rfl
  have hcmp : CmpLays1 Try.prog 24 #[.pointer (some ⟨pb, 0, none⟩), .pointer (some ⟨lb, 0, none⟩)] (encX L) (fun a b => cmpP L a.1 b.1) gb 0 dl.toArray.size w := fun m os dk _ x y => by
    have hc := Q.cmp_ct A c L mb pb lb x.1 y.1 x.2.1 x.2.2 y.2.1 y.2.2 hL (sortWorld (encX L) w gb 0 m dk os) (by simp) List.Pairwise.nil ⟨fun k z hk => by
      obtain ⟨b, o, e, hc⟩ := hz k z hk
      exact ⟨b, o, e, sort_cells hc (hA b o e)⟩, sort_cells hp hpb, sort_cells hlb hlbn⟩
    refine hc.mono ?_
    rintro e w' ⟨_, rfl, _, hs⟩
    exact ⟨rfl, hs.grown⟩
  have hlt' : ∀ a b : Ix L, ltOf (fun a b : Ix L => cmpP L a.1 b.1) a b = decide (ltP L a.1 b.1) := fun a b => by
    unfold ltOf
    exact decide_eq_decide.2 (cmpP_lt L a.1 b.1)
  have hO : SWO (ltOf (fun a b : Ix L => cmpP L a.1 b.1)) := {
    irrefl := fun x => by rw [hlt']; simpa using ltP_irr x.1
    trans := fun x y z h1 h2 => by
      rw [hlt'] at *
      simp only [decide_eq_true_eq] at *
      exact ltP_trans h1 h2
    ntrans := fun x y z h1 h2 => by
      rw [hlt'] at *
      simp only [decide_eq_false_iff_not] at *
      intro h3
      rcases ltP_tri (L := L) x.1 y.1 with h | h | h
      · exact h1 h
      · rw [h] at h3; exact h2 h3
      · exact h2 (ltP_trans h h3) }
  have hcon := Any.slices_SortFunc sortL (encX L) (fun _ => rfl) (fun a b => cmpP L a.1 b.1) hO 24 #[.pointer (some ⟨pb, 0, none⟩), .pointer (some ⟨lb, 0, none⟩)] gb 0 cap dl.toArray w Try.call24 hcmp hH hlt (by have := memlen_le hl hn; omega)
  rw [hds] at hcon
  change Calls Try.prog 28 _ _ _ at hcon
  refine hcon.mono ?_
  rintro e w' ⟨rfl, d', n, os, hperm, hsort, rfl⟩
  obtain ⟨p1, _, p3⟩ := hperm
  have hd's : d'.size = l.length := by rw [p1, hds]
  have hpl : (d'.toList.map (·.1)).Perm l := by
    have h4 : (d'.extract 0 l.length).toList.Perm (dl.toArray.extract 0 l.length).toList := p3
    rw [show d'.extract 0 l.length = d' by rw [← hd's]; simp, show dl.toArray.extract 0 l.length = dl.toArray by rw [← hds]; simp] at h4
    rw [← hdl]
    exact h4.map _
  have hres : d'.toList.map (·.1) = soF L l := by
    refine soF_is hn hpl ?_
    rw [List.pairwise_iff_getElem]
    intro i j hi hj hij
    have hi' : i < d'.size := by simpa using hi
    have hj' : j < d'.size := by simpa using hj
    have h5 := hsort i j (Nat.zero_le _) hij (by omega)
    rw [hlt', getElem!_pos d' i hi', getElem!_pos d' j hj'] at h5
    simp only [decide_eq_false_iff_not] at h5
    rw [List.getElem_map, List.getElem_map, Array.getElem_toList, Array.getElem_toList]
    rcases ltP_tri (L := L) d'[i].1 d'[j].1 with h | h | h
    · exact h
    · exfalso
      have h6 := (List.nodup_iff_pairwise_ne.1 (hpl.nodup_iff.2 hn))
      rw [List.pairwise_iff_getElem] at h6
      exact h6 i j hi hj hij (by simpa using h)
    · exact absurd h h5
  refine ⟨(), rfl, trivial, ⟨rfl, rfl, rfl, by unfold sortWorld; rw [size_grow, size_putRow]; exact Nat.le_add_right _ _, fun b hb hne => sort_heap b hb (fun e => hne ⟨_, List.mem_singleton_self _, _, rfl, e⟩), ?_, List.pairwise_singleton _ _, ?_⟩⟩
  · intro i hi
    obtain rfl : i = _ := by simpa using hi
    have hl2 : (soF L l).length = l.length := (soF_perm l).length_eq
    refine ⟨by simp, .inr ⟨gb, cap, _, rfl, Nat.zero_le _, sort_own hh, by omega, hm, by unfold putCells; rw [Array.size_mapIdx]; exact hsz, ?_⟩⟩
    rw [Nat.mul_one, hl2, ← hd's, put_take (by omega), ← hres, List.map_map]
    rfl
  · intro i hi b hb
    obtain rfl : i = _ := by simpa using hi
    exact .inr ⟨_, List.mem_singleton_self _, hb⟩
end Go.Proofs.Ytmjdmlgdffoimab
