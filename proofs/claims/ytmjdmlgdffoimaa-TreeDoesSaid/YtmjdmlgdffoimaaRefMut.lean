/- What turns the document's tree: Set, Remove. -/
import Derived.Test.YtmjdmlgdffoimaaRefIns
import Derived.Test.YtmjdmlgdffoimaaRecRef
import Derived.Test.YtmjdmlgdffoimaaTreeMov
import Derived.Test.YtmjdmlgdffoimaaTreeFact
namespace Go.Proofs.Ytmjdmlgdffoimaa
open Go.RowKit

section
variable {w0 w : World} {M : Nat → Prop} {σ F : List HI} {i rp g bc n : Nat} {bs : List RB}
theorem St.rowAt (h : St w0 M σ w) (hi : σ[i]? = some (.row 74 58 (some ⟨g, 0, none⟩) n bc (cellsB bs))) (hk : ROk bs) {j : Nat} {b : RB} (hb : bs[j]? = some b) (o : Nat) {us : List Value} (hu : (b.cells.drop o).take us.length = us) : CellsAt w g (0 + j * 58 + o) us := by
  refine h.row_at hi _ fun k u hj => ?_
  rw [show 0 + j * 58 + o + k = j * 58 + (o + k) by omega]
  refine cellsB_get hk hb ?_
  have h3 := congrArg (·[k]?) hu
  simp only [hj] at h3
  rw [List.getElem?_take] at h3
  split at h3
  · rw [List.getElem?_drop] at h3; exact h3
  · cases h3
theorem St.rowsAt (h : St w0 M σ w) (hi : σ[i]? = some (rowsI bs)) {j : Nat} {b : RB} (hb : bs[j]? = some b) : RdI w b.A b.kids ∧ b.kids.length ≤ b.c ∧ Src w b.A b.kids.length (b.kids.map (Value.int .i64)) :=
  kids_rd ((h.all _ (List.mem_of_getElem? hi)).2.1 b.row (List.mem_map.2 ⟨b, List.mem_of_getElem? hb, rfl⟩))
theorem St.shutSet {j : Nat} {b' : RB} (h : St w0 M (.cl rp 77 [.slice (some ⟨g, 0, none⟩) bs.length bc] :: .row 74 58 (some ⟨g, 0, none⟩) bs.length bc (cellsB (bs.set j b')) :: rowsI (bs.set j b') :: F) w) : St w0 M (refI rp g bc (bs.set j b') :: F) w := by
  refine St.shutF ?_
  rw [List.length_set]
  exact h
theorem rows_same {j : Nat} {b b' : RB} (hb : bs[j]? = some b) (e : b'.row = b.row) : rowsI (bs.set j b') = rowsI bs := by
  unfold rowsI
  congr 1
  apply List.ext_getElem?
  intro k
  rw [List.getElem?_map, List.getElem?_map, List.getElem?_set]
  split
  · rename_i h
    subst h
    rw [if_pos (List.getElem?_eq_some_iff.1 hb).1, hb]
    simp [e]
  · rfl
end
theorem setL_tail (a b c : Value) (s s' : List Value) (h : s'.length = s.length) : setL (a :: b :: c :: s) 3 s' = a :: b :: c :: s' := by
  rw [setL_eq _ _ _ (by simp only [List.length_cons]; omega)]
  simp [h]
  omega
theorem absR_sty {bs : List RB} {i : Nat} {b : RB} (hb : bs[i]? = some b) (hl : b.live = true) {s : List Value} : absR (bs.set i ⟨b.live, b.up, b.A, b.c, b.kids, s⟩) = setG (absR bs) i s := by
  funext y
  rw [absR_set (List.getElem?_eq_some_iff.1 hb).1, setG, absR_at hb hl, hl]
  rfl
set_option maxRecDepth 100000 in
set_option maxHeartbeats 1000000 in
theorem rset_ct (rp g bc : Nat) (bs : List RB) (hk : ROk bs) (x : Int) (sty : List Value) (hs : SOk sty) :
    Ct Try.prog 36 #[.pointer (some ⟨rp, 0, none⟩), .int .i64 x, .agg sty.toArray] [refI rp g bc bs] (fun _ => True) (X := List RB) (fun _ => .int .i64 (setR validB (absR bs) x sty).2) (fun bs' => absR bs' = (setR validB (absR bs) x sty).1 ∧ ROk bs') (fun bs' => [refI rp g bc bs']) := by
  refine Ct.intro Try.func36 rfl Try.ntmps36 (by simp) (fun w0 _ => ?_)
  refine WP.seq ?_
  refine WP.region ?_
  refine WPL.ef (x_boxA (us := sty) (σ' := fun _ => [_, _]) rfl (fun _ => rfl)) (fun b5 => ?_)
  refine WPL.val (v_assign (v := .int .i64 (0)) rfl) ?_
  refine WPL.nil (onto_of ?_)
  refine WP.seq ?_
  refine WP.seq ?_
  refine WP.region ?_
  refine WPL.val (v_move (v := .pointer _) rfl) ?_
  refine WPL.val (v_move (v := .int .i64 _) rfl) ?_
  refine WPL.ef (x_call Try.call15 (rhas_ct rp g bc bs hk x) [0] [1] rfl (fun w hw => trivial) (τ := fun _ => [_, _]) (fun _ => rfl)) (fun _ => ?_)
  refine WPL.fact (fun _ => ?_)
  refine WPL.val (v_not rfl) ?_
  refine WPL.nil (onto_of ?_)
  refine WP.cond rfl (fun h11 => ?_) (fun h11 => ?_)
  ·
    simp only [Bool.not_eq_true', Bool.not_eq_false'] at h11
    have hr : setR validB (absR bs) x sty = (absR bs, 2) := by simp [setR, h11]
    refine WP.seq ?_
    refine WP.region ?_
    refine WPL.val (v_assign (v := .int .i64 (2)) rfl) ?_
    refine WPL.nil (onto_of ?_)
    exact WP.ret1 Try.results36 (fun _ h => h) (fun w hw => ⟨bs, congrArg (Value.int .i64) (by rw [hr]), ⟨by rw [hr], hk⟩, (hw.sel [1] (by decide))⟩)
  ·
    refine WP.skip (onto_of ?_)
    refine WP.seq ?_
    refine WP.region ?_
    refine WPL.val (v_loadA (cs := sty) Try.isAgg43 Try.sizeOf43 rfl (fun w hw => hw.cl_at (i := 0) rfl 0 (whole _)) hs.len) ?_
    refine WPL.ef (x_call Try.call50 (rvalid_ct sty hs) [] [0, 1] rfl (fun w hw => trivial) (τ := fun _ => [_, _]) (fun _ => rfl)) (fun _ => ?_)
    refine WPL.fact (fun _ => ?_)
    refine WPL.val (v_assign (v := .bool _) rfl) ?_
    refine WPL.nil (onto_of ?_)
    refine WP.seq ?_
    refine WP.seq ?_
    refine WP.region ?_
    refine WPL.val (v_move (v := .bool _) rfl) ?_
    refine WPL.val (v_not rfl) ?_
    refine WPL.nil (onto_of ?_)
    refine WP.cond rfl (fun h15 => ?_) (fun h15 => ?_)
    ·
      simp only [Bool.not_eq_true', Bool.not_eq_false'] at h11 h15
      have hr : setR validB (absR bs) x sty = (absR bs, 1) := by simp [setR, h11, h15]
      refine WP.seq ?_
      refine WP.region ?_
      refine WPL.val (v_assign (v := .int .i64 (1)) rfl) ?_
      refine WPL.nil (onto_of ?_)
      exact WP.ret1 Try.results36 (fun _ h => h) (fun w hw => ⟨bs, congrArg (Value.int .i64) (by rw [hr]), ⟨by rw [hr], hk⟩, (hw.sel [1] (by decide))⟩)
    ·
      simp only [Bool.not_eq_true', Bool.not_eq_false'] at h11 h15
      have hr : setR validB (absR bs) x sty = (setG (absR bs) x sty, 0) := by simp [setR, h11, h15]
      obtain ⟨i, b, rfl, hb, hl⟩ := absR_has h11
      have hib := (List.getElem?_eq_some_iff.1 hb).1
      refine WP.skip (onto_of ?_)
      refine WP.seq ?_
      refine WP.pre ?_ (fun w hw => St.openF (hw.sel [1, 0] (by decide)))
      
      refine WP.drawS (some 8) [(0, true), (1, true), (2, true), (3, true), (4, true), (5, true), (6, false), (7, true), (8, false)] mixed (by kernel_rfl) (by decide) (fun _ h => h.drawn) ?_
      refine WPD.take rfl (v_move (v := .pointer _) rfl) ?_ (fun _ h => h)
      refine WPD.take rfl (v_nil rfl) ?_ (fun _ h => h)
      refine WPD.take rfl (v_fieldL (o' := 0) Try.underlying77 rfl Try.sizeOf75 rfl rfl) ?_ (fun _ h => h)
      refine WPD.take rfl (v_load1 (u := .slice _ _ _) Try.isAgg75 rfl (fun w hw => hw.cl_at (i := 0) rfl _ rfl)) ?_ (fun _ h => h)
      refine WPD.take rfl (v_move (v := .int .i64 _) rfl) ?_ (fun _ h => h)
      refine WPD.take rfl (v_loadA (cs := sty) Try.isAgg43 Try.sizeOf43 rfl (fun w hw => hw.cl_at (i := 3) rfl 0 (whole _)) hs.len) ?_ (fun _ h => h)
      refine WPD.val rfl (v_index (j := i) Try.underlying75 Try.sizeOf74 rfl rfl rfl (by omega)) (fun _ h => h) ?_
      refine WPD.take rfl (v_field (off := 3) Try.underlying74 rfl Try.sizeOf43 rfl) ?_ (fun _ h => h)
      refine WPD.ef0 rfl (x_storeRowA (us := sty) (o := 0 + i * 58 + 3) (σ' := [_, _, _, _]) Try.sizeOf43 rfl rfl (i := 1) rfl (by rw [cellsB_len hk, hs.len]; omega) (by rw [show 0 + i * 58 + 3 = i * 58 + 3 by omega, cellsB_set hk hb (b' := (⟨b.live, b.up, b.A, b.c, b.kids, sty⟩ : RB)) (by rw [hs.len]; decide) (setL_tail _ _ _ _ _ (by rw [hs.len, (hk.get hb).len]))]; rfl) hs.one hs.len) (fun h => absurd rfl h) (fun _ => ?_)
      refine WPD.nil (onto_of ?_)
      refine WP.seq ?_
      refine WP.region ?_
      refine WPL.val (v_assign (v := .int .i64 (0)) rfl) ?_
      refine WPL.nil (onto_of ?_)
      exact WP.ret1 Try.results36 (fun _ h => h) (fun w hw => ⟨bs.set i (⟨b.live, b.up, b.A, b.c, b.kids, sty⟩ : RB), congrArg (Value.int .i64) (by rw [hr]), ⟨by rw [hr]; exact absR_sty hb hl, hk.set i hs⟩, St.shutSet (by rw [rows_same (b' := (⟨b.live, b.up, b.A, b.c, b.kids, sty⟩ : RB)) hb rfl]; exact (hw.sel [0, 1, 2] (by decide)))⟩)
def zapL (bs : List RB) (l : List Int) : List RB := l.foldl (fun bs x => bs.set x.toNat zeroRB) bs
theorem zapL_snoc (bs : List RB) {l : List Int} {k : Nat} {x : Int} (h : l[k]? = some x) : zapL bs (l.take (k + 1)) = (zapL bs (l.take k)).set x.toNat zeroRB := by
  rw [take_snoc h]; simp [zapL]
theorem zapL_ok : ∀ (l : List Int) {bs : List RB}, ROk bs → (∀ x ∈ l, 0 ≤ x ∧ x < bs.length) → ROk (zapL bs l) ∧ (zapL bs l).length = bs.length ∧ ∀ y, absR (zapL bs l) y = if y ∈ l then none else absR bs y
  | [], bs, h, _ => ⟨h, rfl, fun y => by simp [zapL]⟩
  | x :: l, bs, h, hr => by
    have hx := hr x (by simp)
    obtain ⟨h1, h2, h3⟩ := zapL_ok l (bs := bs.set x.toNat zeroRB) (h.set _ zeroS_ok) (fun y hy => by rw [List.length_set]; exact hr y (by simp [hy]))
    refine ⟨h1, by rw [show zapL bs (x :: l) = zapL (bs.set x.toNat zeroRB) l from rfl, h2, List.length_set], fun y => ?_⟩
    rw [show zapL bs (x :: l) = zapL (bs.set x.toNat zeroRB) l from rfl, h3, absR_set (by omega), show ((x.toNat : Nat) : Int) = x by omega]
    by_cases e1 : y ∈ l <;> by_cases e2 : y = x <;> simp [e1, e2, zeroRB]
theorem absR_some {bs : List RB} {x : Int} {t : TBox (List Value)} (h : absR bs x = some t) : ∃ (i : Nat) (b : RB), x = i ∧ bs[i]? = some b ∧ b.live = true ∧ t = ⟨b.up, b.kids, b.sty⟩ := by
  obtain ⟨i, b, rfl, hb, hl⟩ := absR_has (has_some h)
  rw [absR_at hb hl] at h
  exact ⟨i, b, rfl, hb, hl, (Option.some.inj h).symm⟩
theorem WF.rparent {bs : List RB} {d : Int → Nat} (hF : WF (absR bs) d) {i : Nat} {b : RB} (hb : bs[i]? = some b) (hl : b.live = true) (h0 : (i : Int) ≠ 0) : ∃ (u : Nat) (p : RB), b.up = u ∧ bs[u]? = some p ∧ p.live = true ∧ (i : Int) ∈ p.kids ∧ p.kids.Nodup ∧ u ≠ i := by
  have hbb := absR_at hb hl
  obtain ⟨t, h1, h2⟩ := hF.par i _ hbb h0
  obtain ⟨u, p, hu, hp, hpl, rfl⟩ := absR_some h1
  refine ⟨u, p, hu, hp, hpl, h2, hF.nodup _ _ h1, fun e => ?_⟩
  have h3 : d i = d b.up + 1 := hF.rank i _ hbb h0
  have hu2 : b.up = u := hu
  rw [hu2, e] at h3
  omega
def cutB (p : RB) (A : Option Addr) (c : Nat) (x : Int) : RB := ⟨p.live, p.up, A, c, cutK p.kids x, p.sty⟩
theorem absR_cut {bs : List RB} {u : Nat} {p : RB} (hp : bs[u]? = some p) (hl : p.live = true) (A : Option Addr) (c : Nat) (x y : Int) : absR (bs.set u (cutB p A c x)) y = if y = u then some ⟨p.up, cutK p.kids x, p.sty⟩ else absR bs y := by
  rw [absR_set (List.getElem?_eq_some_iff.1 hp).1]
  simp [cutB, hl]
theorem absR_rem {bs : List RB} (hk : ROk bs) {i u : Nat} {b p : RB} (hb : bs[i]? = some b) (hl : b.live = true) (hu : b.up = u) (hp : bs[u]? = some p) (hpl : p.live = true) (A : Option Addr) (c : Nat) : absR (zapL (bs.set u (cutB p A c i)) (sub (absR bs) i)) = remG (absR bs) i := by
  have hrange : ∀ x ∈ sub (absR bs) i, 0 ≤ x ∧ x < (bs.set u (cutB p A c i)).length := fun x hx => by
    obtain ⟨j, c, rfl, hj, _⟩ := absR_has (sub_has hx)
    have := (List.getElem?_eq_some_iff.1 hj).1
    rw [List.length_set]; omega
  funext y
  rw [(zapL_ok _ (hk.set u (b' := cutB p A c i) (show SOk p.sty from hk.get hp)) hrange).2.2, remG]
  split
  · rfl
  · rw [absR_cut hp hpl, up_some (absR_at hb hl)]
    show _ = Option.map (fun t => if y = b.up then _ else t) _
    rw [hu]
    by_cases hy : y = u
    · subst hy; rw [if_pos rfl, absR_at hp hpl]; simp
    · rw [if_neg hy]; simp only [if_neg hy]; cases absR bs y <;> rfl
set_option maxRecDepth 100000 in
set_option maxHeartbeats 2000000 in
theorem rremove_ct (rp g bc : Nat) (bs : List RB) (hk : ROk bs) {d : Int → Nat} (hF : WF (absR bs) d) (x : Int) :
    Ct Try.prog 34 #[.pointer (some ⟨rp, 0, none⟩), .int .i64 x] [refI rp g bc bs] (fun _ => True) (X := List RB) (fun _ => .tuple #[.int .i64 (remR (absR bs) x).2.1, .int .i64 (remR (absR bs) x).2.2]) (fun bs' => absR bs' = (remR (absR bs) x).1 ∧ ROk bs') (fun bs' => [refI rp g bc bs']) := by
  have hsl := hF.len_le x
  refine Ct.intro Try.func34 rfl Try.ntmps34 (by simp) (fun w0 _ => ?_)
  refine WP.seq ?_
  refine WP.region ?_
  refine WPL.val (v_assign (v := .int .i64 (0)) rfl) ?_
  refine WPL.val (v_assign (v := .int .i64 (0)) rfl) ?_
  refine WPL.nil (onto_of ?_)
  refine WP.seq ?_
  refine WP.seq ?_
  refine WP.region ?_
  refine WPL.val (v_move (v := .pointer _) rfl) ?_
  refine WPL.val (v_move (v := .int .i64 _) rfl) ?_
  refine WPL.ef (x_call Try.call15 (rhas_ct rp g bc bs hk x) [0] [] rfl (fun w hw => trivial) (τ := fun _ => [_]) (fun _ => rfl)) (fun _ => ?_)
  refine WPL.fact (fun _ => ?_)
  refine WPL.val (v_not rfl) ?_
  refine WPL.nil (onto_of ?_)
  refine WP.cond rfl (fun h12 => ?_) (fun h12 => ?_)
  ·
    have hno : hasF (absR bs) x = false := by simpa using h12
    have hr : remR (absR bs) x = (absR bs, 0, 2) := by rw [remR, if_pos hno]
    refine WP.seq ?_
    refine WP.region ?_
    refine WPL.val (v_assign (v := .int .i64 (0)) rfl) ?_
    refine WPL.val (v_assign (v := .int .i64 (2)) rfl) ?_
    refine WPL.nil (onto_of ?_)
    exact WP.ret2 Try.results34 (fun _ h => h) (fun w hw => ⟨bs, by rw [hr]; rfl, ⟨by rw [hr], hk⟩, (hw.sel [0] (by decide))⟩)
  ·
    refine WP.skip (onto_of ?_)
    refine WP.seq ?_
    refine WP.seq ?_
    refine WP.region ?_
    refine WPL.val (v_move (v := .int .i64 _) rfl) ?_
    refine WPL.val (v_eql rfl rfl) ?_
    refine WPL.nil (onto_of ?_)
    refine WP.condP rfl (fun h14 => ?_) (fun h14 => ?_)
    ·
      have hyes : hasF (absR bs) x = true := by simpa using h12
      have hr : remR (absR bs) x = (absR bs, 0, 1) := by rw [remR, if_neg (by simp [hyes]), if_pos h14]
      refine WP.seq ?_
      refine WP.region ?_
      refine WPL.val (v_assign (v := .int .i64 (0)) rfl) ?_
      refine WPL.val (v_assign (v := .int .i64 (1)) rfl) ?_
      refine WPL.nil (onto_of ?_)
      exact WP.ret2 Try.results34 (fun _ h => h) (fun w hw => ⟨bs, by rw [hr]; rfl, ⟨by rw [hr], hk⟩, (hw.sel [0] (by decide))⟩)
    ·
      have hyes : hasF (absR bs) x = true := by simpa using h12
      have hr : remR (absR bs) x = (remG (absR bs) x, ((sub (absR bs) x).length : Int), 0) := by rw [remR, if_neg (by simp [hyes]), if_neg h14]
      obtain ⟨i, b, rfl, hb, hl⟩ := absR_has hyes
      have hib := (List.getElem?_eq_some_iff.1 hb).1
      obtain ⟨u, p, hu, hp, hpl, hm, hn, hui⟩ := hF.rparent hb hl h14
      have hub := (List.getElem?_eq_some_iff.1 hp).1
      have hpk : p.kids.length ≤ 4096 := hF.kids_le (absR_at hp hpl)
      have hrange0 : ∀ x ∈ sub (absR bs) (i : Int), 0 ≤ x ∧ x < bs.length := fun x hx => by
        obtain ⟨j, c, rfl, hj, _⟩ := absR_has (sub_has hx)
        have := (List.getElem?_eq_some_iff.1 hj).1
        omega
      refine WP.skip (onto_of ?_)
      refine WP.seq ?_
      refine WP.region ?_
      refine WPL.val (v_move (v := .pointer _) rfl) ?_
      refine WPL.val (v_move (v := .int .i64 _) rfl) ?_
      refine WPL.ef (x_call Try.call25 (rinside_ct rp g bc bs hk hF (i : Int)) [0] [] rfl (fun w hw => trivial) (τ := fun _ => [_, _]) (fun _ => rfl)) (fun ⟨A6, c6⟩ => ?_)
      refine WPL.fact (fun _ => ?_)
      refine WPL.val (v_assign (v := .slice _ _ _) rfl) ?_
      refine WPL.nil (onto_of ?_)
      refine WP.seq ?_
      refine WP.pre ?_ (fun w hw => St.openF (hw.sel [0, 1] (by decide)))
      
      refine WP.region ?_
      refine WPL.val (v_move (v := .pointer _) rfl) ?_
      refine WPL.val (v_nil rfl) ?_
      refine WPL.val (v_fieldL (o' := 0) Try.underlying77 rfl Try.sizeOf75 rfl rfl) ?_
      refine WPL.val (v_load1 (u := .slice _ _ _) Try.isAgg75 rfl (fun w hw => hw.cl_at (i := 0) rfl _ rfl)) ?_
      refine WPL.val (v_move (v := .int .i64 _) rfl) ?_
      refine WPL.val (v_index (j := i) Try.underlying75 Try.sizeOf74 rfl rfl rfl (by omega)) ?_
      refine WPL.val (v_field (off := 1) Try.underlying74 rfl Try.sizeOf3 rfl) ?_
      refine WPL.val (v_load1 (u := .int .i64 _) Try.isAgg3 rfl (fun w hw => hw.rowAt (i := 1) rfl hk hb 1 (us := [.int .i64 b.up]) rfl)) ?_
      rw [hu]
      refine WPL.val (v_assign (v := .int .i64 _) rfl) ?_
      refine WPL.nil (onto_of ?_)
      refine WP.seq ?_
      refine WP.drawSel (some 17) [0, 1, 2, 3] [(0, true), (1, true), (2, true), (3, true), (4, true), (5, true), (6, true), (7, true), (8, true), (9, true), (10, true), (11, true), (12, true), (13, true), (14, false), (15, false), (16, true), (17, false)] mixed (by kernel_rfl) (by decide) ?_
      refine WPD.take rfl (v_move (v := .pointer _) rfl) ?_ (fun _ h => h.sel [0, 1, 2, 3] (by decide))
      refine WPD.take rfl (v_nil rfl) ?_ (fun _ h => h.sel [0, 1, 2, 3] (by decide))
      refine WPD.take rfl (v_fieldL (o' := 0) Try.underlying77 rfl Try.sizeOf75 rfl rfl) ?_ (fun _ h => h.sel [0, 1, 2, 3] (by decide))
      refine WPD.take rfl (v_load1 (u := .slice _ _ _) Try.isAgg75 rfl (fun w hw => hw.cl_at (i := 0) rfl _ rfl)) ?_ (fun _ h => h.sel [0, 1, 2, 3] (by decide))
      refine WPD.take rfl (v_move (v := .int .i64 _) rfl) ?_ (fun _ h => h.sel [0, 1, 2, 3] (by decide))
      refine WPD.take rfl (v_move (v := .pointer _) rfl) ?_ (fun _ h => h.sel [0, 1, 2, 3] (by decide))
      refine WPD.take rfl (v_nil rfl) ?_ (fun _ h => h.sel [0, 1, 2, 3] (by decide))
      refine WPD.take rfl (v_fieldL (o' := 0) Try.underlying77 rfl Try.sizeOf75 rfl rfl) ?_ (fun _ h => h.sel [0, 1, 2, 3] (by decide))
      refine WPD.take rfl (v_load1 (u := .slice _ _ _) Try.isAgg75 rfl (fun w hw => hw.cl_at (i := 0) rfl _ rfl)) ?_ (fun _ h => h.sel [0, 1, 2, 3] (by decide))
      refine WPD.take rfl (v_move (v := .int .i64 _) rfl) ?_ (fun _ h => h.sel [0, 1, 2, 3] (by decide))
      refine WPD.take rfl (v_index (j := u) Try.underlying75 Try.sizeOf74 rfl rfl rfl (by omega)) ?_ (fun _ h => h.sel [0, 1, 2, 3] (by decide))
      refine WPD.take rfl (v_field (off := 2) Try.underlying74 rfl Try.sizeOf50 rfl) ?_ (fun _ h => h.sel [0, 1, 2, 3] (by decide))
      refine WPD.take rfl (v_load1 (u := .slice _ _ _) Try.isAgg50 rfl (fun w hw => hw.rowAt (i := 1) rfl hk hp 2 (us := [.slice p.A p.kids.length p.c]) rfl)) ?_ (fun _ h => h.sel [0, 1, 2, 3] (by decide))
      refine WPD.take rfl (v_move (v := .int .i64 _) rfl) ?_ (fun _ h => h.sel [0, 1, 2, 3] (by decide))
      refine WPD.ef rfl (x_call Try.call48 (without_ct p.A p.c p.kids (i : Int) (by omega)) [] [0, 1, 2, 3] rfl (fun w hw => (hw.rowsAt (i := 2) rfl hp).2.2) (τ := fun _ => [_, _, _, _, _]) (fun _ => rfl)) (fun _ _ _ h => h.2.sel [0, 1, 2, 3] (by decide)) (fun ⟨A40, c40⟩ => ?_)
      refine WPD.fact (fun _ => ?_)
      refine WPD.val rfl (v_index (j := u) Try.underlying75 Try.sizeOf74 rfl rfl rfl (by omega)) (fun _ h => h.sel [0, 1, 2, 3] (by decide)) ?_
      refine WPD.take rfl (v_field (off := 2) Try.underlying74 rfl Try.sizeOf50 rfl) ?_ (fun _ h => h.sel [0, 1, 2, 3] (by decide))
      refine WPD.ef0 rfl (x_storeRow' (u := .slice A40 (cutK p.kids i).length c40) (o := 0 + u * 58 + 2) (xs' := cellsB (bs.set u (cutB p A40 c40 (i : Int)))) (σ' := [_, _, _, _, _]) Try.sizeOf50 rfl rfl (i := 1) rfl (by rw [cellsB_len hk]; omega) (by rw [show 0 + u * 58 + 2 = u * 58 + 2 by omega]; exact cellsB_set hk hp (o := 2) (us := [.slice A40 (cutK p.kids i).length c40]) (by show 2 + 1 ≤ 58; decide) rfl) rfl) (fun h => absurd rfl h) (fun _ => ?_)
      refine WPD.nil (onto_of ?_)
      refine WP.seq ?_
      refine WP.seq ?_
      refine WP.pre ?_ (fun w hw => St.rowSet (b' := (cutB p A40 c40 (i : Int))) hp (hw.sel [2, 4, 0, 1, 3] (by decide)))
      have hk1 : ROk (bs.set u (cutB p A40 c40 (i : Int))) := hk.set u (show SOk p.sty from hk.get hp)
      have hrange : ∀ x ∈ (sub (absR bs) (i : Int)), 0 ≤ x ∧ x < (bs.set u (cutB p A40 c40 (i : Int))).length := fun x hx => by rw [List.length_set]; exact hrange0 x hx
      refine WP.region ?_
      refine WPL.val (v_assign (v := .int .i64 (0)) rfl) ?_
      refine WPL.nil (onto_of ?_)
      refine WP.block ?_
      refine WP.loopK (X := Nat) [0, 6] (fun k => [(8, .int .i64 (k : Int))]) (fun k w => k ≤ (sub (absR bs) (i : Int)).length ∧ St w0 (foots [refI rp g bc bs]) [.cl rp 77 [.slice (some ⟨g, 0, none⟩) bs.length bc], .row 74 58 (some ⟨g, 0, none⟩) bs.length bc (cellsB (zapL (bs.set u (cutB p A40 c40 (i : Int))) ((sub (absR bs) (i : Int)).take k))), rowsI (zapL (bs.set u (cutB p A40 c40 (i : Int))) ((sub (absR bs) (i : Int)).take k)), kidsI A6 (sub (absR bs) (i : Int)).length c6 (sub (absR bs) (i : Int))] w) (fun k => (sub (absR bs) (i : Int)).length - k) 0 ⟨rfl, trivial⟩ (fun w hw => ⟨Nat.zero_le _, (hw.sel [1, 2, 0, 3] (by decide))⟩) (fun k ρ0 => ?_)
      refine WP.fact (fun hkl => ?_)
      refine WP.seq ?_
      refine WP.seq ?_
      refine WP.region ?_
      refine WPL.val (v_move (v := .int .i64 _) rfl) ?_
      refine WPL.val (v_move (v := .slice _ _ _) rfl) ?_
      refine WPL.val (v_len Try.underlying50 rfl) ?_
      refine WPL.val (v_lss rfl rfl) ?_
      refine WPL.nil (onto_of ?_)
      refine WP.condP rfl (fun h46 => ?_) (fun h46 => ?_)
      ·
        obtain ⟨y, hy⟩ : ∃ y, (sub (absR bs) (i : Int))[k]? = some y := ⟨_, List.getElem?_eq_getElem (by omega)⟩
        obtain ⟨j, hyj⟩ : ∃ j : Nat, y = j := ⟨y.toNat, by have := hrange0 y (List.mem_of_getElem? hy); omega⟩
        subst hyj
        have hjr := hrange0 _ (List.mem_of_getElem? hy)
        have hrk : ∀ x ∈ (sub (absR bs) (i : Int)).take k, 0 ≤ x ∧ x < (bs.set u (cutB p A40 c40 (i : Int))).length := fun x hx => hrange x (List.mem_of_mem_take hx)
        obtain ⟨hzk, hzl, _⟩ := zapL_ok ((sub (absR bs) (i : Int)).take k) hk1 hrk
        rw [List.length_set] at hzl
        obtain ⟨bj, hzj⟩ : ∃ bj, (zapL (bs.set u (cutB p A40 c40 (i : Int))) ((sub (absR bs) (i : Int)).take k))[j]? = some bj := ⟨_, List.getElem?_eq_getElem (by omega)⟩
        refine WP.holds (fun w hw => hw.row_pos (i := 3) rfl (by omega)) (fun ⟨lb, hA⟩ => ?_)
        subst hA
        refine WP.skip (onto_of ?_)
        refine WP.seq ?_
        refine WP.block ?_
        refine WP.drawS (some 10) [(0, true), (1, true), (2, true), (3, true), (4, true), (5, true), (6, true), (7, true), (8, true), (9, true), (10, false)] mixed (by kernel_rfl) (by decide) (fun _ h => h.drawn) ?_
        refine WPD.take rfl (v_move (v := .pointer _) rfl) ?_ (fun _ h => h)
        refine WPD.take rfl (v_nil rfl) ?_ (fun _ h => h)
        refine WPD.take rfl (v_fieldL (o' := 0) Try.underlying77 rfl Try.sizeOf75 rfl rfl) ?_ (fun _ h => h)
        refine WPD.take rfl (v_load1 (u := .slice _ _ _) Try.isAgg75 rfl (fun w hw => hw.cl_at (i := 0) rfl _ rfl)) ?_ (fun _ h => h)
        refine WPD.take rfl (v_move (v := .slice _ _ _) rfl) ?_ (fun _ h => h)
        refine WPD.take rfl (v_move (v := .int .i64 _) rfl) ?_ (fun _ h => h)
        refine WPD.take rfl (v_index (j := k) Try.underlying50 Try.sizeOf3 rfl rfl rfl (by omega)) ?_ (fun _ h => h)
        refine WPD.take rfl (v_load1 (u := .int .i64 _) Try.isAgg3 rfl (fun w hw => hw.row_at1 (i := 3) rfl (by rw [List.getElem?_map, hy]; rfl) (by omega))) ?_ (fun _ h => h)
        refine WPD.take rfl (v_struct (parts := []) (us := zeroRB.cells) (pl := [(0, 1), (1, 1), (2, 1), (3, 55)]) Try.underlying74 Try.zeroValue74 rfl (by kernel_rfl) rfl rfl (by kernel_rfl)) ?_ (fun _ h => h)
        refine WPD.take rfl (v_index (j := j) Try.underlying75 Try.sizeOf74 rfl rfl rfl (by omega)) ?_ (fun _ h => h)
        refine WPD.ef0 rfl (x_storeRowA (us := zeroRB.cells) (o := 0 + j * 58) (σ' := [_, _, _, _]) Try.sizeOf74 rfl rfl (i := 1) rfl (by rw [cellsB_len hzk, hzl]; show _ + 58 ≤ _; omega) (by rw [show 0 + j * 58 = j * 58 + 0 by omega, cellsB_set hzk hzj (b' := zeroRB) (by decide) (setL_all _ _ (by rw [RB.cells_len (hzk.get hzj)]; rfl))]; rfl) (by intro v hv; simp only [RB.cells, zeroRB, List.mem_cons] at hv; rcases hv with rfl | rfl | rfl | hv; rfl; rfl; rfl; exact zeroS_ok.one v hv) rfl) (fun h => absurd rfl h) (fun _ => ?_)
        refine WPD.nil (onto_of ?_)
        refine WP.region ?_
        refine WPL.val (v_move (v := .int .i64 _) rfl) ?_
        refine WPL.val (v_add rfl rfl (by omega)) ?_
        refine WPL.val (v_assign (v := .int .i64 _) rfl) ?_
        exact WPL.nil fun w hw => ⟨rfl, k + 1, (by omega), ⟨rfl, (via (.pointer _) rfl rfl), (via (.slice _ _ _) rfl rfl), trivial⟩, ⟨by omega, by rw [zapL_snoc _ hy, Int.toNat_natCast]; exact (St.rowSet (b' := zeroRB) hzj ((hw.nilRow 3 1).sel [2, 4, 0, 1, 3] (by decide))).sel [1, 2, 0, 3] (by decide)⟩⟩
      ·
        have hkk : k = (sub (absR bs) (i : Int)).length := by omega
        refine WP.exit (onto_of ?_)
        refine WP.seq ?_
        refine WP.region ?_
        refine WPL.val (v_move (v := .slice _ _ _) rfl) ?_
        refine WPL.val (v_len Try.underlying50 rfl) ?_
        refine WPL.val (v_assign (v := .int .i64 _) rfl) ?_
        refine WPL.val (v_assign (v := .int .i64 (0)) rfl) ?_
        refine WPL.nil (onto_of ?_)
        exact WP.ret2 Try.results34 (fun _ h => h) (fun w hw => ⟨zapL (bs.set u (cutB p A40 c40 (i : Int))) (sub (absR bs) (i : Int)), by rw [hr]; rfl, ⟨by rw [hr]; exact absR_rem hk hb hl hu hp hpl A40 c40, (zapL_ok _ hk1 hrange).1⟩, by have h := (hw.sel [0, 1, 2] (by decide)); rw [hkk, List.take_of_length_le (Nat.le_refl _)] at h; exact St.shutF (by rw [(zapL_ok _ hk1 hrange).2.1, List.length_set]; exact h)⟩)
end Go.Proofs.Ytmjdmlgdffoimaa
