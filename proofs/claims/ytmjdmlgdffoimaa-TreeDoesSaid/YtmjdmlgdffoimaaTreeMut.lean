/- What turns a tree: cut, deep, Set. -/
import Derived.Test.YtmjdmlgdffoimaaTreeOpen
namespace Go.Proofs.Ytmjdmlgdffoimaa
open Go.RowKit

theorem ptr_some {es : List PE} {x : Int} {e : PE} (h : lookE es x = some e) : ptrE es x = some ⟨e.bb, 0, none⟩ := by simp [ptrE, h]
def cutE (pe : PE) (id : Int) : PE := ⟨pe.id, pe.bb, pe.A, pe.c, pe.up, cutK pe.kids id, pe.sty⟩
/-- Shut again, with what the box has now. -/
theorem St.shutK {w0 w : World} {M : Nat → Prop} {tp mb : Nat} {es : List PE} {F : List HI} {e : PE} {x : Int} (hl : lookE es x = some e) {A : Option Addr} {n c : Nat} {up : Int} {l : List Int} {sty : List Value} (hn : n = l.length)
    (h : St w0 M (.cl e.bb 69 (.int .i64 up :: .slice A n c :: sty) :: kidsI A n c l :: .cl tp 72 [.map (some mb)] :: mapI mb (es.map PE.ent) :: restI (delE es x) :: F) w) : St w0 M (treeI tp mb (setE es ⟨e.id, e.bb, A, c, up, l, sty⟩) :: F) w := by
  subst hn
  have hi := (lookE_mem hl).2
  subst hi
  exact St.shutB (e' := ⟨e.id, e.bb, A, c, up, l, sty⟩) hl rfl h
theorem WF.kids_len {es : List PE} {d : Int → Nat} (hF : WF (FoR es) d) {x : Int} {e : PE} (h : lookE es x = some e) : e.kids.length ≤ 4096 := hF.kids_le (FoR_some h)
set_option maxHeartbeats 1000000 in
theorem cut_ct (tp mb : Nat) (es : List PE) (hk : LOk es) (id : Int) {e pe : PE} (he : lookE es id = some e) (hp : lookE es e.up = some pe) (hm : id ∈ pe.kids) (hn : pe.kids.Nodup) (hl : pe.kids.length ≤ 5000) :
    Ct Try.prog 42 #[.pointer (some ⟨tp, 0, none⟩), .int .i64 id] [treeI tp mb es] (fun _ => True) (X := Unit) (fun _ => .tuple #[]) (fun _ => True) (fun _ => [treeI tp mb (setE es (cutE pe id))]) := by
  obtain ⟨k, hk1, _, hk3⟩ := idxI_mem hm
  have hkl := (List.getElem?_eq_some_iff.1 hk1).1
  have hup : ptrE es (upF (FoR es) id) = some ⟨pe.bb, 0, none⟩ := by rw [up_some (FoR_some he)]; exact ptr_some hp
  have hpid : pe.id = e.up := (lookE_mem hp).2
  have hlen : (cutK pe.kids id).length = pe.kids.length - 1 := by have := cutK_len hn hm; omega
  refine Ct.intro Try.func42 rfl Try.ntmps42 (by simp) (fun w0 _ => ?_)
  refine WP.seq ?_
  refine WP.drawSel none [0] [(0, true), (1, true), (2, true), (3, true), (4, true), (5, true), (6, false), (7, true), (8, true)] mixed (by kernel_rfl) (by decide) ?_
  refine WPD.take rfl (v_move (v := .pointer _) rfl) ?_ (fun _ h => h.sel [0] (by decide))
  refine WPD.take rfl (v_nil rfl) ?_ (fun _ h => h.sel [0] (by decide))
  refine WPD.take rfl (v_field (off := 0) Try.underlying72 rfl Try.sizeOf70 rfl) ?_ (fun _ h => h.sel [0] (by decide))
  refine WPD.take rfl (v_load1 (u := .map _) Try.isAgg70 rfl (fun w hw => hw.treeRoot (i := 0) rfl)) ?_ (fun _ h => h.sel [0] (by decide))
  refine WPD.take rfl (v_move (v := .pointer _) rfl) ?_ (fun _ h => h.sel [0] (by decide))
  refine WPD.take rfl (v_move (v := .int .i64 _) rfl) ?_ (fun _ h => h.sel [0] (by decide))
  refine WPD.ef rfl (x_call Try.call16 (up_ct tp mb es hk id) [0] [] rfl (fun w hw => trivial) (τ := fun _ => [_]) (fun _ => rfl)) (fun _ _ _ h => h.2.sel [0] (by decide)) (fun _ => ?_)
  refine WPD.fact (fun _ => ?_)
  refine WPD.take rfl (v_lookT (es := es) (i := 0) rfl Try.underlying70 Try.underlying3 Try.zeroValue67 rfl rfl) ?_ (fun _ h => h.sel [0] (by decide))
  refine WPD.take rfl (v_assign (v := .pointer _) rfl) ?_ (fun _ h => h.sel [0] (by decide))
  refine WPD.nil (onto_of ?_)
  refine WP.seq ?_
  refine WP.pre ?_ (fun w hw => St.openB hp (hw.sel [0] (by decide)))
  rw [hup]
  
  refine WP.region ?_
  refine WPL.val (v_move (v := .pointer _) rfl) ?_
  refine WPL.val (v_nil rfl) ?_
  refine WPL.val (v_fieldL (o' := 1) Try.underlying69 rfl Try.sizeOf50 rfl rfl) ?_
  refine WPL.val (v_load1 (u := .slice _ _ _) Try.isAgg50 rfl (fun w hw => hw.cl_at (i := 0) rfl _ rfl)) ?_
  refine WPL.val (v_move (v := .int .i64 _) rfl) ?_
  refine WPL.ef (x_call Try.call54 (index_ct pe.A pe.c pe.kids id (by omega)) [1] [0, 2, 3, 4] rfl (fun w hw => trivial) (τ := fun _ => [_, _, _, _, _]) (fun _ => rfl)) (fun _ => ?_)
  refine WPL.fact (fun _ => ?_)
  refine WPL.val (v_assign (v := .int .i64 _) rfl) ?_
  refine WPL.nil (onto_of ?_)
  rw [hk3]
  refine WP.region ?_
  refine WPL.val (v_move (v := .pointer _) rfl) ?_
  refine WPL.val (v_move (v := .pointer _) rfl) ?_
  refine WPL.val (v_nil rfl) ?_
  refine WPL.val (v_fieldL (o' := 1) Try.underlying69 rfl Try.sizeOf50 rfl rfl) ?_
  refine WPL.val (v_load1 (u := .slice _ _ _) Try.isAgg50 rfl (fun w hw => hw.cl_at (i := 0) rfl _ rfl)) ?_
  refine WPL.val (v_move (v := .int .i64 _) rfl) ?_
  refine WPL.val (v_move (v := .int .i64 _) rfl) ?_
  refine WPL.val (v_add rfl rfl (by omega)) ?_
  refine WPL.ef (x_call Try.call55 (delete_ct pe.A pe.c pe.kids k hkl hl) [4] [0, 1, 2, 3] rfl (fun w hw => trivial) (τ := fun _ => [_, _, _, _, _]) (fun _ => rfl)) (fun _ => ?_)
  refine WPL.fact (fun _ => ?_)
  refine WPL.val (v_nil rfl) ?_
  refine WPL.val (v_fieldL (o' := 1) Try.underlying69 rfl Try.sizeOf50 rfl rfl) ?_
  refine WPL.ef0 (x_store (u := .slice _ _ _) (σ' := [_, _, _, _, _]) Try.sizeOf50 rfl rfl (i := 0) rfl (Nat.lt_of_lt_of_le (Nat.lt_succ_self _) (Nat.le_of_ble_eq_true rfl)) rfl) (fun _ => ?_)
  exact WPL.nil fun w hw => RetQ.of0 Try.results42 (.inr rfl) ⟨(), rfl, trivial, St.shutK (l := cutK pe.kids id) hp hlen.symm (by rw [← erase_cut hn hk1]; exact (hw.sel [0, 4, 1, 2, 3] (by decide)))⟩
def depN (F : Forest (List Value)) (l : List Int) : Int := l.foldl (fun n x => max n (depthF F x)) 0
theorem depN_snoc (F : Forest (List Value)) {l : List Int} {k : Nat} {x : Int} (h : l[k]? = some x) : depN F (l.take (k + 1)) = max (depN F (l.take k)) (depthF F x) := by
  rw [take_snoc h]; simp [depN]
theorem deep_ct (tp mb : Nat) (es : List PE) (hk : LOk es) {d : Int → Nat} (hF : WF (FoR es) d) (id : Int) :
    Ct Try.prog 44 #[.pointer (some ⟨tp, 0, none⟩), .int .i64 id] [treeI tp mb es] (fun _ => True) (X := Unit) (fun _ => .int .i64 (deepF (FoR es) id)) (fun _ => True) (fun _ => [treeI tp mb es]) := by
  refine Ct.intro Try.func44 rfl Try.ntmps44 (by simp) (fun w0 _ => ?_)
  refine WP.seq ?_
  refine WP.region ?_
  refine WPL.ef (x_box1 (u := .pointer _) (σ' := fun _ => [_, _]) rfl (fun _ => rfl)) (fun b2 => ?_)
  refine WPL.val (v_assign (v := .int .i64 (0)) rfl) ?_
  refine WPL.nil (onto_of ?_)
  refine WP.seq ?_
  refine WP.region ?_
  refine WPL.ef (x_alloc (us := [_]) (σ' := fun _ => [_, _, _]) Try.zeroValue3 rfl (fun _ => rfl)) (fun b5 => ?_)
  refine WPL.ef0 (x_store (u := .int .i64 _) (σ' := [_, _, .cl _ _ [_]]) Try.sizeOf3 rfl rfl (i := 2) rfl (Nat.lt_of_lt_of_le (Nat.lt_succ_self _) (Nat.le_of_ble_eq_true rfl)) rfl) (fun _ => ?_)
  refine WPL.nil (onto_of ?_)
  refine WP.seq ?_
  refine WP.seq ?_
  refine WP.region ?_
  refine WPL.val (v_load1 (u := .pointer _) Try.isAgg24 rfl (fun w hw => hw.cl_at (i := 1) rfl _ rfl)) ?_
  refine WPL.val (v_move (v := .int .i64 _) rfl) ?_
  refine WPL.ef (x_call Try.call41 (inside_ct tp id) [] [0, 1, 2] rfl (fun w hw => trivial) (τ := fun _ => [_, _, _, _, _]) (fun _ => rfl)) (fun ⟨m2, m3⟩ => ?_)
  refine WPL.fact (fun _ => ?_)
  refine WPL.nil (onto_of ?_)
  refine WP.block ?_
  refine WP.pre ?_ (fun w hw => (hw.sel [0, 3, 4, 2, 1] (by decide)))
  refine WP.rangeIter (gf := 53) (first := []) (cap := [.pointer (some ⟨m2, 0, none⟩), .pointer (some ⟨m3, 0, none⟩)]) rfl Try.call53 (inside_iter tp mb es hk hF 64 id m2 m3 (by omega)) (Z := Unit) (own := fun k _ => [.cl b5 3 [.int .i64 (depN (FoR es) ((sub (FoR es) id).take k))], .cl b2 24 [.pointer (some ⟨tp, 0, none⟩)]]) (Inv := fun _ _ => True) () trivial (List.Perm.refl _) (fun _ => rfl) (by decide) (Y := Unit) (fun _ _ _ => False) (fun _ => []) ?_ ?_ ?_
  · intro lk l2 D2 k x _z hx hz w1 M1
    refine WP.region ?_
    refine WPL.val (v_assign (v := .int .i64 _) rfl) ?_
    refine WPL.nil (begun_of (i := 0) rfl ?_)
    refine WP.block ?_
    refine WP.drawSel (some 5) [0, 1, 2, 3, 4, 5, 6, 7] [(0, true), (1, true), (2, true), (3, false), (4, true), (5, false)] mixed (by kernel_rfl) (by decide) ?_
    refine WPD.take rfl (v_load1 (u := .int .i64 _) Try.isAgg3 rfl (fun w hw => hw.cl_at (i := 6) rfl _ rfl)) ?_ (fun _ h => h.sel [0, 1, 2, 3, 4, 5, 6, 7] (by decide))
    refine WPD.take rfl (v_load1 (u := .pointer _) Try.isAgg24 rfl (fun w hw => hw.cl_at (i := 7) rfl _ rfl)) ?_ (fun _ h => h.sel [0, 1, 2, 3, 4, 5, 6, 7] (by decide))
    refine WPD.take rfl (v_move (v := .int .i64 _) rfl) ?_ (fun _ h => h.sel [0, 1, 2, 3, 4, 5, 6, 7] (by decide))
    refine WPD.ef rfl (x_call Try.call18 (depth_ct tp mb es hk hF x) [3] [0, 1, 2, 4, 5, 6, 7] rfl (fun w hw => trivial) (τ := fun _ => [_, _, _, _, _, _, _, _]) (fun _ => rfl)) (fun _ _ _ h => h.2.sel [0, 1, 2, 7, 3, 4, 5, 6] (by decide)) (fun _ => ?_)
    refine WPD.fact (fun _ => ?_)
    refine WPD.take rfl (v_max rfl rfl) ?_ (fun _ h => h.sel [0, 1, 2, 7, 3, 4, 5, 6] (by decide))
    refine WPD.ef0 rfl (x_store (u := .int .i64 _) (σ' := [_, _, _, _, _, .cl _ _ [_], _, _]) Try.sizeOf3 rfl rfl (i := 5) rfl (Nat.lt_of_lt_of_le (Nat.lt_succ_self _) (Nat.le_of_ble_eq_true rfl)) rfl) (fun h => absurd rfl h) (fun _ => ?_)
    exact WPD.nil (fun w hw => RoundQ.normal (i := 0) rfl hw (fun w2 hw2 => .inl ⟨(), rfl, trivial, by dsimp only; rw [depN_snoc (FoR es) hx]; exact (hw2.sel [0, 1, 2, 7, 3, 4, 5, 6] (by decide))⟩))
  · intro D _z hz
    rw [List.take_of_length_le (Nat.le_refl (sub (FoR es) id).length)]
    refine fin_id (onto_of ?_)
    refine WP.seq ?_
    refine WP.region ?_
    refine WPL.val (v_load1 (u := .int .i64 _) Try.isAgg3 rfl (fun w hw => hw.cl_at (i := 3) rfl _ rfl)) ?_
    refine WPL.val (v_assign (v := .int .i64 _) rfl) ?_
    refine WPL.nil (onto_of ?_)
    exact WP.retM [D] (τ := [treeI tp mb es]) (fun w hw => (hw.sel [0, 5] (by decide))) (fun _ h => h) (fun w hw => RetQ.of1 Try.results44 (.inl rfl) ⟨(), rfl, trivial, hw⟩)
  · intro D c k y hf; exact hf.elim
theorem v_lookO {P : Program} {w0 : World} {M : Nat → Prop} {σ : List HI} {ρ : Env} {dst : Option Tmp} {ty : TypeId} {pos : String} {af : Array Edge} {g : Option (Nat × Bool)} {x y : Operand} {t kt et : TypeId} {i mb : Nat} {es : List PE} {k : Int} {q : IntKind} {e : PE} (hl : lookE es k = some e) (hi : σ[i]? = some (mapI mb (es.map PE.ent))) (ht : P.underlying t = some (.map kt et)) (hk : P.underlying kt = some (.int q)) (hz : ∀ w, (zeroValue et).run P w = .ok (.pointer none) w) (hx : evo ρ x = .map (some mb)) (hy : evo ρ y = .int .i64 k) :
    OpV P (St w0 M σ) ⟨dst, .lookup t x y false, ty, pos, af, g⟩ ρ (.pointer (some ⟨e.bb, 0, none⟩)) := by
  have h := v_lookup (P := P) (S := St w0 M σ) (dst := dst) (ty := ty) (pos := pos) (af := af) (g := g) (m := es.map PE.ent) ht hk hz hx hy (fun w hw => hw.mapAt hi)
  rwa [look_ptr, ptr_some hl] at h
theorem setL_box (a b : Value) (s s' : List Value) (h : s'.length = s.length) : setL (a :: b :: s) 2 s' = a :: b :: s' := by
  rw [setL_eq _ _ _ (by simp only [List.length_cons]; omega)]
  simp [h]
  omega
theorem FoR_sty {es : List PE} {x : Int} {e : PE} (h : lookE es x = some e) {bb : Nat} {A : Option Addr} {c : Nat} {sty : List Value} : FoR (setE es ⟨e.id, bb, A, c, e.up, e.kids, sty⟩) = setG (FoR es) x sty := by
  have hi := (lookE_mem h).2
  funext y
  rw [FoR_set (e := e) (by show lookE es e.id = some e; rw [hi]; exact h), setG, FoR_some h, hi]
  rfl
set_option maxRecDepth 100000 in
set_option maxHeartbeats 1000000 in
theorem set_ct (tp mb : Nat) (es : List PE) (hk : LOk es) (id : Int) (sty : List Value) (hs : SOk sty) :
    Ct Try.prog 33 #[.pointer (some ⟨tp, 0, none⟩), .int .i64 id, .agg sty.toArray] [treeI tp mb es] (fun _ => True) (X := List PE) (fun _ => .int .i64 (setR validB (FoR es) id sty).2) (fun es' => FoR es' = (setR validB (FoR es) id sty).1 ∧ LOk es') (fun es' => [treeI tp mb es']) := by
  refine Ct.intro Try.func33 rfl Try.ntmps33 (by simp) (fun w0 _ => ?_)
  refine WP.seq ?_
  refine WP.region ?_
  refine WPL.ef (x_boxA (us := sty) (σ' := fun _ => [_, _]) rfl (fun _ => rfl)) (fun b5 => ?_)
  refine WPL.val (v_assign (v := .int .i64 (0)) rfl) ?_
  refine WPL.nil (onto_of ?_)
  refine WP.seq ?_
  refine WP.block ?_
  refine WP.seq ?_
  refine WP.region ?_
  refine WPL.val (v_move (v := .pointer _) rfl) ?_
  refine WPL.val (v_move (v := .int .i64 _) rfl) ?_
  refine WPL.ef (x_call Try.call14 (has_ct tp mb es id) [0] [1] rfl (fun w hw => trivial) (τ := fun _ => [_, _]) (fun _ => rfl)) (fun _ => ?_)
  refine WPL.fact (fun _ => ?_)
  refine WPL.val (v_not rfl) ?_
  refine WPL.val (v_assign (v := .bool _) rfl) ?_
  refine WPL.nil (onto_of ?_)
  refine WP.cond rfl (fun h7 => ?_) (fun h7 => ?_)
  ·
    have hr : setR validB (FoR es) id sty = (FoR es, 2) := by simp only [Bool.not_eq_true'] at h7; simp [setR, h7]
    refine WP.seq ?_
    refine WP.region ?_
    refine WPL.val (v_assign (v := .int .i64 (2)) rfl) ?_
    refine WPL.nil (onto_of ?_)
    exact WP.ret1 Try.results33 (fun _ h => h) (fun w hw => ⟨es, congrArg (Value.int .i64) (by rw [hr]), ⟨by rw [hr], hk⟩, (hw.sel [1] (by decide))⟩)
  ·
    refine WP.seq ?_
    refine WP.region ?_
    refine WPL.val (v_loadA (cs := sty) Try.isAgg43 Try.sizeOf43 rfl (fun w hw => hw.cl_at (i := 0) rfl 0 (whole _)) hs.len) ?_
    refine WPL.ef (x_call Try.call47 (valid_ct sty hs) [] [0, 1] rfl (fun w hw => trivial) (τ := fun _ => [_, _]) (fun _ => rfl)) (fun _ => ?_)
    refine WPL.fact (fun _ => ?_)
    refine WPL.val (v_not rfl) ?_
    refine WPL.val (v_assign (v := .bool _) rfl) ?_
    refine WPL.nil (onto_of ?_)
    refine WP.cond rfl (fun h12 => ?_) (fun h12 => ?_)
    ·
      have hr : setR validB (FoR es) id sty = (FoR es, 1) := by simp only [Bool.not_eq_true', Bool.not_eq_false'] at h7 h12; simp [setR, h7, h12]
      refine WP.seq ?_
      refine WP.region ?_
      refine WPL.val (v_assign (v := .int .i64 (1)) rfl) ?_
      refine WPL.nil (onto_of ?_)
      exact WP.ret1 Try.results33 (fun _ h => h) (fun w hw => ⟨es, congrArg (Value.int .i64) (by rw [hr]), ⟨by rw [hr], hk⟩, (hw.sel [1] (by decide))⟩)
    ·
      simp only [Bool.not_eq_false'] at h7 h12
      have hr : setR validB (FoR es) id sty = (setG (FoR es) id sty, 0) := by simp [setR, h7, h12]
      obtain ⟨e, he⟩ := look_of h7
      have hes := (hk.sty e (lookE_mem he).1).len
      refine WP.skip (onto_of ?_)
      refine WP.seq ?_
      refine WP.pre ?_ (fun w hw => St.openB he (hw.sel [1, 0] (by decide)))
      
      refine WP.drawS (some 9) [(0, true), (1, true), (2, true), (3, true), (4, true), (5, true), (6, true), (7, false), (8, true), (9, false)] mixed (by kernel_rfl) (by decide) (fun _ h => h.drawn) ?_
      refine WPD.take rfl (v_move (v := .pointer _) rfl) ?_ (fun _ h => h)
      refine WPD.take rfl (v_nil rfl) ?_ (fun _ h => h)
      refine WPD.take rfl (v_fieldL (o' := 0) Try.underlying72 rfl Try.sizeOf70 rfl rfl) ?_ (fun _ h => h)
      refine WPD.take rfl (v_load1 (u := .map _) Try.isAgg70 rfl (fun w hw => hw.cl_at (i := 2) rfl _ rfl)) ?_ (fun _ h => h)
      refine WPD.take rfl (v_move (v := .int .i64 _) rfl) ?_ (fun _ h => h)
      refine WPD.take rfl (v_lookO (es := es) he (i := 3) rfl Try.underlying70 Try.underlying3 Try.zeroValue67 rfl rfl) ?_ (fun _ h => h)
      refine WPD.take rfl (v_loadA (cs := sty) Try.isAgg43 Try.sizeOf43 rfl (fun w hw => hw.cl_at (i := 5) rfl 0 (whole _)) hs.len) ?_ (fun _ h => h)
      refine WPD.val rfl (v_nil rfl) (fun _ h => h) ?_
      refine WPD.take rfl (v_fieldL (o' := 2) Try.underlying69 rfl Try.sizeOf43 rfl rfl) ?_ (fun _ h => h)
      refine WPD.ef0 rfl (x_storeA (us := sty) (σ' := [.cl _ _ _, _, _, _, _, _]) Try.sizeOf43 rfl rfl (i := 0) rfl (by show 2 + sty.length ≤ e.sty.length + 1 + 1; rw [hs.len, hes]; decide) (by rw [PE.cells, setL_box _ _ _ _ (by rw [hs.len, hes])]; rfl) hs.one hs.len) (fun h => absurd rfl h) (fun _ => ?_)
      refine WPD.nil (onto_of ?_)
      refine WP.seq ?_
      refine WP.region ?_
      refine WPL.val (v_assign (v := .int .i64 (0)) rfl) ?_
      refine WPL.nil (onto_of ?_)
      exact WP.ret1 Try.results33 (fun _ h => h) (fun w hw => ⟨setE es ⟨e.id, e.bb, e.A, e.c, e.up, e.kids, sty⟩, congrArg (Value.int .i64) (by rw [hr]), ⟨by rw [hr]; exact FoR_sty he, hk.set (e := e) (by show lookE es e.id = some e; rw [(lookE_mem he).2]; exact he) hs⟩, St.shutK he rfl (hw.sel [0, 1, 2, 3, 4] (by decide))⟩)
end Go.Proofs.Ytmjdmlgdffoimaa
