/- A layer as a whole, told one by one. -/
import Derived.Test.YtmjdmlgdffoimabPaintSeq
namespace Go.Proofs.Ytmjdmlgdffoimab
open Go.RowKit

abbrev pcI (b ab ao c n mb : Nat) : HI := .cl b 45 [.slice (some ⟨ab, ao, none⟩) n c, .map (some mb)]
abbrev idI (b : Nat) (x : Int) : HI := .cl b 3 [.int .i64 x]
theorem v_lookK {P : Program} {S : World → Prop} {ρ : Env} {dst : Option Tmp} {ty : TypeId} {pos : String} {af : Array Edge} {g : Option (Nat × Bool)} {t kt et : TypeId} {x y : Operand} {q : IntKind} {b : Nat} {es : List KE} {k : Int} (ht : P.underlying t = some (.map kt et)) (hk : P.underlying kt = some (.int q)) (hz : ∀ w, (zeroValue et).run P w = .ok (.slice none 0 0) w) (hx : evo ρ x = .map (some b)) (hy : evo ρ y = .int .i64 k) (hm : ∀ w, S w → mapP b (es.map KE.ent) w) :
    OpV P S ⟨dst, .lookup t x y false, ty, pos, af, g⟩ ρ (.slice (kAK es k) (lstK es k).length (kCK es k)) := by
  rw [← lookM_ent]
  exact v_lookup ht hk hz hx hy hm
theorem all_ct (ab ao c n mb : Nat) (x : Int) : Ct Try.prog 30 #[.agg #[.slice (some ⟨ab, ao, none⟩) n c, .map (some mb)], .int .i64 x] [] (fun _ => True) (X := Nat × Nat) (fun p => .func (.func 37) #[] #[.pointer (some ⟨p.1, 0, none⟩), .pointer (some ⟨p.2, 0, none⟩)]) (fun _ => True) (fun p => [idI p.1 x, pcI p.2 ab ao c n mb]) := by
  refine Ct.intro Try.func30 rfl Try.ntmps30 (by simp) (fun w0 _ => ?_)
  refine WP.seq ?_
  refine WP.region ?_
  refine WPL.ef (x_boxA (us := [.slice _ _ _, .map _]) (σ' := fun _ => [_]) rfl (fun _ => rfl)) (fun b2 => ?_)
  refine WPL.ef (x_box1 (u := .int .i64 _) (σ' := fun _ => [_, _]) rfl (fun _ => rfl)) (fun b3 => ?_)
  refine WPL.val (v_assign rfl) ?_
  refine WPL.nil (onto_of ?_)
  refine WP.seq ?_
  refine WP.region ?_
  refine WPL.val (v_func) ?_
  refine WPL.val (v_assign rfl) ?_
  refine WPL.nil (onto_of ?_)
  exact WP.ret1 Try.results30 (fun _ h => h) (fun w hw => ⟨(b3, b2), rfl, trivial, (hw.sel [1, 0] (by decide))⟩)
def posP (L : List PN) (kids : List Int) (i : Nat) : Nat := 1 + ((kids.take i).flatMap (PT L)).length
theorem posP_succ {L : List PN} {kids : List Int} {i : Nat} {kid : Int} (h : kids[i]? = some kid) : posP L kids (i + 1) = posP L kids i + (PT L kid).length := by
  unfold posP
  rw [take_snoc h, List.flatMap_append, List.length_append]
  simp; omega
theorem posP_at {L : List PN} {kids : List Int} {i k : Nat} {kid x id : Int} (h : kids[i]? = some kid) (hx : (PT L kid)[k]? = some x) : (id :: kids.flatMap (PT L))[posP L kids i + k]? = some x := by
  have hk := (List.getElem?_eq_some_iff.1 h).1
  have e : kids = kids.take i ++ kid :: kids.drop (i + 1) := by
    have h1 := List.take_append_drop i kids
    rw [List.drop_eq_getElem_cons hk, (List.getElem?_eq_some_iff.1 h).2] at h1
    exact h1.symm
  have h2 : kids.flatMap (PT L) = (kids.take i).flatMap (PT L) ++ (PT L kid ++ (kids.drop (i + 1)).flatMap (PT L)) := by
    conv => lhs; rw [e]
    rw [List.flatMap_append, List.flatMap_cons]
  have h3 : posP L kids i + k = (((kids.take i).flatMap (PT L)).length + k) + 1 := by unfold posP; omega
  rw [h3, List.getElem?_cons_succ, h2, List.getElem?_append_right (by omega), Nat.add_sub_cancel_left, List.getElem?_append_left (List.getElem?_eq_some_iff.1 hx).1]
  exact hx
theorem posP_all (L : List PN) (id : Int) (kids : List Int) : posP L kids kids.length = (id :: kids.flatMap (PT L)).length := by
  unfold posP
  rw [List.take_of_length_le (Nat.le_refl _)]; simp; omega
theorem isLeft_of {Z Y : Type} {o : Z ⊕ Y} (h : (!o.isLeft) = false) : ∃ z, o = .inl z := by cases o with | inl z => exact ⟨z, rfl⟩ | inr y => cases h
theorem isRight_of {Z Y : Type} {o : Z ⊕ Y} (h : (!o.isLeft) = true) : ∃ y, o = .inr y := by cases o with | inr y => exact ⟨y, rfl⟩ | inl z => cases h
theorem kidP_len (L : List PN) (a : Int) : (kidP L a).length ≤ L.length := by
  rw [kidP, (soF_perm _).length_eq]
  exact Nat.le_trans (memK_len a _) (by omega)

set_option maxRecDepth 100000 in
set_option maxHeartbeats 1000000 in
theorem all_step (ab ao c mb : Nat) (o : Obj) (L : List PN) (hP : PV L) (hL : L.length ≤ 1000) (ho : obN o ao L) (es : List KE) (hes : ∀ a, lstK es a = kidP L a) (x : Int) (n1 n2 : Nat)
    (ih : ∀ y m1 m2, y ∈ kidP L x → IterOK Try.prog 37 [] [.pointer (some ⟨m1, 0, none⟩), .pointer (some ⟨m2, 0, none⟩)] [.ob ab o, picI mb es, idI m1 y, pcI m2 ab ao c L.length mb] intA (PT L y)) :
    IterOK Try.prog 37 [] [.pointer (some ⟨n1, 0, none⟩), .pointer (some ⟨n2, 0, none⟩)] [.ob ab o, picI mb es, idI n1 x, pcI n2 ab ao c L.length mb] intA (PT L x) := by
  intro l Z Y H J Inv hy z0 hz0
  have hsub : PT L x = x :: (kidP L x).flatMap (PT L) := PT_eq hP x
  have hkl := kidP_len L x
  refine Ct.intro Try.func37 rfl Try.ntmps37 (by simp) (fun w0 _ => ?_)
  refine WP.seq ?_
  refine WP.region ?_
  refine WPL.ef (x_box1 (u := _) (σ' := fun _ => [_, _, _, _, _, _]) rfl (fun _ => rfl)) (fun b3 => ?_)
  refine WPL.nil (onto_of ?_)
  refine WP.seq ?_
  refine WP.seq ?_
  refine WP.region ?_
  refine WPL.val (v_load1 (u := _) Try.isAgg54 rfl (fun w hw => hw.cl_at (i := 5) rfl _ rfl)) ?_
  refine WPL.val (v_load1 (u := .int .i64 _) Try.isAgg3 rfl (fun w hw => hw.cl_at (i := 2) rfl _ rfl)) ?_
  refine WPL.ef (x_yieldC (hy 0 x z0 (by rw [hsub]; rfl) hz0) [0, 1, 2, 3, 4] [5] rfl (τ := fun _ => [_, _, _, _, _, _]) (fun _ => rfl)) (fun o1 => ?_)
  refine WPL.fact (fun hf => ?_)
  refine WPL.val (v_not rfl) ?_
  refine WPL.nil (onto_of ?_)
  refine WP.cond rfl (fun h10 => ?_) (fun h10 => ?_)
  ·
    obtain ⟨y, rfl⟩ := isRight_of h10
    exact WP.ret0 Try.results37 (fun _ h => h) (fun w hw => ⟨.inr (0, y), rfl, ⟨fun z e => (by cases e), fun p e => (by cases e; rw [hsub]; exact Nat.succ_pos _)⟩, (hw.sel [1, 2, 3, 4, 5] (by decide))⟩)
  ·
    obtain ⟨zz, rfl⟩ := isLeft_of h10
    refine WP.skip (onto_of ?_)
    refine WP.seq ?_
    refine WP.region ?_
    refine WPL.val (v_fieldL (o' := 1) Try.underlying45 rfl Try.sizeOf43 rfl rfl) ?_
    refine WPL.val (v_load1 (u := .map _) Try.isAgg43 rfl (fun w hw => hw.cl_at (i := 4) rfl _ rfl)) ?_
    refine WPL.val (v_load1 (u := .int .i64 _) Try.isAgg3 rfl (fun w hw => hw.cl_at (i := 3) rfl _ rfl)) ?_
    refine WPL.val (v_lookK (es := es) (k := x) Try.underlying43 Try.underlying3 Try.zeroValue26 rfl rfl (fun w hw => hw.picMap (i := 2) rfl)) ?_
    refine WPL.val (v_len Try.underlying26 rfl) ?_
    refine WPL.val (v_move (v := .int .i64 (0)) rfl) ?_
    refine WPL.nil (onto_of ?_)
    refine WP.block ?_
    refine WP.loopD (X := Nat × Z × List Nat) [2, 3, 14, 15, 34] (fun p => [(16, .int .i64 (p.1 : Int))]) (fun p w => (p.1 ≤ (kidP L x).length ∧ Inv (posP L (kidP L x) p.1) p.2.1) ∧ St w0 (foots ([.ob ab o, picI mb es, idI n1 x, pcI n2 ab ao c L.length mb] ++ [H 0 z0])) [marksI p.2.2, .ob ab o, picI mb es, idI n1 x, pcI n2 ab ao c L.length mb, .cl b3 54 [.func (.yield l) #[] #[]], H (posP L (kidP L x) p.1) p.2.1] w) (fun p => p.2.2.map mark) (fun p => (kidP L x).length - p.1) (0, zz, []) ⟨rfl, trivial⟩ rfl (fun w hw => ⟨⟨Nat.zero_le _, hf zz rfl⟩, St.noMarks (hw.sel [1, 2, 3, 4, 0, 5] (by decide))⟩) (fun p ρ0 => ?_)
    obtain ⟨i, z, Ds⟩ := p
    dsimp only
    refine WP.fact (fun ⟨hile, hinv⟩ => ?_)
    refine WP.seq ?_
    refine WP.region ?_
    refine WPL.val (v_lss rfl rfl) ?_
    refine WPL.nil (onto_of ?_)
    refine WP.seq ?_
    refine WP.condP rfl (fun h17 => ?_) (fun h17 => ?_)
    ·
      have hi : i < (kidP L x).length := by rw [hes] at h17; omega
      obtain ⟨kid, hkid⟩ : ∃ kid, (kidP L x)[i]? = some kid := ⟨_, List.getElem?_eq_getElem hi⟩
      have hmem := List.mem_of_getElem? hkid
      have hgt := kidP_gt hP hmem
      obtain ⟨m, rfl⟩ : ∃ m : Nat, kid = m := ⟨kid.toNat, by omega⟩
      have hkid' : (lstK es x)[i]? = some (m : Int) := by rw [hes]; exact hkid
      obtain ⟨n, hn⟩ : ∃ n, L[m]? = some n := ⟨_, List.getElem?_eq_getElem (by omega)⟩
      refine WP.holds (p := ∃ b o, kAK es x = some ⟨b, o, none⟩) (fun w hw => by obtain ⟨b, o, e1, _⟩ := (hw.picRd (i := 2) rfl x) i m hkid'; exact ⟨b, o, e1⟩) (fun ⟨kb, ko, hka⟩ => ?_)
      rw [hka]
      refine WP.skip (onto_of ?_)
      refine WP.seq ?_
      refine WP.block ?_
      refine WP.seq ?_
      refine WP.region ?_
      refine WPL.val (v_index (j := i) Try.underlying26 Try.sizeOf3 rfl rfl rfl (by omega)) ?_
      refine WPL.val (v_load1 (u := .int .i64 _) Try.isAgg3 rfl (fun w hw => by obtain ⟨b1, o1, e1, hc⟩ := (hw.picRd (i := 2) rfl x) i m hkid'; rw [hka] at e1; cases e1; exact hc)) ?_
      refine WPL.val (v_assign (v := .int .i64 _) rfl) ?_
      refine WPL.nil (onto_of ?_)
      refine WP.seq ?_
      refine WP.seq ?_
      refine WP.region ?_
      refine WPL.val (v_fieldL (o' := 0) Try.underlying45 rfl Try.sizeOf22 rfl rfl) ?_
      refine WPL.val (v_load1 (u := .slice _ _ _) Try.isAgg22 rfl (fun w hw => hw.cl_at (i := 4) rfl _ rfl)) ?_
      refine WPL.val (v_move (v := .int .i64 _) rfl) ?_
      refine WPL.val (v_index (j := m) Try.underlying22 Try.sizeOf39 rfl rfl rfl (by omega)) ?_
      refine WPL.val (v_field (off := 1) Try.underlying39 rfl Try.sizeOf4 rfl) ?_
      refine WPL.val (v_load1 (u := .bool _) Try.isAgg4 rfl (fun w hw => (hw.obAt (i := 1) rfl ho hn).one (j := 1) rfl (by omega))) ?_
      refine WPL.val (v_not rfl) ?_
      refine WPL.nil (onto_of ?_)
      refine WP.cond rfl (fun h26 => ?_) (fun h26 => ?_)
      ·
        have hptp : PT L (m : Int) = [(m : Int)] := PT_plain hP (by omega) (by rw [layN hn]; simpa using h26)
        have hone : (PT L (m : Int)).length = 1 := by rw [hptp]; rfl
        refine WP.seq ?_
        refine WP.seq ?_
        refine WP.region ?_
        refine WPL.val (v_load1 (u := _) Try.isAgg54 rfl (fun w hw => hw.cl_at (i := 5) rfl _ rfl)) ?_
        refine WPL.val (v_move (v := .int .i64 _) rfl) ?_
        refine WPL.ef (x_yieldC (hy (posP L (kidP L x) i) (m : Int) z (by rw [hsub]; exact posP_at (k := 0) hkid (by rw [hptp]; rfl)) hinv) [1, 2, 3, 4, 6] [0, 5] rfl (τ := fun _ => [_, _, _, _, _, _, _]) (fun _ => rfl)) (fun o1 => ?_)
        refine WPL.fact (fun hf => ?_)
        refine WPL.val (v_not rfl) ?_
        refine WPL.nil (onto_of ?_)
        refine WP.cond rfl (fun h30 => ?_) (fun h30 => ?_)
        ·
          obtain ⟨y, rfl⟩ := isRight_of h30
          have hlt : posP L (kidP L x) i < (PT L x).length := by rw [hsub]; exact (List.getElem?_eq_some_iff.1 (posP_at (L := L) (k := 0) (id := x) hkid (by rw [hptp]; rfl))).1
          exact WP.retM Ds (τ := [.ob ab o, picI mb es, idI n1 x, pcI n2 ab ao c L.length mb, J (posP L (kidP L x) i) y]) (fun w hw => St.unmark (hw.sel [0, 2, 3, 4, 5, 6] (by decide))) (fun _ h => h) (fun w hw => RetQ.of0 Try.results37 (.inl rfl) ⟨.inr (posP L (kidP L x) i, y), rfl, ⟨fun z e => (by cases e), fun p e => (by cases e; exact hlt)⟩, hw⟩)
        ·
          obtain ⟨z2, rfl⟩ := isLeft_of h30
          refine WP.skip (onto_of ?_)
          refine WP.exit (onto_of ?_)
          refine WP.region ?_
          refine WPL.val (v_add rfl rfl (by omega)) ?_
          refine WPL.val (v_move (v := .int .i64 _) rfl) ?_
          exact WPL.nil fun w hw => ⟨(i + 1, z2, Ds), (by simp only; omega), rfl, ⟨rfl, rfl, rfl, (via (.slice _ _ _) rfl rfl), (via (.int .i64 _) rfl rfl), rfl, trivial⟩, ⟨⟨by simp only; omega, by simp only; rw [posP_succ hkid, hone]; exact hf z2 rfl⟩, by simp only; rw [posP_succ hkid, hone]; exact (hw.sel [0, 2, 3, 4, 5, 1, 6] (by decide))⟩⟩
      ·
        
        refine WP.skip (onto_of ?_)
        refine WP.seq ?_
        refine WP.region ?_
        refine WPL.val (v_loadA (cs := [.slice _ _ _, .map _]) Try.isAgg45 Try.sizeOf45 rfl (fun w hw => hw.cl_at (i := 4) rfl _ rfl)) ?_
        refine WPL.val (v_move (v := .int .i64 _) rfl) ?_
        refine WPL.ef (x_call Try.call30 (all_ct ab ao c L.length mb (m : Int)) [] [0, 1, 2, 3, 4, 5, 6] rfl (fun w hw => trivial) (τ := fun _ => [_, _, _, _, _, _, _, _, _]) (fun _ => rfl)) (fun ⟨m1, m2⟩ => ?_)
        refine WPL.fact (fun _ => ?_)
        refine WPL.nil (onto_of ?_)
        refine WP.block ?_
        refine WP.pre ?_ (fun w hw => (hw.sel [1, 2, 7, 8, 6, 3, 4, 5, 0] (by decide)))
        refine WP.rangeIter (gf := 37) (first := []) (cap := [.pointer (some ⟨m1, 0, none⟩), .pointer (some ⟨m2, 0, none⟩)]) rfl Try.call37 (ih (m : Int) m1 m2 hmem) (Z := Z) (own := fun k z => [H (posP L (kidP L x) i + k) z, idI n1 x, pcI n2 ab ao c L.length mb, .cl b3 54 [.func (.yield l) #[] #[]], marksI Ds]) (Inv := fun k z => Inv (posP L (kidP L x) i + k) z) z hinv (List.Perm.refl _) (fun _ => rfl) (by decide) (Y := (Nat × Y)) (fun c _ y => c = .ret ∧ y.1 < (PT L x).length) (fun y => [J y.1 y.2, idI n1 x, pcI n2 ab ao c L.length mb, .cl b3 54 [.func (.yield l) #[] #[]], marksI Ds]) ?_ ?_ ?_
        · intro lk l2 D2 k x2 z1 hx hz w1 M1
          refine WP.region ?_
          refine WPL.val (v_assign (v := .int .i64 _) rfl) ?_
          refine WPL.nil (begun_of (i := 0) rfl ?_)
          refine WP.block ?_
          refine WP.seq ?_
          refine WP.region ?_
          refine WPL.val (v_load1 (u := _) Try.isAgg54 rfl (fun w hw => hw.cl_at (i := 10) rfl _ rfl)) ?_
          refine WPL.val (v_move (v := .int .i64 _) rfl) ?_
          refine WPL.ef (x_yieldC (hy (posP L (kidP L x) i + k) x2 z1 (by rw [hsub]; exact posP_at hkid hx) hz) [3, 4, 8, 9, 7] [0, 1, 2, 5, 6, 10, 11] rfl (τ := fun _ => [_, _, _, _, _, _, _, _, _, _, _, _]) (fun _ => rfl)) (fun o1 => ?_)
          refine WPL.fact (fun hf => ?_)
          refine WPL.val (v_not rfl) ?_
          refine WPL.nil (onto_of ?_)
          refine WP.cond rfl (fun h38 => ?_) (fun h38 => ?_)
          ·
            obtain ⟨y, rfl⟩ := isRight_of h38
            have hlt : posP L (kidP L x) i + k < (PT L x).length := by rw [hsub]; exact (List.getElem?_eq_some_iff.1 (posP_at (id := x) hkid hx)).1
            exact WP.ret (fun w hw => RoundQ.jump (i := 0) (.inl ⟨rfl, rfl⟩) rfl hw (fun w2 hw2 => .inr ⟨_, (posP L (kidP L x) i + k, y), rfl, ⟨rfl, hlt⟩, (hw2.sel [0, 1, 2, 7, 8, 3, 4, 11, 9, 10, 5, 6] (by decide))⟩))
          ·
            obtain ⟨z2, rfl⟩ := isLeft_of h38
            exact WP.skip (fun w hw => RoundQ.normal (i := 0) rfl hw (fun w2 hw2 => .inl ⟨z2, rfl, (hf z2 rfl), (hw2.sel [0, 1, 2, 7, 8, 3, 4, 11, 9, 10, 5, 6] (by decide))⟩))
        · intro D z3 hz
          refine fin_id (onto_of ?_)
          refine WP.region ?_
          refine WPL.val (v_add rfl rfl (by omega)) ?_
          refine WPL.val (v_move (v := .int .i64 _) rfl) ?_
          exact WPL.nil fun w hw => ⟨(i + 1, z3, D :: Ds), (by simp only; omega), rfl, ⟨rfl, rfl, rfl, (via (.slice _ _ _) rfl rfl), (via (.int .i64 _) rfl rfl), rfl, trivial⟩, ⟨⟨by simp only; omega, by simp only; rw [posP_succ hkid]; exact hz⟩, by simp only; rw [posP_succ hkid]; exact St.mark (hw.sel [8, 9, 0, 1, 5, 6, 7, 4] (by decide))⟩⟩
        · intro D c k y hf hk2
          obtain ⟨rfl, hlt⟩ := hf
          obtain ⟨yk, yy⟩ := y
          exact WP.retM (D :: Ds) (τ := [.ob ab o, picI mb es, idI n1 x, pcI n2 ab ao c L.length mb, J yk yy]) (fun w hw => St.unmark (St.mark (hw.sel [8, 9, 0, 1, 5, 6, 4] (by decide)))) (fun _ h => h) (fun w hw => RetQ.of0 Try.results37 (.inl rfl) ⟨.inr (yk, yy), rfl, ⟨fun z e => (by cases e), fun p e => (by cases e; exact hlt)⟩, hw⟩)
    ·
      have hi : i = (kidP L x).length := by rw [hes] at h17; omega
      exact WP.exit fun w hw => RetQ.marksE Ds (.inr rfl) (St.unmark (hw.sel [0, 1, 2, 3, 4, 6] (by decide))) (fun w hw => RetQ.of0 Try.results37 (.inl rfl) ⟨.inl z, rfl, ⟨fun z9 e9 => (by cases e9; rw [hsub, ← posP_all L, ← hi]; exact hinv), fun p e => (by cases e)⟩, (by rw [show (PT L x).length = posP L (kidP L x) i from by rw [hsub, ← posP_all L, ← hi]]; exact hw)⟩)
theorem all_iter (ab ao c mb : Nat) (o : Obj) (L : List PN) (hP : PV L) (hL : L.length ≤ 1000) (ho : obN o ao L) (es : List KE) (hes : ∀ a, lstK es a = kidP L a) : ∀ (n : Nat) (x : Int) (n1 n2 : Nat), L.length - x.toNat ≤ n →
    IterOK Try.prog 37 [] [.pointer (some ⟨n1, 0, none⟩), .pointer (some ⟨n2, 0, none⟩)] [.ob ab o, picI mb es, idI n1 x, pcI n2 ab ao c L.length mb] intA (PT L x)
  | 0, x, n1, n2, hn => all_step ab ao c mb o L hP hL ho es hes x n1 n2 fun y m1 m2 hm => by
    have := kidP_gt hP hm; omega
  | n + 1, x, n1, n2, hn => all_step ab ao c mb o L hP hL ho es hes x n1 n2 fun y m1 m2 hm => by
    have := kidP_gt hP hm
    exact all_iter ab ao c mb o L hP hL ho es hes n y m1 m2 (by omega)
/-- slices.Collect(p.all(x)). -/
theorem collectP_ct (ab ao c mb : Nat) (o : Obj) (L : List PN) (hP : PV L) (hL : L.length ≤ 1000) (ho : obN o ao L) (es : List KE) (hes : ∀ a, lstK es a = kidP L a) (x : Int) (n1 n2 : Nat) (hlen : (PT L x).length ≤ 1000) :
    Ct Try.prog 29 #[.func (.func 37) #[] #[.pointer (some ⟨n1, 0, none⟩), .pointer (some ⟨n2, 0, none⟩)]] [picI mb es, idI n1 x, pcI n2 ab ao c L.length mb] (fun w => w.heap[ab]? = some o ∧ ¬ foots [picI mb es, idI n1 x, pcI n2 ab ao c L.length mb] ab) (X := Option Addr × Nat) (fun p => .slice p.1 (PT L x).length p.2) (fun _ => True)
      (fun p => [picI mb es, idI n1 x, pcI n2 ab ao c L.length mb, kidsI p.1 (PT L x).length p.2 (PT L x)]) := by
  have h := collect_ct 37 [.pointer (some ⟨n1, 0, none⟩), .pointer (some ⟨n2, 0, none⟩)] Try.call37 (bundle [.ob ab o, picI mb es, idI n1 x, pcI n2 ab ao c L.length mb]) (PT L x) (by omega) (all_iter ab ao c mb o L hP hL ho es hes _ x n1 n2 (Nat.le_refl _)).pack
  refine Ct.weaken ?_
  intro w h1 h2 h3
  have st := St.pack (F := []) (by simpa using St.start h1 h2)
  refine (h w st.all st.disj h3).mono ?_
  rintro e w' ⟨p, rfl, hf, hs⟩
  refine ⟨p, rfl, hf, ?_⟩
  have hs' := hs.unpack
  rw [foots_bundle] at hs'
  exact hs'
end Go.Proofs.Ytmjdmlgdffoimab
