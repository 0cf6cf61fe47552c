/- What turns a tree: Add. -/
import Derived.Test.YtmjdmlgdffoimaaTreeMut
namespace Go.Proofs.Ytmjdmlgdffoimaa
open Go.RowKit

theorem mem_ids {es : List PE} {x : Int} : x ∈ es.map PE.id ↔ hasF (FoR es) x = true := by
  unfold hasF FoR
  constructor
  · intro h
    obtain ⟨e, he, rfl⟩ := List.mem_map.1 h
    cases hl : lookE es e.id with
    | some _ => rfl
    | none =>
      have : ∀ es : List PE, e ∈ es → lookE es e.id ≠ none := by
        intro es
        induction es with
        | nil => intro h; cases h
        | cons a es ih =>
          intro h
          unfold lookE
          split
          · simp
          · rename_i hn
            rcases List.mem_cons.1 h with rfl | h
            · exact absurd rfl hn
            · exact ih h
      exact absurd hl (this es he)
  · intro h
    cases hl : lookE es x with
    | none => rw [hl] at h; cases h
    | some e => exact List.mem_map.2 ⟨e, (lookE_mem hl).1, (lookE_mem hl).2⟩
theorem len_es {es : List PE} (hk : LOk es) {d : Int → Nat} (hF : WF (FoR es) d) : lenF (FoR es) = es.length := by
  have h1 := nodup_len (l := es.map PE.id) (m := order (FoR es)) hk.nodup (fun x hx => hF.mem_order.2 (mem_ids.1 hx))
  have h2 := nodup_len (l := order (FoR es)) (m := es.map PE.id) hF.order_nodup (fun x hx => mem_ids.2 (hF.mem_order.1 hx))
  rw [List.length_map] at h1 h2
  unfold lenF; omega
theorem St.treeBoxK {w0 w : World} {M : Nat → Prop} {σ : List HI} {i tp mb : Nat} {es : List PE} (h : St w0 M σ w) (hi : σ[i]? = some (treeI tp mb es)) {e : PE} {x : Int} (he : lookE es x = some e) : CellsAt w e.bb 1 [.slice e.A e.kids.length e.c] :=
  cells_of_cl (h.tree hi (.cl e.bb 69 e.cells) (List.mem_cons_of_mem _ (List.mem_cons_of_mem _ (List.mem_flatMap.2 ⟨e, (lookE_mem he).1, by simp [PE.items]⟩)))) 1 rfl
def newE (id : Int) (bb : Nat) (up : Int) : PE := ⟨id, bb, none, 0, up, [], zeroS⟩
theorem St.shutAdd {w0 w : World} {M : Nat → Prop} {tp mb : Nat} {es : List PE} {F : List HI} {id up : Int} {bb : Nat} (hn : lookE es id = none)
    (h : St w0 M (.cl tp 72 [.map (some mb)] :: mapI mb (putM (es.map PE.ent) id (.pointer (some ⟨bb, 0, none⟩))) :: restI es :: .cl bb 69 (.int .i64 up :: .slice none 0 0 :: zeroS) :: F) w) : St w0 M (treeI tp mb (es ++ [newE id bb up]) :: F) w := by
  have h1 := h.nilRow 3 1
  rw [put_new es id _ hn] at h1
  have h2 : St w0 M (.cl (newE id bb up).bb 69 (newE id bb up).cells :: kidsI (newE id bb up).A (newE id bb up).kids.length (newE id bb up).c (newE id bb up).kids :: restI es :: (.cl tp 72 [.map (some mb)] :: mapI mb ((es ++ [newE id bb up]).map PE.ent) :: F)) w := by
    refine h1.perm ?_
    rw [List.map_append]
    refine List.Perm.trans ?_ (List.Perm.swap _ _ _)
    refine (List.perm_append_comm (l₂ := [HI.row 3 1 none 0 0 []])).trans (List.Perm.cons _ ?_)
    refine List.Perm.trans (List.Perm.cons _ ((List.Perm.cons _ (List.Perm.swap _ _ _)).trans (List.Perm.swap _ _ _))) ?_
    refine (List.Perm.swap _ _ _).trans (List.Perm.cons _ ?_)
    exact (List.Perm.cons _ (List.Perm.swap _ _ _)).trans (List.Perm.swap _ _ _)
  have h3 := St.shutR (es' := es ++ [newE id bb up]) (List.perm_append_comm (l₂ := [newE id bb up])) h2
  exact St.shutT (h3.perm ((List.Perm.swap _ _ _).trans (List.Perm.cons _ (List.Perm.swap _ _ _))))
theorem LOk.app {es : List PE} (h : LOk es) {id up : Int} {bb : Nat} (hn : lookE es id = none) : LOk (es ++ [newE id bb up]) := by
  refine ⟨fun e he => ?_, ?_⟩
  · rcases List.mem_append.1 he with he | he
    · exact h.sty e he
    · obtain rfl : e = _ := by simpa using he
      exact zeroS_ok
  · rw [List.map_append, List.nodup_append]
    refine ⟨h.nodup, by simp, fun a ha b hb e => ?_⟩
    obtain rfl : b = id := by simpa [newE] using hb
    subst e
    have := mem_ids.1 ha
    rw [hasF, FoR, hn] at this
    cases this
theorem look_old {es : List PE} {x : Int} {e : PE} (h : lookE es x = some e) (n : PE) : lookE (es ++ [n]) x = some e := by rw [look_app, h]
theorem FoR_add {es : List PE} {up id : Int} {e : PE} (h : lookE es up = some e) (hn : lookE es id = none) {bb bb2 : Nat} {A : Option Addr} {c k : Nat} : FoR (setE (es ++ [newE id bb2 up]) ⟨e.id, bb, A, c, e.up, insAt e.kids k id, e.sty⟩) = addG (FoR es) up k id zeroS := by
  have hi := (lookE_mem h).2
  funext y
  rw [FoR_set (e := e) (by show lookE _ e.id = some e; rw [hi]; exact look_old h _), addG, FoR_some h, hi]
  split
  · rfl
  · unfold FoR
    rw [look_app]
    by_cases hy : y = id
    · subst hy; rw [hn]; simp [newE]
    · rw [if_neg hy]
      cases lookE es y with
      | some a => rfl
      | none => simp [newE, Ne.symm hy]
set_option maxRecDepth 100000 in
set_option maxHeartbeats 2000000 in
theorem add_ct (tp mb : Nat) (es : List PE) (hk : LOk es) {d : Int → Nat} (hF : WF (FoR es) d) (up at_ : Int) :
    Ct Try.prog 32 #[.pointer (some ⟨tp, 0, none⟩), .int .i64 up, .int .i64 at_] [treeI tp mb es] (fun _ => True) (X := List PE) (fun _ => .tuple #[.int .i64 (addR zeroS (FoR es) up at_).2.1, .int .i64 (addR zeroS (FoR es) up at_).2.2]) (fun es' => FoR es' = (addR zeroS (FoR es) up at_).1 ∧ LOk es') (fun es' => [treeI tp mb es']) := by
  have hlen := len_es hk hF
  refine Ct.intro Try.func32 rfl Try.ntmps32 (by simp) (fun w0 _ => ?_)
  refine WP.seq ?_
  refine WP.region ?_
  refine WPL.val (v_assign (v := .int .i64 (0)) rfl) ?_
  refine WPL.val (v_assign (v := .int .i64 (0)) rfl) ?_
  refine WPL.nil (onto_of ?_)
  refine WP.seq ?_
  refine WP.region ?_
  refine WPL.val (v_move (v := .pointer _) rfl) ?_
  refine WPL.val (v_nil rfl) ?_
  refine WPL.val (v_field (off := 0) Try.underlying72 rfl Try.sizeOf70 rfl) ?_
  refine WPL.val (v_load1 (u := .map _) Try.isAgg70 rfl (fun w hw => hw.treeRoot (i := 0) rfl)) ?_
  refine WPL.val (v_move (v := .int .i64 _) rfl) ?_
  refine WPL.val (v_lookT (es := es) (i := 0) rfl Try.underlying70 Try.underlying3 Try.zeroValue67 rfl rfl) ?_
  refine WPL.val (v_assign (v := .pointer _) rfl) ?_
  refine WPL.nil (onto_of ?_)
  refine WP.seq ?_
  refine WP.block ?_
  refine WP.seq ?_
  refine WP.region ?_
  refine WPL.val (v_move (v := .pointer _) rfl) ?_
  refine WPL.val (v_eqNil Try.underlying67 rfl rfl) ?_
  refine WPL.val (v_assign (v := .bool _) rfl) ?_
  refine WPL.nil (onto_of ?_)
  refine WP.cond rfl (fun h16 => ?_) (fun h16 => ?_)
  ·
    have hr : addR zeroS (FoR es) up at_ = (FoR es, -1, 2) := by
      have hn : hasF (FoR es) up = false := by rw [← ptr_has]; cases h : ptrE es up with | none => rfl | some a => rw [h] at h16; cases h16
      simp [addR, hn]
    refine WP.seq ?_
    refine WP.region ?_
    refine WPL.val (v_assign (v := .int .i64 (-1)) rfl) ?_
    refine WPL.val (v_assign (v := .int .i64 (2)) rfl) ?_
    refine WPL.nil (onto_of ?_)
    exact WP.ret2 Try.results32 (fun _ h => h) (fun w hw => ⟨es, by rw [hr]; rfl, ⟨by rw [hr], hk⟩, (hw.sel [0] (by decide))⟩)
  ·
    obtain ⟨e, he⟩ := look_of (es := es) (x := up) (by rw [← ptr_has]; cases h : ptrE es up with | none => rw [h] at h16; cases h16 | some a => rfl)
    rw [ptr_some he]
    have hup : hasF (FoR es) up = true := has_some (FoR_some he)
    have hke : kidsF (FoR es) up = e.kids := kids_some (FoR_some he)
    refine WP.seq ?_
    refine WP.region ?_
    refine WPL.val (v_move (v := .int .i64 _) rfl) ?_
    refine WPL.val (v_lss rfl rfl) ?_
    refine WPL.val (v_move (v := .bool _) rfl) ?_
    refine WPL.split 22 rfl (fun h22 => ?_) (fun h22 => ?_)
    ·
      refine WPL.skipG ?_
      refine WPL.skipG ?_
      refine WPL.skipG ?_
      refine WPL.skipG ?_
      refine WPL.skipG ?_
      refine WPL.skipG ?_
      refine WPL.skipG ?_
      refine WPL.val (v_pickT (u := .bool _) rfl rfl) ?_
      refine WPL.val (v_assign (v := .bool _) rfl) ?_
      refine WPL.nil (onto_of ?_)
      have hr : addR zeroS (FoR es) up at_ = (FoR es, -1, 1) := by simp [addR, hup, h22]
      refine WP.condT rfl ?_
      refine WP.seq ?_
      refine WP.region ?_
      refine WPL.val (v_assign (v := .int .i64 (-1)) rfl) ?_
      refine WPL.val (v_assign (v := .int .i64 (1)) rfl) ?_
      refine WPL.nil (onto_of ?_)
      exact WP.ret2 Try.results32 (fun _ h => h) (fun w hw => ⟨es, by rw [hr]; rfl, ⟨by rw [hr], hk⟩, (hw.sel [0] (by decide))⟩)
    ·
      refine WPL.valG (v_move (v := .int .i64 _) rfl) ?_
      refine WPL.valG (v_move (v := .pointer _) rfl) ?_
      refine WPL.valG (v_nil rfl) ?_
      refine WPL.valG (v_field (off := 1) Try.underlying69 rfl Try.sizeOf50 rfl) ?_
      refine WPL.valG (v_load1 (u := .slice _ _ _) Try.isAgg50 rfl (fun w hw => hw.treeBoxK (i := 0) rfl he)) ?_
      refine WPL.valG (v_len Try.underlying50 rfl) ?_
      refine WPL.valG (v_gtr rfl rfl) ?_
      refine WPL.val (v_pickF (v := .bool _) rfl rfl) ?_
      refine WPL.val (v_assign (v := .bool _) rfl) ?_
      refine WPL.nil (onto_of ?_)
      refine WP.condP rfl (fun h19 => ?_) (fun h19 => ?_)
      ·
        have hr : addR zeroS (FoR es) up at_ = (FoR es, -1, 1) := by simp [addR, hup, hke]; omega
        refine WP.seq ?_
        refine WP.region ?_
        refine WPL.val (v_assign (v := .int .i64 (-1)) rfl) ?_
        refine WPL.val (v_assign (v := .int .i64 (1)) rfl) ?_
        refine WPL.nil (onto_of ?_)
        exact WP.ret2 Try.results32 (fun _ h => h) (fun w hw => ⟨es, by rw [hr]; rfl, ⟨by rw [hr], hk⟩, (hw.sel [0] (by decide))⟩)
      ·
        refine WP.seq ?_
        refine WP.region ?_
        refine WPL.val (v_move (v := .pointer _) rfl) ?_
        refine WPL.ef (x_call Try.call27 (len_ct tp mb es) [0] [] rfl (fun w hw => trivial) (τ := fun _ => [_]) (fun _ => rfl)) (fun _ => ?_)
        refine WPL.fact (fun _ => ?_)
        refine WPL.val (v_geq rfl rfl) ?_
        refine WPL.val (v_assign (v := .bool _) rfl) ?_
        refine WPL.nil (onto_of ?_)
        refine WP.condP rfl (fun h31 => ?_) (fun h31 => ?_)
        ·
          have hr : addR zeroS (FoR es) up at_ = (FoR es, -1, 4) := by rw [addR, if_neg (by simp [hup]), if_neg (by rw [hke]; omega), if_pos (by rw [hlen]; omega)]
          refine WP.seq ?_
          refine WP.region ?_
          refine WPL.val (v_assign (v := .int .i64 (-1)) rfl) ?_
          refine WPL.val (v_assign (v := .int .i64 (4)) rfl) ?_
          refine WPL.nil (onto_of ?_)
          exact WP.ret2 Try.results32 (fun _ h => h) (fun w hw => ⟨es, by rw [hr]; rfl, ⟨by rw [hr], hk⟩, (hw.sel [0] (by decide))⟩)
        ·
          refine WP.seq ?_
          refine WP.region ?_
          refine WPL.val (v_move (v := .pointer _) rfl) ?_
          refine WPL.val (v_move (v := .int .i64 _) rfl) ?_
          refine WPL.ef (x_call Try.call18 (depth_ct tp mb es hk hF up) [0] [] rfl (fun w hw => trivial) (τ := fun _ => [_]) (fun _ => rfl)) (fun _ => ?_)
          refine WPL.fact (fun _ => ?_)
          refine WPL.val (v_geq rfl rfl) ?_
          refine WPL.val (v_assign (v := .bool _) rfl) ?_
          refine WPL.nil (onto_of ?_)
          refine WP.condP rfl (fun h35 => ?_) (fun h35 => ?_)
          ·
            have hr : addR zeroS (FoR es) up at_ = (FoR es, -1, 5) := by rw [addR, if_neg (by simp [hup]), if_neg (by rw [hke]; omega), if_neg (by rw [hlen]; omega), if_pos (by omega)]
            refine WP.seq ?_
            refine WP.region ?_
            refine WPL.val (v_assign (v := .int .i64 (-1)) rfl) ?_
            refine WPL.val (v_assign (v := .int .i64 (5)) rfl) ?_
            refine WPL.nil (onto_of ?_)
            exact WP.ret2 Try.results32 (fun _ h => h) (fun w hw => ⟨es, by rw [hr]; rfl, ⟨by rw [hr], hk⟩, (hw.sel [0] (by decide))⟩)
          ·
            have hr : addR zeroS (FoR es) up at_ = (addG (FoR es) up at_.toNat (least (FoR es)) zeroS, least (FoR es), 0) := by rw [addR, if_neg (by simp [hup]), if_neg (by rw [hke]; omega), if_neg (by rw [hlen]; omega), if_neg (by omega)]
            have hno : lookE es (least (FoR es)) = none := look_none hF.least_ok.2.2.1
            obtain ⟨k, rfl⟩ : ∃ k : Nat, at_ = k := ⟨at_.toNat, by omega⟩
            rw [Int.toNat_natCast] at hr
            have hkl : k ≤ e.kids.length := by omega
            refine WP.skip (onto_of ?_)
            refine WP.seq ?_
            refine WP.region ?_
            refine WPL.val (v_move (v := .pointer _) rfl) ?_
            refine WPL.ef (x_call Try.call46 (least_ct tp mb es hF) [0] [] rfl (fun w hw => trivial) (τ := fun _ => [_]) (fun _ => rfl)) (fun _ => ?_)
            refine WPL.fact (fun _ => ?_)
            refine WPL.val (v_assign (v := .int .i64 _) rfl) ?_
            refine WPL.nil (onto_of ?_)
            refine WP.seq ?_
            refine WP.pre ?_ (fun w hw => St.openT (hw.sel [0] (by decide)))
            
            refine WP.region ?_
            refine WPL.val (v_move (v := .pointer _) rfl) ?_
            refine WPL.val (v_nil rfl) ?_
            refine WPL.val (v_fieldL (o' := 0) Try.underlying72 rfl Try.sizeOf70 rfl rfl) ?_
            refine WPL.val (v_load1 (u := .map _) Try.isAgg70 rfl (fun w hw => hw.cl_at (i := 0) rfl _ rfl)) ?_
            refine WPL.val (v_move (v := .int .i64 _) rfl) ?_
            refine WPL.val (v_move (v := .int .i64 _) rfl) ?_
            refine WPL.val (v_struct (us := (.int .i64 up :: .slice none 0 0 :: zeroS)) (pl := [(0, 1), (1, 1), (2, 55)]) Try.underlying69 Try.zeroValue69 rfl (by kernel_rfl) rfl rfl (by kernel_rfl)) ?_
            refine WPL.ef (x_boxA (us := (.int .i64 up :: .slice none 0 0 :: zeroS)) (σ' := fun _ => [_, _, _, _]) rfl (fun _ => rfl)) (fun nb => ?_)
            refine WPL.ef0 (x_mapPut (m := es.map PE.ent) (u := .pointer (some ⟨nb, 0, none⟩)) (σ' := [_, _, _, _]) Try.underlying70 Try.underlying3 rfl rfl rfl (i := 1) rfl rfl) (fun _ => ?_)
            refine WPL.nil (onto_of ?_)
            refine WP.seq ?_
            refine WP.pre ?_ (fun w hw => St.openB (look_old he (newE (least (FoR es)) nb up)) (St.shutAdd hno (hw.sel [0, 1, 2, 3] (by decide))))
            
            refine WP.region ?_
            refine WPL.val (v_move (v := .pointer _) rfl) ?_
            refine WPL.val (v_move (v := .pointer _) rfl) ?_
            refine WPL.val (v_nil rfl) ?_
            refine WPL.val (v_fieldL (o' := 1) Try.underlying69 rfl Try.sizeOf50 rfl rfl) ?_
            refine WPL.val (v_load1 (u := .slice _ _ _) Try.isAgg50 rfl (fun w hw => hw.cl_at (i := 0) rfl _ rfl)) ?_
            refine WPL.val (v_move (v := .int .i64 _) rfl) ?_
            refine WPL.val (v_move (v := .int .i64 _) rfl) ?_
            refine WPL.ef (x_buildSlice (us := [.int .i64 _]) (σ' := fun _ => [_, _, _, _, _, _]) Try.underlying50 Try.sizeOf3 Try.zeroValue3 rfl rfl rfl (by decide) (by decide) (fun _ => rfl)) (fun g57 => ?_)
            refine WPL.ef (x_call Try.call45 (insert_ct e.A e.c e.kids k hkl g57 (least (FoR es)) (by have := hF.kids_len he; omega)) [1, 5] [0, 2, 3, 4] rfl (fun w hw => trivial) (τ := fun _ => [_, _, _, _, _]) (fun _ => rfl)) (fun ⟨A58, c58⟩ => ?_)
            refine WPL.fact (fun _ => ?_)
            refine WPL.val (v_nil rfl) ?_
            refine WPL.val (v_fieldL (o' := 1) Try.underlying69 rfl Try.sizeOf50 rfl rfl) ?_
            refine WPL.ef0 (x_store (u := .slice _ _ _) (σ' := [_, _, _, _, _]) Try.sizeOf50 rfl rfl (i := 0) rfl (Nat.lt_of_lt_of_le (Nat.lt_succ_self _) (Nat.le_of_ble_eq_true rfl)) rfl) (fun _ => ?_)
            refine WPL.nil (onto_of ?_)
            refine WP.seq ?_
            refine WP.region ?_
            refine WPL.val (v_move (v := .int .i64 _) rfl) ?_
            refine WPL.val (v_assign (v := .int .i64 _) rfl) ?_
            refine WPL.val (v_assign (v := .int .i64 (0)) rfl) ?_
            refine WPL.nil (onto_of ?_)
            exact WP.ret2 Try.results32 (fun _ h => h) (fun w hw => ⟨setE (es ++ [newE (least (FoR es)) nb up]) ⟨e.id, e.bb, A58, c58, e.up, insAt e.kids k (least (FoR es)), e.sty⟩, by rw [hr]; rfl, ⟨by rw [hr]; exact FoR_add he hno, (hk.app hno).set (e := e) (by show lookE _ e.id = some e; rw [(lookE_mem he).2]; exact look_old he _) (hk.sty e (lookE_mem he).1)⟩, St.shutK (look_old he _) (insAt_len hkl).symm (hw.sel [0, 4, 1, 2, 3] (by decide))⟩)
end Go.Proofs.Ytmjdmlgdffoimaa
