/- The law FlexFills: the plain law, the walk. -/
import Derived.Test.YtabdcfobdehhiaaFlexLawD
namespace Go.Proofs.Ytabdcfobdehhiaa
open Go.RowKit

theorem info28 : (Try.prog.info? 28).map (fun i => (i.zero, i.size, i.bytes)) = some (some (.agg #[.int .i64 0, .int .i64 0, .int .i64 0, .int .i64 0, .int .i64 0]), 5, 40) := by kernel_rfl
def ssum (vs : List Int) (k : Nat) : Int := (vs.take k).sum
theorem ssum_zero (vs : List Int) : ssum vs 0 = 0 := by simp [ssum]
theorem ssum_succ (vs : List Int) (k : Nat) {v : Int} (h : vs[k]? = some v) : ssum vs (k + 1) = ssum vs k + v := by unfold ssum; rw [take_snoc h]; simp
theorem ssum_bd {vs : List Int} {m : Int} (h : ∀ (i : Nat) (v : Int), vs[i]? = some v → 0 ≤ v ∧ v ≤ 1048576) : ∀ k : Nat, 0 ≤ ssum vs k ∧ ssum vs k ≤ k * 1048576
  | 0 => by simp [ssum]
  | k + 1 => by
    have ih := ssum_bd (m := m) h k
    cases hv : vs[k]? with
    | none =>
      have : vs.take (k + 1) = vs.take k := by rw [List.take_add_one, hv]; simp
      unfold ssum at *; rw [this]; omega
    | some v => rw [ssum_succ vs k hv]; have := h k v hv; omega
theorem sizes_bd {l : List FItem} {room : Int} {i : Nat} {s : Int} (hs : (sizes l room)[i]? = some s) : 0 ≤ s ∧ s ≤ 1048576 := by
  unfold sizes at hs
  rw [List.getElem?_map] at hs
  cases he : (final (grows l room) (lot room) (l.map (start (grows l room))))[i]? with
  | none => rw [he] at hs; cases hs
  | some e =>
    rw [he] at hs
    obtain rfl : e.size = s := by simpa using hs
    have h := rounds_oks (g := grows l room) (room := lot room) (kth (l.map (start (grows l room))) (l.map (start (grows l room))).length) (start_oks _ l) i e he
    unfold FE.ok at h
    omega
theorem kth_all {es : List FE} (h : ∀ (i : Nat) (e : FE), es[i]? = some e → e.fr = false) : ∀ n, n ≤ es.length → kth es n = n
  | 0, _ => rfl
  | n + 1, hn => by
    obtain ⟨e, he⟩ : ∃ e, es[n]? = some e := ⟨_, List.getElem?_eq_getElem (by omega)⟩
    rw [kth_open he (h n e he), kth_all h n (by omega)]
theorem wts_prefix (g : Bool) (es : List FE) {i j : Nat} (h : i ≤ j) : wts g es i <+: wts g es j := by
  induction j with
  | zero => obtain rfl : i = 0 := by omega
            exact List.prefix_rfl
  | succ j ih =>
    by_cases e : i = j + 1
    · subst e; exact List.prefix_rfl
    · exact (ih (by omega)).trans (List.prefix_append _ _)
theorem wts_get {g : Bool} {es : List FE} {i : Nat} {e : FE} (h : es[i]? = some e) (hf : e.fr = false) : (wts g es es.length)[kth es i]? = some (wt g e) := by
  refine prefix_get (wts_prefix g es (i := i + 1) (by have := (List.getElem?_eq_some_iff.1 h).1; omega)) ?_
  rw [wts_open h hf, ← kth_wts g]; simp
theorem pmark_le (n : Int) (w : List Int) (k d : Nat) : pmark n w k ≤ pmark n w (k + d) := by
  induction d with
  | zero => exact Int.le_refl _
  | succ d ih => exact Int.le_trans ih (pmark_mono n w (k + d))
/-- If in the one round nothing is beyond its limits, the sizes are what was wanted. -/
theorem one_round {g : Bool} {room : Int} {es : List FE} (hopen : ∀ (i : Nat) (e : FE), es[i]? = some e → e.fr = false) (h0 : es.length ≠ 0) (hgap : ∀ (i : Nat) (e : FE), es[i]? = some e → gap g room es i e = 0) {i : Nat} {e : FE} (he : es[i]? = some e) :
    ((final g room es).map FE.size)[i]? = some (want g room es i e) := by
  have hk : kth es es.length ≠ 0 := by rw [kth_all hopen _ (Nat.le_refl _)]; exact h0
  have hmore : ∀ n, moreTo g room es n = 0 := by
    intro n
    induction n with
    | zero => rfl
    | succ n ih =>
      cases hn : es[n]? with
      | none => simp [moreTo, hn, ih]
      | some x => rw [more_open hn (hopen n x hn), ih, hgap n x hn]; rfl
  have hall : ∀ (i : Nat) (e : FE), (round g room es)[i]? = some e → e.fr = true := by
    intro i e he
    obtain ⟨e0, h0, rfl⟩ := round_at he
    simp [froze, hopen i e0 h0, judge, hmore]
  rw [← final_step hk, final_done (kth_none hall _), List.getElem?_map, round_get he, Option.map_some, froze_size (hopen i e he)]
  have := hgap i e he
  unfold gap at this
  congr 1
  omega

def mkI (gr sh b : Int) : FItem := ⟨b, 0, 1048576, gr, sh⟩
def filE (gr sh b : Int) : FE := ⟨⟨b, 0, 1048576, cl1k gr, cl1k sh⟩, b, false⟩
theorem mk_basic {gr sh b : Int} (h : 0 ≤ b ∧ b ≤ 1048576) : basic (mkI gr sh b) = b := by
  show max (cl20 0) (min (cl20 b) (cl20 1048576)) = b
  unfold cl20; omega
theorem mk_start {g : Bool} {gr sh b : Int} (h : 0 ≤ b ∧ b ≤ 1048576) (h1 : 1 ≤ gr) (h2 : 1 ≤ sh) : start g (mkI gr sh b) = filE gr sh b := by
  have e1 : cl20 b = b := by unfold cl20; omega
  have e2 : cl20 0 = 0 := by decide
  have e3 : cl20 1048576 = 1048576 := by decide
  have e4 : cl1k gr ≠ 0 := by unfold cl1k; omega
  have e5 : cl1k sh ≠ 0 := by unfold cl1k; omega
  have e6 := mk_basic (gr := gr) (sh := sh) h
  unfold start
  rw [e6]
  have e7 : (mkI gr sh b).sound = ⟨b, 0, 1048576, cl1k gr, cl1k sh⟩ := by simp [mkI, FItem.sound, e1, e2, e3]
  rw [e7]
  unfold filE
  cases g <;> simp [e4, e5]
theorem fills_sum {bs : List Int} {gr sh room : Int} (hb : ∀ (i : Nat) (b : Int), bs[i]? = some b → 0 ≤ b ∧ b ≤ 1048576) (hn : 1 ≤ bs.length ∧ bs.length ≤ 64) (h1 : 1 ≤ gr) (h2 : 1 ≤ sh) (hr : 0 ≤ room ∧ room ≤ 1048576) :
    ssum (sizes (bs.map (mkI gr sh)) room) bs.length = room := by
  have hlot : lot room = room := by unfold lot; omega
  have hbd := ssum_bd (m := 0) hb
  have htot : ∀ k, k ≤ bs.length → tot (bs.map (mkI gr sh)) k = ssum bs k := by
    intro k
    induction k with
    | zero => intro _; rw [tot_zero, ssum_zero]
    | succ k ih =>
      intro hk
      obtain ⟨b, hb'⟩ : ∃ b, bs[k]? = some b := ⟨_, List.getElem?_eq_getElem (by omega)⟩
      rw [tot_succ _ k (mkI gr sh b) (map_at _ hb' rfl), ssum_succ bs k hb', ih (by omega), mk_basic (hb k b hb')]
  have hg1 := cl1k_bd gr
  have hs1 := cl1k_bd sh
  have hg2 : 1 ≤ cl1k gr := by unfold cl1k; omega
  have hs2 : 1 ≤ cl1k sh := by unfold cl1k; omega
  have hgr : grows (bs.map (mkI gr sh)) room = decide (ssum bs bs.length < room) := by
    unfold grows
    rw [hlot, List.length_map, htot _ (Nat.le_refl _)]
  unfold sizes
  rw [hlot]
  generalize hg : grows (bs.map (mkI gr sh)) room = g at hgr ⊢
  have hes : (bs.map (mkI gr sh)).map (start g) = bs.map (filE gr sh) := by
    apply List.ext_getElem?
    intro i
    simp only [List.getElem?_map]
    cases hi : bs[i]? with
    | none => rfl
    | some b => simp only [Option.map_some]; rw [mk_start (hb i b hi) h1 h2]
  rw [hes]
  generalize hE : bs.map (filE gr sh) = es
  have hlen : es.length = bs.length := by rw [← hE]; simp
  have hget : ∀ (i : Nat) (e : FE), es[i]? = some e → ∃ b, bs[i]? = some b ∧ e = filE gr sh b := by
    intro i e he
    rw [← hE, List.getElem?_map] at he
    cases hi : bs[i]? with
    | none => rw [hi] at he; cases he
    | some b => rw [hi] at he; cases he; exact ⟨b, rfl, rfl⟩
  have hopen : ∀ (i : Nat) (e : FE), es[i]? = some e → e.fr = false := by
    intro i e he
    obtain ⟨b, _, rfl⟩ := hget i e he
    rfl
  have hkth := kth_all hopen
  have hat : ∀ (i : Nat) (b : Int), bs[i]? = some b → es[i]? = some (filE gr sh b) := fun i b h => by rw [← hE]; exact map_at _ h rfl
  have htook : ∀ k, k ≤ bs.length → took es k = ssum bs k := by
    intro k
    induction k with
    | zero => intro _; rw [ssum_zero]; rfl
    | succ k ih =>
      intro hk
      obtain ⟨b, hb'⟩ : ∃ b, bs[k]? = some b := ⟨_, List.getElem?_eq_getElem (by omega)⟩
      rw [took_open (hat k b hb') rfl, ih (by omega), ssum_succ bs k hb']; rfl
  obtain ⟨F, hF⟩ : ∃ F, fre g room es = F := ⟨_, rfl⟩
  obtain ⟨ws, hws⟩ : ∃ ws, wts g es es.length = ws := ⟨_, rfl⟩
  have hwl : ws.length = bs.length := by rw [← hws, kth_wts, hkth _ (Nat.le_refl _), hlen]
  have hwat : ∀ (i : Nat) (b : Int), bs[i]? = some b → ws[i]? = some (wt g (filE gr sh b)) := by
    intro i b h
    have := wts_get (g := g) (hat i b h) rfl
    rw [hkth i (by have := (List.getElem?_eq_some_iff.1 h).1; omega), hws] at this
    exact this
  have hB := hbd bs.length
  have hFv : F = sg g * (room - ssum bs bs.length) := by rw [← hF]; unfold fre; rw [hlen, htook _ (Nat.le_refl _)]
  have hF0 : 0 ≤ F ∧ F ≤ 67108864 := by
    rw [hFv]
    cases g with
    | true => have := of_decide_eq_true hgr.symm; simp only [sg, if_true]; omega
    | false => have := of_decide_eq_false hgr.symm; simp only [sg, Bool.false_eq_true, if_false]; omega
  have hlF : lot F = F := by unfold lot; omega
  have hpart : ∀ (i : Nat) (b : Int), bs[i]? = some b → want g room es i (filE gr sh b) = b + sg g * (pmark F ws (i + 1) - pmark F ws i) := by
    intro i b h
    have hi := (List.getElem?_eq_some_iff.1 h).1
    unfold want parts
    rw [hF, hws, hkth i (by omega), List.getD_eq_getElem?_getD, share_get _ _ _ (by omega)]
    rfl
  have hsub : ∀ (k : Nat), k ≤ bs.length → g = false → psum ws k = cl1k sh * ssum bs k := by
    intro k
    induction k with
    | zero => intro _ _; rw [psum_zero, ssum_zero, Int.mul_zero]
    | succ k ih =>
      intro hk hgf
      obtain ⟨b, hb'⟩ : ∃ b, bs[k]? = some b := ⟨_, List.getElem?_eq_getElem (by omega)⟩
      have h3 := hb k b hb'
      have h4 : 0 ≤ cl1k sh * b := Int.mul_nonneg (by omega) (by omega)
      have h5 : cl1k sh * b ≤ 1000 * 1048576 := Int.mul_le_mul (by omega) (by omega) (by omega) (by omega)
      rw [psum_succ ws k _ (hwat k b hb'), ih (by omega) hgf, ssum_succ bs k hb', Int.mul_add]
      have e : wt g (filE gr sh b) = cl1k sh * b := by rw [hgf]; rfl
      rw [e]
      unfold wgt
      omega
  have hend : pmark F ws bs.length = F := by
    by_cases hz : 0 < psum ws ws.length
    · rw [← hwl, pmark_whole F ws hz, hlF]
    · have ht := pmark_top F ws bs.length
      obtain ⟨b, hb'⟩ : ∃ b, bs[0]? = some b := ⟨_, List.getElem?_eq_getElem (by omega)⟩
      cases hgc : g with
      | true =>
        exfalso
        have h3 : psum ws 1 = psum ws 0 + wgt (wt g (filE gr sh b)) := psum_succ ws 0 _ (hwat 0 b hb')
        have h4 := psum_le ws 1 (ws.length - 1)
        rw [show 1 + (ws.length - 1) = ws.length by omega] at h4
        have e : wt g (filE gr sh b) = cl1k gr := by rw [hgc]; rfl
        rw [psum_zero, e] at h3
        unfold wgt at h3
        omega
      | false =>
        have h3 := hsub bs.length (Nat.le_refl _) hgc
        rw [← hwl] at h3
        rw [hwl] at h3 hz
        have h4 : ssum bs bs.length = 0 := by
          by_cases h5 : 1 ≤ ssum bs bs.length
          · have := Int.mul_le_mul hs2 h5 (by omega) (by omega); omega
          · omega
        have h6 := of_decide_eq_false (hgc ▸ hgr.symm)
        have h7 : F = 0 := by rw [hFv, hgc]; simp only [sg, Bool.false_eq_true, if_false]; omega
        omega
  have hstep : ∀ (i : Nat) (b : Int), bs[i]? = some b → g = false → pmark F ws (i + 1) ≤ pmark F ws i + b := by
    intro i b h hgf
    have hi := (List.getElem?_eq_some_iff.1 h).1
    have h3 := hsub i (by omega) hgf
    have h4 := hsub (i + 1) (by omega) hgf
    have h5 := hsub bs.length (Nat.le_refl _) hgf
    have h6 := hb i b h
    rw [ssum_succ bs i h, Int.mul_add] at h4
    have h7 : F = ssum bs bs.length - room := by rw [hFv, hgf]; simp only [sg, Bool.false_eq_true, if_false]; omega
    unfold pmark whole
    rw [hwl, hlF]
    have hS0 : 0 ≤ psum ws bs.length := (psum_bd ws _).1
    by_cases hz : psum ws bs.length = 0
    · have a1 := psum_all ws (i + 1); have a2 := (psum_bd ws (i + 1)).1; have a3 := (psum_bd ws i).1; have a4 := psum_all ws i
      rw [hwl] at a1 a4
      rw [show psum ws (i + 1) = 0 by omega, show psum ws i = 0 by omega]; simp; omega
    · rw [show max (psum ws bs.length) 1 = psum ws bs.length by omega]
      have h8 : F * psum ws (i + 1) ≤ F * psum ws i + psum ws bs.length * b := by
        rw [show psum ws (i + 1) = psum ws i + cl1k sh * b by omega, Int.mul_add]
        have h9 : F * (cl1k sh * b) ≤ psum ws bs.length * b := by
          rw [h5, ← Int.mul_assoc]
          refine Int.mul_le_mul_of_nonneg_right ?_ (by omega)
          rw [Int.mul_comm]
          exact Int.mul_le_mul_of_nonneg_left (by omega) (by omega)
        omega
      calc F * psum ws (i + 1) / psum ws bs.length ≤ (F * psum ws i + psum ws bs.length * b) / psum ws bs.length := Int.ediv_le_ediv (by omega) h8
        _ = F * psum ws i / psum ws bs.length + b := Int.add_mul_ediv_left _ _ (by omega)
  have hwant : ∀ (i : Nat) (b : Int), bs[i]? = some b → 0 ≤ want g room es i (filE gr sh b) ∧ want g room es i (filE gr sh b) ≤ 1048576 := by
    intro i b h
    have hi := (List.getElem?_eq_some_iff.1 h).1
    have h3 := hb i b h
    have h4 := pmark_mono F ws i
    have h5 := (pmark_top F ws i).1
    rw [hpart i b h]
    cases hgc : g with
    | true =>
      have h6 := pmark_le F ws (i + 1) (bs.length - (i + 1))
      rw [show i + 1 + (bs.length - (i + 1)) = bs.length by omega, hend] at h6
      have h7 : F = room - ssum bs bs.length := by rw [hFv, hgc]; simp only [sg, if_true]; omega
      have h8 : b ≤ ssum bs bs.length := by
        have a1 := ssum_succ bs i h
        have a2 := (hbd i).1
        have a3 : ∀ d, ssum bs (i + 1) ≤ ssum bs (i + 1 + d) := by
          intro d
          induction d with
          | zero => exact Int.le_refl _
          | succ d ih =>
            cases hv : bs[i + 1 + d]? with
            | none =>
              have : bs.take (i + 1 + d + 1) = bs.take (i + 1 + d) := by rw [List.take_add_one, hv]; simp
              refine Int.le_trans ih ?_
              unfold ssum
              rw [show i + 1 + (d + 1) = i + 1 + d + 1 by omega, this]
              exact Int.le_refl _
            | some v =>
              have := hb _ v hv
              rw [show i + 1 + (d + 1) = i + 1 + d + 1 by omega, ssum_succ bs _ hv]; omega
        have a4 := a3 (bs.length - (i + 1))
        rw [show i + 1 + (bs.length - (i + 1)) = bs.length by omega] at a4
        omega
      simp only [sg, if_true]
      omega
    | false =>
      have h6 := hstep i b h hgc
      simp only [sg, Bool.false_eq_true, if_false]
      omega
  have hgap : ∀ (i : Nat) (e : FE), es[i]? = some e → gap g room es i e = 0 := by
    intro i e he
    obtain ⟨b, hb', rfl⟩ := hget i e he
    have h3 := hwant i b hb'
    unfold gap
    have e2 : cl20 0 = 0 := by decide
    have e3 : cl20 1048576 = 1048576 := by decide
    have e4 : (filE gr sh b).it.fit (want g room es i (filE gr sh b)) = want g room es i (filE gr sh b) := by
      show max (cl20 0) (min (want g room es i (filE gr sh b)) (cl20 1048576)) = _
      rw [e2, e3]; omega
    rw [e4]; omega
  have hsz : ∀ k, k ≤ bs.length → ssum ((final g room es).map FE.size) k = ssum bs k + sg g * pmark F ws k := by
    intro k
    induction k with
    | zero => intro _; rw [ssum_zero, ssum_zero, pmark_zero, Int.mul_zero]; rfl
    | succ k ih =>
      intro hk
      obtain ⟨b, hb'⟩ : ∃ b, bs[k]? = some b := ⟨_, List.getElem?_eq_getElem (by omega)⟩
      have h3 := one_round hopen (by omega) hgap (hat k b hb')
      rw [ssum_succ _ k h3, ssum_succ bs k hb', ih (by omega), hpart k b hb', Int.mul_sub]
      omega
  rw [hsz _ (Nat.le_refl _), hend, hFv]
  cases g <;> simp [sg] <;> omega

abbrev itmI (A : Option Addr) (c : Nat) (l : List FItem) : HI := .row 28 5 A l.length c (l.flatMap FItem.enc)
abbrev itmV (A : Option Addr) (c : Nat) (l : List FItem) : Value := .slice A l.length c
theorem itmI_snoc (A : Option Addr) (c : Nat) (l : List FItem) (x : FItem) : itmI A c (l ++ [x]) = .row 28 5 A (l.length + 1) c (l.flatMap FItem.enc ++ x.enc) := by simp [itmI]
theorem itmV_snoc (A : Option Addr) (c : Nat) (l : List FItem) (x : FItem) : itmV A c (l ++ [x]) = .slice A (l.length + 1) c := by simp [itmV]
set_option maxRecDepth 100000 in
theorem lawFills_ct (A : Option Addr) (c : Nat) (bs : List Int) (gr sh room : Int) (hm : bs.length ≤ 9223372036854775807) :
    Ct Try.prog 6 #[.slice A bs.length c, .int .i64 gr, .int .i64 sh, .int .i64 room] [] (fun w => RdI w A bs) (X := Unit) (fun _ => .bool true) (fun _ => True) (fun _ => []) := by
  refine Ct.intro Try.func6 rfl Try.ntmps6 (by simp) (fun w0 hz => ?_)
  refine WP.seq ?_
  refine WP.region ?_
  refine WPL.val (v_assign (v := .bool false) rfl) ?_
  refine WPL.nil (onto_of ?_)
  refine WP.seq ?_
  refine WP.region ?_
  refine WPL.ef (x_call Try.call15 works_ct [] [] rfl (fun w hw => trivial) (τ := fun _ => []) (fun _ => rfl)) (fun _ => ?_)
  refine WPL.fact (fun _ => ?_)
  refine WPL.val (v_assign (v := .bool _) rfl) ?_
  refine WPL.nil (onto_of ?_)
  refine WP.seq ?_
  refine WP.seq ?_
  refine WP.region ?_
  refine WPL.val (v_move (v := .bool _) rfl) ?_
  refine WPL.val (v_not rfl) ?_
  refine WPL.nil (onto_of ?_)
  refine WP.condF rfl ?_
  refine WP.skip (onto_of ?_)
  refine WP.seq ?_
  refine WP.seq ?_
  refine WP.region ?_
  refine WPL.val (v_move (v := .slice _ _ _) rfl) ?_
  refine WPL.val (v_len Try.underlying32 rfl) ?_
  refine WPL.val (v_lss rfl rfl) ?_
  refine WPL.val (v_move (v := .bool _) rfl) ?_
  refine WPL.split 21 rfl (fun h21 => ?_) (fun h21 => ?_)
  ·
    refine WPL.skipG ?_
    refine WPL.skipG ?_
    refine WPL.skipG ?_
    refine WPL.val (v_pickT (u := .bool _) rfl rfl) ?_
    refine WPL.val (v_move (v := .bool _) rfl) ?_
    refine WPL.skipG ?_
    refine WPL.skipG ?_
    refine WPL.val (v_pickT (u := .bool _) rfl rfl) ?_
    refine WPL.val (v_move (v := .bool _) rfl) ?_
    refine WPL.skipG ?_
    refine WPL.skipG ?_
    refine WPL.val (v_pickT (u := .bool _) rfl rfl) ?_
    refine WPL.val (v_move (v := .bool _) rfl) ?_
    refine WPL.skipG ?_
    refine WPL.skipG ?_
    refine WPL.val (v_pickT (u := .bool _) rfl rfl) ?_
    refine WPL.val (v_move (v := .bool _) rfl) ?_
    refine WPL.skipG ?_
    refine WPL.skipG ?_
    refine WPL.val (v_pickT (u := .bool _) rfl rfl) ?_
    refine WPL.nil (onto_of ?_)
    refine WP.condT rfl ?_
    refine WP.seq ?_
    refine WP.region ?_
    refine WPL.val (v_move (v := .bool _) rfl) ?_
    refine WPL.val (v_assign (v := .bool _) rfl) ?_
    refine WPL.nil (onto_of ?_)
    exact WP.ret1 Try.results6 (fun _ h => h) (fun w hw => ⟨(), rfl, trivial, hw.sel [] (by decide)⟩)
  ·
    refine WPL.valG (v_move (v := .slice _ _ _) rfl) ?_
    refine WPL.valG (v_len Try.underlying32 rfl) ?_
    refine WPL.valG (v_gtr rfl rfl) ?_
    refine WPL.val (v_pickF (v := .bool _) rfl rfl) ?_
    refine WPL.val (v_move (v := .bool _) rfl) ?_
    refine WPL.split 26 rfl (fun h26 => ?_) (fun h26 => ?_)
    ·
      refine WPL.skipG ?_
      refine WPL.skipG ?_
      refine WPL.val (v_pickT (u := .bool _) rfl rfl) ?_
      refine WPL.val (v_move (v := .bool _) rfl) ?_
      refine WPL.skipG ?_
      refine WPL.skipG ?_
      refine WPL.val (v_pickT (u := .bool _) rfl rfl) ?_
      refine WPL.val (v_move (v := .bool _) rfl) ?_
      refine WPL.skipG ?_
      refine WPL.skipG ?_
      refine WPL.val (v_pickT (u := .bool _) rfl rfl) ?_
      refine WPL.val (v_move (v := .bool _) rfl) ?_
      refine WPL.skipG ?_
      refine WPL.skipG ?_
      refine WPL.val (v_pickT (u := .bool _) rfl rfl) ?_
      refine WPL.nil (onto_of ?_)
      refine WP.condT rfl ?_
      refine WP.seq ?_
      refine WP.region ?_
      refine WPL.val (v_move (v := .bool _) rfl) ?_
      refine WPL.val (v_assign (v := .bool _) rfl) ?_
      refine WPL.nil (onto_of ?_)
      exact WP.ret1 Try.results6 (fun _ h => h) (fun w hw => ⟨(), rfl, trivial, hw.sel [] (by decide)⟩)
    ·
      refine WPL.valG (v_move (v := .int .i64 _) rfl) ?_
      refine WPL.valG (v_lss rfl rfl) ?_
      refine WPL.val (v_pickF (v := .bool _) rfl rfl) ?_
      refine WPL.val (v_move (v := .bool _) rfl) ?_
      refine WPL.split 30 rfl (fun h30 => ?_) (fun h30 => ?_)
      ·
        refine WPL.skipG ?_
        refine WPL.skipG ?_
        refine WPL.val (v_pickT (u := .bool _) rfl rfl) ?_
        refine WPL.val (v_move (v := .bool _) rfl) ?_
        refine WPL.skipG ?_
        refine WPL.skipG ?_
        refine WPL.val (v_pickT (u := .bool _) rfl rfl) ?_
        refine WPL.val (v_move (v := .bool _) rfl) ?_
        refine WPL.skipG ?_
        refine WPL.skipG ?_
        refine WPL.val (v_pickT (u := .bool _) rfl rfl) ?_
        refine WPL.nil (onto_of ?_)
        refine WP.condT rfl ?_
        refine WP.seq ?_
        refine WP.region ?_
        refine WPL.val (v_move (v := .bool _) rfl) ?_
        refine WPL.val (v_assign (v := .bool _) rfl) ?_
        refine WPL.nil (onto_of ?_)
        exact WP.ret1 Try.results6 (fun _ h => h) (fun w hw => ⟨(), rfl, trivial, hw.sel [] (by decide)⟩)
      ·
        refine WPL.valG (v_move (v := .int .i64 _) rfl) ?_
        refine WPL.valG (v_lss rfl rfl) ?_
        refine WPL.val (v_pickF (v := .bool _) rfl rfl) ?_
        refine WPL.val (v_move (v := .bool _) rfl) ?_
        refine WPL.split 34 rfl (fun h34 => ?_) (fun h34 => ?_)
        ·
          refine WPL.skipG ?_
          refine WPL.skipG ?_
          refine WPL.val (v_pickT (u := .bool _) rfl rfl) ?_
          refine WPL.val (v_move (v := .bool _) rfl) ?_
          refine WPL.skipG ?_
          refine WPL.skipG ?_
          refine WPL.val (v_pickT (u := .bool _) rfl rfl) ?_
          refine WPL.nil (onto_of ?_)
          refine WP.condT rfl ?_
          refine WP.seq ?_
          refine WP.region ?_
          refine WPL.val (v_move (v := .bool _) rfl) ?_
          refine WPL.val (v_assign (v := .bool _) rfl) ?_
          refine WPL.nil (onto_of ?_)
          exact WP.ret1 Try.results6 (fun _ h => h) (fun w hw => ⟨(), rfl, trivial, hw.sel [] (by decide)⟩)
        ·
          refine WPL.valG (v_move (v := .int .i64 _) rfl) ?_
          refine WPL.valG (v_lss rfl rfl) ?_
          refine WPL.val (v_pickF (v := .bool _) rfl rfl) ?_
          refine WPL.val (v_move (v := .bool _) rfl) ?_
          refine WPL.split 38 rfl (fun h38 => ?_) (fun h38 => ?_)
          ·
            refine WPL.skipG ?_
            refine WPL.skipG ?_
            refine WPL.val (v_pickT (u := .bool _) rfl rfl) ?_
            refine WPL.nil (onto_of ?_)
            refine WP.condT rfl ?_
            refine WP.seq ?_
            refine WP.region ?_
            refine WPL.val (v_move (v := .bool _) rfl) ?_
            refine WPL.val (v_assign (v := .bool _) rfl) ?_
            refine WPL.nil (onto_of ?_)
            exact WP.ret1 Try.results6 (fun _ h => h) (fun w hw => ⟨(), rfl, trivial, hw.sel [] (by decide)⟩)
          ·
            refine WPL.valG (v_move (v := .int .i64 _) rfl) ?_
            refine WPL.valG (v_gtr rfl rfl) ?_
            refine WPL.val (v_pickF (v := .bool _) rfl rfl) ?_
            refine WPL.nil (onto_of ?_)
            refine WP.condP rfl (fun h41 => ?_) (fun h41 => ?_)
            ·
              refine WP.seq ?_
              refine WP.region ?_
              refine WPL.val (v_move (v := .bool _) rfl) ?_
              refine WPL.val (v_assign (v := .bool _) rfl) ?_
              refine WPL.nil (onto_of ?_)
              exact WP.ret1 Try.results6 (fun _ h => h) (fun w hw => ⟨(), rfl, trivial, hw.sel [] (by decide)⟩)
            ·
              refine WP.skip (onto_of ?_)
              refine WP.seq ?_
              refine WP.region ?_
              refine WPL.val (v_assign (v := .slice none 0 0) rfl) ?_
              refine WPL.nil (onto_of ?_)
              refine WP.seq ?_
              refine WP.seq ?_
              refine WP.pre ?_ (fun w hw => hw.nilRow 28 5)
              refine WP.region ?_
              refine WPL.val (v_assign (v := .int .i64 (0)) rfl) ?_
              refine WPL.nil (onto_of ?_)
              refine WP.block ?_
              refine WP.loopK (X := Nat × Option Addr × Nat) [0, 1, 2, 3, 9] (fun p => [(10, itmV p.2.1 p.2.2 ((bs.take p.1).map (mkI gr sh))), (11, .int .i64 (p.1 : Int))]) (fun p w => (p.1 ≤ bs.length ∧ ∀ (i : Nat) (b : Int), i < p.1 → bs[i]? = some b → 0 ≤ b ∧ b ≤ 1048576) ∧ St w0 (foots []) [itmI p.2.1 p.2.2 ((bs.take p.1).map (mkI gr sh))] w) (fun p => bs.length - p.1) (0, none, 0) ⟨rfl, rfl, trivial⟩ (fun w hw => ⟨⟨by omega, fun i x h => absurd h (Nat.not_lt_zero i)⟩, hw⟩) (fun p ρ0 => ?_)
              obtain ⟨k, A1, c1⟩ := p
              dsimp only
              refine WP.fact (fun ⟨hk, hal⟩ => ?_)
              refine WP.seq ?_
              refine WP.seq ?_
              refine WP.region ?_
              refine WPL.val (v_move (v := .int .i64 _) rfl) ?_
              refine WPL.val (v_move (v := .slice _ _ _) rfl) ?_
              refine WPL.val (v_len Try.underlying32 rfl) ?_
              refine WPL.val (v_lss rfl rfl) ?_
              refine WPL.nil (onto_of ?_)
              refine WP.condP rfl (fun h46 => ?_) (fun h46 => ?_)
              ·
                have hkl : k < bs.length := by omega
                obtain ⟨b, hb'⟩ : ∃ b, bs[k]? = some b := ⟨_, List.getElem?_eq_getElem hkl⟩
                obtain ⟨bb, o, rfl, hc⟩ := hz k b hb'
                have htl : ((bs.take k).map (mkI gr sh)).length = k := by simp; omega
                refine WP.skip (onto_of ?_)
                refine WP.seq ?_
                refine WP.block ?_
                refine WP.seq ?_
                refine WP.seq ?_
                refine WP.region ?_
                refine WPL.val (v_move (v := .slice _ _ _) rfl) ?_
                refine WPL.val (v_move (v := .int .i64 _) rfl) ?_
                refine WPL.val (v_index Try.underlying32 Try.sizeOf3 rfl rfl rfl (by omega)) ?_
                refine WPL.val (v_load1 (u := .int .i64 _) Try.isAgg3 rfl (fun w hw => hw.old_at hc (not_foots_nil _))) ?_
                refine WPL.val (v_lss rfl rfl) ?_
                refine WPL.val (v_move (v := .bool _) rfl) ?_
                refine WPL.split 54 rfl (fun h54 => ?_) (fun h54 => ?_)
                ·
                  refine WPL.skipG ?_
                  refine WPL.skipG ?_
                  refine WPL.skipG ?_
                  refine WPL.skipG ?_
                  refine WPL.skipG ?_
                  refine WPL.val (v_pickT (u := .bool _) rfl rfl) ?_
                  refine WPL.nil (onto_of ?_)
                  refine WP.condT rfl ?_
                  refine WP.seq ?_
                  refine WP.region ?_
                  refine WPL.val (v_move (v := .bool _) rfl) ?_
                  refine WPL.val (v_assign (v := .bool _) rfl) ?_
                  refine WPL.nil (onto_of ?_)
                  exact WP.ret1 Try.results6 (fun _ h => h) (fun w hw => ⟨(), rfl, trivial, hw.sel [] (by decide)⟩)
                ·
                  refine WPL.valG (v_move (v := .slice _ _ _) rfl) ?_
                  refine WPL.valG (v_move (v := .int .i64 _) rfl) ?_
                  refine WPL.valG (v_index Try.underlying32 Try.sizeOf3 rfl rfl rfl (by omega)) ?_
                  refine WPL.valG (v_load1 (u := .int .i64 _) Try.isAgg3 rfl (fun w hw => hw.old_at hc (not_foots_nil _))) ?_
                  refine WPL.valG (v_gtr rfl rfl) ?_
                  refine WPL.val (v_pickF (v := .bool _) rfl rfl) ?_
                  refine WPL.nil (onto_of ?_)
                  refine WP.condP rfl (fun h60 => ?_) (fun h60 => ?_)
                  ·
                    refine WP.seq ?_
                    refine WP.region ?_
                    refine WPL.val (v_move (v := .bool _) rfl) ?_
                    refine WPL.val (v_assign (v := .bool _) rfl) ?_
                    refine WPL.nil (onto_of ?_)
                    exact WP.ret1 Try.results6 (fun _ h => h) (fun w hw => ⟨(), rfl, trivial, hw.sel [] (by decide)⟩)
                  ·
                    refine WP.skip (onto_of ?_)
                    refine WP.region ?_
                    refine WPL.val (v_move (v := .slice _ _ _) rfl) ?_
                    refine WPL.val (v_move (v := .slice _ _ _) rfl) ?_
                    refine WPL.val (v_move (v := .int .i64 _) rfl) ?_
                    refine WPL.val (v_index Try.underlying32 Try.sizeOf3 rfl rfl rfl (by omega)) ?_
                    refine WPL.val (v_load1 (u := .int .i64 _) Try.isAgg3 rfl (fun w hw => hw.old_at hc (not_foots_nil _))) ?_
                    refine WPL.val (v_move (v := .int .i64 _) rfl) ?_
                    refine WPL.val (v_move (v := .int .i64 _) rfl) ?_
                    refine WPL.val (v_struct (us := [.int .i64 _, .int .i64 _, .int .i64 _, .int .i64 _, .int .i64 _]) (pl := [(0, 1), (1, 1), (2, 1), (3, 1), (4, 1)]) Try.underlying28 Try.zeroValue28 rfl (by kernel_rfl) rfl rfl (by kernel_rfl)) ?_
                    refine WPL.ef (x_buildSlice (us := [.int .i64 _, .int .i64 _, .int .i64 _, .int .i64 _, .int .i64 _]) (σ' := fun _ => [_, _]) Try.underlying22 Try.sizeOf28 Try.zeroValue28 rfl rfl rfl (by decide) (by decide) (fun _ => rfl)) (fun g70 => ?_)
                    refine WPL.ef (x_append (sz := 5) (σ' := fun _ => [_, _]) Try.underlying22 info28 rfl (by decide) rfl rfl (i := 0) rfl (fun w hw => hw.src_row (i := 1) rfl) rfl (by simp [Value.oneCell']) (by omega) (by omega) (fun _ => rfl)) (fun ⟨A71, c71⟩ => ?_)
                    refine WPL.val (v_assign (v := .slice _ _ _) rfl) ?_
                    have hdl : ((bs.take (k + 1)).map (mkI gr sh)) = ((bs.take k).map (mkI gr sh)) ++ [mkI gr sh b] := by rw [take_snoc hb', List.map_append]; rfl
                    have hb1 : 0 ≤ b ∧ b ≤ 1048576 := by omega
                    have hal2 : ∀ (i : Nat) (y : Int), i < k + 1 → bs[i]? = some y → 0 ≤ y ∧ y ≤ 1048576 := fun i y hi hy => by
                      by_cases e : i = k
                      · rw [e, hb'] at hy
                        cases hy
                        exact hb1
                      · exact hal i y (by omega) hy
                    refine WPL.nil (onto_of ?_)
                    refine WP.region ?_
                    refine WPL.val (v_move (v := .int .i64 _) rfl) ?_
                    refine WPL.val (v_add rfl rfl (by omega)) ?_
                    refine WPL.val (v_assign (v := .int .i64 _) rfl) ?_
                    exact WPL.nil fun w hw => ⟨rfl, (k + 1, A71, c71), (by simp only; omega), ⟨(by rw [hdl, itmV_snoc]; rfl), rfl, (via (.slice _ _ _) rfl rfl), (via (.int .i64 _) rfl rfl), (via (.int .i64 _) rfl rfl), (via (.int .i64 _) rfl rfl), (via (.bool _) rfl rfl), trivial⟩, ⟨by simp only; omega, hal2⟩, by simp only [hdl, itmI_snoc]; exact (hw.sel [0] (by decide))⟩
              ·
                obtain rfl : k = bs.length := by omega
                rw [List.take_length]
                have hall : ∀ (i : Nat) (b : Int), bs[i]? = some b → 0 ≤ b ∧ b ≤ 1048576 := fun i b h => hal i b (List.getElem?_eq_some_iff.1 h).1 h
                have hml : (bs.map (mkI gr sh)).length = bs.length := by simp
                have hslen := sizes_length (bs.map (mkI gr sh)) room
                refine WP.exit (onto_of ?_)
                refine WP.seq ?_
                refine WP.region ?_
                refine WPL.val (v_move (v := .slice _ _ _) rfl) ?_
                refine WPL.val (v_move (v := .int .i64 _) rfl) ?_
                refine WPL.ef (x_call Try.call20 (sizes_ct A1 c1 (bs.map (mkI gr sh)) room (by simp; omega)) [] [0] rfl (fun w hw => hw.rd_row (i := 0) rfl rfl (fun _ => rfl)) (τ := fun _ => [_, _]) (fun _ => rfl)) (fun ⟨A2, c2⟩ => ?_)
                refine WPL.fact (fun _ => ?_)
                refine WPL.val (v_assign (v := .slice _ _ _) rfl) ?_
                refine WPL.nil (onto_of ?_)
                refine WP.seq ?_
                refine WP.region ?_
                refine WPL.val (v_assign (v := .int .i64 (0)) rfl) ?_
                refine WPL.nil (onto_of ?_)
                refine WP.seq ?_
                refine WP.seq ?_
                refine WP.region ?_
                refine WPL.val (v_assign (v := .int .i64 (0)) rfl) ?_
                refine WPL.nil (onto_of ?_)
                refine WP.block ?_
                refine WP.loopK (X := Nat) [3, 9, 10, 12] (fun k => [(13, .int .i64 (ssum (sizes (bs.map (mkI gr sh)) room) k)), (14, .int .i64 (k : Int))]) (fun k w => k ≤ bs.length ∧ St w0 (foots []) [.row 3 1 A2 (bs.map (mkI gr sh)).length c2 ((sizes (bs.map (mkI gr sh)) room).map (Value.int .i64))] w) (fun k => bs.length - k) 0 ⟨by rw [ssum_zero]; rfl, rfl, trivial⟩ (fun w hw => ⟨by omega, hw.sel [1] (by decide)⟩) (fun k ρ0 => ?_)
                refine WP.fact (fun hk => ?_)
                refine WP.seq ?_
                refine WP.seq ?_
                refine WP.region ?_
                refine WPL.val (v_move (v := .int .i64 _) rfl) ?_
                refine WPL.val (v_move (v := .slice _ _ _) rfl) ?_
                refine WPL.val (v_len Try.underlying32 rfl) ?_
                refine WPL.val (v_lss rfl rfl) ?_
                refine WPL.nil (onto_of ?_)
                refine WP.condP rfl (fun h78 => ?_) (fun h78 => ?_)
                ·
                  have hkl : k < bs.length := by omega
                  obtain ⟨sv, hs⟩ : ∃ sv, (sizes (bs.map (mkI gr sh)) room)[k]? = some sv := ⟨_, List.getElem?_eq_getElem (by omega)⟩
                  have hsb := sizes_bd hs
                  have hsm := ssum_bd (m := 0) (vs := (sizes (bs.map (mkI gr sh)) room)) (fun i v h => sizes_bd h) k
                  refine WP.holds (fun w hw => hw.row_pos (i := 0) rfl (by omega)) (fun ⟨sb, hA⟩ => ?_)
                  subst hA
                  refine WP.skip (onto_of ?_)
                  refine WP.seq ?_
                  refine WP.block ?_
                  refine WP.region ?_
                  refine WPL.val (v_move (v := .int .i64 _) rfl) ?_
                  refine WPL.val (v_move (v := .slice _ _ _) rfl) ?_
                  refine WPL.val (v_move (v := .int .i64 _) rfl) ?_
                  refine WPL.val (v_index Try.underlying32 Try.sizeOf3 rfl rfl rfl (by omega)) ?_
                  refine WPL.val (v_load1 (u := .int .i64 _) Try.isAgg3 rfl (fun w hw => hw.row_at1 (i := 0) rfl (ints_at hs) (by omega))) ?_
                  refine WPL.val (v_add rfl rfl (by omega)) ?_
                  rw [← ssum_succ _ k hs]
                  refine WPL.val (v_assign (v := .int .i64 _) rfl) ?_
                  refine WPL.nil (onto_of ?_)
                  refine WP.region ?_
                  refine WPL.val (v_move (v := .int .i64 _) rfl) ?_
                  refine WPL.val (v_add rfl rfl (by omega)) ?_
                  refine WPL.val (v_assign (v := .int .i64 _) rfl) ?_
                  exact WPL.nil fun w hw => ⟨rfl, k + 1, (by omega), ⟨rfl, rfl, (via (.int .i64 _) rfl rfl), (via (.bool _) rfl rfl), (via (.slice _ _ _) rfl rfl), (via (.slice _ _ _) rfl rfl), trivial⟩, by omega, hw⟩
                ·
                  obtain rfl : k = bs.length := by omega
                  have hfs1 : 1 ≤ bs.length ∧ bs.length ≤ 64 := by omega
                  have hfs2 : 1 ≤ gr := by omega
                  have hfs3 : 1 ≤ sh := by omega
                  have hfs4 : 0 ≤ room ∧ room ≤ 1048576 := by omega
                  have hfs := fills_sum hall hfs1 hfs2 hfs3 hfs4
                  refine WP.exit (onto_of ?_)
                  refine WP.seq ?_
                  refine WP.region ?_
                  refine WPL.val (v_move (v := .bool _) rfl) ?_
                  refine WPL.val (v_move (v := .bool _) rfl) ?_
                  refine WPL.valG (v_move (v := .slice _ _ _) rfl) ?_
                  refine WPL.valG (v_len Try.underlying32 rfl) ?_
                  refine WPL.valG (v_move (v := .slice _ _ _) rfl) ?_
                  refine WPL.valG (v_len Try.underlying22 rfl) ?_
                  refine WPL.valG (v_lit (b := true) (v_eql rfl rfl) (decide_eq_true rfl)) ?_
                  refine WPL.val (v_pickT (u := .bool _) rfl rfl) ?_
                  refine WPL.val (v_move (v := .bool _) rfl) ?_
                  refine WPL.valG (v_move (v := .int .i64 _) rfl) ?_
                  refine WPL.valG (v_move (v := .int .i64 _) rfl) ?_
                  refine WPL.valG (v_lit (b := true) (v_eql rfl rfl) (decide_eq_true hfs)) ?_
                  refine WPL.val (v_pickT (u := .bool _) rfl rfl) ?_
                  refine WPL.val (v_assign (v := .bool _) rfl) ?_
                  refine WPL.nil (onto_of ?_)
                  exact WP.ret1 Try.results6 (fun _ h => h) (fun w hw => ⟨(), rfl, trivial, hw.sel [] (by decide)⟩)
end Go.Proofs.Ytabdcfobdehhiaa
