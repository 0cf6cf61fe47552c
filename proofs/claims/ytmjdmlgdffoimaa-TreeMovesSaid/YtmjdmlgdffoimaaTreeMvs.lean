/- The law TreeMoves. -/
import Derived.Test.YtmjdmlgdffoimaaTreeKids
import Derived.Test.YtmjdmlgdffoimaaTreeFact
namespace Go.Proofs.Ytmjdmlgdffoimaa
open Go.RowKit

/-- The last place of id among the first n. -/
def plF (l : List Int) (id : Int) : Nat → Nat
  | 0 => 0
  | k + 1 => if l[k]? = some id then k else plF l id k
theorem plF_le (l : List Int) (id : Int) : ∀ n, plF l id n ≤ n
  | 0 => Nat.le_refl _
  | k + 1 => by
    have := plF_le l id k
    unfold plF
    split <;> omega
theorem plF_ok {l : List Int} {id : Int} : ∀ {n : Nat}, id ∈ l.take n → l[plF l id n]? = some id
  | 0, h => by simp at h
  | k + 1, h => by
    unfold plF
    split
    · assumption
    · rename_i hn
      refine plF_ok ?_
      rw [List.take_add_one, List.mem_append] at h
      rcases h with h | h
      · exact h
      · exfalso
        apply hn
        cases e : l[k]? with
        | none => rw [e] at h; simp at h
        | some z => rw [e] at h; simp at h; rw [h]
set_option maxRecDepth 100000 in
set_option maxHeartbeats 2000000 in
theorem lawMoves_ct (A : Option Addr) (c : Nat) (l : List AC) (id up at_ : Int) : Ct Try.prog 6 #[.slice A l.length c, .int .i64 id, .int .i64 up, .int .i64 at_] [] (fun w => RdE w A 59 encA l) (X := Unit) (fun _ => .bool true) (fun _ => True) (fun _ => []) := by
  refine Ct.intro Try.func6 rfl Try.ntmps6 (by simp) (fun w0 hz => ?_)
  refine WP.seq ?_
  refine WP.region ?_
  refine WPL.val (v_assign (v := .bool false) rfl) ?_
  refine WPL.nil (onto_of ?_)
  refine WP.seq ?_
  refine WP.region ?_
  refine WPL.ef (x_call Try.call10 works_ct [] [] rfl (fun w hw => trivial) (τ := fun _ => []) (fun _ => rfl)) (fun _ => ?_)
  refine WPL.fact (fun _ => ?_)
  refine WPL.val (v_assign (v := .bool _) rfl) ?_
  refine WPL.nil (onto_of ?_)
  refine WP.seq ?_
  refine WP.seq ?_
  refine WP.region ?_
  refine WPL.val (v_move (v := .bool _) rfl) ?_
  refine WPL.val (v_not rfl) ?_
  refine WPL.nil (onto_of ?_)
  refine WP.condF rfl ?_
  refine WP.skip (onto_of ?_)
  refine WP.seq ?_
  refine WP.seq ?_
  refine WP.region ?_
  refine WPL.val (v_move (v := .slice _ _ _) rfl) ?_
  refine WPL.val (v_len Try.underlying22 rfl) ?_
  refine WPL.val (v_gtr rfl rfl) ?_
  refine WPL.nil (onto_of ?_)
  refine WP.condP rfl (fun h24 => ?_) (fun h24 => ?_)
  ·
    refine WP.seq ?_
    refine WP.region ?_
    refine WPL.val (v_move (v := .bool _) rfl) ?_
    refine WPL.val (v_assign (v := .bool _) rfl) ?_
    refine WPL.nil (onto_of ?_)
    exact WP.ret1 Try.results6 (fun _ h => h) (fun w hw => ⟨(), rfl, trivial, hw.sel [] (by decide)⟩)
  ·
    refine WP.skip (onto_of ?_)
    refine WP.seq ?_
    refine WP.region ?_
    refine WPL.ef (x_call Try.call11 new_ct [] [] rfl (fun w hw => trivial) (τ := fun _ => [_]) (fun _ => rfl)) (fun ⟨tp, mb, nb⟩ => ?_)
    refine WPL.fact (fun _ => ?_)
    refine WPL.val (v_assign (v := .pointer _) rfl) ?_
    refine WPL.nil (onto_of ?_)
    refine WP.seq ?_
    refine WP.seq ?_
    refine WP.region ?_
    refine WPL.val (v_assign (v := .int .i64 (0)) rfl) ?_
    refine WPL.nil (onto_of ?_)
    refine WP.block ?_
    refine WP.loopK (X := Nat × List PE) [0, 1, 2, 3, 9, 10] (fun p => [(11, .int .i64 (p.1 : Int))]) (fun p w => (p.1 ≤ l.length ∧ FoR p.2 = AF (l.take p.1) ∧ LOk p.2) ∧ St w0 (foots []) [treeI tp mb p.2] w) (fun p => l.length - p.1) (0, [newE 0 nb (-1)]) ⟨rfl, trivial⟩ (fun w hw => ⟨⟨Nat.zero_le _, (newE_ok nb).1, (newE_ok nb).2⟩, (hw.sel [0] (by decide))⟩) (fun p ρ0 => ?_)
    obtain ⟨k, es⟩ := p
    dsimp only
    refine WP.fact (fun ⟨hkl, hFo, hk⟩ => ?_)
    refine WP.seq ?_
    refine WP.seq ?_
    refine WP.region ?_
    refine WPL.val (v_move (v := .int .i64 _) rfl) ?_
    refine WPL.val (v_move (v := .slice _ _ _) rfl) ?_
    refine WPL.val (v_len Try.underlying22 rfl) ?_
    refine WPL.val (v_lss rfl rfl) ?_
    refine WPL.nil (onto_of ?_)
    refine WP.condP rfl (fun h30 => ?_) (fun h30 => ?_)
    ·
      obtain ⟨x, hx⟩ : ∃ x, l[k]? = some x := ⟨_, List.getElem?_eq_getElem (by omega)⟩
      obtain ⟨ab, ao, rfl, hc⟩ := hz k x hx
      obtain ⟨d, hF⟩ := AF_wf (l.take k)
      rw [← hFo] at hF
      refine WP.skip (onto_of ?_)
      refine WP.seq ?_
      refine WP.block ?_
      refine WP.region ?_
      refine WPL.val (v_move (v := .pointer _) rfl) ?_
      refine WPL.val (v_move (v := .slice _ _ _) rfl) ?_
      refine WPL.val (v_move (v := .int .i64 _) rfl) ?_
      refine WPL.val (v_index Try.underlying22 Try.sizeOf45 rfl rfl rfl (by omega)) ?_
      refine WPL.val (v_loadA (cs := encA x) Try.isAgg45 Try.sizeOf45 rfl (fun w hw => hw.old_at hc (not_foots_nil _)) (encA_len x)) ?_
      refine WPL.ef (x_call Try.call28 (do_ct tp mb es hk hF x.1 x.2) [0] [] rfl (fun w hw => trivial) (τ := fun _ => [_]) (fun _ => rfl)) (fun es1 => ?_)
      refine WPL.fact (fun hf => ?_)
      refine WPL.nil (onto_of ?_)
      refine WP.region ?_
      refine WPL.val (v_move (v := .int .i64 _) rfl) ?_
      refine WPL.val (v_add rfl rfl (by omega)) ?_
      refine WPL.val (v_assign (v := .int .i64 _) rfl) ?_
      exact WPL.nil fun w hw => ⟨rfl, (k + 1, es1), (by simp only; omega), ⟨rfl, (via (.slice _ _ _) rfl rfl), (via (.int .i64 _) rfl rfl), (via (.int .i64 _) rfl rfl), (via (.int .i64 _) rfl rfl), (via (.bool _) rfl rfl), (via (.pointer _) rfl rfl), trivial⟩, ⟨⟨by simp only; omega, by rw [AF_snoc hx, ← hFo]; exact hf.1, hf.2⟩, (hw.sel [0] (by decide))⟩⟩
    ·
      obtain rfl : k = l.length := by omega
      rw [List.take_of_length_le (Nat.le_refl _)] at hFo
      obtain ⟨d, hF⟩ := AF_wf l
      rw [← hFo] at hF
      refine WP.exit (onto_of ?_)
      refine WP.seq ?_
      refine WP.region ?_
      refine WPL.val (v_move (v := .pointer _) rfl) ?_
      refine WPL.ef (x_call Try.call26 (order_ct tp mb es hk hF) [0] [] rfl (fun w hw => trivial) (τ := fun _ => [_, _]) (fun _ => rfl)) (fun ⟨A40, c40⟩ => ?_)
      refine WPL.fact (fun _ => ?_)
      refine WPL.val (v_assign (v := .slice _ _ _) rfl) ?_
      refine WPL.nil (onto_of ?_)
      refine WP.seq ?_
      refine WP.region ?_
      refine WPL.val (v_move (v := .pointer _) rfl) ?_
      refine WPL.val (v_move (v := .int .i64 _) rfl) ?_
      refine WPL.ef (x_call Try.call16 (up_ct tp mb es hk id) [0] [1] rfl (fun w hw => trivial) (τ := fun _ => [_, _]) (fun _ => rfl)) (fun _ => ?_)
      refine WPL.fact (fun _ => ?_)
      refine WPL.val (v_assign (v := .int .i64 _) rfl) ?_
      refine WPL.nil (onto_of ?_)
      refine WP.seq ?_
      refine WP.region ?_
      refine WPL.val (v_move (v := .pointer _) rfl) ?_
      refine WPL.val (v_move (v := .int .i64 _) rfl) ?_
      refine WPL.ef (x_call Try.call23 (kids_ct tp mb es hk (upF (FoR es) id) (by have := WF.kidsF_len hF (upF (FoR es) id); omega)) [1] [0] rfl (fun w hw => trivial) (τ := fun _ => [_, _, _]) (fun _ => rfl)) (fun ⟨A46, c46⟩ => ?_)
      refine WPL.fact (fun _ => ?_)
      refine WPL.val (v_assign (v := .slice _ _ _) rfl) ?_
      refine WPL.nil (onto_of ?_)
      refine WP.seq ?_
      refine WP.region ?_
      refine WPL.val (v_assign (v := .int .i64 (0)) rfl) ?_
      refine WPL.nil (onto_of ?_)
      refine WP.seq ?_
      refine WP.seq ?_
      refine WP.region ?_
      refine WPL.val (v_assign (v := .int .i64 (0)) rfl) ?_
      refine WPL.nil (onto_of ?_)
      refine WP.block ?_
      refine WP.loopK (X := Nat) [1, 2, 3, 9, 10, 12, 13, 14] (fun k => [(16, .int .i64 (k : Int)), (15, .int .i64 (plF (kidsF (FoR es) (upF (FoR es) id)) id k : Int))]) (fun k w => k ≤ (kidsF (FoR es) (upF (FoR es) id)).length ∧ St w0 (foots []) [treeI tp mb es, kidsI A40 (order (FoR es)).length c40 (order (FoR es)), kidsI A46 (kidsF (FoR es) (upF (FoR es) id)).length c46 (kidsF (FoR es) (upF (FoR es) id))] w) (fun k => (kidsF (FoR es) (upF (FoR es) id)).length - k) 0 ⟨rfl, rfl, trivial⟩ (fun w hw => ⟨Nat.zero_le _, (hw.sel [1, 0, 2] (by decide))⟩) (fun k ρ0 => ?_)
      refine WP.fact (fun hkk => ?_)
      refine WP.seq ?_
      refine WP.seq ?_
      refine WP.region ?_
      refine WPL.val (v_move (v := .int .i64 _) rfl) ?_
      refine WPL.val (v_move (v := .slice _ _ _) rfl) ?_
      refine WPL.val (v_len Try.underlying50 rfl) ?_
      refine WPL.val (v_lss rfl rfl) ?_
      refine WPL.nil (onto_of ?_)
      refine WP.condP rfl (fun h50 => ?_) (fun h50 => ?_)
      ·
        have hk50 : k < (kidsF (FoR es) (upF (FoR es) id)).length := by omega
        obtain ⟨y, hy⟩ : ∃ y, (kidsF (FoR es) (upF (FoR es) id))[k]? = some y := ⟨_, List.getElem?_eq_getElem hk50⟩
        have hzb := hF.kidsF_len (upF (FoR es) id)
        refine WP.holds (fun w hw => hw.row_pos (i := 2) rfl (by omega)) (fun ⟨rb, hA⟩ => ?_)
        subst hA
        refine WP.skip (onto_of ?_)
        refine WP.seq ?_
        refine WP.block ?_
        refine WP.seq ?_
        refine WP.region ?_
        refine WPL.val (v_move (v := .slice _ _ _) rfl) ?_
        refine WPL.val (v_move (v := .int .i64 _) rfl) ?_
        refine WPL.val (v_index Try.underlying50 Try.sizeOf3 rfl rfl rfl (by omega)) ?_
        refine WPL.val (v_load1 (u := .int .i64 _) Try.isAgg3 rfl (fun w hw => hw.row_at1 (i := 2) rfl (by rw [List.getElem?_map, hy]; rfl) (by omega))) ?_
        refine WPL.val (v_move (v := .int .i64 _) rfl) ?_
        refine WPL.val (v_eql rfl rfl) ?_
        refine WPL.nil (onto_of ?_)
        refine WP.condP rfl (fun h58 => ?_) (fun h58 => ?_)
        ·
          have hpl : (k : Int) = (plF (kidsF (FoR es) (upF (FoR es) id)) id (k + 1) : Int) := by rw [plF, if_pos (by rw [hy, h58])]
          refine WP.region ?_
          refine WPL.val (v_move (v := .int .i64 _) rfl) ?_
          refine WPL.val (v_assign (v := .int .i64 _) rfl) ?_
          refine WPL.nil (onto_of ?_)
          refine WP.region ?_
          refine WPL.val (v_move (v := .int .i64 _) rfl) ?_
          refine WPL.val (v_add rfl rfl (by omega)) ?_
          refine WPL.val (v_assign (v := .int .i64 _) rfl) ?_
          exact WPL.nil fun w hw => ⟨rfl, k + 1, (by omega), ⟨rfl, (congrArg (Value.int .i64) hpl), (via (.int .i64 _) rfl rfl), (via (.int .i64 _) rfl rfl), (via (.int .i64 _) rfl rfl), (via (.bool _) rfl rfl), (via (.pointer _) rfl rfl), (via (.slice _ _ _) rfl rfl), (via (.int .i64 _) rfl rfl), (via (.slice _ _ _) rfl rfl), trivial⟩, ⟨by omega, (hw.sel [0, 1, 2] (by decide))⟩⟩
        ·
          have hpl : (plF (kidsF (FoR es) (upF (FoR es) id)) id k : Int) = (plF (kidsF (FoR es) (upF (FoR es) id)) id (k + 1) : Int) := by rw [plF, if_neg (by rw [hy]; exact fun e => h58 (Option.some.inj e))]
          refine WP.skip (onto_of ?_)
          refine WP.region ?_
          refine WPL.val (v_move (v := .int .i64 _) rfl) ?_
          refine WPL.val (v_add rfl rfl (by omega)) ?_
          refine WPL.val (v_assign (v := .int .i64 _) rfl) ?_
          exact WPL.nil fun w hw => ⟨rfl, k + 1, (by omega), ⟨rfl, (congrArg (Value.int .i64) hpl), (via (.int .i64 _) rfl rfl), (via (.int .i64 _) rfl rfl), (via (.int .i64 _) rfl rfl), (via (.bool _) rfl rfl), (via (.pointer _) rfl rfl), (via (.slice _ _ _) rfl rfl), (via (.int .i64 _) rfl rfl), (via (.slice _ _ _) rfl rfl), trivial⟩, ⟨by omega, (hw.sel [0, 1, 2] (by decide))⟩⟩
      ·
        obtain rfl : k = (kidsF (FoR es) (upF (FoR es) id)).length := by omega
        have hol : (order (FoR es)).length ≤ 4096 := hF.len_le 0
        refine WP.exit (onto_of ?_)
        refine WP.seq ?_
        refine WP.region ?_
        refine WPL.val (v_move (v := .pointer _) rfl) ?_
        refine WPL.val (v_move (v := .int .i64 _) rfl) ?_
        refine WPL.val (v_move (v := .int .i64 _) rfl) ?_
        refine WPL.val (v_move (v := .int .i64 _) rfl) ?_
        refine WPL.ef (x_call Try.call31 (move_ct tp mb es hk hF id up at_) [0] [1, 2] rfl (fun w hw => trivial) (τ := fun _ => [_, _, _]) (fun _ => rfl)) (fun es2 => ?_)
        refine WPL.fact (fun hf2 => ?_)
        have hF2 : ∃ d2, WF (FoR es2) d2 := by rw [hf2.1]; exact hF.movR id up at_
        obtain ⟨d2, hF2⟩ := hF2
        refine WPL.val (v_assign (v := .int .i64 _) rfl) ?_
        refine WPL.nil (onto_of ?_)
        refine WP.seq ?_
        refine WP.seq ?_
        refine WP.region ?_
        refine WPL.val (v_move (v := .int .i64 _) rfl) ?_
        refine WPL.val (v_neq rfl rfl) ?_
        refine WPL.nil (onto_of ?_)
        refine WP.condP rfl (fun h66 => ?_) (fun h66 => ?_)
        ·
          have hsame : FoR es2 = FoR es := by rw [hf2.1]; exact movR_ne h66
          refine WP.seq ?_
          refine WP.region ?_
          refine WPL.val (v_move (v := .bool _) rfl) ?_
          refine WPL.val (v_move (v := .bool _) rfl) ?_
          refine WPL.valG (v_move (v := .pointer _) rfl) ?_
          refine WPL.efG (x_call Try.call26 (order_ct tp mb es2 hf2.2 hF2) [2] [0, 1] rfl (fun w hw => trivial) (τ := fun _ => [_, _, _, _]) (fun _ => rfl)) (fun ⟨A70, c70⟩ => ?_)
          refine WPL.fact (fun _ => ?_)
          refine WPL.valG (v_move (v := .slice _ _ _) rfl) ?_
          refine WPL.efG (x_call Try.call22 (rowT_ct A70 A40 c70 c40 (order (FoR es2)) (order (FoR es)) (by rw [hsame]; have := hol; omega) (by rw [hsame])) [] [0, 1, 2, 3] rfl (fun w hw => ⟨hw.rd_row1 (i := 3) rfl, hw.rd_row1 (i := 0) rfl⟩) (τ := fun _ => [_, _, _, _]) (fun _ => rfl)) (fun _ => ?_)
          refine WPL.fact (fun _ => ?_)
          refine WPL.val (v_pickT (u := .bool _) rfl rfl) ?_
          refine WPL.val (v_assign (v := .bool _) rfl) ?_
          refine WPL.nil (onto_of ?_)
          exact WP.ret1 Try.results6 (fun _ h => h) (fun w hw => ⟨(), rfl, trivial, hw.sel [] (by decide)⟩)
        ·
          obtain ⟨hid, hup, h0, hcy, ha0, ham, hdp, hmv⟩ := movR_eq (Decidable.not_not.1 h66)
          obtain ⟨j, rfl⟩ : ∃ j : Nat, at_ = j := ⟨at_.toNat, by omega⟩
          rw [Int.toNat_natCast] at hmv
          have hG : FoR es2 = movG (FoR es) id up j := by rw [hf2.1, hmv]
          obtain ⟨hm1, hm2⟩ := hF.mov_most hid h0 hup ham
          rw [← hG] at hm1 hm2
          have hml := hF.mov_len (hG ▸ hF2)
          rw [← hG] at hml
          unfold lenF at hml
          obtain ⟨_, hfm, _, _⟩ := hF.up_has hid h0
          have hpl : (kidsF (FoR es) (upF (FoR es) id))[plF (kidsF (FoR es) (upF (FoR es) id)) id (kidsF (FoR es) (upF (FoR es) id)).length]? = some id := plF_ok (by rw [List.take_of_length_le (Nat.le_refl _)]; exact hfm)
          have hback := hF.mov_backR hid h0 hup hcy hdp ham hpl
          rw [← hG] at hback
          have hupi : upF (FoR es2) id = up := by rw [hG]; exact mov_up hid
          refine WP.skip (onto_of ?_)
          refine WP.seq ?_
          refine WP.region ?_
          refine WPL.val (v_move (v := .pointer _) rfl) ?_
          refine WPL.val (v_move (v := .int .i64 _) rfl) ?_
          refine WPL.ef (x_call Try.call23 (kids_ct tp mb es2 hf2.2 up (by have := WF.kidsF_len hF2 up; omega)) [2] [0, 1] rfl (fun w hw => trivial) (τ := fun _ => [_, _, _, _]) (fun _ => rfl)) (fun ⟨A76, c76⟩ => ?_)
          refine WPL.fact (fun _ => ?_)
          refine WPL.val (v_assign (v := .slice _ _ _) rfl) ?_
          refine WPL.nil (onto_of ?_)
          refine WP.seq ?_
          refine WP.seq ?_
          refine WP.holds (fun w hw => hw.row_pos (i := 3) rfl (by have h := (List.getElem?_eq_some_iff.1 hm2).1; omega)) (fun ⟨rb, hA⟩ => ?_)
          subst hA
          refine WP.region ?_
          refine WPL.val (v_move (v := .pointer _) rfl) ?_
          refine WPL.val (v_move (v := .int .i64 _) rfl) ?_
          refine WPL.ef (x_call Try.call16 (up_ct tp mb es2 hf2.2 id) [2] [0, 1, 3] rfl (fun w hw => trivial) (τ := fun _ => [_, _, _, _]) (fun _ => rfl)) (fun _ => ?_)
          refine WPL.fact (fun _ => ?_)
          refine WPL.val (v_move (v := .int .i64 _) rfl) ?_
          refine WPL.val (v_is (b := false) (v_neq rfl rfl) (decide_eq_false (fun h => h hupi))) ?_
          refine WPL.val (v_move (v := .bool _) rfl) ?_
          refine WPL.valG (v_move (v := .int .i64 _) rfl) ?_
          refine WPL.valG (v_move (v := .slice _ _ _) rfl) ?_
          refine WPL.valG (v_len Try.underlying50 rfl) ?_
          refine WPL.valG (v_is (b := false) (v_geq rfl rfl) (decide_eq_false (by omega))) ?_
          refine WPL.val (v_pickF (v := .bool _) rfl rfl) ?_
          refine WPL.val (v_move (v := .bool _) rfl) ?_
          refine WPL.valG (v_move (v := .slice _ _ _) rfl) ?_
          refine WPL.valG (v_move (v := .int .i64 _) rfl) ?_
          refine WPL.valG (v_index (j := j) Try.underlying50 Try.sizeOf3 rfl rfl rfl (by omega)) ?_
          refine WPL.valG (v_load1 (u := .int .i64 _) Try.isAgg3 rfl (fun w hw => hw.row_at1 (i := 2) rfl (by rw [List.getElem?_map, hm2]; rfl) (by omega))) ?_
          refine WPL.valG (v_move (v := .int .i64 _) rfl) ?_
          refine WPL.valG (v_is (b := false) (v_neq rfl rfl) (decide_eq_false (fun h => h rfl))) ?_
          refine WPL.val (v_pickF (v := .bool _) rfl rfl) ?_
          refine WPL.val (v_move (v := .bool _) rfl) ?_
          refine WPL.valG (v_move (v := .pointer _) rfl) ?_
          refine WPL.efG (x_call Try.call26 (order_ct tp mb es2 hf2.2 hF2) [3] [0, 1, 2] rfl (fun w hw => trivial) (τ := fun _ => [_, _, _, _, _]) (fun _ => rfl)) (fun ⟨A98, c98⟩ => ?_)
          refine WPL.fact (fun _ => ?_)
          refine WPL.valG (v_len Try.underlying50 rfl) ?_
          refine WPL.valG (v_move (v := .slice _ _ _) rfl) ?_
          refine WPL.valG (v_len Try.underlying50 rfl) ?_
          refine WPL.valG (v_is (b := false) (v_neq rfl rfl) (decide_eq_false (by omega))) ?_
          refine WPL.val (v_pickF (v := .bool _) rfl rfl) ?_
          refine WPL.nil (onto_of ?_)
          refine WP.condF rfl ?_
          refine WP.skip (onto_of ?_)
          refine WP.seq ?_
          refine WP.region ?_
          refine WPL.val (v_move (v := .bool _) rfl) ?_
          refine WPL.val (v_move (v := .bool _) rfl) ?_
          refine WPL.valG (v_move (v := .pointer _) rfl) ?_
          refine WPL.valG (v_move (v := .int .i64 _) rfl) ?_
          refine WPL.valG (v_move (v := .int .i64 _) rfl) ?_
          refine WPL.valG (v_move (v := .int .i64 _) rfl) ?_
          refine WPL.efG (x_call Try.call31 (by have h := move_ct tp mb es2 hf2.2 hF2 id (upF (FoR es) id) (plF (kidsF (FoR es) (upF (FoR es) id)) id (kidsF (FoR es) (upF (FoR es) id)).length : Int); rw [hback] at h; dsimp only at h; exact h) [3] [0, 1, 2, 4] rfl (fun w hw => trivial) (τ := fun _ => [_, _, _, _, _]) (fun _ => rfl)) (fun es4 => ?_)
          refine WPL.fact (fun hf4 => ?_)
          have hF4 : WF (FoR es4) d := by rw [hf4.1]; exact hF
          refine WPL.valG (v_is (b := true) (v_eql rfl rfl) (decide_eq_true rfl)) ?_
          refine WPL.val (v_pickT (u := .bool _) rfl rfl) ?_
          refine WPL.val (v_move (v := .bool _) rfl) ?_
          refine WPL.valG (v_move (v := .pointer _) rfl) ?_
          refine WPL.efG (x_call Try.call26 (order_ct tp mb es4 hf4.2 hF4) [4] [0, 1, 2, 3] rfl (fun w hw => trivial) (τ := fun _ => [_, _, _, _, _, _]) (fun _ => rfl)) (fun ⟨A115, c115⟩ => ?_)
          refine WPL.fact (fun _ => ?_)
          refine WPL.valG (v_move (v := .slice _ _ _) rfl) ?_
          refine WPL.efG (x_call Try.call22 (rowT_ct A115 A40 c115 c40 (order (FoR es4)) (order (FoR es)) (by rw [hf4.1]; have := hol; omega) (by rw [hf4.1])) [] [0, 1, 2, 3, 4, 5] rfl (fun w hw => ⟨hw.rd_row1 (i := 5) rfl, hw.rd_row1 (i := 0) rfl⟩) (τ := fun _ => [_, _, _, _, _, _]) (fun _ => rfl)) (fun _ => ?_)
          refine WPL.fact (fun _ => ?_)
          refine WPL.val (v_pickT (u := .bool _) rfl rfl) ?_
          refine WPL.val (v_assign (v := .bool _) rfl) ?_
          refine WPL.nil (onto_of ?_)
          exact WP.ret1 Try.results6 (fun _ h => h) (fun w hw => ⟨(), rfl, trivial, hw.sel [] (by decide)⟩)
end Go.Proofs.Ytmjdmlgdffoimaa
