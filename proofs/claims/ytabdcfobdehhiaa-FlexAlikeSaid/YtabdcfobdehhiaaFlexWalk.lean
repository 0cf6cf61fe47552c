/- flex's table: factor, free, open. -/
import Derived.Test.YtabdcfobdehhiaaFlexFin
import Derived.Test.YtabdcfobdehhiaaFlexRef
namespace Go.Proofs.Ytabdcfobdehhiaa
open Go.RowKit

abbrev tblI (t : Nat) (A : Option Addr) (n cap : Nat) (room : Int) (g : Bool) : HI := .cl t 72 [.slice A n cap, .int .i64 room, .bool g]
abbrev entI (A : Option Addr) (n cap : Nat) (es : List FE) : HI := .row 74 7 A n cap (es.flatMap FE.enc)
def fct (g : Bool) (e : FE) : Int := if g then e.it.grow else e.it.shrink
theorem fct_t {g : Bool} {e : FE} (h : g = true) : e.it.grow = fct g e := by simp [fct, h]
theorem fct_f {g : Bool} {e : FE} (h : g = false) : e.it.shrink = fct g e := by simp [fct, h]
theorem fre_t {g : Bool} {room : Int} {es : List FE} (h : (!g) = false) : room - took es es.length = fre g room es := by
  have : g = true := by simpa using h
  simp [fre, this, sg]
theorem fre_f {g : Bool} {room : Int} {es : List FE} (h : (!g) = true) : -(room - took es es.length) = fre g room es := by
  have : g = false := by simpa using h
  simp only [fre, this, sg, Bool.false_eq_true, if_false]
  omega

theorem factor_ct (t : Nat) (A : Option Addr) (n cap : Nat) (room : Int) (g : Bool) (e : FE) :
    Ct Try.prog 59 #[.pointer (some ⟨t, 0, none⟩), .agg e.enc.toArray] [tblI t A n cap room g] (fun _ => True) (X := Unit) (fun _ => .int .i64 (fct g e)) (fun _ => True) (fun _ => [tblI t A n cap room g]) := by
  refine Ct.intro Try.func59 rfl Try.ntmps59 (by simp) (fun w0 _ => ?_)
  refine WP.seq ?_
  refine WP.region ?_
  refine WPL.ef (x_boxA (us := [.int .i64 _, .int .i64 _, .int .i64 _, .int .i64 _, .int .i64 _, .int .i64 _, .bool _]) (σ' := fun _ => [_, _]) rfl (fun _ => rfl)) (fun b3 => ?_)
  refine WPL.val (v_assign (v := .int .i64 (0)) rfl) ?_
  refine WPL.nil (onto_of ?_)
  refine WP.seq ?_
  refine WP.seq ?_
  refine WP.region ?_
  refine WPL.val (v_move (v := .pointer _) rfl) ?_
  refine WPL.val (v_nil rfl) ?_
  refine WPL.val (v_fieldL (o' := 2) Try.underlying72 rfl Try.sizeOf4 rfl rfl) ?_
  refine WPL.val (v_load1 (u := .bool _) Try.isAgg4 rfl (fun w hw => hw.cl_at (i := 0) rfl _ rfl)) ?_
  refine WPL.nil (onto_of ?_)
  refine WP.cond rfl (fun h8 => ?_) (fun h8 => ?_)
  ·
    refine WP.seq ?_
    refine WP.region ?_
    refine WPL.val (v_fieldL (o' := 0) Try.underlying74 rfl Try.sizeOf28 rfl rfl) ?_
    refine WPL.val (v_fieldL (o' := 3) Try.underlying28 rfl Try.sizeOf3 rfl rfl) ?_
    refine WPL.val (v_load1 (u := .int .i64 _) Try.isAgg3 rfl (fun w hw => hw.cl_at (i := 1) rfl _ rfl)) ?_
    refine WPL.val (v_assign (v := .int .i64 _) rfl) ?_
    refine WPL.nil (onto_of ?_)
    exact WP.ret1 Try.results59 (fun _ h => h) (fun w hw => ⟨(), by first | exact congrArg (Value.int .i64) (fct_t h8) | exact congrArg (Value.int .i64) (fct_f h8), trivial, hw.sel [0] (by decide)⟩)
  ·
    refine WP.skip (onto_of ?_)
    refine WP.seq ?_
    refine WP.region ?_
    refine WPL.val (v_fieldL (o' := 0) Try.underlying74 rfl Try.sizeOf28 rfl rfl) ?_
    refine WPL.val (v_fieldL (o' := 4) Try.underlying28 rfl Try.sizeOf3 rfl rfl) ?_
    refine WPL.val (v_load1 (u := .int .i64 _) Try.isAgg3 rfl (fun w hw => hw.cl_at (i := 1) rfl _ rfl)) ?_
    refine WPL.val (v_assign (v := .int .i64 _) rfl) ?_
    refine WPL.nil (onto_of ?_)
    exact WP.ret1 Try.results59 (fun _ h => h) (fun w hw => ⟨(), by first | exact congrArg (Value.int .i64) (fct_t h8) | exact congrArg (Value.int .i64) (fct_f h8), trivial, hw.sel [0] (by decide)⟩)
theorem free_ct (t : Nat) (A : Option Addr) (cap : Nat) (room : Int) (g : Bool) (es : List FE) (hok : oks es) (hl : es.length ≤ 64) (hr : 0 ≤ room ∧ room ≤ 67108864) :
    Ct Try.prog 61 #[.pointer (some ⟨t, 0, none⟩)] [tblI t A es.length cap room g, entI A es.length cap es] (fun _ => True) (X := Unit) (fun _ => .int .i64 (fre g room es)) (fun _ => True)
      (fun _ => [tblI t A es.length cap room g, entI A es.length cap es]) := by
  refine Ct.intro Try.func61 rfl Try.ntmps61 (by simp) (fun w0 _ => ?_)
  refine WP.seq ?_
  refine WP.region ?_
  refine WPL.val (v_assign (v := .int .i64 (0)) rfl) ?_
  refine WPL.nil (onto_of ?_)
  refine WP.seq ?_
  refine WP.region ?_
  refine WPL.val (v_move (v := .pointer _) rfl) ?_
  refine WPL.val (v_nil rfl) ?_
  refine WPL.val (v_fieldL (o' := 1) Try.underlying72 rfl Try.sizeOf3 rfl rfl) ?_
  refine WPL.val (v_load1 (u := .int .i64 _) Try.isAgg3 rfl (fun w hw => hw.cl_at (i := 0) rfl _ rfl)) ?_
  refine WPL.val (v_assign (v := .int .i64 _) rfl) ?_
  refine WPL.nil (onto_of ?_)
  refine WP.seq ?_
  refine WP.seq ?_
  refine WP.region ?_
  refine WPL.val (v_move (v := .pointer _) rfl) ?_
  refine WPL.val (v_nil rfl) ?_
  refine WPL.val (v_fieldL (o' := 0) Try.underlying72 rfl Try.sizeOf70 rfl rfl) ?_
  refine WPL.val (v_load1 (u := .slice _ _ _) Try.isAgg70 rfl (fun w hw => hw.cl_at (i := 0) rfl _ rfl)) ?_
  refine WPL.val (v_len Try.underlying70 rfl) ?_
  refine WPL.val (v_move (v := .int .i64 (0)) rfl) ?_
  refine WPL.nil (onto_of ?_)
  refine WP.block ?_
  refine WP.loopK (X := Nat) [0, 13, 14] (fun k => [(3, .int .i64 (room - took es k)), (15, .int .i64 (k : Int))]) (fun k w => k ≤ es.length ∧ St w0 (foots [tblI t A es.length cap room g, entI A es.length cap es]) [tblI t A es.length cap room g, entI A es.length cap es] w) (fun k => es.length - k) 0 ⟨by rw [show room - took es 0 = room by simp [took]]; rfl, rfl, trivial⟩ (fun w hw => ⟨by omega, hw⟩) (fun k ρ0 => ?_)
  refine WP.fact (fun hk => ?_)
  refine WP.seq ?_
  refine WP.region ?_
  refine WPL.val (v_lss rfl rfl) ?_
  refine WPL.nil (onto_of ?_)
  refine WP.seq ?_
  refine WP.condP rfl (fun h16 => ?_) (fun h16 => ?_)
  ·
    have hk' : k < es.length := by omega
    obtain ⟨e, he⟩ : ∃ e, es[k]? = some e := ⟨_, List.getElem?_eq_getElem hk'⟩
    have ho := hok k e he
    unfold FE.ok at ho
    have hb := took_bd hok k
    refine WP.holds (fun w hw => hw.row_pos (i := 1) rfl (by omega)) (fun ⟨b, hA⟩ => ?_)
    subst hA
    refine WP.skip (onto_of ?_)
    refine WP.seq ?_
    refine WP.block ?_
    refine WP.seq ?_
    refine WP.region ?_
    refine WPL.val (v_index Try.underlying70 Try.sizeOf74 rfl rfl rfl (by omega)) ?_
    refine WPL.val (v_loadA (cs := [.int .i64 _, .int .i64 _, .int .i64 _, .int .i64 _, .int .i64 _, .int .i64 _, .bool _]) Try.isAgg74 Try.sizeOf74 rfl (fun w hw => hw.row_at (i := 1) rfl _ (fun j u hu => by rw [Nat.zero_add]; exact flat_at FE.enc 7 (fun _ => rfl) es k j e u he hu))) ?_
    refine WPL.ef (x_alloc (us := [_, _, _, _, _, _, _]) (σ' := fun _ => [_, _, _]) Try.zeroValue74 rfl (fun _ => rfl)) (fun b5 => ?_)
    refine WPL.ef0 (x_storeA (us := [.int .i64 _, .int .i64 _, .int .i64 _, .int .i64 _, .int .i64 _, .int .i64 _, .bool _]) (σ' := [_, _, .cl _ _ [_, _, _, _, _, _, _]]) Try.sizeOf74 rfl rfl (i := 2) rfl (Nat.le_of_ble_eq_true rfl) rfl (by simp [Value.oneCell'])) (fun _ => ?_)
    refine WPL.nil (onto_of ?_)
    refine WP.seq ?_
    refine WP.region ?_
    refine WPL.val (v_fieldL (o' := 6) Try.underlying74 rfl Try.sizeOf4 rfl rfl) ?_
    refine WPL.val (v_load1 (u := .bool _) Try.isAgg4 rfl (fun w hw => hw.cl_at (i := 2) rfl _ rfl)) ?_
    refine WPL.nil (onto_of ?_)
    refine WP.cond rfl (fun h20 => ?_) (fun h20 => ?_)
    ·
      refine WP.region ?_
      refine WPL.val (v_move (v := .int .i64 _) rfl) ?_
      refine WPL.val (v_fieldL (o' := 5) Try.underlying74 rfl Try.sizeOf3 rfl rfl) ?_
      refine WPL.val (v_load1 (u := .int .i64 _) Try.isAgg3 rfl (fun w hw => hw.cl_at (i := 2) rfl _ rfl)) ?_
      refine WPL.val (v_sub rfl rfl (by omega)) ?_
      rw [show room - took es k - e.size = room - took es (k + 1) by rw [took_shut he h20]; omega]
      refine WPL.val (v_assign (v := .int .i64 _) rfl) ?_
      refine WPL.nil (onto_of ?_)
      refine WP.region ?_
      refine WPL.val (v_add rfl rfl (by omega)) ?_
      refine WPL.val (v_move (v := .int .i64 _) rfl) ?_
      exact WPL.nil fun w hw => ⟨rfl, k + 1, (by omega), ⟨rfl, rfl, (via (.pointer _) rfl rfl), (via (.slice _ _ _) rfl rfl), (via (.int .i64 _) rfl rfl), trivial⟩, by omega, hw.sel [0, 1] (by decide)⟩
    ·
      refine WP.region ?_
      refine WPL.val (v_move (v := .int .i64 _) rfl) ?_
      refine WPL.val (v_fieldL (o' := 0) Try.underlying74 rfl Try.sizeOf28 rfl rfl) ?_
      refine WPL.val (v_fieldL (o' := 0) Try.underlying28 rfl Try.sizeOf3 rfl rfl) ?_
      refine WPL.val (v_load1 (u := .int .i64 _) Try.isAgg3 rfl (fun w hw => hw.cl_at (i := 2) rfl _ rfl)) ?_
      refine WPL.val (v_sub rfl rfl (by omega)) ?_
      rw [show room - took es k - e.it.base = room - took es (k + 1) by rw [took_open he h20]; omega]
      refine WPL.val (v_assign (v := .int .i64 _) rfl) ?_
      refine WPL.nil (onto_of ?_)
      refine WP.region ?_
      refine WPL.val (v_add rfl rfl (by omega)) ?_
      refine WPL.val (v_move (v := .int .i64 _) rfl) ?_
      exact WPL.nil fun w hw => ⟨rfl, k + 1, (by omega), ⟨rfl, rfl, (via (.pointer _) rfl rfl), (via (.slice _ _ _) rfl rfl), (via (.int .i64 _) rfl rfl), trivial⟩, by omega, hw.sel [0, 1] (by decide)⟩
  ·
    have hb := took_bd hok es.length
    obtain rfl : k = es.length := by omega
    refine WP.exit (onto_of ?_)
    refine WP.seq ?_
    refine WP.seq ?_
    refine WP.region ?_
    refine WPL.val (v_move (v := .pointer _) rfl) ?_
    refine WPL.val (v_nil rfl) ?_
    refine WPL.val (v_fieldL (o' := 2) Try.underlying72 rfl Try.sizeOf4 rfl rfl) ?_
    refine WPL.val (v_load1 (u := .bool _) Try.isAgg4 rfl (fun w hw => hw.cl_at (i := 0) rfl _ rfl)) ?_
    refine WPL.val (v_not rfl) ?_
    refine WPL.nil (onto_of ?_)
    refine WP.cond rfl (fun h35 => ?_) (fun h35 => ?_)
    ·
      refine WP.region ?_
      refine WPL.val (v_move (v := .int .i64 _) rfl) ?_
      refine WPL.val (v_neg rfl (by omega)) ?_
      refine WPL.val (v_assign (v := .int .i64 _) rfl) ?_
      refine WPL.nil (onto_of ?_)
      refine WP.seq ?_
      refine WP.region ?_
      refine WPL.val (v_move (v := .int .i64 _) rfl) ?_
      refine WPL.val (v_assign (v := .int .i64 _) rfl) ?_
      refine WPL.nil (onto_of ?_)
      exact WP.ret1 Try.results61 (fun _ h => h) (fun w hw => ⟨(), by first | exact congrArg (Value.int .i64) (fre_f h35) | exact congrArg (Value.int .i64) (fre_t h35), trivial, hw.sel [0, 1] (by decide)⟩)
    ·
      refine WP.skip (onto_of ?_)
      refine WP.seq ?_
      refine WP.region ?_
      refine WPL.val (v_move (v := .int .i64 _) rfl) ?_
      refine WPL.val (v_assign (v := .int .i64 _) rfl) ?_
      refine WPL.nil (onto_of ?_)
      exact WP.ret1 Try.results61 (fun _ h => h) (fun w hw => ⟨(), by first | exact congrArg (Value.int .i64) (fre_f h35) | exact congrArg (Value.int .i64) (fre_t h35), trivial, hw.sel [0, 1] (by decide)⟩)
theorem open_it {w0 : World} {M : Nat → Prop} {t : Nat} {A : Option Addr} {n cap : Nat} {room : Int} {g : Bool} {l : Nat} {X : Type} (es : X → List FE) (rest : X → List HI) (I : Nat → X → Prop) (hn64 : n ≤ 64) (hlen : ∀ k x, I k x → (es x).length = n)
    (hs : ∀ k x e, I k x → (es x)[k]? = some e → e.fr = true → ∃ x', I (k + 1) x' ∧ ∀ w, St w0 M (tblI t A n cap room g :: entI A n cap (es x) :: rest x) w → St w0 M (tblI t A n cap room g :: entI A n cap (es x') :: rest x') w)
    (x0 : X) (h0 : I 0 x0) (w1 : World) (hw1 : St w0 M (tblI t A n cap room g :: entI A n cap (es x0) :: rest x0) w1)
    (hy : ∀ k x e b, I k x → (es x)[k]? = some e → e.fr = false → A = some ⟨b, 0, none⟩ → ∀ w, St w0 M (tblI t A n cap room g :: entI A n cap (es x) :: rest x) w →
      YieldAt (FW none) 0 Try.prog l #[.pointer (some ⟨b, 0 + k * 7, none⟩)] w fun e w' => ∃ x', e = .returned (.bool true) ∧ I (k + 1) x' ∧ St w0 M (tblI t A n cap room g :: entI A n cap (es x') :: rest x') w') :
    Calls Try.prog 62 #[.pointer (some ⟨t, 0, none⟩), .func (.yield l) #[] #[]] w1 fun e w' => (∃ v, e = .returned v) ∧ ∃ x, I n x ∧ St w0 M (tblI t A n cap room g :: entI A n cap (es x) :: rest x) w' := by
  refine (enter Try.func62 rfl Try.ntmps62 (by simp) (R := fun _ w' => ∃ x, I n x ∧ St w0 M (tblI t A n cap room g :: entI A n cap (es x) :: rest x) w') (WP.pre (S' := St w0 M (tblI t A n cap room g :: entI A n cap (es x0) :: rest x0)) ?_ (fun w e => e ▸ hw1))).mono (fun e w' ⟨v, he, h⟩ => ⟨⟨v, he⟩, h⟩)
  refine WP.seq ?_
  refine WP.region ?_
  refine WPL.val (v_move (v := .pointer _) rfl) ?_
  refine WPL.val (v_nil rfl) ?_
  refine WPL.val (v_fieldL (o' := 0) Try.underlying72 rfl Try.sizeOf70 rfl rfl) ?_
  refine WPL.val (v_load1 (u := .slice _ _ _) Try.isAgg70 rfl (fun w hw => hw.cl_at (i := 0) rfl _ rfl)) ?_
  refine WPL.val (v_len Try.underlying70 rfl) ?_
  refine WPL.val (v_move (v := .int .i64 (0)) rfl) ?_
  refine WPL.nil (onto_of ?_)
  refine WP.block ?_
  refine WP.loopK (X := Nat) [0, 1, 10] (fun k => [(11, .int .i64 (k : Int))]) (fun k w => ∃ x, k ≤ n ∧ I k x ∧ St w0 M (tblI t A n cap room g :: entI A n cap (es x) :: rest x) w) (fun k => n - k) 0 ⟨rfl, trivial⟩ (fun w hw => ⟨x0, by omega, h0, hw⟩) (fun k ρ0 => ?_)
  refine WP.ex (fun x => ?_)
  refine WP.fact (fun hk => ?_)
  refine WP.fact (fun hI => ?_)
  refine WP.seq ?_
  refine WP.region ?_
  refine WPL.val (v_lss rfl rfl) ?_
  refine WPL.nil (onto_of ?_)
  refine WP.seq ?_
  refine WP.condP rfl (fun h12 => ?_) (fun h12 => ?_)
  ·
    have hk' : k < n := by omega
    have hn := hlen k x hI
    obtain ⟨e, he⟩ : ∃ e, (es x)[k]? = some e := ⟨_, List.getElem?_eq_getElem (by omega)⟩
    refine WP.holds (fun w hw => hw.row_pos (i := 1) rfl (by omega)) (fun ⟨b, hA⟩ => ?_)
    subst hA
    refine WP.skip (onto_of ?_)
    refine WP.seq ?_
    refine WP.block ?_
    refine WP.seq ?_
    refine WP.region ?_
    refine WPL.val (v_move (v := .int .i64 _) rfl) ?_
    refine WPL.val (v_assign (v := .int .i64 _) rfl) ?_
    refine WPL.nil (onto_of ?_)
    refine WP.seq ?_
    refine WP.region ?_
    refine WPL.val (v_move (v := .pointer _) rfl) ?_
    refine WPL.val (v_nil rfl) ?_
    refine WPL.val (v_fieldL (o' := 0) Try.underlying72 rfl Try.sizeOf70 rfl rfl) ?_
    refine WPL.val (v_load1 (u := .slice _ _ _) Try.isAgg70 rfl (fun w hw => hw.cl_at (i := 0) rfl _ rfl)) ?_
    refine WPL.val (v_move (v := .int .i64 _) rfl) ?_
    refine WPL.val (v_index (j := k) Try.underlying70 Try.sizeOf74 rfl rfl (by omega) (by omega)) ?_
    refine WPL.val (v_assign (v := .pointer _) rfl) ?_
    refine WPL.nil (onto_of ?_)
    refine WP.seq ?_
    refine WP.region ?_
    refine WPL.val (v_move (v := .pointer _) rfl) ?_
    refine WPL.val (v_nil rfl) ?_
    refine WPL.val (v_field (off := 6) Try.underlying74 rfl Try.sizeOf4 rfl) ?_
    refine WPL.val (v_load1 (u := .bool e.fr) Try.isAgg4 rfl (fun w hw => hw.row_at1 (i := 1) rfl (flat_at FE.enc 7 (fun _ => rfl) (es x) k 6 e _ he rfl) (by omega))) ?_
    refine WPL.val (v_not rfl) ?_
    refine WPL.val (v_move (v := .bool _) rfl) ?_
    refine WPL.splitB 25 rfl (fun h25 => ?_) (fun h25 => ?_)
    ·
      refine WPL.valG (v_move rfl) ?_
      refine WPL.valG (v_move (v := .pointer _) rfl) ?_
      refine WPL.efG (x_yield (fun w hw => hy k x e b hI he (by simpa using h25) rfl w hw)) (fun x' => ?_)
      refine WPL.fact (fun hI' => ?_)
      refine WPL.valG (v_not rfl) ?_
      refine WPL.val (v_pickT (u := .bool _) rfl rfl) ?_
      refine WPL.nil (onto_of ?_)
      refine WP.condF rfl ?_
      refine WP.skip (onto_of ?_)
      refine WP.region ?_
      refine WPL.val (v_add rfl rfl (by omega)) ?_
      refine WPL.val (v_move (v := .int .i64 _) rfl) ?_
      exact WPL.nil fun w hw => ⟨rfl, k + 1, (by omega), ⟨rfl, (via (.pointer _) rfl rfl), rfl, (via (.int .i64 _) rfl rfl), trivial⟩, _, by omega, hI', hw⟩
    ·
      obtain ⟨x', hI', hmv⟩ := hs k x e hI he (by simpa using h25)
      refine WPL.pre ?_ hmv
      refine WPL.skipG ?_
      refine WPL.skipG ?_
      refine WPL.skipG ?_
      refine WPL.skipG ?_
      refine WPL.val (v_pickF (v := .bool _) rfl rfl) ?_
      refine WPL.nil (onto_of ?_)
      refine WP.condF rfl ?_
      refine WP.skip (onto_of ?_)
      refine WP.region ?_
      refine WPL.val (v_add rfl rfl (by omega)) ?_
      refine WPL.val (v_move (v := .int .i64 _) rfl) ?_
      exact WPL.nil fun w hw => ⟨rfl, k + 1, (by omega), ⟨rfl, (via (.pointer _) rfl rfl), rfl, (via (.int .i64 _) rfl rfl), trivial⟩, _, by omega, hI', hw⟩
  ·
    have hkn : k = n := by omega
    exact WP.exit fun w hw => RetQ.of0 Try.results62 (.inr rfl) ⟨x, by rw [← hkn]; exact hI, hw⟩
end Go.Proofs.Ytabdcfobdehhiaa
