/- What is done to a tree, and what is answered: plain laws. -/
import Derived.Test.YtmjdmlgdffoimaaTreeOps
namespace Go.Proofs.Ytmjdmlgdffoimaa

structure Act (S : Type) where
  k : Int
  a : Int
  b : Int
  c : Int
  sty : S
section
variable {S : Type} (z : S) (valid : S → Bool) {F : Forest S} {d : Int → Nat}
def deepF (F : Forest S) (id : Int) : Int := (sub F id).foldl (fun n x => max n (depthF F x)) 0
def lenF (F : Forest S) : Int := ((order F).length : Int)
def addR (F : Forest S) (up at_ : Int) : Forest S × Int × Int :=
  if hasF F up = false then (F, -1, 2) else if at_ < 0 ∨ ((kidsF F up).length : Int) < at_ then (F, -1, 1) else if 4096 ≤ lenF F then (F, -1, 4) else if 63 ≤ depthF F up then (F, -1, 5)
  else (addG F up at_.toNat (least F) z, least F, 0)
def remR (F : Forest S) (id : Int) : Forest S × Int × Int :=
  if hasF F id = false then (F, 0, 2) else if id = 0 then (F, 0, 1) else (remG F id, ((sub F id).length : Int), 0)
def mostF (F : Forest S) (id up : Int) : Int := ((kidsF F up).length : Int) - if upF F id = up then 1 else 0
def movR (F : Forest S) (id up at_ : Int) : Forest S × Int :=
  if hasF F id = false ∨ hasF F up = false then (F, 2) else if id = 0 then (F, 1) else if up ∈ sub F id then (F, 3) else if at_ < 0 ∨ mostF F id up < at_ then (F, 1)
  else if 64 ≤ depthF F up + 1 + deepF F id - depthF F id then (F, 5) else (movG F id up at_.toNat, 0)
def setR (F : Forest S) (id : Int) (s : S) : Forest S × Int :=
  if hasF F id = false then (F, 2) else if valid s = false then (F, 1) else (setG F id s, 0)
/-- K modulo 5, as Go has it. -/
def actR (F : Forest S) (x : Act S) : Forest S :=
  if Int.tmod x.k 5 = 2 then (remR F x.a).1 else if Int.tmod x.k 5 = 3 then (movR F x.a x.b x.c).1 else if Int.tmod x.k 5 = 4 then (setR valid F x.a x.sty).1 else (addR z F x.a x.b).1
def actsR (F : Forest S) (l : List (Act S)) : Forest S := l.foldl (actR z valid) F
def newF : Forest S := fun x => if x = 0 then some ⟨-1, [], z⟩ else none

theorem foldl_max_ge (f : Int → Int) : ∀ (l : List Int) (n : Int), n ≤ l.foldl (fun n x => max n (f x)) n ∧ ∀ x ∈ l, f x ≤ l.foldl (fun n x => max n (f x)) n
  | [], n => ⟨Int.le_refl _, by simp⟩
  | y :: l, n => by
    obtain ⟨h1, h2⟩ := foldl_max_ge f l (max n (f y))
    simp only [List.foldl_cons]
    refine ⟨by omega, fun x hx => ?_⟩
    rcases List.mem_cons.1 hx with rfl | hx
    · omega
    · exact h2 x hx
theorem foldl_max_le (f : Int → Int) (m : Int) : ∀ (l : List Int) (n : Int), n ≤ m → (∀ x ∈ l, f x ≤ m) → l.foldl (fun n x => max n (f x)) n ≤ m
  | [], n, h, _ => h
  | y :: l, n, h, hl => by
    simp only [List.foldl_cons]
    exact foldl_max_le f m l _ (by have := hl y (by simp); omega) fun x hx => hl x (by simp [hx])
theorem WF.new : WF (newF z) (fun _ => 0) := by
  have hget : ∀ x b, newF z x = some b → x = 0 ∧ b = ⟨-1, [], z⟩ := fun x b h => by
    unfold newF at h
    split at h
    · cases h; exact ⟨‹_›, rfl⟩
    · cases h
  refine ⟨⟨_, if_pos rfl, rfl⟩, ?_, ?_, ?_, rfl, ?_, ?_, ?_⟩ <;> intro x b h <;> obtain ⟨rfl, rfl⟩ := hget x b h <;> simp
theorem WF.addR (h : WF F d) (up at_ : Int) : ∃ d', WF (addR z F up at_).1 d' := by
  unfold Go.Proofs.Ytmjdmlgdffoimaa.addR
  split
  · exact ⟨d, h⟩
  · split
    · exact ⟨d, h⟩
    · split
      · exact ⟨d, h⟩
      · split
        · exact ⟨d, h⟩
        · rename_i h1 h2 h3 h4
          obtain ⟨b, hb⟩ := some_has (by simpa using h1 : hasF F up = true)
          obtain ⟨l1, l2, l3, l4⟩ := h.least_ok
          have l5 := h.least_lt (by unfold lenF at h3; omega)
          rw [h.depth (has_some hb)] at h4
          exact ⟨_, h.add hb (none_has l3) ⟨l1, l5⟩ at_.toNat (by omega) z⟩
theorem WF.remR (h : WF F d) (id : Int) : ∃ d', WF (remR F id).1 d' := by
  unfold Go.Proofs.Ytmjdmlgdffoimaa.remR
  split
  · exact ⟨d, h⟩
  · split
    · exact ⟨d, h⟩
    · rename_i h1 h2
      obtain ⟨b, hb⟩ := some_has (by simpa using h1 : hasF F id = true)
      exact ⟨d, h.rem hb h2⟩
theorem WF.deep_iff (h : WF F d) {id up : Int} (hid : hasF F id = true) (hup : hasF F up = true) : ¬ (64 ≤ depthF F up + 1 + deepF F id - depthF F id) ↔ ∀ x ∈ sub F id, d x - d id + d up + 1 ≤ 63 := by
  rw [h.depth hid, h.depth hup]
  have hge := foldl_max_ge (depthF F) (sub F id) 0
  have hself : id ∈ sub F id := h.mem_sub.2 (Anc.refl hid)
  have hx : ∀ x ∈ sub F id, depthF F x = d x ∧ d id ≤ d x := fun x hx => ⟨h.depth (sub_has hx), h.anc_le (h.mem_sub.1 hx)⟩
  constructor
  · intro hn x hm
    have h1 := hge.2 x hm
    have h2 := hx x hm
    unfold deepF at hn
    omega
  · intro hall
    have h1 := foldl_max_le (depthF F) ((d id : Int) + 62 - d up) (sub F id) 0 (by have := hall id hself; omega) (fun x hm => by
      have h2 := hx x hm
      have h3 := hall x hm
      omega)
    unfold deepF
    omega
theorem WF.movR (h : WF F d) (id up at_ : Int) : ∃ d', WF (movR F id up at_).1 d' := by
  unfold Go.Proofs.Ytmjdmlgdffoimaa.movR
  split
  · exact ⟨d, h⟩
  · split
    · exact ⟨d, h⟩
    · split
      · exact ⟨d, h⟩
      · split
        · exact ⟨d, h⟩
        · split
          · exact ⟨d, h⟩
          · rename_i h1 h2 h3 h4 h5
            simp only [not_or, Bool.not_eq_false] at h1
            obtain ⟨bi, hbi⟩ := some_has h1.1
            obtain ⟨bu, hbu⟩ := some_has h1.2
            exact ⟨_, h.mov hbi h2 hbu h3 at_.toNat ((h.deep_iff h1.1 h1.2).1 h5)⟩
theorem WF.setR (h : WF F d) (id : Int) (s : S) : ∃ d', WF (setR valid F id s).1 d' := by
  unfold Go.Proofs.Ytmjdmlgdffoimaa.setR
  split
  · exact ⟨d, h⟩
  · split
    · exact ⟨d, h⟩
    · exact ⟨d, h.set id s⟩
theorem WF.act (h : WF F d) (x : Act S) : ∃ d', WF (actR z valid F x) d' := by
  unfold actR
  split
  · exact h.remR x.a
  · split
    · exact h.movR x.a x.b x.c
    · split
      · exact h.setR valid x.a x.sty
      · exact h.addR z x.a x.b
theorem WF.acts : ∀ (l : List (Act S)) {F : Forest S} {d : Int → Nat}, WF F d → ∃ d', WF (actsR z valid F l) d'
  | [], _, d, h => ⟨d, h⟩
  | x :: l, _, _, h => by
    obtain ⟨d', h'⟩ := h.act z valid x
    exact WF.acts l h'
theorem acts_new (l : List (Act S)) : ∃ d', WF (actsR z valid (newF z) l) d' := WF.acts z valid l (WF.new z)
theorem acts_snoc (l : List (Act S)) (x : Act S) (F : Forest S) : actsR z valid F (l ++ [x]) = actR z valid (actsR z valid F l) x := by simp [actsR]
end
end Go.Proofs.Ytmjdmlgdffoimaa
