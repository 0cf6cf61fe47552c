/- Styles as cells: plain words. -/
import Derived.Test.YtmjdmlgdffoimaaRecPure
import Derived.Test.YtmjdmlgdffoimaaOps2
namespace Go.Proofs.Ytmjdmlgdffoimaa
open Go.RowKit

theorem cell_of {cs : List Value} {j : Nat} {u : Value} (h : cs[j]? = some u) : (cs.drop j).take ([u] : List Value).length = [u] := by
  have hj := (List.getElem?_eq_some_iff.1 h).1
  rw [List.drop_eq_getElem_cons hj, (List.getElem?_eq_some_iff.1 h).2]
  rfl
theorem set_self {cs : List Value} {j : Nat} {u : Value} (h : cs[j]? = some u) : cs.set j u = cs := by
  apply List.ext_getElem?
  intro i
  by_cases e : i = j
  · subst e; rw [h, List.getElem?_set_self (List.getElem?_eq_some_iff.1 h).1]
  · rw [List.getElem?_set_ne (Ne.symm e)]

def num01 : Value → Int
  | .int _ z => z
  | .bool b => bit01 b
  | _ => 0
def val (cs : List Value) (j : Nat) : Int := num01 (cs.getD j undef)
def bval (cs : List Value) (j : Nat) : Bool := match cs.getD j undef with
  | .bool b => b
  | _ => false
def isBit (j : Nat) : Bool := j == 45 || j == 47 || j == 51 || j == 52
/-- The cells of a style. -/
structure SOk (cs : List Value) : Prop where
  len : cs.length = 55
  int : ∀ j, j < 55 → isBit j = false → cs[j]? = some (.int .i64 (val cs j))
  bit : ∀ j, j < 55 → isBit j = true → cs[j]? = some (.bool (bval cs j))
def nums (cs : List Value) : List Int := cs.map num01
theorem nums_at {cs : List Value} (hs : SOk cs) {j : Nat} (hj : j < 55) : (nums cs)[j]? = some (val cs j) := by
  have hl := hs.len
  unfold nums val
  rw [List.getElem?_map, List.getD_eq_getElem?_getD, List.getElem?_eq_getElem (by omega)]
  rfl
theorem take_snoc {α : Type} {l : List α} {i : Nat} {e : α} (h : l[i]? = some e) : l.take (i + 1) = l.take i ++ [e] := by
  rw [List.take_add_one, h]; rfl
theorem SOk.step {cs : List Value} (hs : SOk cs) (j : Nat) (hj : j < 55) : (nums cs).take j ++ [val cs j] = (nums cs).take (j + 1) := (take_snoc (nums_at hs hj)).symm
theorem SOk.bstep {cs : List Value} (hs : SOk cs) (j : Nat) (hj : j < 55) (hb : isBit j = true) : (nums cs).take j ++ [bit01 (bval cs j)] = (nums cs).take (j + 1) := by
  have h1 := hs.bit j hj hb
  have e : val cs j = bit01 (bval cs j) := by
    unfold val
    rw [List.getD_eq_getElem?_getD, h1]
    rfl
  rw [← e]
  exact hs.step j hj
theorem SOk.short {cs : List Value} (hs : SOk cs) (j : Nat) : ((nums cs).take j).length ≤ 55 := by
  have hl := hs.len
  have e : (nums cs).length = 55 := by simp [nums, hl]
  rw [List.length_take]; omega
theorem SOk.len100 {cs : List Value} (hs : SOk cs) (j : Nat) : ((nums cs).take j).length ≤ 100 := Nat.le_trans (hs.short j) (by decide)
theorem SOk.len99 {cs : List Value} (hs : SOk cs) (j : Nat) : ((nums cs).take j).length ≤ 99 := Nat.le_trans (hs.short j) (by decide)

def lenPos : List Nat := [3, 5, 7, 9, 11, 13, 41, 15, 17, 19, 21, 23, 25, 27, 29]
def sizPos : List Nat := [46, 31, 32, 33, 34, 35, 36, 37, 38, 53, 54]
def lensOf (cs : List Value) : List (Int × Int) := lenPos.map fun j => (val cs j, val cs (j + 1))
def sizesOf (cs : List Value) : List Int := sizPos.map (val cs)
def kindsB (cs : List Value) : Bool := within (val cs 0) 0 3 && within (val cs 1) 0 4 && within (val cs 2) 0 2
def waysB (cs : List Value) : Bool := within (val cs 43) 0 5 && within (val cs 44) 0 3 && within (val cs 49) 0 2 && within (val cs 50) 0 3
def lensB (cs : List Value) : Bool := !(lensOf cs).any fun p => !lenOk p.1 p.2
def sizesB (cs : List Value) : Bool := !(sizesOf cs).any fun n => !within n 0 1048576
def validB (cs : List Value) : Bool := kindsB cs && waysB cs && lensB cs && sizesB cs && within (val cs 39) 0 1000 && within (val cs 40) 0 1000 && within (val cs 48) (-1048576) 1048576
theorem SOk.seg {cs : List Value} (hs : SOk cs) : ∀ (n o : Nat), o + n ≤ 55 → ((List.range' o n).all fun j => !isBit j) = true → (cs.drop o).take n = (List.range' o n).map fun j => .int .i64 (val cs j)
  | 0, o, _, _ => by simp
  | n + 1, o, h, hb => by
    rw [List.range'_succ, List.all_cons, Bool.and_eq_true] at hb
    have h1 := hs.int o (by omega) (by simpa using hb.1)
    have ho := (List.getElem?_eq_some_iff.1 h1).1
    rw [List.range'_succ, List.map_cons, List.drop_eq_getElem_cons ho, List.take_succ_cons, (List.getElem?_eq_some_iff.1 h1).2, hs.seg n (o + 1) (by omega) hb.2]
theorem SOk.segE {cs us : List Value} (hs : SOk cs) (n o : Nat) (h : o + n ≤ 55) (hb : ((List.range' o n).all fun j => !isBit j) = true) (hl : us.length = n) (e : ((List.range' o n).map fun j => Value.int .i64 (val cs j)) = us) : (cs.drop o).take us.length = us := by
  rw [hl, hs.seg n o h hb, e]
theorem srcAt {w : World} {b o m : Nat} {us : List Value} (h : CellsAt w b o us) : Src w (some ⟨b, o, none⟩) m us := .inr ⟨b, o, rfl, h⟩

def zeroS : List Value := [.int .i64 0, .int .i64 0, .int .i64 0, .int .i64 0, .int .i64 0, .int .i64 0, .int .i64 0, .int .i64 0, .int .i64 0, .int .i64 0, .int .i64 0, .int .i64 0, .int .i64 0, .int .i64 0, .int .i64 0, .int .i64 0, .int .i64 0, .int .i64 0, .int .i64 0, .int .i64 0, .int .i64 0, .int .i64 0, .int .i64 0, .int .i64 0, .int .i64 0, .int .i64 0, .int .i64 0, .int .i64 0, .int .i64 0, .int .i64 0, .int .i64 0, .int .i64 0, .int .i64 0, .int .i64 0, .int .i64 0, .int .i64 0, .int .i64 0, .int .i64 0, .int .i64 0, .int .i64 0, .int .i64 0, .int .i64 0, .int .i64 0, .int .i64 0, .int .i64 0, .bool false, .int .i64 0, .bool false, .int .i64 0, .int .i64 0, .int .i64 0, .bool false, .bool false, .int .i64 0, .int .i64 0]
theorem zeroS_at : ∀ j, j < 55 → zeroS[j]? = some (if isBit j then .bool false else .int .i64 0) := fun j hj => match j, hj with
  | 0, _ => rfl
  | 1, _ => rfl
  | 2, _ => rfl
  | 3, _ => rfl
  | 4, _ => rfl
  | 5, _ => rfl
  | 6, _ => rfl
  | 7, _ => rfl
  | 8, _ => rfl
  | 9, _ => rfl
  | 10, _ => rfl
  | 11, _ => rfl
  | 12, _ => rfl
  | 13, _ => rfl
  | 14, _ => rfl
  | 15, _ => rfl
  | 16, _ => rfl
  | 17, _ => rfl
  | 18, _ => rfl
  | 19, _ => rfl
  | 20, _ => rfl
  | 21, _ => rfl
  | 22, _ => rfl
  | 23, _ => rfl
  | 24, _ => rfl
  | 25, _ => rfl
  | 26, _ => rfl
  | 27, _ => rfl
  | 28, _ => rfl
  | 29, _ => rfl
  | 30, _ => rfl
  | 31, _ => rfl
  | 32, _ => rfl
  | 33, _ => rfl
  | 34, _ => rfl
  | 35, _ => rfl
  | 36, _ => rfl
  | 37, _ => rfl
  | 38, _ => rfl
  | 39, _ => rfl
  | 40, _ => rfl
  | 41, _ => rfl
  | 42, _ => rfl
  | 43, _ => rfl
  | 44, _ => rfl
  | 45, _ => rfl
  | 46, _ => rfl
  | 47, _ => rfl
  | 48, _ => rfl
  | 49, _ => rfl
  | 50, _ => rfl
  | 51, _ => rfl
  | 52, _ => rfl
  | 53, _ => rfl
  | 54, _ => rfl
  | j + 55, h => absurd h (by omega)
theorem SOk.of_dec {cs : List Value} {f : Nat → Int} {g : Nat → Bool} (hl : cs.length = 55) (h : ∀ j, j < 55 → cs[j]? = some (if isBit j then .bool (g j) else .int .i64 (f j))) : SOk cs := by
  refine ⟨hl, fun j hj hb => ?_, fun j hj hb => ?_⟩
  · have h1 := h j hj
    rw [hb] at h1
    unfold val
    rw [List.getD_eq_getElem?_getD, h1]; rfl
  · have h1 := h j hj
    rw [hb] at h1
    unfold bval
    rw [List.getD_eq_getElem?_getD, h1]; rfl
theorem zeroS_ok : SOk zeroS := SOk.of_dec (f := fun _ => 0) (g := fun _ => false) rfl zeroS_at
theorem SOk.one {cs : List Value} (hs : SOk cs) : ∀ u ∈ cs, u.oneCell' = true := fun u hu => by
  obtain ⟨j, hj⟩ := List.getElem?_of_mem hu
  have hlt := (List.getElem?_eq_some_iff.1 hj).1
  rw [hs.len] at hlt
  cases hb : isBit j with
  | false => rw [hs.int j hlt hb] at hj; cases hj; rfl
  | true => rw [hs.bit j hlt hb] at hj; cases hj; rfl
theorem whole (cs : List Value) : (cs.drop 0).take cs.length = cs := by simp
theorem all_any {α : Type} (p : α → Bool) (l : List α) : l.all p = !l.any fun x => !p x := by
  induction l with
  | nil => rfl
  | cons x l ih => simp only [List.all_cons, List.any_cons, ih, Bool.not_or, Bool.not_not]
theorem all_perm {α : Type} {p : α → Bool} {l m : List α} (h : l.Perm m) : l.all p = m.all p := by
  rw [Bool.eq_iff_iff, List.all_eq_true, List.all_eq_true]
  exact ⟨fun k x hx => k x (h.mem_iff.2 hx), fun k x hx => k x (h.mem_iff.1 hx)⟩

end Go.Proofs.Ytmjdmlgdffoimaa
