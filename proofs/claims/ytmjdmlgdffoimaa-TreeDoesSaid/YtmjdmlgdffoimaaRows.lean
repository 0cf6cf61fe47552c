/-
  No cell of these rows narrows 'for every input' (looked for: loops, veiled, ifaces, maps, wideKeys, modest, calm, conditions, laid).
  DERIVED. THE GIVEN ROWS OF THIS SEAT. 7 by the template 'for every input the law returns true; each argument reads behind the call as it read before'; 0 by the template 'total and deterministic' (their statements: YtmjdmlgdffoimaaTotals.lean).
  GIVEN WITH THE SEED: the statements are not yours to turn. If you find one false, say at which input.
  Laid BY PROGRAM, IN A SANDBOX (cutbox-rows.mjs): the forced cells as the released guide's own fill.sh prints them over the translation 5d8b176ee9259c41… (all of the seat's roots in one cut). By AI agents, Wed Nov 11 2026. No macro, syntax, notation, axiom, sorry.
-/
import Derived.Test.YtmjdmlgdffoimaaChecked
import GoSem.Claim
import GoSem.ClaimJoined
import GoSem.ClaimMapViews
import Derived.JoinedTies
import Derived.KernelRfl
namespace Go.Proofs.Ytmjdmlgdffoimaa
/- THE CELL 'sum', in the pinned program and in every row, IS THE sha256 OF THE DUMP (.gsa) THAT YtmjdmlgdffoimaaProg.lean LOADS. Nothing in Lean hashes anything: it is a label: what it is worth is what the hold of that sum in a sandbox is worth. -/
noncomputable def Try.pinned : Pinned := { name := "ytmjdmlgdffoimaa", sum := "5d8b176ee9259c41d2936b8e7c7644b65f6128389d9ec3bc03527ca431468a8e", checked := Try.checked }
namespace Rows
def none {H : Type} : Left H := { results := [], args := [] }

/-- 'valancelaw14.TreeDoes': WHATEVER THE INPUT: true; the input reads as it did. -/
def treeDoesSpec : ChangeSpec := { name := "treeDoes", fn := fun _ => fun
  | [d1, d2] => { results := [.lit (.bool true)], args := [d1, d2] }
  | _ => none }
def treeDoesRow : OpenClaim := { program := "ytmjdmlgdffoimaa", sum := "5d8b176ee9259c41d2936b8e7c7644b65f6128389d9ec3bc03527ca431468a8e", func := "valance/valancelaw14.TreeDoes", spec := "treeDoes", inPlace := ["slices.overlaps[int]"], unfollowed := true, recurses := true, apart := false }
def TreeDoesSaid : Prop := treeDoesRow.holds Try.pinned (OpenSpec.ofChange treeDoesSpec)

/-- ITS FALSE NEIGHBOUR: 'it returns false'. Refute it at one input. -/
def treeDoesWrong : ChangeSpec := { name := "treeDoes", fn := fun _ => fun
  | [d1, d2] => { results := [.lit (.bool false)], args := [d1, d2] }
  | _ => none }
def TreeDoesWrongFalsely : Prop := treeDoesRow.holds Try.pinned (OpenSpec.ofChange treeDoesWrong)

/-- 'valancelaw14.TreeOrder': WHATEVER THE INPUT: true; the input reads as it did. -/
def treeOrderSpec : ChangeSpec := { name := "treeOrder", fn := fun _ => fun
  | [d] => { results := [.lit (.bool true)], args := [d] }
  | _ => none }
def treeOrderRow : OpenClaim := { program := "ytmjdmlgdffoimaa", sum := "5d8b176ee9259c41d2936b8e7c7644b65f6128389d9ec3bc03527ca431468a8e", func := "valance/valancelaw14.TreeOrder", spec := "treeOrder", inPlace := ["slices.overlaps[int]"], unfollowed := true, recurses := true, apart := false }
def TreeOrderSaid : Prop := treeOrderRow.holds Try.pinned (OpenSpec.ofChange treeOrderSpec)

/-- ITS FALSE NEIGHBOUR: 'it returns false'. Refute it at one input. -/
def treeOrderWrong : ChangeSpec := { name := "treeOrder", fn := fun _ => fun
  | [d] => { results := [.lit (.bool false)], args := [d] }
  | _ => none }
def TreeOrderWrongFalsely : Prop := treeOrderRow.holds Try.pinned (OpenSpec.ofChange treeOrderWrong)

/-- 'valancelaw14.TreeClone': WHATEVER THE INPUT: true; the input reads as it did. -/
def treeCloneSpec : ChangeSpec := { name := "treeClone", fn := fun _ => fun
  | [d1, d2, d3] => { results := [.lit (.bool true)], args := [d1, d2, d3] }
  | _ => none }
def treeCloneRow : OpenClaim := { program := "ytmjdmlgdffoimaa", sum := "5d8b176ee9259c41d2936b8e7c7644b65f6128389d9ec3bc03527ca431468a8e", func := "valance/valancelaw14.TreeClone", spec := "treeClone", inPlace := ["slices.overlaps[int]"], unfollowed := true, recurses := true, apart := false }
def TreeCloneSaid : Prop := treeCloneRow.holds Try.pinned (OpenSpec.ofChange treeCloneSpec)

/-- ITS FALSE NEIGHBOUR: 'it returns false'. Refute it at one input. -/
def treeCloneWrong : ChangeSpec := { name := "treeClone", fn := fun _ => fun
  | [d1, d2, d3] => { results := [.lit (.bool false)], args := [d1, d2, d3] }
  | _ => none }
def TreeCloneWrongFalsely : Prop := treeCloneRow.holds Try.pinned (OpenSpec.ofChange treeCloneWrong)

/-- 'valancelaw14.TreeMoves': WHATEVER THE INPUT: true; the input reads as it did. -/
def treeMovesSpec : ChangeSpec := { name := "treeMoves", fn := fun _ => fun
  | [d1, d2, d3, d4] => { results := [.lit (.bool true)], args := [d1, d2, d3, d4] }
  | _ => none }
def treeMovesRow : OpenClaim := { program := "ytmjdmlgdffoimaa", sum := "5d8b176ee9259c41d2936b8e7c7644b65f6128389d9ec3bc03527ca431468a8e", func := "valance/valancelaw14.TreeMoves", spec := "treeMoves", inPlace := ["slices.overlaps[int]"], unfollowed := true, recurses := true, apart := false }
def TreeMovesSaid : Prop := treeMovesRow.holds Try.pinned (OpenSpec.ofChange treeMovesSpec)

/-- ITS FALSE NEIGHBOUR: 'it returns false'. Refute it at one input. -/
def treeMovesWrong : ChangeSpec := { name := "treeMoves", fn := fun _ => fun
  | [d1, d2, d3, d4] => { results := [.lit (.bool false)], args := [d1, d2, d3, d4] }
  | _ => none }
def TreeMovesWrongFalsely : Prop := treeMovesRow.holds Try.pinned (OpenSpec.ofChange treeMovesWrong)

/-- 'valancelaw14.TreeKids': WHATEVER THE INPUT: true; the input reads as it did. -/
def treeKidsSpec : ChangeSpec := { name := "treeKids", fn := fun _ => fun
  | [d1, d2, d3] => { results := [.lit (.bool true)], args := [d1, d2, d3] }
  | _ => none }
def treeKidsRow : OpenClaim := { program := "ytmjdmlgdffoimaa", sum := "5d8b176ee9259c41d2936b8e7c7644b65f6128389d9ec3bc03527ca431468a8e", func := "valance/valancelaw14.TreeKids", spec := "treeKids", inPlace := ["slices.overlaps[int]"], unfollowed := true, recurses := true, apart := false }
def TreeKidsSaid : Prop := treeKidsRow.holds Try.pinned (OpenSpec.ofChange treeKidsSpec)

/-- ITS FALSE NEIGHBOUR: 'it returns false'. Refute it at one input. -/
def treeKidsWrong : ChangeSpec := { name := "treeKids", fn := fun _ => fun
  | [d1, d2, d3] => { results := [.lit (.bool false)], args := [d1, d2, d3] }
  | _ => none }
def TreeKidsWrongFalsely : Prop := treeKidsRow.holds Try.pinned (OpenSpec.ofChange treeKidsWrong)

/-- 'valancelaw14.TreeStyles': WHATEVER THE INPUT: true; the input reads as it did. -/
def treeStylesSpec : ChangeSpec := { name := "treeStyles", fn := fun _ => fun
  | [d1, d2, d3, d4, d5] => { results := [.lit (.bool true)], args := [d1, d2, d3, d4, d5] }
  | _ => none }
def treeStylesRow : OpenClaim := { program := "ytmjdmlgdffoimaa", sum := "5d8b176ee9259c41d2936b8e7c7644b65f6128389d9ec3bc03527ca431468a8e", func := "valance/valancelaw14.TreeStyles", spec := "treeStyles", inPlace := ["slices.overlaps[int]"], unfollowed := true, recurses := true, apart := false }
def TreeStylesSaid : Prop := treeStylesRow.holds Try.pinned (OpenSpec.ofChange treeStylesSpec)

/-- ITS FALSE NEIGHBOUR: 'it returns false'. Refute it at one input. -/
def treeStylesWrong : ChangeSpec := { name := "treeStyles", fn := fun _ => fun
  | [d1, d2, d3, d4, d5] => { results := [.lit (.bool false)], args := [d1, d2, d3, d4, d5] }
  | _ => none }
def TreeStylesWrongFalsely : Prop := treeStylesRow.holds Try.pinned (OpenSpec.ofChange treeStylesWrong)

/-- 'valancelaw14.TreeLeast': WHATEVER THE INPUT: true; the input reads as it did. -/
def treeLeastSpec : ChangeSpec := { name := "treeLeast", fn := fun _ => fun
  | [d1, d2] => { results := [.lit (.bool true)], args := [d1, d2] }
  | _ => none }
def treeLeastRow : OpenClaim := { program := "ytmjdmlgdffoimaa", sum := "5d8b176ee9259c41d2936b8e7c7644b65f6128389d9ec3bc03527ca431468a8e", func := "valance/valancelaw14.TreeLeast", spec := "treeLeast", inPlace := ["slices.overlaps[int]"], unfollowed := true, recurses := true, apart := false }
def TreeLeastSaid : Prop := treeLeastRow.holds Try.pinned (OpenSpec.ofChange treeLeastSpec)

/-- ITS FALSE NEIGHBOUR: 'it returns false'. Refute it at one input. -/
def treeLeastWrong : ChangeSpec := { name := "treeLeast", fn := fun _ => fun
  | [d1, d2] => { results := [.lit (.bool false)], args := [d1, d2] }
  | _ => none }
def TreeLeastWrongFalsely : Prop := treeLeastRow.holds Try.pinned (OpenSpec.ofChange treeLeastWrong)

/- THE SECOND FORM. 'bulk': how many values and letters a reading holds, each counted each time it is reached (what is shared counts as often as it is met; a slice's spare places count too). A statement '..UptoSaid' is the law's where the arguments, and the package variables that the reading takes, are together of bulk at most 1048576: NARROWER than '..Said'. Prove '..Said' where nothing that the law and all that it calls make is longer than what came in: it says more and counts as full. Else prove '..UptoSaid'. A law counts once. -/
mutual
def uptoBulk {H : Type} : DataW H → Nat
  | .lit (.string bytes) => bytes.length + 1
  | .lit _ => 1
  | .nil => 1
  | .ptr d => uptoBulk d + 1
  | .slice elems spare => uptoBulkAll elems + uptoBulkAll spare + 1
  | .agg parts => uptoBulkAll parts + 1
  | .iface _ d => uptoBulk d + 1
  | .map entries => uptoBulkEntries entries + 1
  | .held _ => 1
def uptoBulkAll {H : Type} : List (DataW H) → Nat
  | [] => 0
  | d :: r => uptoBulk d + uptoBulkAll r
def uptoBulkEntries {H : Type} : List (Lit × DataW H) → Nat
  | [] => 0
  | x :: r => uptoBulkEntry x + uptoBulkEntries r
def uptoBulkEntry {H : Type} : Lit × DataW H → Nat
  | (.string bytes, d) => bytes.length + uptoBulk d + 1
  | (_, d) => uptoBulk d + 1
 end
def uptoSmall : (H : Type) → List (DataW H) → Bool := fun _ ds => decide (uptoBulkAll ds ≤ 1048576)
def OpenSpec.upto (s : _root_.Go.ChangeSpec) : _root_.Go.OpenSpec := { _root_.Go.OpenSpec.ofChange s with cond := some uptoSmall }

/-- 'valancelaw14.TreeDoes', WHERE WHAT IT READS IS OF BULK AT MOST 1048576: true; the input reads as it did. -/
def treeDoesUptoRow : OpenClaim := { program := "ytmjdmlgdffoimaa", sum := "5d8b176ee9259c41d2936b8e7c7644b65f6128389d9ec3bc03527ca431468a8e", func := "valance/valancelaw14.TreeDoes", spec := "treeDoes", inPlace := ["slices.overlaps[int]"], unfollowed := true, recurses := true, apart := false, narrowed := true }
def TreeDoesUptoSaid : Prop := treeDoesUptoRow.holds Try.pinned (OpenSpec.upto treeDoesSpec)

/-- 'valancelaw14.TreeOrder', WHERE WHAT IT READS IS OF BULK AT MOST 1048576: true; the input reads as it did. -/
def treeOrderUptoRow : OpenClaim := { program := "ytmjdmlgdffoimaa", sum := "5d8b176ee9259c41d2936b8e7c7644b65f6128389d9ec3bc03527ca431468a8e", func := "valance/valancelaw14.TreeOrder", spec := "treeOrder", inPlace := ["slices.overlaps[int]"], unfollowed := true, recurses := true, apart := false, narrowed := true }
def TreeOrderUptoSaid : Prop := treeOrderUptoRow.holds Try.pinned (OpenSpec.upto treeOrderSpec)

/-- 'valancelaw14.TreeClone', WHERE WHAT IT READS IS OF BULK AT MOST 1048576: true; the input reads as it did. -/
def treeCloneUptoRow : OpenClaim := { program := "ytmjdmlgdffoimaa", sum := "5d8b176ee9259c41d2936b8e7c7644b65f6128389d9ec3bc03527ca431468a8e", func := "valance/valancelaw14.TreeClone", spec := "treeClone", inPlace := ["slices.overlaps[int]"], unfollowed := true, recurses := true, apart := false, narrowed := true }
def TreeCloneUptoSaid : Prop := treeCloneUptoRow.holds Try.pinned (OpenSpec.upto treeCloneSpec)

/-- 'valancelaw14.TreeMoves', WHERE WHAT IT READS IS OF BULK AT MOST 1048576: true; the input reads as it did. -/
def treeMovesUptoRow : OpenClaim := { program := "ytmjdmlgdffoimaa", sum := "5d8b176ee9259c41d2936b8e7c7644b65f6128389d9ec3bc03527ca431468a8e", func := "valance/valancelaw14.TreeMoves", spec := "treeMoves", inPlace := ["slices.overlaps[int]"], unfollowed := true, recurses := true, apart := false, narrowed := true }
def TreeMovesUptoSaid : Prop := treeMovesUptoRow.holds Try.pinned (OpenSpec.upto treeMovesSpec)

/-- 'valancelaw14.TreeKids', WHERE WHAT IT READS IS OF BULK AT MOST 1048576: true; the input reads as it did. -/
def treeKidsUptoRow : OpenClaim := { program := "ytmjdmlgdffoimaa", sum := "5d8b176ee9259c41d2936b8e7c7644b65f6128389d9ec3bc03527ca431468a8e", func := "valance/valancelaw14.TreeKids", spec := "treeKids", inPlace := ["slices.overlaps[int]"], unfollowed := true, recurses := true, apart := false, narrowed := true }
def TreeKidsUptoSaid : Prop := treeKidsUptoRow.holds Try.pinned (OpenSpec.upto treeKidsSpec)

/-- 'valancelaw14.TreeStyles', WHERE WHAT IT READS IS OF BULK AT MOST 1048576: true; the input reads as it did. -/
def treeStylesUptoRow : OpenClaim := { program := "ytmjdmlgdffoimaa", sum := "5d8b176ee9259c41d2936b8e7c7644b65f6128389d9ec3bc03527ca431468a8e", func := "valance/valancelaw14.TreeStyles", spec := "treeStyles", inPlace := ["slices.overlaps[int]"], unfollowed := true, recurses := true, apart := false, narrowed := true }
def TreeStylesUptoSaid : Prop := treeStylesUptoRow.holds Try.pinned (OpenSpec.upto treeStylesSpec)

/-- 'valancelaw14.TreeLeast', WHERE WHAT IT READS IS OF BULK AT MOST 1048576: true; the input reads as it did. -/
def treeLeastUptoRow : OpenClaim := { program := "ytmjdmlgdffoimaa", sum := "5d8b176ee9259c41d2936b8e7c7644b65f6128389d9ec3bc03527ca431468a8e", func := "valance/valancelaw14.TreeLeast", spec := "treeLeast", inPlace := ["slices.overlaps[int]"], unfollowed := true, recurses := true, apart := false, narrowed := true }
def TreeLeastUptoSaid : Prop := treeLeastUptoRow.holds Try.pinned (OpenSpec.upto treeLeastSpec)

end Rows
end Go.Proofs.Ytmjdmlgdffoimaa
