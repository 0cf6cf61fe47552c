/-
  No cell of these rows narrows 'for every input' (looked for: loops, veiled, ifaces, maps, wideKeys, modest, calm, conditions, laid).
  DERIVED. THE GIVEN ROWS OF THIS SEAT. 7 by the template 'for every input the law returns true; each argument reads behind the call as it read before'; 0 by the template 'total and deterministic' (their statements: YtmjdmlgdffoimabTotals.lean).
  GIVEN WITH THE SEED: the statements are not yours to turn. If you find one false, say at which input.
  Laid BY PROGRAM, IN A SANDBOX (cutbox-rows.mjs): the forced cells as the released guide's own fill.sh prints them over the translation 4579af9c14ed7f64… (all of the seat's roots in one cut). By AI agents, Wed Nov 11 2026. No macro, syntax, notation, axiom, sorry.
-/
import Derived.Test.YtmjdmlgdffoimabChecked
import GoSem.Claim
import GoSem.ClaimJoined
import GoSem.ClaimMapViews
import Derived.JoinedTies
import Derived.KernelRfl
namespace Go.Proofs.Ytmjdmlgdffoimab
/- THE CELL 'sum', in the pinned program and in every row, IS THE sha256 OF THE DUMP (.gsa) THAT YtmjdmlgdffoimabProg.lean LOADS. Nothing in Lean hashes anything: it is a label: what it is worth is what the hold of that sum in a sandbox is worth. -/
noncomputable def Try.pinned : Pinned := { name := "ytmjdmlgdffoimab", sum := "4579af9c14ed7f644e7fb9ddd9544d3477137af34efe9b15aa01713f583e4993", checked := Try.checked }
namespace Rows
def none {H : Type} : Left H := { results := [], args := [] }

/-- 'valancelaw16.PaintOrders': WHATEVER THE INPUT: true; the input reads as it did. -/
def paintOrdersSpec : ChangeSpec := { name := "paintOrders", fn := fun _ => fun
  | [d1, d2, d3] => { results := [.lit (.bool true)], args := [d1, d2, d3] }
  | _ => none }
def paintOrdersRow : OpenClaim := { program := "ytmjdmlgdffoimab", sum := "4579af9c14ed7f644e7fb9ddd9544d3477137af34efe9b15aa01713f583e4993", func := "valance/valancelaw16.PaintOrders", spec := "paintOrders", unfollowed := true, recurses := true, apart := false }
def PaintOrdersSaid : Prop := paintOrdersRow.holds Try.pinned (OpenSpec.ofChange paintOrdersSpec)

/-- ITS FALSE NEIGHBOUR: 'it returns false'. Refute it at one input. -/
def paintOrdersWrong : ChangeSpec := { name := "paintOrders", fn := fun _ => fun
  | [d1, d2, d3] => { results := [.lit (.bool false)], args := [d1, d2, d3] }
  | _ => none }
def PaintOrdersWrongFalsely : Prop := paintOrdersRow.holds Try.pinned (OpenSpec.ofChange paintOrdersWrong)

/-- 'valancelaw16.PaintOnce': WHATEVER THE INPUT: true; the input reads as it did. -/
def paintOnceSpec : ChangeSpec := { name := "paintOnce", fn := fun _ => fun
  | [d1, d2, d3, d4] => { results := [.lit (.bool true)], args := [d1, d2, d3, d4] }
  | _ => none }
def paintOnceRow : OpenClaim := { program := "ytmjdmlgdffoimab", sum := "4579af9c14ed7f644e7fb9ddd9544d3477137af34efe9b15aa01713f583e4993", func := "valance/valancelaw16.PaintOnce", spec := "paintOnce", unfollowed := true, recurses := true, apart := false }
def PaintOnceSaid : Prop := paintOnceRow.holds Try.pinned (OpenSpec.ofChange paintOnceSpec)

/-- ITS FALSE NEIGHBOUR: 'it returns false'. Refute it at one input. -/
def paintOnceWrong : ChangeSpec := { name := "paintOnce", fn := fun _ => fun
  | [d1, d2, d3, d4] => { results := [.lit (.bool false)], args := [d1, d2, d3, d4] }
  | _ => none }
def PaintOnceWrongFalsely : Prop := paintOnceRow.holds Try.pinned (OpenSpec.ofChange paintOnceWrong)

/-- 'valancelaw16.PaintTogether': WHATEVER THE INPUT: true; the input reads as it did. -/
def paintTogetherSpec : ChangeSpec := { name := "paintTogether", fn := fun _ => fun
  | [d1, d2] => { results := [.lit (.bool true)], args := [d1, d2] }
  | _ => none }
def paintTogetherRow : OpenClaim := { program := "ytmjdmlgdffoimab", sum := "4579af9c14ed7f644e7fb9ddd9544d3477137af34efe9b15aa01713f583e4993", func := "valance/valancelaw16.PaintTogether", spec := "paintTogether", unfollowed := true, recurses := true, apart := false }
def PaintTogetherSaid : Prop := paintTogetherRow.holds Try.pinned (OpenSpec.ofChange paintTogetherSpec)

/-- ITS FALSE NEIGHBOUR: 'it returns false'. Refute it at one input. -/
def paintTogetherWrong : ChangeSpec := { name := "paintTogether", fn := fun _ => fun
  | [d1, d2] => { results := [.lit (.bool false)], args := [d1, d2] }
  | _ => none }
def PaintTogetherWrongFalsely : Prop := paintTogetherRow.holds Try.pinned (OpenSpec.ofChange paintTogetherWrong)

/-- 'valancelaw16.PaintPlain': WHATEVER THE INPUT: true; the input reads as it did. -/
def paintPlainSpec : ChangeSpec := { name := "paintPlain", fn := fun _ => fun
  | [d1, d2, d3] => { results := [.lit (.bool true)], args := [d1, d2, d3] }
  | _ => none }
def paintPlainRow : OpenClaim := { program := "ytmjdmlgdffoimab", sum := "4579af9c14ed7f644e7fb9ddd9544d3477137af34efe9b15aa01713f583e4993", func := "valance/valancelaw16.PaintPlain", spec := "paintPlain", unfollowed := true, recurses := true, apart := false }
def PaintPlainSaid : Prop := paintPlainRow.holds Try.pinned (OpenSpec.ofChange paintPlainSpec)

/-- ITS FALSE NEIGHBOUR: 'it returns false'. Refute it at one input. -/
def paintPlainWrong : ChangeSpec := { name := "paintPlain", fn := fun _ => fun
  | [d1, d2, d3] => { results := [.lit (.bool false)], args := [d1, d2, d3] }
  | _ => none }
def PaintPlainWrongFalsely : Prop := paintPlainRow.holds Try.pinned (OpenSpec.ofChange paintPlainWrong)

/-- 'valancelaw16.PaintFirst': WHATEVER THE INPUT: true; the input reads as it did. -/
def paintFirstSpec : ChangeSpec := { name := "paintFirst", fn := fun _ => fun
  | [d] => { results := [.lit (.bool true)], args := [d] }
  | _ => none }
def paintFirstRow : OpenClaim := { program := "ytmjdmlgdffoimab", sum := "4579af9c14ed7f644e7fb9ddd9544d3477137af34efe9b15aa01713f583e4993", func := "valance/valancelaw16.PaintFirst", spec := "paintFirst", unfollowed := true, recurses := true, apart := false }
def PaintFirstSaid : Prop := paintFirstRow.holds Try.pinned (OpenSpec.ofChange paintFirstSpec)

/-- ITS FALSE NEIGHBOUR: 'it returns false'. Refute it at one input. -/
def paintFirstWrong : ChangeSpec := { name := "paintFirst", fn := fun _ => fun
  | [d] => { results := [.lit (.bool false)], args := [d] }
  | _ => none }
def PaintFirstWrongFalsely : Prop := paintFirstRow.holds Try.pinned (OpenSpec.ofChange paintFirstWrong)

/-- 'valancelaw16.PaintMore': WHATEVER THE INPUT: true; the input reads as it did. -/
def paintMoreSpec : ChangeSpec := { name := "paintMore", fn := fun _ => fun
  | [d1, d2] => { results := [.lit (.bool true)], args := [d1, d2] }
  | _ => none }
def paintMoreRow : OpenClaim := { program := "ytmjdmlgdffoimab", sum := "4579af9c14ed7f644e7fb9ddd9544d3477137af34efe9b15aa01713f583e4993", func := "valance/valancelaw16.PaintMore", spec := "paintMore", unfollowed := true, recurses := true, apart := false }
def PaintMoreSaid : Prop := paintMoreRow.holds Try.pinned (OpenSpec.ofChange paintMoreSpec)

/-- ITS FALSE NEIGHBOUR: 'it returns false'. Refute it at one input. -/
def paintMoreWrong : ChangeSpec := { name := "paintMore", fn := fun _ => fun
  | [d1, d2] => { results := [.lit (.bool false)], args := [d1, d2] }
  | _ => none }
def PaintMoreWrongFalsely : Prop := paintMoreRow.holds Try.pinned (OpenSpec.ofChange paintMoreWrong)

/-- 'valancelaw16.PaintZ': WHATEVER THE INPUT: true; the input reads as it did. -/
def paintZSpec : ChangeSpec := { name := "paintZ", fn := fun _ => fun
  | [d1, d2, d3] => { results := [.lit (.bool true)], args := [d1, d2, d3] }
  | _ => none }
def paintZRow : OpenClaim := { program := "ytmjdmlgdffoimab", sum := "4579af9c14ed7f644e7fb9ddd9544d3477137af34efe9b15aa01713f583e4993", func := "valance/valancelaw16.PaintZ", spec := "paintZ", unfollowed := true, recurses := true, apart := false }
def PaintZSaid : Prop := paintZRow.holds Try.pinned (OpenSpec.ofChange paintZSpec)

/-- ITS FALSE NEIGHBOUR: 'it returns false'. Refute it at one input. -/
def paintZWrong : ChangeSpec := { name := "paintZ", fn := fun _ => fun
  | [d1, d2, d3] => { results := [.lit (.bool false)], args := [d1, d2, d3] }
  | _ => none }
def PaintZWrongFalsely : Prop := paintZRow.holds Try.pinned (OpenSpec.ofChange paintZWrong)

/- THE SECOND FORM. 'bulk': how many values and letters a reading holds, each counted each time it is reached (what is shared counts as often as it is met; a slice's spare places count too). A statement '..UptoSaid' is the law's where the arguments, and the package variables that the reading takes, are together of bulk at most 1048576: NARROWER than '..Said'. Prove '..Said' where nothing that the law and all that it calls make is longer than what came in: it says more and counts as full. Else prove '..UptoSaid'. A law counts once. -/
mutual
def uptoBulk {H : Type} : DataW H → Nat
  | .lit (.string bytes) => bytes.length + 1
  | .lit _ => 1
  | .nil => 1
  | .ptr d => uptoBulk d + 1
  | .slice elems spare => uptoBulkAll elems + uptoBulkAll spare + 1
  | .agg parts => uptoBulkAll parts + 1
  | .iface _ d => uptoBulk d + 1
  | .map entries => uptoBulkEntries entries + 1
  | .held _ => 1
def uptoBulkAll {H : Type} : List (DataW H) → Nat
  | [] => 0
  | d :: r => uptoBulk d + uptoBulkAll r
def uptoBulkEntries {H : Type} : List (Lit × DataW H) → Nat
  | [] => 0
  | x :: r => uptoBulkEntry x + uptoBulkEntries r
def uptoBulkEntry {H : Type} : Lit × DataW H → Nat
  | (.string bytes, d) => bytes.length + uptoBulk d + 1
  | (_, d) => uptoBulk d + 1
 end
def uptoSmall : (H : Type) → List (DataW H) → Bool := fun _ ds => decide (uptoBulkAll ds ≤ 1048576)
def OpenSpec.upto (s : _root_.Go.ChangeSpec) : _root_.Go.OpenSpec := { _root_.Go.OpenSpec.ofChange s with cond := some uptoSmall }

/-- 'valancelaw16.PaintOrders', WHERE WHAT IT READS IS OF BULK AT MOST 1048576: true; the input reads as it did. -/
def paintOrdersUptoRow : OpenClaim := { program := "ytmjdmlgdffoimab", sum := "4579af9c14ed7f644e7fb9ddd9544d3477137af34efe9b15aa01713f583e4993", func := "valance/valancelaw16.PaintOrders", spec := "paintOrders", unfollowed := true, recurses := true, apart := false, narrowed := true }
def PaintOrdersUptoSaid : Prop := paintOrdersUptoRow.holds Try.pinned (OpenSpec.upto paintOrdersSpec)

/-- 'valancelaw16.PaintOnce', WHERE WHAT IT READS IS OF BULK AT MOST 1048576: true; the input reads as it did. -/
def paintOnceUptoRow : OpenClaim := { program := "ytmjdmlgdffoimab", sum := "4579af9c14ed7f644e7fb9ddd9544d3477137af34efe9b15aa01713f583e4993", func := "valance/valancelaw16.PaintOnce", spec := "paintOnce", unfollowed := true, recurses := true, apart := false, narrowed := true }
def PaintOnceUptoSaid : Prop := paintOnceUptoRow.holds Try.pinned (OpenSpec.upto paintOnceSpec)

/-- 'valancelaw16.PaintTogether', WHERE WHAT IT READS IS OF BULK AT MOST 1048576: true; the input reads as it did. -/
def paintTogetherUptoRow : OpenClaim := { program := "ytmjdmlgdffoimab", sum := "4579af9c14ed7f644e7fb9ddd9544d3477137af34efe9b15aa01713f583e4993", func := "valance/valancelaw16.PaintTogether", spec := "paintTogether", unfollowed := true, recurses := true, apart := false, narrowed := true }
def PaintTogetherUptoSaid : Prop := paintTogetherUptoRow.holds Try.pinned (OpenSpec.upto paintTogetherSpec)

/-- 'valancelaw16.PaintPlain', WHERE WHAT IT READS IS OF BULK AT MOST 1048576: true; the input reads as it did. -/
def paintPlainUptoRow : OpenClaim := { program := "ytmjdmlgdffoimab", sum := "4579af9c14ed7f644e7fb9ddd9544d3477137af34efe9b15aa01713f583e4993", func := "valance/valancelaw16.PaintPlain", spec := "paintPlain", unfollowed := true, recurses := true, apart := false, narrowed := true }
def PaintPlainUptoSaid : Prop := paintPlainUptoRow.holds Try.pinned (OpenSpec.upto paintPlainSpec)

/-- 'valancelaw16.PaintFirst', WHERE WHAT IT READS IS OF BULK AT MOST 1048576: true; the input reads as it did. -/
def paintFirstUptoRow : OpenClaim := { program := "ytmjdmlgdffoimab", sum := "4579af9c14ed7f644e7fb9ddd9544d3477137af34efe9b15aa01713f583e4993", func := "valance/valancelaw16.PaintFirst", spec := "paintFirst", unfollowed := true, recurses := true, apart := false, narrowed := true }
def PaintFirstUptoSaid : Prop := paintFirstUptoRow.holds Try.pinned (OpenSpec.upto paintFirstSpec)

/-- 'valancelaw16.PaintMore', WHERE WHAT IT READS IS OF BULK AT MOST 1048576: true; the input reads as it did. -/
def paintMoreUptoRow : OpenClaim := { program := "ytmjdmlgdffoimab", sum := "4579af9c14ed7f644e7fb9ddd9544d3477137af34efe9b15aa01713f583e4993", func := "valance/valancelaw16.PaintMore", spec := "paintMore", unfollowed := true, recurses := true, apart := false, narrowed := true }
def PaintMoreUptoSaid : Prop := paintMoreUptoRow.holds Try.pinned (OpenSpec.upto paintMoreSpec)

/-- 'valancelaw16.PaintZ', WHERE WHAT IT READS IS OF BULK AT MOST 1048576: true; the input reads as it did. -/
def paintZUptoRow : OpenClaim := { program := "ytmjdmlgdffoimab", sum := "4579af9c14ed7f644e7fb9ddd9544d3477137af34efe9b15aa01713f583e4993", func := "valance/valancelaw16.PaintZ", spec := "paintZ", unfollowed := true, recurses := true, apart := false, narrowed := true }
def PaintZUptoSaid : Prop := paintZUptoRow.holds Try.pinned (OpenSpec.upto paintZSpec)

end Rows
end Go.Proofs.Ytmjdmlgdffoimab
