/-
  No cell of these rows narrows 'for every input' (looked for: loops, veiled, ifaces, maps, wideKeys, modest, calm, conditions, laid).
  DERIVED. THE GIVEN ROWS OF THIS SEAT. 7 by the template 'for every input the law returns true; each argument reads behind the call as it read before'; 0 by the template 'total and deterministic' (their statements: YtpgjbbaplpdaiaaGreatTotals.lean).
  GIVEN WITH THE SEED: the statements are not yours to turn. If you find one false, say at which input.
  Laid BY PROGRAM, IN A SANDBOX (cutbox-rows.mjs): the forced cells as the released guide's own fill.sh prints them over the translation 421181b330c632ab… (all of the seat's roots in one cut). By AI agents, Wed Nov 11 2026. No macro, syntax, notation, axiom, sorry.
-/
import Derived.Test.YtpgjbbaplpdaiaaGreatChecked
import GoSem.Claim
import GoSem.ClaimJoined
import GoSem.ClaimMapViews
import Derived.JoinedTies
import Derived.KernelRfl
namespace Go.Proofs.YtpgjbbaplpdaiaaGreat
/- THE CELL 'sum', in the pinned program and in every row, IS THE sha256 OF THE DUMP (.gsa) THAT YtpgjbbaplpdaiaaGreatProg.lean LOADS. Nothing in Lean hashes anything: it is a label: what it is worth is what the hold of that sum in a sandbox is worth. -/
noncomputable def Tryz.pinned : Pinned := { name := "ytpgjbbaplpdaiaagreat", sum := "421181b330c632ab348b503420d7b90d3526c02f33a723f76383730278de2089", checked := Tryz.checked }
namespace Rows
def none {H : Type} : Left H := { results := [], args := [] }

/-- 'valancelaw15.FlowWidth': WHATEVER THE INPUT: true; the input reads as it did. -/
def flowWidthSpec : ChangeSpec := { name := "flowWidth", fn := fun _ => fun
  | [d1, d2] => { results := [.lit (.bool true)], args := [d1, d2] }
  | _ => none }
def flowWidthRow : OpenClaim := { program := "ytpgjbbaplpdaiaagreat", sum := "421181b330c632ab348b503420d7b90d3526c02f33a723f76383730278de2089", func := "valance/valancelaw15.FlowWidth", spec := "flowWidth", inPlace := ["slices.overlaps[int]"], unfollowed := true, recurses := true, plainKeys := false, apart := false }
def FlowWidthSaid : Prop := flowWidthRow.holds Tryz.pinned (OpenSpec.ofChange flowWidthSpec)

/-- ITS FALSE NEIGHBOUR: 'it returns false'. Refute it at one input. -/
def flowWidthWrong : ChangeSpec := { name := "flowWidth", fn := fun _ => fun
  | [d1, d2] => { results := [.lit (.bool false)], args := [d1, d2] }
  | _ => none }
def FlowWidthWrongFalsely : Prop := flowWidthRow.holds Tryz.pinned (OpenSpec.ofChange flowWidthWrong)

/-- 'valancelaw15.FlowHigh': WHATEVER THE INPUT: true; the input reads as it did. -/
def flowHighSpec : ChangeSpec := { name := "flowHigh", fn := fun _ => fun
  | [d1, d2] => { results := [.lit (.bool true)], args := [d1, d2] }
  | _ => none }
def flowHighRow : OpenClaim := { program := "ytpgjbbaplpdaiaagreat", sum := "421181b330c632ab348b503420d7b90d3526c02f33a723f76383730278de2089", func := "valance/valancelaw15.FlowHigh", spec := "flowHigh", inPlace := ["slices.overlaps[int]"], unfollowed := true, recurses := true, plainKeys := false, apart := false }
def FlowHighSaid : Prop := flowHighRow.holds Tryz.pinned (OpenSpec.ofChange flowHighSpec)

/-- ITS FALSE NEIGHBOUR: 'it returns false'. Refute it at one input. -/
def flowHighWrong : ChangeSpec := { name := "flowHigh", fn := fun _ => fun
  | [d1, d2] => { results := [.lit (.bool false)], args := [d1, d2] }
  | _ => none }
def FlowHighWrongFalsely : Prop := flowHighRow.holds Tryz.pinned (OpenSpec.ofChange flowHighWrong)

/-- 'valancelaw15.FlowLays': WHATEVER THE INPUT: true; the input reads as it did. -/
def flowLaysSpec : ChangeSpec := { name := "flowLays", fn := fun _ => fun
  | [d1, d2, d3, d4, d5] => { results := [.lit (.bool true)], args := [d1, d2, d3, d4, d5] }
  | _ => none }
def flowLaysRow : OpenClaim := { program := "ytpgjbbaplpdaiaagreat", sum := "421181b330c632ab348b503420d7b90d3526c02f33a723f76383730278de2089", func := "valance/valancelaw15.FlowLays", spec := "flowLays", inPlace := ["slices.overlaps[int]"], unfollowed := true, recurses := true, plainKeys := false, apart := false }
def FlowLaysSaid : Prop := flowLaysRow.holds Tryz.pinned (OpenSpec.ofChange flowLaysSpec)

/-- ITS FALSE NEIGHBOUR: 'it returns false'. Refute it at one input. -/
def flowLaysWrong : ChangeSpec := { name := "flowLays", fn := fun _ => fun
  | [d1, d2, d3, d4, d5] => { results := [.lit (.bool false)], args := [d1, d2, d3, d4, d5] }
  | _ => none }
def FlowLaysWrongFalsely : Prop := flowLaysRow.holds Tryz.pinned (OpenSpec.ofChange flowLaysWrong)

/-- 'valancelaw15.FlowSizes': WHATEVER THE INPUT: true; the input reads as it did. -/
def flowSizesSpec : ChangeSpec := { name := "flowSizes", fn := fun _ => fun
  | [d1, d2, d3] => { results := [.lit (.bool true)], args := [d1, d2, d3] }
  | _ => none }
def flowSizesRow : OpenClaim := { program := "ytpgjbbaplpdaiaagreat", sum := "421181b330c632ab348b503420d7b90d3526c02f33a723f76383730278de2089", func := "valance/valancelaw15.FlowSizes", spec := "flowSizes", inPlace := ["slices.overlaps[int]"], unfollowed := true, recurses := true, plainKeys := false, apart := false }
def FlowSizesSaid : Prop := flowSizesRow.holds Tryz.pinned (OpenSpec.ofChange flowSizesSpec)

/-- ITS FALSE NEIGHBOUR: 'it returns false'. Refute it at one input. -/
def flowSizesWrong : ChangeSpec := { name := "flowSizes", fn := fun _ => fun
  | [d1, d2, d3] => { results := [.lit (.bool false)], args := [d1, d2, d3] }
  | _ => none }
def FlowSizesWrongFalsely : Prop := flowSizesRow.holds Tryz.pinned (OpenSpec.ofChange flowSizesWrong)

/-- 'valancelaw15.FlowHidden': WHATEVER THE INPUT: true; the input reads as it did. -/
def flowHiddenSpec : ChangeSpec := { name := "flowHidden", fn := fun _ => fun
  | [d1, d2, d3, d4, d5, d6] => { results := [.lit (.bool true)], args := [d1, d2, d3, d4, d5, d6] }
  | _ => none }
def flowHiddenRow : OpenClaim := { program := "ytpgjbbaplpdaiaagreat", sum := "421181b330c632ab348b503420d7b90d3526c02f33a723f76383730278de2089", func := "valance/valancelaw15.FlowHidden", spec := "flowHidden", inPlace := ["slices.overlaps[int]"], unfollowed := true, recurses := true, plainKeys := false, apart := false }
def FlowHiddenSaid : Prop := flowHiddenRow.holds Tryz.pinned (OpenSpec.ofChange flowHiddenSpec)

/-- ITS FALSE NEIGHBOUR: 'it returns false'. Refute it at one input. -/
def flowHiddenWrong : ChangeSpec := { name := "flowHidden", fn := fun _ => fun
  | [d1, d2, d3, d4, d5, d6] => { results := [.lit (.bool false)], args := [d1, d2, d3, d4, d5, d6] }
  | _ => none }
def FlowHiddenWrongFalsely : Prop := flowHiddenRow.holds Tryz.pinned (OpenSpec.ofChange flowHiddenWrong)

/-- 'valancelaw15.FlowMoved': WHATEVER THE INPUT: true; the input reads as it did. -/
def flowMovedSpec : ChangeSpec := { name := "flowMoved", fn := fun _ => fun
  | [d1, d2, d3, d4, d5, d6] => { results := [.lit (.bool true)], args := [d1, d2, d3, d4, d5, d6] }
  | _ => none }
def flowMovedRow : OpenClaim := { program := "ytpgjbbaplpdaiaagreat", sum := "421181b330c632ab348b503420d7b90d3526c02f33a723f76383730278de2089", func := "valance/valancelaw15.FlowMoved", spec := "flowMoved", inPlace := ["slices.overlaps[int]"], unfollowed := true, recurses := true, plainKeys := false, apart := false }
def FlowMovedSaid : Prop := flowMovedRow.holds Tryz.pinned (OpenSpec.ofChange flowMovedSpec)

/-- ITS FALSE NEIGHBOUR: 'it returns false'. Refute it at one input. -/
def flowMovedWrong : ChangeSpec := { name := "flowMoved", fn := fun _ => fun
  | [d1, d2, d3, d4, d5, d6] => { results := [.lit (.bool false)], args := [d1, d2, d3, d4, d5, d6] }
  | _ => none }
def FlowMovedWrongFalsely : Prop := flowMovedRow.holds Tryz.pinned (OpenSpec.ofChange flowMovedWrong)

/-- 'valancelaw15.FlowOut': WHATEVER THE INPUT: true; the input reads as it did. -/
def flowOutSpec : ChangeSpec := { name := "flowOut", fn := fun _ => fun
  | [d1, d2, d3, d4, d5, d6] => { results := [.lit (.bool true)], args := [d1, d2, d3, d4, d5, d6] }
  | _ => none }
def flowOutRow : OpenClaim := { program := "ytpgjbbaplpdaiaagreat", sum := "421181b330c632ab348b503420d7b90d3526c02f33a723f76383730278de2089", func := "valance/valancelaw15.FlowOut", spec := "flowOut", inPlace := ["slices.overlaps[int]"], unfollowed := true, recurses := true, plainKeys := false, apart := false }
def FlowOutSaid : Prop := flowOutRow.holds Tryz.pinned (OpenSpec.ofChange flowOutSpec)

/-- ITS FALSE NEIGHBOUR: 'it returns false'. Refute it at one input. -/
def flowOutWrong : ChangeSpec := { name := "flowOut", fn := fun _ => fun
  | [d1, d2, d3, d4, d5, d6] => { results := [.lit (.bool false)], args := [d1, d2, d3, d4, d5, d6] }
  | _ => none }
def FlowOutWrongFalsely : Prop := flowOutRow.holds Tryz.pinned (OpenSpec.ofChange flowOutWrong)

/- THE SECOND FORM. 'bulk': how many values and letters a reading holds, each counted each time it is reached (what is shared counts as often as it is met; a slice's spare places count too). A statement '..UptoSaid' is the law's where the arguments, and the package variables that the reading takes, are together of bulk at most 1048576: NARROWER than '..Said'. Prove '..Said' where nothing that the law and all that it calls make is longer than what came in: it says more and counts as full. Else prove '..UptoSaid'. A law counts once. -/
mutual
def uptoBulk {H : Type} : DataW H → Nat
  | .lit (.string bytes) => bytes.length + 1
  | .lit _ => 1
  | .nil => 1
  | .ptr d => uptoBulk d + 1
  | .slice elems spare => uptoBulkAll elems + uptoBulkAll spare + 1
  | .agg parts => uptoBulkAll parts + 1
  | .iface _ d => uptoBulk d + 1
  | .map entries => uptoBulkEntries entries + 1
  | .held _ => 1
def uptoBulkAll {H : Type} : List (DataW H) → Nat
  | [] => 0
  | d :: r => uptoBulk d + uptoBulkAll r
def uptoBulkEntries {H : Type} : List (Lit × DataW H) → Nat
  | [] => 0
  | x :: r => uptoBulkEntry x + uptoBulkEntries r
def uptoBulkEntry {H : Type} : Lit × DataW H → Nat
  | (.string bytes, d) => bytes.length + uptoBulk d + 1
  | (_, d) => uptoBulk d + 1
 end
def uptoSmall : (H : Type) → List (DataW H) → Bool := fun _ ds => decide (uptoBulkAll ds ≤ 1048576)
def OpenSpec.upto (s : _root_.Go.ChangeSpec) : _root_.Go.OpenSpec := { _root_.Go.OpenSpec.ofChange s with cond := some uptoSmall }

/-- 'valancelaw15.FlowWidth', WHERE WHAT IT READS IS OF BULK AT MOST 1048576: true; the input reads as it did. -/
def flowWidthUptoRow : OpenClaim := { program := "ytpgjbbaplpdaiaagreat", sum := "421181b330c632ab348b503420d7b90d3526c02f33a723f76383730278de2089", func := "valance/valancelaw15.FlowWidth", spec := "flowWidth", inPlace := ["slices.overlaps[int]"], unfollowed := true, recurses := true, plainKeys := false, apart := false, narrowed := true }
def FlowWidthUptoSaid : Prop := flowWidthUptoRow.holds Tryz.pinned (OpenSpec.upto flowWidthSpec)

/-- 'valancelaw15.FlowHigh', WHERE WHAT IT READS IS OF BULK AT MOST 1048576: true; the input reads as it did. -/
def flowHighUptoRow : OpenClaim := { program := "ytpgjbbaplpdaiaagreat", sum := "421181b330c632ab348b503420d7b90d3526c02f33a723f76383730278de2089", func := "valance/valancelaw15.FlowHigh", spec := "flowHigh", inPlace := ["slices.overlaps[int]"], unfollowed := true, recurses := true, plainKeys := false, apart := false, narrowed := true }
def FlowHighUptoSaid : Prop := flowHighUptoRow.holds Tryz.pinned (OpenSpec.upto flowHighSpec)

/-- 'valancelaw15.FlowLays', WHERE WHAT IT READS IS OF BULK AT MOST 1048576: true; the input reads as it did. -/
def flowLaysUptoRow : OpenClaim := { program := "ytpgjbbaplpdaiaagreat", sum := "421181b330c632ab348b503420d7b90d3526c02f33a723f76383730278de2089", func := "valance/valancelaw15.FlowLays", spec := "flowLays", inPlace := ["slices.overlaps[int]"], unfollowed := true, recurses := true, plainKeys := false, apart := false, narrowed := true }
def FlowLaysUptoSaid : Prop := flowLaysUptoRow.holds Tryz.pinned (OpenSpec.upto flowLaysSpec)

/-- 'valancelaw15.FlowSizes', WHERE WHAT IT READS IS OF BULK AT MOST 1048576: true; the input reads as it did. -/
def flowSizesUptoRow : OpenClaim := { program := "ytpgjbbaplpdaiaagreat", sum := "421181b330c632ab348b503420d7b90d3526c02f33a723f76383730278de2089", func := "valance/valancelaw15.FlowSizes", spec := "flowSizes", inPlace := ["slices.overlaps[int]"], unfollowed := true, recurses := true, plainKeys := false, apart := false, narrowed := true }
def FlowSizesUptoSaid : Prop := flowSizesUptoRow.holds Tryz.pinned (OpenSpec.upto flowSizesSpec)

/-- 'valancelaw15.FlowHidden', WHERE WHAT IT READS IS OF BULK AT MOST 1048576: true; the input reads as it did. -/
def flowHiddenUptoRow : OpenClaim := { program := "ytpgjbbaplpdaiaagreat", sum := "421181b330c632ab348b503420d7b90d3526c02f33a723f76383730278de2089", func := "valance/valancelaw15.FlowHidden", spec := "flowHidden", inPlace := ["slices.overlaps[int]"], unfollowed := true, recurses := true, plainKeys := false, apart := false, narrowed := true }
def FlowHiddenUptoSaid : Prop := flowHiddenUptoRow.holds Tryz.pinned (OpenSpec.upto flowHiddenSpec)

/-- 'valancelaw15.FlowMoved', WHERE WHAT IT READS IS OF BULK AT MOST 1048576: true; the input reads as it did. -/
def flowMovedUptoRow : OpenClaim := { program := "ytpgjbbaplpdaiaagreat", sum := "421181b330c632ab348b503420d7b90d3526c02f33a723f76383730278de2089", func := "valance/valancelaw15.FlowMoved", spec := "flowMoved", inPlace := ["slices.overlaps[int]"], unfollowed := true, recurses := true, plainKeys := false, apart := false, narrowed := true }
def FlowMovedUptoSaid : Prop := flowMovedUptoRow.holds Tryz.pinned (OpenSpec.upto flowMovedSpec)

/-- 'valancelaw15.FlowOut', WHERE WHAT IT READS IS OF BULK AT MOST 1048576: true; the input reads as it did. -/
def flowOutUptoRow : OpenClaim := { program := "ytpgjbbaplpdaiaagreat", sum := "421181b330c632ab348b503420d7b90d3526c02f33a723f76383730278de2089", func := "valance/valancelaw15.FlowOut", spec := "flowOut", inPlace := ["slices.overlaps[int]"], unfollowed := true, recurses := true, plainKeys := false, apart := false, narrowed := true }
def FlowOutUptoSaid : Prop := flowOutUptoRow.holds Tryz.pinned (OpenSpec.upto flowOutSpec)

end Rows
end Go.Proofs.YtpgjbbaplpdaiaaGreat
