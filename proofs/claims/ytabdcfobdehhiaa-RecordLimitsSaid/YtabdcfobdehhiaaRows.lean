/-
  No cell of these rows narrows 'for every input' (looked for: loops, veiled, ifaces, maps, wideKeys, modest, calm, conditions, laid).
  DERIVED. THE GIVEN ROWS OF THIS SEAT. 12 by the template 'for every input the law returns true; each argument reads behind the call as it read before'; 0 by the template 'total and deterministic' (their statements: YtabdcfobdehhiaaTotals.lean).
  GIVEN WITH THE SEED: the statements are not yours to turn. If you find one false, say at which input.
  Laid BY PROGRAM, IN A SANDBOX (cutbox-rows.mjs): the forced cells as the released guide's own fill.sh prints them over the translation 452cde4e2777c3ea… (all of the seat's roots in one cut). By AI agents, Wed Nov 11 2026. No macro, syntax, notation, axiom, sorry.
-/
import Derived.Test.YtabdcfobdehhiaaChecked
import GoSem.Claim
import GoSem.ClaimJoined
import GoSem.ClaimMapViews
import Derived.JoinedTies
import Derived.KernelRfl
namespace Go.Proofs.Ytabdcfobdehhiaa
/- THE CELL 'sum', in the pinned program and in every row, IS THE sha256 OF THE DUMP (.gsa) THAT YtabdcfobdehhiaaProg.lean LOADS. Nothing in Lean hashes anything: it is a label: what it is worth is what the hold of that sum in a sandbox is worth. -/
noncomputable def Try.pinned : Pinned := { name := "ytabdcfobdehhiaa", sum := "452cde4e2777c3eac268476800364dd0a9699088bd40ca0cf798e5a94711a938", checked := Try.checked }
namespace Rows
def none {H : Type} : Left H := { results := [], args := [] }

/-- 'valancelaw08.FlexSizes': WHATEVER THE INPUT: true; the input reads as it did. -/
def flexSizesSpec : ChangeSpec := { name := "flexSizes", fn := fun _ => fun
  | [d1, d2, d3] => { results := [.lit (.bool true)], args := [d1, d2, d3] }
  | _ => none }
def flexSizesRow : OpenClaim := { program := "ytabdcfobdehhiaa", sum := "452cde4e2777c3eac268476800364dd0a9699088bd40ca0cf798e5a94711a938", func := "valance/valancelaw08.FlexSizes", spec := "flexSizes", unfollowed := true, recurses := true, apart := false }
def FlexSizesSaid : Prop := flexSizesRow.holds Try.pinned (OpenSpec.ofChange flexSizesSpec)

/-- ITS FALSE NEIGHBOUR: 'it returns false'. Refute it at one input. -/
def flexSizesWrong : ChangeSpec := { name := "flexSizes", fn := fun _ => fun
  | [d1, d2, d3] => { results := [.lit (.bool false)], args := [d1, d2, d3] }
  | _ => none }
def FlexSizesWrongFalsely : Prop := flexSizesRow.holds Try.pinned (OpenSpec.ofChange flexSizesWrong)

/-- 'valancelaw08.FlexShares': WHATEVER THE INPUT: true; the input reads as it did. -/
def flexSharesSpec : ChangeSpec := { name := "flexShares", fn := fun _ => fun
  | [d1, d2] => { results := [.lit (.bool true)], args := [d1, d2] }
  | _ => none }
def flexSharesRow : OpenClaim := { program := "ytabdcfobdehhiaa", sum := "452cde4e2777c3eac268476800364dd0a9699088bd40ca0cf798e5a94711a938", func := "valance/valancelaw08.FlexShares", spec := "flexShares", unfollowed := true, recurses := true, apart := false }
def FlexSharesSaid : Prop := flexSharesRow.holds Try.pinned (OpenSpec.ofChange flexSharesSpec)

/-- ITS FALSE NEIGHBOUR: 'it returns false'. Refute it at one input. -/
def flexSharesWrong : ChangeSpec := { name := "flexShares", fn := fun _ => fun
  | [d1, d2] => { results := [.lit (.bool false)], args := [d1, d2] }
  | _ => none }
def FlexSharesWrongFalsely : Prop := flexSharesRow.holds Try.pinned (OpenSpec.ofChange flexSharesWrong)

/-- 'valancelaw08.FlexWithin': WHATEVER THE INPUT: true; the input reads as it did. -/
def flexWithinSpec : ChangeSpec := { name := "flexWithin", fn := fun _ => fun
  | [d1, d2] => { results := [.lit (.bool true)], args := [d1, d2] }
  | _ => none }
def flexWithinRow : OpenClaim := { program := "ytabdcfobdehhiaa", sum := "452cde4e2777c3eac268476800364dd0a9699088bd40ca0cf798e5a94711a938", func := "valance/valancelaw08.FlexWithin", spec := "flexWithin", unfollowed := true, recurses := true, apart := false }
def FlexWithinSaid : Prop := flexWithinRow.holds Try.pinned (OpenSpec.ofChange flexWithinSpec)

/-- ITS FALSE NEIGHBOUR: 'it returns false'. Refute it at one input. -/
def flexWithinWrong : ChangeSpec := { name := "flexWithin", fn := fun _ => fun
  | [d1, d2] => { results := [.lit (.bool false)], args := [d1, d2] }
  | _ => none }
def FlexWithinWrongFalsely : Prop := flexWithinRow.holds Try.pinned (OpenSpec.ofChange flexWithinWrong)

/-- 'valancelaw08.FlexFills': WHATEVER THE INPUT: true; the input reads as it did. -/
def flexFillsSpec : ChangeSpec := { name := "flexFills", fn := fun _ => fun
  | [d1, d2, d3, d4] => { results := [.lit (.bool true)], args := [d1, d2, d3, d4] }
  | _ => none }
def flexFillsRow : OpenClaim := { program := "ytabdcfobdehhiaa", sum := "452cde4e2777c3eac268476800364dd0a9699088bd40ca0cf798e5a94711a938", func := "valance/valancelaw08.FlexFills", spec := "flexFills", unfollowed := true, recurses := true, apart := false }
def FlexFillsSaid : Prop := flexFillsRow.holds Try.pinned (OpenSpec.ofChange flexFillsSpec)

/-- ITS FALSE NEIGHBOUR: 'it returns false'. Refute it at one input. -/
def flexFillsWrong : ChangeSpec := { name := "flexFills", fn := fun _ => fun
  | [d1, d2, d3, d4] => { results := [.lit (.bool false)], args := [d1, d2, d3, d4] }
  | _ => none }
def FlexFillsWrongFalsely : Prop := flexFillsRow.holds Try.pinned (OpenSpec.ofChange flexFillsWrong)

/-- 'valancelaw08.FlexAlike': WHATEVER THE INPUT: true; the input reads as it did. -/
def flexAlikeSpec : ChangeSpec := { name := "flexAlike", fn := fun _ => fun
  | [d1, d2, d3] => { results := [.lit (.bool true)], args := [d1, d2, d3] }
  | _ => none }
def flexAlikeRow : OpenClaim := { program := "ytabdcfobdehhiaa", sum := "452cde4e2777c3eac268476800364dd0a9699088bd40ca0cf798e5a94711a938", func := "valance/valancelaw08.FlexAlike", spec := "flexAlike", unfollowed := true, recurses := true, apart := false }
def FlexAlikeSaid : Prop := flexAlikeRow.holds Try.pinned (OpenSpec.ofChange flexAlikeSpec)

/-- ITS FALSE NEIGHBOUR: 'it returns false'. Refute it at one input. -/
def flexAlikeWrong : ChangeSpec := { name := "flexAlike", fn := fun _ => fun
  | [d1, d2, d3] => { results := [.lit (.bool false)], args := [d1, d2, d3] }
  | _ => none }
def FlexAlikeWrongFalsely : Prop := flexAlikeRow.holds Try.pinned (OpenSpec.ofChange flexAlikeWrong)

/-- 'valancelaw08.FlexStill': WHATEVER THE INPUT: true; the input reads as it did. -/
def flexStillSpec : ChangeSpec := { name := "flexStill", fn := fun _ => fun
  | [d] => { results := [.lit (.bool true)], args := [d] }
  | _ => none }
def flexStillRow : OpenClaim := { program := "ytabdcfobdehhiaa", sum := "452cde4e2777c3eac268476800364dd0a9699088bd40ca0cf798e5a94711a938", func := "valance/valancelaw08.FlexStill", spec := "flexStill", unfollowed := true, recurses := true, apart := false }
def FlexStillSaid : Prop := flexStillRow.holds Try.pinned (OpenSpec.ofChange flexStillSpec)

/-- ITS FALSE NEIGHBOUR: 'it returns false'. Refute it at one input. -/
def flexStillWrong : ChangeSpec := { name := "flexStill", fn := fun _ => fun
  | [d] => { results := [.lit (.bool false)], args := [d] }
  | _ => none }
def FlexStillWrongFalsely : Prop := flexStillRow.holds Try.pinned (OpenSpec.ofChange flexStillWrong)

/-- 'valancelaw08.FlexShareMore': WHATEVER THE INPUT: true; the input reads as it did. -/
def flexShareMoreSpec : ChangeSpec := { name := "flexShareMore", fn := fun _ => fun
  | [d1, d2, d3] => { results := [.lit (.bool true)], args := [d1, d2, d3] }
  | _ => none }
def flexShareMoreRow : OpenClaim := { program := "ytabdcfobdehhiaa", sum := "452cde4e2777c3eac268476800364dd0a9699088bd40ca0cf798e5a94711a938", func := "valance/valancelaw08.FlexShareMore", spec := "flexShareMore", unfollowed := true, recurses := true, apart := false }
def FlexShareMoreSaid : Prop := flexShareMoreRow.holds Try.pinned (OpenSpec.ofChange flexShareMoreSpec)

/-- ITS FALSE NEIGHBOUR: 'it returns false'. Refute it at one input. -/
def flexShareMoreWrong : ChangeSpec := { name := "flexShareMore", fn := fun _ => fun
  | [d1, d2, d3] => { results := [.lit (.bool false)], args := [d1, d2, d3] }
  | _ => none }
def FlexShareMoreWrongFalsely : Prop := flexShareMoreRow.holds Try.pinned (OpenSpec.ofChange flexShareMoreWrong)

/-- 'valancelaw13.RecordPuts': WHATEVER THE INPUT: true; the input reads as it did. -/
def recordPutsSpec : ChangeSpec := { name := "recordPuts", fn := fun _ => fun
  | [d] => { results := [.lit (.bool true)], args := [d] }
  | _ => none }
def recordPutsRow : OpenClaim := { program := "ytabdcfobdehhiaa", sum := "452cde4e2777c3eac268476800364dd0a9699088bd40ca0cf798e5a94711a938", func := "valance/valancelaw13.RecordPuts", spec := "recordPuts", unfollowed := true, recurses := true, apart := false }
def RecordPutsSaid : Prop := recordPutsRow.holds Try.pinned (OpenSpec.ofChange recordPutsSpec)

/-- ITS FALSE NEIGHBOUR: 'it returns false'. Refute it at one input. -/
def recordPutsWrong : ChangeSpec := { name := "recordPuts", fn := fun _ => fun
  | [d] => { results := [.lit (.bool false)], args := [d] }
  | _ => none }
def RecordPutsWrongFalsely : Prop := recordPutsRow.holds Try.pinned (OpenSpec.ofChange recordPutsWrong)

/-- 'valancelaw13.RecordGets': WHATEVER THE INPUT: true; the input reads as it did. -/
def recordGetsSpec : ChangeSpec := { name := "recordGets", fn := fun _ => fun
  | [d] => { results := [.lit (.bool true)], args := [d] }
  | _ => none }
def recordGetsRow : OpenClaim := { program := "ytabdcfobdehhiaa", sum := "452cde4e2777c3eac268476800364dd0a9699088bd40ca0cf798e5a94711a938", func := "valance/valancelaw13.RecordGets", spec := "recordGets", unfollowed := true, recurses := true, apart := false }
def RecordGetsSaid : Prop := recordGetsRow.holds Try.pinned (OpenSpec.ofChange recordGetsSpec)

/-- ITS FALSE NEIGHBOUR: 'it returns false'. Refute it at one input. -/
def recordGetsWrong : ChangeSpec := { name := "recordGets", fn := fun _ => fun
  | [d] => { results := [.lit (.bool false)], args := [d] }
  | _ => none }
def RecordGetsWrongFalsely : Prop := recordGetsRow.holds Try.pinned (OpenSpec.ofChange recordGetsWrong)

/-- 'valancelaw13.RecordBack': WHATEVER THE INPUT: true; the input reads as it did. -/
def recordBackSpec : ChangeSpec := { name := "recordBack", fn := fun _ => fun
  | [d1, d2, d3] => { results := [.lit (.bool true)], args := [d1, d2, d3] }
  | _ => none }
def recordBackRow : OpenClaim := { program := "ytabdcfobdehhiaa", sum := "452cde4e2777c3eac268476800364dd0a9699088bd40ca0cf798e5a94711a938", func := "valance/valancelaw13.RecordBack", spec := "recordBack", unfollowed := true, recurses := true, apart := false }
def RecordBackSaid : Prop := recordBackRow.holds Try.pinned (OpenSpec.ofChange recordBackSpec)

/-- ITS FALSE NEIGHBOUR: 'it returns false'. Refute it at one input. -/
def recordBackWrong : ChangeSpec := { name := "recordBack", fn := fun _ => fun
  | [d1, d2, d3] => { results := [.lit (.bool false)], args := [d1, d2, d3] }
  | _ => none }
def RecordBackWrongFalsely : Prop := recordBackRow.holds Try.pinned (OpenSpec.ofChange recordBackWrong)

/-- 'valancelaw13.RecordOne': WHATEVER THE INPUT: true; the input reads as it did. -/
def recordOneSpec : ChangeSpec := { name := "recordOne", fn := fun _ => fun
  | [d1, d2, d3, d4] => { results := [.lit (.bool true)], args := [d1, d2, d3, d4] }
  | _ => none }
def recordOneRow : OpenClaim := { program := "ytabdcfobdehhiaa", sum := "452cde4e2777c3eac268476800364dd0a9699088bd40ca0cf798e5a94711a938", func := "valance/valancelaw13.RecordOne", spec := "recordOne", unfollowed := true, recurses := true, apart := false }
def RecordOneSaid : Prop := recordOneRow.holds Try.pinned (OpenSpec.ofChange recordOneSpec)

/-- ITS FALSE NEIGHBOUR: 'it returns false'. Refute it at one input. -/
def recordOneWrong : ChangeSpec := { name := "recordOne", fn := fun _ => fun
  | [d1, d2, d3, d4] => { results := [.lit (.bool false)], args := [d1, d2, d3, d4] }
  | _ => none }
def RecordOneWrongFalsely : Prop := recordOneRow.holds Try.pinned (OpenSpec.ofChange recordOneWrong)

/-- 'valancelaw13.RecordLimits': WHATEVER THE INPUT: true; the input reads as it did. -/
def recordLimitsSpec : ChangeSpec := { name := "recordLimits", fn := fun _ => fun
  | [d] => { results := [.lit (.bool true)], args := [d] }
  | _ => none }
def recordLimitsRow : OpenClaim := { program := "ytabdcfobdehhiaa", sum := "452cde4e2777c3eac268476800364dd0a9699088bd40ca0cf798e5a94711a938", func := "valance/valancelaw13.RecordLimits", spec := "recordLimits", unfollowed := true, recurses := true, apart := false }
def RecordLimitsSaid : Prop := recordLimitsRow.holds Try.pinned (OpenSpec.ofChange recordLimitsSpec)

/-- ITS FALSE NEIGHBOUR: 'it returns false'. Refute it at one input. -/
def recordLimitsWrong : ChangeSpec := { name := "recordLimits", fn := fun _ => fun
  | [d] => { results := [.lit (.bool false)], args := [d] }
  | _ => none }
def RecordLimitsWrongFalsely : Prop := recordLimitsRow.holds Try.pinned (OpenSpec.ofChange recordLimitsWrong)

/- THE SECOND FORM. 'bulk': how many values and letters a reading holds, each counted each time it is reached (what is shared counts as often as it is met; a slice's spare places count too). A statement '..UptoSaid' is the law's where the arguments, and the package variables that the reading takes, are together of bulk at most 1048576: NARROWER than '..Said'. Prove '..Said' where nothing that the law and all that it calls make is longer than what came in: it says more and counts as full. Else prove '..UptoSaid'. A law counts once. -/
mutual
def uptoBulk {H : Type} : DataW H → Nat
  | .lit (.string bytes) => bytes.length + 1
  | .lit _ => 1
  | .nil => 1
  | .ptr d => uptoBulk d + 1
  | .slice elems spare => uptoBulkAll elems + uptoBulkAll spare + 1
  | .agg parts => uptoBulkAll parts + 1
  | .iface _ d => uptoBulk d + 1
  | .map entries => uptoBulkEntries entries + 1
  | .held _ => 1
def uptoBulkAll {H : Type} : List (DataW H) → Nat
  | [] => 0
  | d :: r => uptoBulk d + uptoBulkAll r
def uptoBulkEntries {H : Type} : List (Lit × DataW H) → Nat
  | [] => 0
  | x :: r => uptoBulkEntry x + uptoBulkEntries r
def uptoBulkEntry {H : Type} : Lit × DataW H → Nat
  | (.string bytes, d) => bytes.length + uptoBulk d + 1
  | (_, d) => uptoBulk d + 1
 end
def uptoSmall : (H : Type) → List (DataW H) → Bool := fun _ ds => decide (uptoBulkAll ds ≤ 1048576)
def OpenSpec.upto (s : _root_.Go.ChangeSpec) : _root_.Go.OpenSpec := { _root_.Go.OpenSpec.ofChange s with cond := some uptoSmall }

/-- 'valancelaw08.FlexSizes', WHERE WHAT IT READS IS OF BULK AT MOST 1048576: true; the input reads as it did. -/
def flexSizesUptoRow : OpenClaim := { program := "ytabdcfobdehhiaa", sum := "452cde4e2777c3eac268476800364dd0a9699088bd40ca0cf798e5a94711a938", func := "valance/valancelaw08.FlexSizes", spec := "flexSizes", unfollowed := true, recurses := true, apart := false, narrowed := true }
def FlexSizesUptoSaid : Prop := flexSizesUptoRow.holds Try.pinned (OpenSpec.upto flexSizesSpec)

/-- 'valancelaw08.FlexShares', WHERE WHAT IT READS IS OF BULK AT MOST 1048576: true; the input reads as it did. -/
def flexSharesUptoRow : OpenClaim := { program := "ytabdcfobdehhiaa", sum := "452cde4e2777c3eac268476800364dd0a9699088bd40ca0cf798e5a94711a938", func := "valance/valancelaw08.FlexShares", spec := "flexShares", unfollowed := true, recurses := true, apart := false, narrowed := true }
def FlexSharesUptoSaid : Prop := flexSharesUptoRow.holds Try.pinned (OpenSpec.upto flexSharesSpec)

/-- 'valancelaw08.FlexWithin', WHERE WHAT IT READS IS OF BULK AT MOST 1048576: true; the input reads as it did. -/
def flexWithinUptoRow : OpenClaim := { program := "ytabdcfobdehhiaa", sum := "452cde4e2777c3eac268476800364dd0a9699088bd40ca0cf798e5a94711a938", func := "valance/valancelaw08.FlexWithin", spec := "flexWithin", unfollowed := true, recurses := true, apart := false, narrowed := true }
def FlexWithinUptoSaid : Prop := flexWithinUptoRow.holds Try.pinned (OpenSpec.upto flexWithinSpec)

/-- 'valancelaw08.FlexFills', WHERE WHAT IT READS IS OF BULK AT MOST 1048576: true; the input reads as it did. -/
def flexFillsUptoRow : OpenClaim := { program := "ytabdcfobdehhiaa", sum := "452cde4e2777c3eac268476800364dd0a9699088bd40ca0cf798e5a94711a938", func := "valance/valancelaw08.FlexFills", spec := "flexFills", unfollowed := true, recurses := true, apart := false, narrowed := true }
def FlexFillsUptoSaid : Prop := flexFillsUptoRow.holds Try.pinned (OpenSpec.upto flexFillsSpec)

/-- 'valancelaw08.FlexAlike', WHERE WHAT IT READS IS OF BULK AT MOST 1048576: true; the input reads as it did. -/
def flexAlikeUptoRow : OpenClaim := { program := "ytabdcfobdehhiaa", sum := "452cde4e2777c3eac268476800364dd0a9699088bd40ca0cf798e5a94711a938", func := "valance/valancelaw08.FlexAlike", spec := "flexAlike", unfollowed := true, recurses := true, apart := false, narrowed := true }
def FlexAlikeUptoSaid : Prop := flexAlikeUptoRow.holds Try.pinned (OpenSpec.upto flexAlikeSpec)

/-- 'valancelaw08.FlexStill', WHERE WHAT IT READS IS OF BULK AT MOST 1048576: true; the input reads as it did. -/
def flexStillUptoRow : OpenClaim := { program := "ytabdcfobdehhiaa", sum := "452cde4e2777c3eac268476800364dd0a9699088bd40ca0cf798e5a94711a938", func := "valance/valancelaw08.FlexStill", spec := "flexStill", unfollowed := true, recurses := true, apart := false, narrowed := true }
def FlexStillUptoSaid : Prop := flexStillUptoRow.holds Try.pinned (OpenSpec.upto flexStillSpec)

/-- 'valancelaw08.FlexShareMore', WHERE WHAT IT READS IS OF BULK AT MOST 1048576: true; the input reads as it did. -/
def flexShareMoreUptoRow : OpenClaim := { program := "ytabdcfobdehhiaa", sum := "452cde4e2777c3eac268476800364dd0a9699088bd40ca0cf798e5a94711a938", func := "valance/valancelaw08.FlexShareMore", spec := "flexShareMore", unfollowed := true, recurses := true, apart := false, narrowed := true }
def FlexShareMoreUptoSaid : Prop := flexShareMoreUptoRow.holds Try.pinned (OpenSpec.upto flexShareMoreSpec)

/-- 'valancelaw13.RecordPuts', WHERE WHAT IT READS IS OF BULK AT MOST 1048576: true; the input reads as it did. -/
def recordPutsUptoRow : OpenClaim := { program := "ytabdcfobdehhiaa", sum := "452cde4e2777c3eac268476800364dd0a9699088bd40ca0cf798e5a94711a938", func := "valance/valancelaw13.RecordPuts", spec := "recordPuts", unfollowed := true, recurses := true, apart := false, narrowed := true }
def RecordPutsUptoSaid : Prop := recordPutsUptoRow.holds Try.pinned (OpenSpec.upto recordPutsSpec)

/-- 'valancelaw13.RecordGets', WHERE WHAT IT READS IS OF BULK AT MOST 1048576: true; the input reads as it did. -/
def recordGetsUptoRow : OpenClaim := { program := "ytabdcfobdehhiaa", sum := "452cde4e2777c3eac268476800364dd0a9699088bd40ca0cf798e5a94711a938", func := "valance/valancelaw13.RecordGets", spec := "recordGets", unfollowed := true, recurses := true, apart := false, narrowed := true }
def RecordGetsUptoSaid : Prop := recordGetsUptoRow.holds Try.pinned (OpenSpec.upto recordGetsSpec)

/-- 'valancelaw13.RecordBack', WHERE WHAT IT READS IS OF BULK AT MOST 1048576: true; the input reads as it did. -/
def recordBackUptoRow : OpenClaim := { program := "ytabdcfobdehhiaa", sum := "452cde4e2777c3eac268476800364dd0a9699088bd40ca0cf798e5a94711a938", func := "valance/valancelaw13.RecordBack", spec := "recordBack", unfollowed := true, recurses := true, apart := false, narrowed := true }
def RecordBackUptoSaid : Prop := recordBackUptoRow.holds Try.pinned (OpenSpec.upto recordBackSpec)

/-- 'valancelaw13.RecordOne', WHERE WHAT IT READS IS OF BULK AT MOST 1048576: true; the input reads as it did. -/
def recordOneUptoRow : OpenClaim := { program := "ytabdcfobdehhiaa", sum := "452cde4e2777c3eac268476800364dd0a9699088bd40ca0cf798e5a94711a938", func := "valance/valancelaw13.RecordOne", spec := "recordOne", unfollowed := true, recurses := true, apart := false, narrowed := true }
def RecordOneUptoSaid : Prop := recordOneUptoRow.holds Try.pinned (OpenSpec.upto recordOneSpec)

/-- 'valancelaw13.RecordLimits', WHERE WHAT IT READS IS OF BULK AT MOST 1048576: true; the input reads as it did. -/
def recordLimitsUptoRow : OpenClaim := { program := "ytabdcfobdehhiaa", sum := "452cde4e2777c3eac268476800364dd0a9699088bd40ca0cf798e5a94711a938", func := "valance/valancelaw13.RecordLimits", spec := "recordLimits", unfollowed := true, recurses := true, apart := false, narrowed := true }
def RecordLimitsUptoSaid : Prop := recordLimitsUptoRow.holds Try.pinned (OpenSpec.upto recordLimitsSpec)

end Rows
end Go.Proofs.Ytabdcfobdehhiaa
