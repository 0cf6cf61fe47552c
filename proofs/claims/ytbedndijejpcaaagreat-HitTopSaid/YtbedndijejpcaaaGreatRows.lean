/-
  No cell of these rows narrows 'for every input' (looked for: loops, veiled, ifaces, maps, wideKeys, modest, calm, conditions, laid).
  DERIVED. THE GIVEN ROWS OF THIS SEAT. 13 by the template 'for every input the law returns true; each argument reads behind the call as it read before'; 0 by the template 'total and deterministic' (their statements: YtbedndijejpcaaaGreatTotals.lean).
  GIVEN WITH THE SEED: the statements are not yours to turn. If you find one false, say at which input.
  Laid BY PROGRAM, IN A SANDBOX (cutbox-rows.mjs): the forced cells as the released guide's own fill.sh prints them over the translation 9b7d1dffea31fd22… (all of the seat's roots in one cut). By AI agents, Wed Nov 11 2026. No macro, syntax, notation, axiom, sorry.
-/
import Derived.Test.YtbedndijejpcaaaGreatChecked
import GoSem.Claim
import GoSem.ClaimJoined
import GoSem.ClaimMapViews
import Derived.JoinedTies
import Derived.KernelRfl
namespace Go.Proofs.YtbedndijejpcaaaGreat
/- THE CELL 'sum', in the pinned program and in every row, IS THE sha256 OF THE DUMP (.gsa) THAT YtbedndijejpcaaaGreatProg.lean LOADS. Nothing in Lean hashes anything: it is a label: what it is worth is what the hold of that sum in a sandbox is worth. -/
noncomputable def Tryz.pinned : Pinned := { name := "ytbedndijejpcaaagreat", sum := "9b7d1dffea31fd220c710dfe8ca241bfa2a08fb042002475ab7bd0d20ea77138", checked := Tryz.checked }
namespace Rows
def none {H : Type} : Left H := { results := [], args := [] }

/-- 'valancelaw15.FlowMoved': WHATEVER THE INPUT: true; the input reads as it did. -/
def flowMovedSpec : ChangeSpec := { name := "flowMoved", fn := fun _ => fun
  | [d1, d2, d3, d4, d5, d6] => { results := [.lit (.bool true)], args := [d1, d2, d3, d4, d5, d6] }
  | _ => none }
def flowMovedRow : OpenClaim := { program := "ytbedndijejpcaaagreat", sum := "9b7d1dffea31fd220c710dfe8ca241bfa2a08fb042002475ab7bd0d20ea77138", func := "valance/valancelaw15.FlowMoved", spec := "flowMoved", inPlace := ["slices.overlaps[int]"], unfollowed := true, recurses := true, plainKeys := false, apart := false }
def FlowMovedSaid : Prop := flowMovedRow.holds Tryz.pinned (OpenSpec.ofChange flowMovedSpec)

/-- ITS FALSE NEIGHBOUR: 'it returns false'. Refute it at one input. -/
def flowMovedWrong : ChangeSpec := { name := "flowMoved", fn := fun _ => fun
  | [d1, d2, d3, d4, d5, d6] => { results := [.lit (.bool false)], args := [d1, d2, d3, d4, d5, d6] }
  | _ => none }
def FlowMovedWrongFalsely : Prop := flowMovedRow.holds Tryz.pinned (OpenSpec.ofChange flowMovedWrong)

/-- 'valancelaw17.PlaceScrolls': WHATEVER THE INPUT: true; the input reads as it did. -/
def placeScrollsSpec : ChangeSpec := { name := "placeScrolls", fn := fun _ => fun
  | [d1, d2, d3, d4, d5, d6] => { results := [.lit (.bool true)], args := [d1, d2, d3, d4, d5, d6] }
  | _ => none }
def placeScrollsRow : OpenClaim := { program := "ytbedndijejpcaaagreat", sum := "9b7d1dffea31fd220c710dfe8ca241bfa2a08fb042002475ab7bd0d20ea77138", func := "valance/valancelaw17.PlaceScrolls", spec := "placeScrolls", inPlace := ["slices.overlaps[int]", "math.Float64bits", "math.Float64frombits", "math.archTrunc"], unfollowed := true, recurses := true, plainKeys := false, apart := false }
def PlaceScrollsSaid : Prop := placeScrollsRow.holds Tryz.pinned (OpenSpec.ofChange placeScrollsSpec)

/-- ITS FALSE NEIGHBOUR: 'it returns false'. Refute it at one input. -/
def placeScrollsWrong : ChangeSpec := { name := "placeScrolls", fn := fun _ => fun
  | [d1, d2, d3, d4, d5, d6] => { results := [.lit (.bool false)], args := [d1, d2, d3, d4, d5, d6] }
  | _ => none }
def PlaceScrollsWrongFalsely : Prop := placeScrollsRow.holds Tryz.pinned (OpenSpec.ofChange placeScrollsWrong)

/-- 'valancelaw17.PlaceRange': WHATEVER THE INPUT: true; the input reads as it did. -/
def placeRangeSpec : ChangeSpec := { name := "placeRange", fn := fun _ => fun
  | [d1, d2, d3, d4] => { results := [.lit (.bool true)], args := [d1, d2, d3, d4] }
  | _ => none }
def placeRangeRow : OpenClaim := { program := "ytbedndijejpcaaagreat", sum := "9b7d1dffea31fd220c710dfe8ca241bfa2a08fb042002475ab7bd0d20ea77138", func := "valance/valancelaw17.PlaceRange", spec := "placeRange", inPlace := ["slices.overlaps[int]", "math.Float64bits", "math.Float64frombits", "math.archTrunc"], unfollowed := true, recurses := true, plainKeys := false, apart := false }
def PlaceRangeSaid : Prop := placeRangeRow.holds Tryz.pinned (OpenSpec.ofChange placeRangeSpec)

/-- ITS FALSE NEIGHBOUR: 'it returns false'. Refute it at one input. -/
def placeRangeWrong : ChangeSpec := { name := "placeRange", fn := fun _ => fun
  | [d1, d2, d3, d4] => { results := [.lit (.bool false)], args := [d1, d2, d3, d4] }
  | _ => none }
def PlaceRangeWrongFalsely : Prop := placeRangeRow.holds Tryz.pinned (OpenSpec.ofChange placeRangeWrong)

/-- 'valancelaw17.PlaceBeyond': WHATEVER THE INPUT: true; the input reads as it did. -/
def placeBeyondSpec : ChangeSpec := { name := "placeBeyond", fn := fun _ => fun
  | [d1, d2, d3, d4, d5, d6] => { results := [.lit (.bool true)], args := [d1, d2, d3, d4, d5, d6] }
  | _ => none }
def placeBeyondRow : OpenClaim := { program := "ytbedndijejpcaaagreat", sum := "9b7d1dffea31fd220c710dfe8ca241bfa2a08fb042002475ab7bd0d20ea77138", func := "valance/valancelaw17.PlaceBeyond", spec := "placeBeyond", inPlace := ["slices.overlaps[int]", "math.Float64bits", "math.Float64frombits", "math.archTrunc"], unfollowed := true, recurses := true, plainKeys := false, apart := false }
def PlaceBeyondSaid : Prop := placeBeyondRow.holds Tryz.pinned (OpenSpec.ofChange placeBeyondSpec)

/-- ITS FALSE NEIGHBOUR: 'it returns false'. Refute it at one input. -/
def placeBeyondWrong : ChangeSpec := { name := "placeBeyond", fn := fun _ => fun
  | [d1, d2, d3, d4, d5, d6] => { results := [.lit (.bool false)], args := [d1, d2, d3, d4, d5, d6] }
  | _ => none }
def PlaceBeyondWrongFalsely : Prop := placeBeyondRow.holds Tryz.pinned (OpenSpec.ofChange placeBeyondWrong)

/-- 'valancelaw17.PlaceStill': WHATEVER THE INPUT: true; the input reads as it did. -/
def placeStillSpec : ChangeSpec := { name := "placeStill", fn := fun _ => fun
  | [d1, d2, d3] => { results := [.lit (.bool true)], args := [d1, d2, d3] }
  | _ => none }
def placeStillRow : OpenClaim := { program := "ytbedndijejpcaaagreat", sum := "9b7d1dffea31fd220c710dfe8ca241bfa2a08fb042002475ab7bd0d20ea77138", func := "valance/valancelaw17.PlaceStill", spec := "placeStill", inPlace := ["slices.overlaps[int]", "math.Float64bits", "math.Float64frombits", "math.archTrunc"], unfollowed := true, recurses := true, plainKeys := false, apart := false }
def PlaceStillSaid : Prop := placeStillRow.holds Tryz.pinned (OpenSpec.ofChange placeStillSpec)

/-- ITS FALSE NEIGHBOUR: 'it returns false'. Refute it at one input. -/
def placeStillWrong : ChangeSpec := { name := "placeStill", fn := fun _ => fun
  | [d1, d2, d3] => { results := [.lit (.bool false)], args := [d1, d2, d3] }
  | _ => none }
def PlaceStillWrongFalsely : Prop := placeStillRow.holds Tryz.pinned (OpenSpec.ofChange placeStillWrong)

/-- 'valancelaw17.PlaceSticks': WHATEVER THE INPUT: true; the input reads as it did. -/
def placeSticksSpec : ChangeSpec := { name := "placeSticks", fn := fun _ => fun
  | [d1, d2, d3, d4] => { results := [.lit (.bool true)], args := [d1, d2, d3, d4] }
  | _ => none }
def placeSticksRow : OpenClaim := { program := "ytbedndijejpcaaagreat", sum := "9b7d1dffea31fd220c710dfe8ca241bfa2a08fb042002475ab7bd0d20ea77138", func := "valance/valancelaw17.PlaceSticks", spec := "placeSticks", inPlace := ["slices.overlaps[int]", "math.Float64bits", "math.Float64frombits", "math.archTrunc"], unfollowed := true, recurses := true, plainKeys := false, apart := false }
def PlaceSticksSaid : Prop := placeSticksRow.holds Tryz.pinned (OpenSpec.ofChange placeSticksSpec)

/-- ITS FALSE NEIGHBOUR: 'it returns false'. Refute it at one input. -/
def placeSticksWrong : ChangeSpec := { name := "placeSticks", fn := fun _ => fun
  | [d1, d2, d3, d4] => { results := [.lit (.bool false)], args := [d1, d2, d3, d4] }
  | _ => none }
def PlaceSticksWrongFalsely : Prop := placeSticksRow.holds Tryz.pinned (OpenSpec.ofChange placeSticksWrong)

/-- 'valancelaw17.PlaceSeen': WHATEVER THE INPUT: true; the input reads as it did. -/
def placeSeenSpec : ChangeSpec := { name := "placeSeen", fn := fun _ => fun
  | [d1, d2, d3, d4] => { results := [.lit (.bool true)], args := [d1, d2, d3, d4] }
  | _ => none }
def placeSeenRow : OpenClaim := { program := "ytbedndijejpcaaagreat", sum := "9b7d1dffea31fd220c710dfe8ca241bfa2a08fb042002475ab7bd0d20ea77138", func := "valance/valancelaw17.PlaceSeen", spec := "placeSeen", inPlace := ["slices.overlaps[int]", "math.Float64bits", "math.Float64frombits", "math.archTrunc"], unfollowed := true, recurses := true, plainKeys := false, apart := false }
def PlaceSeenSaid : Prop := placeSeenRow.holds Tryz.pinned (OpenSpec.ofChange placeSeenSpec)

/-- ITS FALSE NEIGHBOUR: 'it returns false'. Refute it at one input. -/
def placeSeenWrong : ChangeSpec := { name := "placeSeen", fn := fun _ => fun
  | [d1, d2, d3, d4] => { results := [.lit (.bool false)], args := [d1, d2, d3, d4] }
  | _ => none }
def PlaceSeenWrongFalsely : Prop := placeSeenRow.holds Tryz.pinned (OpenSpec.ofChange placeSeenWrong)

/-- 'valancelaw17.PlaceReach': WHATEVER THE INPUT: true; the input reads as it did. -/
def placeReachSpec : ChangeSpec := { name := "placeReach", fn := fun _ => fun
  | [d1, d2, d3] => { results := [.lit (.bool true)], args := [d1, d2, d3] }
  | _ => none }
def placeReachRow : OpenClaim := { program := "ytbedndijejpcaaagreat", sum := "9b7d1dffea31fd220c710dfe8ca241bfa2a08fb042002475ab7bd0d20ea77138", func := "valance/valancelaw17.PlaceReach", spec := "placeReach", inPlace := ["slices.overlaps[int]", "math.Float64bits", "math.Float64frombits", "math.archTrunc"], unfollowed := true, recurses := true, plainKeys := false, apart := false }
def PlaceReachSaid : Prop := placeReachRow.holds Tryz.pinned (OpenSpec.ofChange placeReachSpec)

/-- ITS FALSE NEIGHBOUR: 'it returns false'. Refute it at one input. -/
def placeReachWrong : ChangeSpec := { name := "placeReach", fn := fun _ => fun
  | [d1, d2, d3] => { results := [.lit (.bool false)], args := [d1, d2, d3] }
  | _ => none }
def PlaceReachWrongFalsely : Prop := placeReachRow.holds Tryz.pinned (OpenSpec.ofChange placeReachWrong)

/-- 'valancelaw18.HitTop': WHATEVER THE INPUT: true; the input reads as it did. -/
def hitTopSpec : ChangeSpec := { name := "hitTop", fn := fun _ => fun
  | [d1, d2, d3, d4, d5, d6] => { results := [.lit (.bool true)], args := [d1, d2, d3, d4, d5, d6] }
  | _ => none }
def hitTopRow : OpenClaim := { program := "ytbedndijejpcaaagreat", sum := "9b7d1dffea31fd220c710dfe8ca241bfa2a08fb042002475ab7bd0d20ea77138", func := "valance/valancelaw18.HitTop", spec := "hitTop", inPlace := ["slices.overlaps[int]", "math.Float64bits", "math.Float64frombits", "math.archTrunc"], unfollowed := true, recurses := true, plainKeys := false, apart := false }
def HitTopSaid : Prop := hitTopRow.holds Tryz.pinned (OpenSpec.ofChange hitTopSpec)

/-- ITS FALSE NEIGHBOUR: 'it returns false'. Refute it at one input. -/
def hitTopWrong : ChangeSpec := { name := "hitTop", fn := fun _ => fun
  | [d1, d2, d3, d4, d5, d6] => { results := [.lit (.bool false)], args := [d1, d2, d3, d4, d5, d6] }
  | _ => none }
def HitTopWrongFalsely : Prop := hitTopRow.holds Tryz.pinned (OpenSpec.ofChange hitTopWrong)

/-- 'valancelaw18.HitSeen': WHATEVER THE INPUT: true; the input reads as it did. -/
def hitSeenSpec : ChangeSpec := { name := "hitSeen", fn := fun _ => fun
  | [d1, d2, d3, d4, d5, d6] => { results := [.lit (.bool true)], args := [d1, d2, d3, d4, d5, d6] }
  | _ => none }
def hitSeenRow : OpenClaim := { program := "ytbedndijejpcaaagreat", sum := "9b7d1dffea31fd220c710dfe8ca241bfa2a08fb042002475ab7bd0d20ea77138", func := "valance/valancelaw18.HitSeen", spec := "hitSeen", inPlace := ["slices.overlaps[int]", "math.Float64bits", "math.Float64frombits", "math.archTrunc"], unfollowed := true, recurses := true, plainKeys := false, apart := false }
def HitSeenSaid : Prop := hitSeenRow.holds Tryz.pinned (OpenSpec.ofChange hitSeenSpec)

/-- ITS FALSE NEIGHBOUR: 'it returns false'. Refute it at one input. -/
def hitSeenWrong : ChangeSpec := { name := "hitSeen", fn := fun _ => fun
  | [d1, d2, d3, d4, d5, d6] => { results := [.lit (.bool false)], args := [d1, d2, d3, d4, d5, d6] }
  | _ => none }
def HitSeenWrongFalsely : Prop := hitSeenRow.holds Tryz.pinned (OpenSpec.ofChange hitSeenWrong)

/-- 'valancelaw18.HitNone': WHATEVER THE INPUT: true; the input reads as it did. -/
def hitNoneSpec : ChangeSpec := { name := "hitNone", fn := fun _ => fun
  | [d1, d2, d3, d4, d5] => { results := [.lit (.bool true)], args := [d1, d2, d3, d4, d5] }
  | _ => none }
def hitNoneRow : OpenClaim := { program := "ytbedndijejpcaaagreat", sum := "9b7d1dffea31fd220c710dfe8ca241bfa2a08fb042002475ab7bd0d20ea77138", func := "valance/valancelaw18.HitNone", spec := "hitNone", inPlace := ["slices.overlaps[int]", "math.Float64bits", "math.Float64frombits", "math.archTrunc"], unfollowed := true, recurses := true, plainKeys := false, apart := false }
def HitNoneSaid : Prop := hitNoneRow.holds Tryz.pinned (OpenSpec.ofChange hitNoneSpec)

/-- ITS FALSE NEIGHBOUR: 'it returns false'. Refute it at one input. -/
def hitNoneWrong : ChangeSpec := { name := "hitNone", fn := fun _ => fun
  | [d1, d2, d3, d4, d5] => { results := [.lit (.bool false)], args := [d1, d2, d3, d4, d5] }
  | _ => none }
def HitNoneWrongFalsely : Prop := hitNoneRow.holds Tryz.pinned (OpenSpec.ofChange hitNoneWrong)

/-- 'valancelaw18.HitLayers': WHATEVER THE INPUT: true; the input reads as it did. -/
def hitLayersSpec : ChangeSpec := { name := "hitLayers", fn := fun _ => fun
  | [d1, d2, d3, d4, d5] => { results := [.lit (.bool true)], args := [d1, d2, d3, d4, d5] }
  | _ => none }
def hitLayersRow : OpenClaim := { program := "ytbedndijejpcaaagreat", sum := "9b7d1dffea31fd220c710dfe8ca241bfa2a08fb042002475ab7bd0d20ea77138", func := "valance/valancelaw18.HitLayers", spec := "hitLayers", inPlace := ["slices.overlaps[int]", "math.Float64bits", "math.Float64frombits", "math.archTrunc"], unfollowed := true, recurses := true, plainKeys := false, apart := false }
def HitLayersSaid : Prop := hitLayersRow.holds Tryz.pinned (OpenSpec.ofChange hitLayersSpec)

/-- ITS FALSE NEIGHBOUR: 'it returns false'. Refute it at one input. -/
def hitLayersWrong : ChangeSpec := { name := "hitLayers", fn := fun _ => fun
  | [d1, d2, d3, d4, d5] => { results := [.lit (.bool false)], args := [d1, d2, d3, d4, d5] }
  | _ => none }
def HitLayersWrongFalsely : Prop := hitLayersRow.holds Tryz.pinned (OpenSpec.ofChange hitLayersWrong)

/-- 'valancelaw18.HitSame': WHATEVER THE INPUT: true; the input reads as it did. -/
def hitSameSpec : ChangeSpec := { name := "hitSame", fn := fun _ => fun
  | [d1, d2, d3, d4, d5, d6, d7] => { results := [.lit (.bool true)], args := [d1, d2, d3, d4, d5, d6, d7] }
  | _ => none }
def hitSameRow : OpenClaim := { program := "ytbedndijejpcaaagreat", sum := "9b7d1dffea31fd220c710dfe8ca241bfa2a08fb042002475ab7bd0d20ea77138", func := "valance/valancelaw18.HitSame", spec := "hitSame", inPlace := ["slices.overlaps[int]", "math.Float64bits", "math.Float64frombits", "math.archTrunc"], unfollowed := true, recurses := true, plainKeys := false, apart := false }
def HitSameSaid : Prop := hitSameRow.holds Tryz.pinned (OpenSpec.ofChange hitSameSpec)

/-- ITS FALSE NEIGHBOUR: 'it returns false'. Refute it at one input. -/
def hitSameWrong : ChangeSpec := { name := "hitSame", fn := fun _ => fun
  | [d1, d2, d3, d4, d5, d6, d7] => { results := [.lit (.bool false)], args := [d1, d2, d3, d4, d5, d6, d7] }
  | _ => none }
def HitSameWrongFalsely : Prop := hitSameRow.holds Tryz.pinned (OpenSpec.ofChange hitSameWrong)

/- THE SECOND FORM. 'bulk': how many values and letters a reading holds, each counted each time it is reached (what is shared counts as often as it is met; a slice's spare places count too). A statement '..UptoSaid' is the law's where the arguments, and the package variables that the reading takes, are together of bulk at most 1048576: NARROWER than '..Said'. Prove '..Said' where nothing that the law and all that it calls make is longer than what came in: it says more and counts as full. Else prove '..UptoSaid'. A law counts once. -/
mutual
def uptoBulk {H : Type} : DataW H → Nat
  | .lit (.string bytes) => bytes.length + 1
  | .lit _ => 1
  | .nil => 1
  | .ptr d => uptoBulk d + 1
  | .slice elems spare => uptoBulkAll elems + uptoBulkAll spare + 1
  | .agg parts => uptoBulkAll parts + 1
  | .iface _ d => uptoBulk d + 1
  | .map entries => uptoBulkEntries entries + 1
  | .held _ => 1
def uptoBulkAll {H : Type} : List (DataW H) → Nat
  | [] => 0
  | d :: r => uptoBulk d + uptoBulkAll r
def uptoBulkEntries {H : Type} : List (Lit × DataW H) → Nat
  | [] => 0
  | x :: r => uptoBulkEntry x + uptoBulkEntries r
def uptoBulkEntry {H : Type} : Lit × DataW H → Nat
  | (.string bytes, d) => bytes.length + uptoBulk d + 1
  | (_, d) => uptoBulk d + 1
 end
def uptoSmall : (H : Type) → List (DataW H) → Bool := fun _ ds => decide (uptoBulkAll ds ≤ 1048576)
def OpenSpec.upto (s : _root_.Go.ChangeSpec) : _root_.Go.OpenSpec := { _root_.Go.OpenSpec.ofChange s with cond := some uptoSmall }

/-- 'valancelaw15.FlowMoved', WHERE WHAT IT READS IS OF BULK AT MOST 1048576: true; the input reads as it did. -/
def flowMovedUptoRow : OpenClaim := { program := "ytbedndijejpcaaagreat", sum := "9b7d1dffea31fd220c710dfe8ca241bfa2a08fb042002475ab7bd0d20ea77138", func := "valance/valancelaw15.FlowMoved", spec := "flowMoved", inPlace := ["slices.overlaps[int]"], unfollowed := true, recurses := true, plainKeys := false, apart := false, narrowed := true }
def FlowMovedUptoSaid : Prop := flowMovedUptoRow.holds Tryz.pinned (OpenSpec.upto flowMovedSpec)

/-- 'valancelaw17.PlaceScrolls', WHERE WHAT IT READS IS OF BULK AT MOST 1048576: true; the input reads as it did. -/
def placeScrollsUptoRow : OpenClaim := { program := "ytbedndijejpcaaagreat", sum := "9b7d1dffea31fd220c710dfe8ca241bfa2a08fb042002475ab7bd0d20ea77138", func := "valance/valancelaw17.PlaceScrolls", spec := "placeScrolls", inPlace := ["slices.overlaps[int]", "math.Float64bits", "math.Float64frombits", "math.archTrunc"], unfollowed := true, recurses := true, plainKeys := false, apart := false, narrowed := true }
def PlaceScrollsUptoSaid : Prop := placeScrollsUptoRow.holds Tryz.pinned (OpenSpec.upto placeScrollsSpec)

/-- 'valancelaw17.PlaceRange', WHERE WHAT IT READS IS OF BULK AT MOST 1048576: true; the input reads as it did. -/
def placeRangeUptoRow : OpenClaim := { program := "ytbedndijejpcaaagreat", sum := "9b7d1dffea31fd220c710dfe8ca241bfa2a08fb042002475ab7bd0d20ea77138", func := "valance/valancelaw17.PlaceRange", spec := "placeRange", inPlace := ["slices.overlaps[int]", "math.Float64bits", "math.Float64frombits", "math.archTrunc"], unfollowed := true, recurses := true, plainKeys := false, apart := false, narrowed := true }
def PlaceRangeUptoSaid : Prop := placeRangeUptoRow.holds Tryz.pinned (OpenSpec.upto placeRangeSpec)

/-- 'valancelaw17.PlaceBeyond', WHERE WHAT IT READS IS OF BULK AT MOST 1048576: true; the input reads as it did. -/
def placeBeyondUptoRow : OpenClaim := { program := "ytbedndijejpcaaagreat", sum := "9b7d1dffea31fd220c710dfe8ca241bfa2a08fb042002475ab7bd0d20ea77138", func := "valance/valancelaw17.PlaceBeyond", spec := "placeBeyond", inPlace := ["slices.overlaps[int]", "math.Float64bits", "math.Float64frombits", "math.archTrunc"], unfollowed := true, recurses := true, plainKeys := false, apart := false, narrowed := true }
def PlaceBeyondUptoSaid : Prop := placeBeyondUptoRow.holds Tryz.pinned (OpenSpec.upto placeBeyondSpec)

/-- 'valancelaw17.PlaceStill', WHERE WHAT IT READS IS OF BULK AT MOST 1048576: true; the input reads as it did. -/
def placeStillUptoRow : OpenClaim := { program := "ytbedndijejpcaaagreat", sum := "9b7d1dffea31fd220c710dfe8ca241bfa2a08fb042002475ab7bd0d20ea77138", func := "valance/valancelaw17.PlaceStill", spec := "placeStill", inPlace := ["slices.overlaps[int]", "math.Float64bits", "math.Float64frombits", "math.archTrunc"], unfollowed := true, recurses := true, plainKeys := false, apart := false, narrowed := true }
def PlaceStillUptoSaid : Prop := placeStillUptoRow.holds Tryz.pinned (OpenSpec.upto placeStillSpec)

/-- 'valancelaw17.PlaceSticks', WHERE WHAT IT READS IS OF BULK AT MOST 1048576: true; the input reads as it did. -/
def placeSticksUptoRow : OpenClaim := { program := "ytbedndijejpcaaagreat", sum := "9b7d1dffea31fd220c710dfe8ca241bfa2a08fb042002475ab7bd0d20ea77138", func := "valance/valancelaw17.PlaceSticks", spec := "placeSticks", inPlace := ["slices.overlaps[int]", "math.Float64bits", "math.Float64frombits", "math.archTrunc"], unfollowed := true, recurses := true, plainKeys := false, apart := false, narrowed := true }
def PlaceSticksUptoSaid : Prop := placeSticksUptoRow.holds Tryz.pinned (OpenSpec.upto placeSticksSpec)

/-- 'valancelaw17.PlaceSeen', WHERE WHAT IT READS IS OF BULK AT MOST 1048576: true; the input reads as it did. -/
def placeSeenUptoRow : OpenClaim := { program := "ytbedndijejpcaaagreat", sum := "9b7d1dffea31fd220c710dfe8ca241bfa2a08fb042002475ab7bd0d20ea77138", func := "valance/valancelaw17.PlaceSeen", spec := "placeSeen", inPlace := ["slices.overlaps[int]", "math.Float64bits", "math.Float64frombits", "math.archTrunc"], unfollowed := true, recurses := true, plainKeys := false, apart := false, narrowed := true }
def PlaceSeenUptoSaid : Prop := placeSeenUptoRow.holds Tryz.pinned (OpenSpec.upto placeSeenSpec)

/-- 'valancelaw17.PlaceReach', WHERE WHAT IT READS IS OF BULK AT MOST 1048576: true; the input reads as it did. -/
def placeReachUptoRow : OpenClaim := { program := "ytbedndijejpcaaagreat", sum := "9b7d1dffea31fd220c710dfe8ca241bfa2a08fb042002475ab7bd0d20ea77138", func := "valance/valancelaw17.PlaceReach", spec := "placeReach", inPlace := ["slices.overlaps[int]", "math.Float64bits", "math.Float64frombits", "math.archTrunc"], unfollowed := true, recurses := true, plainKeys := false, apart := false, narrowed := true }
def PlaceReachUptoSaid : Prop := placeReachUptoRow.holds Tryz.pinned (OpenSpec.upto placeReachSpec)

/-- 'valancelaw18.HitTop', WHERE WHAT IT READS IS OF BULK AT MOST 1048576: true; the input reads as it did. -/
def hitTopUptoRow : OpenClaim := { program := "ytbedndijejpcaaagreat", sum := "9b7d1dffea31fd220c710dfe8ca241bfa2a08fb042002475ab7bd0d20ea77138", func := "valance/valancelaw18.HitTop", spec := "hitTop", inPlace := ["slices.overlaps[int]", "math.Float64bits", "math.Float64frombits", "math.archTrunc"], unfollowed := true, recurses := true, plainKeys := false, apart := false, narrowed := true }
def HitTopUptoSaid : Prop := hitTopUptoRow.holds Tryz.pinned (OpenSpec.upto hitTopSpec)

/-- 'valancelaw18.HitSeen', WHERE WHAT IT READS IS OF BULK AT MOST 1048576: true; the input reads as it did. -/
def hitSeenUptoRow : OpenClaim := { program := "ytbedndijejpcaaagreat", sum := "9b7d1dffea31fd220c710dfe8ca241bfa2a08fb042002475ab7bd0d20ea77138", func := "valance/valancelaw18.HitSeen", spec := "hitSeen", inPlace := ["slices.overlaps[int]", "math.Float64bits", "math.Float64frombits", "math.archTrunc"], unfollowed := true, recurses := true, plainKeys := false, apart := false, narrowed := true }
def HitSeenUptoSaid : Prop := hitSeenUptoRow.holds Tryz.pinned (OpenSpec.upto hitSeenSpec)

/-- 'valancelaw18.HitNone', WHERE WHAT IT READS IS OF BULK AT MOST 1048576: true; the input reads as it did. -/
def hitNoneUptoRow : OpenClaim := { program := "ytbedndijejpcaaagreat", sum := "9b7d1dffea31fd220c710dfe8ca241bfa2a08fb042002475ab7bd0d20ea77138", func := "valance/valancelaw18.HitNone", spec := "hitNone", inPlace := ["slices.overlaps[int]", "math.Float64bits", "math.Float64frombits", "math.archTrunc"], unfollowed := true, recurses := true, plainKeys := false, apart := false, narrowed := true }
def HitNoneUptoSaid : Prop := hitNoneUptoRow.holds Tryz.pinned (OpenSpec.upto hitNoneSpec)

/-- 'valancelaw18.HitLayers', WHERE WHAT IT READS IS OF BULK AT MOST 1048576: true; the input reads as it did. -/
def hitLayersUptoRow : OpenClaim := { program := "ytbedndijejpcaaagreat", sum := "9b7d1dffea31fd220c710dfe8ca241bfa2a08fb042002475ab7bd0d20ea77138", func := "valance/valancelaw18.HitLayers", spec := "hitLayers", inPlace := ["slices.overlaps[int]", "math.Float64bits", "math.Float64frombits", "math.archTrunc"], unfollowed := true, recurses := true, plainKeys := false, apart := false, narrowed := true }
def HitLayersUptoSaid : Prop := hitLayersUptoRow.holds Tryz.pinned (OpenSpec.upto hitLayersSpec)

/-- 'valancelaw18.HitSame', WHERE WHAT IT READS IS OF BULK AT MOST 1048576: true; the input reads as it did. -/
def hitSameUptoRow : OpenClaim := { program := "ytbedndijejpcaaagreat", sum := "9b7d1dffea31fd220c710dfe8ca241bfa2a08fb042002475ab7bd0d20ea77138", func := "valance/valancelaw18.HitSame", spec := "hitSame", inPlace := ["slices.overlaps[int]", "math.Float64bits", "math.Float64frombits", "math.archTrunc"], unfollowed := true, recurses := true, plainKeys := false, apart := false, narrowed := true }
def HitSameUptoSaid : Prop := hitSameUptoRow.holds Tryz.pinned (OpenSpec.upto hitSameSpec)

end Rows
end Go.Proofs.YtbedndijejpcaaaGreat
