/-
  No cell of these rows narrows 'for every input' (looked for: loops, veiled, ifaces, maps, wideKeys, modest, calm, conditions, laid).
  DERIVED. THE GIVEN ROWS OF THIS SEAT. 6 by the template 'for every input the law returns true; each argument reads behind the call as it read before'; 0 by the template 'total and deterministic' (their statements: YteajjdidebfcjaaGreatTotals.lean).
  GIVEN WITH THE SEED: the statements are not yours to turn. If you find one false, say at which input.
  Laid BY PROGRAM, IN A SANDBOX (cutbox-rows.mjs): the forced cells as the released guide's own fill.sh prints them over the translation c7881be8b7270b8d… (all of the seat's roots in one cut). By AI agents, Wed Nov 11 2026. No macro, syntax, notation, axiom, sorry.
-/
import Derived.Test.YteajjdidebfcjaaGreatChecked
import GoSem.Claim
import GoSem.ClaimJoined
import GoSem.ClaimMapViews
import Derived.JoinedTies
import Derived.KernelRfl
namespace Go.Proofs.YteajjdidebfcjaaGreat
/- THE CELL 'sum', in the pinned program and in every row, IS THE sha256 OF THE DUMP (.gsa) THAT YteajjdidebfcjaaGreatProg.lean LOADS. Nothing in Lean hashes anything: it is a label: what it is worth is what the hold of that sum in a sandbox is worth. -/
noncomputable def Tryz.pinned : Pinned := { name := "yteajjdidebfcjaagreat", sum := "c7881be8b7270b8d7983245dd6e9b55028eedc9d456391248a7f1b6264105e86", checked := Tryz.checked }
namespace Rows
def none {H : Type} : Left H := { results := [], args := [] }

/-- 'signalbrokerlaw30.BoundCrowd': WHATEVER THE INPUT: true; the input reads as it did. -/
def boundCrowdSpec : ChangeSpec := { name := "boundCrowd", fn := fun _ => fun
  | [d1, d2] => { results := [.lit (.bool true)], args := [d1, d2] }
  | _ => none }
def boundCrowdRow : OpenClaim := { program := "yteajjdidebfcjaagreat", sum := "c7881be8b7270b8d7983245dd6e9b55028eedc9d456391248a7f1b6264105e86", func := "signalbroker/signalbrokerlaw30.BoundCrowd", spec := "boundCrowd", inPlace := ["slices.overlaps[signalbroker/api.Request]"], unfollowed := true, recurses := true, plainKeys := false, apart := false }
def BoundCrowdSaid : Prop := boundCrowdRow.holds Tryz.pinned (OpenSpec.ofChange boundCrowdSpec)

/-- ITS FALSE NEIGHBOUR: 'it returns false'. Refute it at one input. -/
def boundCrowdWrong : ChangeSpec := { name := "boundCrowd", fn := fun _ => fun
  | [d1, d2] => { results := [.lit (.bool false)], args := [d1, d2] }
  | _ => none }
def BoundCrowdWrongFalsely : Prop := boundCrowdRow.holds Tryz.pinned (OpenSpec.ofChange boundCrowdWrong)

/-- 'signalbrokerlaw29.ViewIsolates': WHATEVER THE INPUT: true; the input reads as it did. -/
def viewIsolatesSpec : ChangeSpec := { name := "viewIsolates", fn := fun _ => fun
  | [d] => { results := [.lit (.bool true)], args := [d] }
  | _ => none }
def viewIsolatesRow : OpenClaim := { program := "yteajjdidebfcjaagreat", sum := "c7881be8b7270b8d7983245dd6e9b55028eedc9d456391248a7f1b6264105e86", func := "signalbroker/signalbrokerlaw29.ViewIsolates", spec := "viewIsolates", inPlace := ["slices.overlaps[signalbroker/api.Request]"], unfollowed := true, recurses := true, plainKeys := false, apart := false }
def ViewIsolatesSaid : Prop := viewIsolatesRow.holds Tryz.pinned (OpenSpec.ofChange viewIsolatesSpec)

/-- ITS FALSE NEIGHBOUR: 'it returns false'. Refute it at one input. -/
def viewIsolatesWrong : ChangeSpec := { name := "viewIsolates", fn := fun _ => fun
  | [d] => { results := [.lit (.bool false)], args := [d] }
  | _ => none }
def ViewIsolatesWrongFalsely : Prop := viewIsolatesRow.holds Tryz.pinned (OpenSpec.ofChange viewIsolatesWrong)

/-- 'signalbrokerlaw29.ViewMasks': WHATEVER THE INPUT: true; the input reads as it did. -/
def viewMasksSpec : ChangeSpec := { name := "viewMasks", fn := fun _ => fun
  | [d1, d2, d3, d4] => { results := [.lit (.bool true)], args := [d1, d2, d3, d4] }
  | _ => none }
def viewMasksRow : OpenClaim := { program := "yteajjdidebfcjaagreat", sum := "c7881be8b7270b8d7983245dd6e9b55028eedc9d456391248a7f1b6264105e86", func := "signalbroker/signalbrokerlaw29.ViewMasks", spec := "viewMasks", inPlace := ["slices.overlaps[signalbroker/api.Request]"], unfollowed := true, recurses := true, plainKeys := false, apart := false }
def ViewMasksSaid : Prop := viewMasksRow.holds Tryz.pinned (OpenSpec.ofChange viewMasksSpec)

/-- ITS FALSE NEIGHBOUR: 'it returns false'. Refute it at one input. -/
def viewMasksWrong : ChangeSpec := { name := "viewMasks", fn := fun _ => fun
  | [d1, d2, d3, d4] => { results := [.lit (.bool false)], args := [d1, d2, d3, d4] }
  | _ => none }
def ViewMasksWrongFalsely : Prop := viewMasksRow.holds Tryz.pinned (OpenSpec.ofChange viewMasksWrong)

/-- 'signalbrokerlaw29.ViewHides': WHATEVER THE INPUT: true; the input reads as it did. -/
def viewHidesSpec : ChangeSpec := { name := "viewHides", fn := fun _ => fun
  | [d1, d2] => { results := [.lit (.bool true)], args := [d1, d2] }
  | _ => none }
def viewHidesRow : OpenClaim := { program := "yteajjdidebfcjaagreat", sum := "c7881be8b7270b8d7983245dd6e9b55028eedc9d456391248a7f1b6264105e86", func := "signalbroker/signalbrokerlaw29.ViewHides", spec := "viewHides", inPlace := ["slices.overlaps[signalbroker/api.Request]"], unfollowed := true, recurses := true, plainKeys := false, apart := false }
def ViewHidesSaid : Prop := viewHidesRow.holds Tryz.pinned (OpenSpec.ofChange viewHidesSpec)

/-- ITS FALSE NEIGHBOUR: 'it returns false'. Refute it at one input. -/
def viewHidesWrong : ChangeSpec := { name := "viewHides", fn := fun _ => fun
  | [d1, d2] => { results := [.lit (.bool false)], args := [d1, d2] }
  | _ => none }
def ViewHidesWrongFalsely : Prop := viewHidesRow.holds Tryz.pinned (OpenSpec.ofChange viewHidesWrong)

/-- 'signalbrokertop.TopNoStarvation': WHATEVER THE INPUT: true; the input reads as it did. -/
def topNoStarvationSpec : ChangeSpec := { name := "topNoStarvation", fn := fun _ => fun
  | [d1, d2, d3] => { results := [.lit (.bool true)], args := [d1, d2, d3] }
  | _ => none }
def topNoStarvationRow : OpenClaim := { program := "yteajjdidebfcjaagreat", sum := "c7881be8b7270b8d7983245dd6e9b55028eedc9d456391248a7f1b6264105e86", func := "signalbroker/signalbrokertop.TopNoStarvation", spec := "topNoStarvation", inPlace := ["slices.overlaps[signalbroker/api.Request]"], unfollowed := true, recurses := true, plainKeys := false, apart := false }
def TopNoStarvationSaid : Prop := topNoStarvationRow.holds Tryz.pinned (OpenSpec.ofChange topNoStarvationSpec)

/-- ITS FALSE NEIGHBOUR: 'it returns false'. Refute it at one input. -/
def topNoStarvationWrong : ChangeSpec := { name := "topNoStarvation", fn := fun _ => fun
  | [d1, d2, d3] => { results := [.lit (.bool false)], args := [d1, d2, d3] }
  | _ => none }
def TopNoStarvationWrongFalsely : Prop := topNoStarvationRow.holds Tryz.pinned (OpenSpec.ofChange topNoStarvationWrong)

/-- 'signalbrokertop.TopConfidential': WHATEVER THE INPUT: true; the input reads as it did. -/
def topConfidentialSpec : ChangeSpec := { name := "topConfidential", fn := fun _ => fun
  | [d1, d2, d3] => { results := [.lit (.bool true)], args := [d1, d2, d3] }
  | _ => none }
def topConfidentialRow : OpenClaim := { program := "yteajjdidebfcjaagreat", sum := "c7881be8b7270b8d7983245dd6e9b55028eedc9d456391248a7f1b6264105e86", func := "signalbroker/signalbrokertop.TopConfidential", spec := "topConfidential", inPlace := ["slices.overlaps[signalbroker/api.Request]"], unfollowed := true, recurses := true, plainKeys := false, apart := false }
def TopConfidentialSaid : Prop := topConfidentialRow.holds Tryz.pinned (OpenSpec.ofChange topConfidentialSpec)

/-- ITS FALSE NEIGHBOUR: 'it returns false'. Refute it at one input. -/
def topConfidentialWrong : ChangeSpec := { name := "topConfidential", fn := fun _ => fun
  | [d1, d2, d3] => { results := [.lit (.bool false)], args := [d1, d2, d3] }
  | _ => none }
def TopConfidentialWrongFalsely : Prop := topConfidentialRow.holds Tryz.pinned (OpenSpec.ofChange topConfidentialWrong)

/- THE SECOND FORM. 'bulk': how many values and letters a reading holds, each counted each time it is reached (what is shared counts as often as it is met; a slice's spare places count too). A statement '..UptoSaid' is the law's where the arguments, and the package variables that the reading takes, are together of bulk at most 1048576: NARROWER than '..Said'. Prove '..Said' where nothing that the law and all that it calls make is longer than what came in: it says more and counts as full. Else prove '..UptoSaid'. A law counts once. -/
mutual
def uptoBulk {H : Type} : DataW H → Nat
  | .lit (.string bytes) => bytes.length + 1
  | .lit _ => 1
  | .nil => 1
  | .ptr d => uptoBulk d + 1
  | .slice elems spare => uptoBulkAll elems + uptoBulkAll spare + 1
  | .agg parts => uptoBulkAll parts + 1
  | .iface _ d => uptoBulk d + 1
  | .map entries => uptoBulkEntries entries + 1
  | .held _ => 1
def uptoBulkAll {H : Type} : List (DataW H) → Nat
  | [] => 0
  | d :: r => uptoBulk d + uptoBulkAll r
def uptoBulkEntries {H : Type} : List (Lit × DataW H) → Nat
  | [] => 0
  | x :: r => uptoBulkEntry x + uptoBulkEntries r
def uptoBulkEntry {H : Type} : Lit × DataW H → Nat
  | (.string bytes, d) => bytes.length + uptoBulk d + 1
  | (_, d) => uptoBulk d + 1
 end
def uptoSmall : (H : Type) → List (DataW H) → Bool := fun _ ds => decide (uptoBulkAll ds ≤ 1048576)
def OpenSpec.upto (s : _root_.Go.ChangeSpec) : _root_.Go.OpenSpec := { _root_.Go.OpenSpec.ofChange s with cond := some uptoSmall }

/-- 'signalbrokerlaw30.BoundCrowd', WHERE WHAT IT READS IS OF BULK AT MOST 1048576: true; the input reads as it did. -/
def boundCrowdUptoRow : OpenClaim := { program := "yteajjdidebfcjaagreat", sum := "c7881be8b7270b8d7983245dd6e9b55028eedc9d456391248a7f1b6264105e86", func := "signalbroker/signalbrokerlaw30.BoundCrowd", spec := "boundCrowd", inPlace := ["slices.overlaps[signalbroker/api.Request]"], unfollowed := true, recurses := true, plainKeys := false, apart := false, narrowed := true }
def BoundCrowdUptoSaid : Prop := boundCrowdUptoRow.holds Tryz.pinned (OpenSpec.upto boundCrowdSpec)

/-- 'signalbrokerlaw29.ViewIsolates', WHERE WHAT IT READS IS OF BULK AT MOST 1048576: true; the input reads as it did. -/
def viewIsolatesUptoRow : OpenClaim := { program := "yteajjdidebfcjaagreat", sum := "c7881be8b7270b8d7983245dd6e9b55028eedc9d456391248a7f1b6264105e86", func := "signalbroker/signalbrokerlaw29.ViewIsolates", spec := "viewIsolates", inPlace := ["slices.overlaps[signalbroker/api.Request]"], unfollowed := true, recurses := true, plainKeys := false, apart := false, narrowed := true }
def ViewIsolatesUptoSaid : Prop := viewIsolatesUptoRow.holds Tryz.pinned (OpenSpec.upto viewIsolatesSpec)

/-- 'signalbrokerlaw29.ViewMasks', WHERE WHAT IT READS IS OF BULK AT MOST 1048576: true; the input reads as it did. -/
def viewMasksUptoRow : OpenClaim := { program := "yteajjdidebfcjaagreat", sum := "c7881be8b7270b8d7983245dd6e9b55028eedc9d456391248a7f1b6264105e86", func := "signalbroker/signalbrokerlaw29.ViewMasks", spec := "viewMasks", inPlace := ["slices.overlaps[signalbroker/api.Request]"], unfollowed := true, recurses := true, plainKeys := false, apart := false, narrowed := true }
def ViewMasksUptoSaid : Prop := viewMasksUptoRow.holds Tryz.pinned (OpenSpec.upto viewMasksSpec)

/-- 'signalbrokerlaw29.ViewHides', WHERE WHAT IT READS IS OF BULK AT MOST 1048576: true; the input reads as it did. -/
def viewHidesUptoRow : OpenClaim := { program := "yteajjdidebfcjaagreat", sum := "c7881be8b7270b8d7983245dd6e9b55028eedc9d456391248a7f1b6264105e86", func := "signalbroker/signalbrokerlaw29.ViewHides", spec := "viewHides", inPlace := ["slices.overlaps[signalbroker/api.Request]"], unfollowed := true, recurses := true, plainKeys := false, apart := false, narrowed := true }
def ViewHidesUptoSaid : Prop := viewHidesUptoRow.holds Tryz.pinned (OpenSpec.upto viewHidesSpec)

/-- 'signalbrokertop.TopNoStarvation', WHERE WHAT IT READS IS OF BULK AT MOST 1048576: true; the input reads as it did. -/
def topNoStarvationUptoRow : OpenClaim := { program := "yteajjdidebfcjaagreat", sum := "c7881be8b7270b8d7983245dd6e9b55028eedc9d456391248a7f1b6264105e86", func := "signalbroker/signalbrokertop.TopNoStarvation", spec := "topNoStarvation", inPlace := ["slices.overlaps[signalbroker/api.Request]"], unfollowed := true, recurses := true, plainKeys := false, apart := false, narrowed := true }
def TopNoStarvationUptoSaid : Prop := topNoStarvationUptoRow.holds Tryz.pinned (OpenSpec.upto topNoStarvationSpec)

/-- 'signalbrokertop.TopConfidential', WHERE WHAT IT READS IS OF BULK AT MOST 1048576: true; the input reads as it did. -/
def topConfidentialUptoRow : OpenClaim := { program := "yteajjdidebfcjaagreat", sum := "c7881be8b7270b8d7983245dd6e9b55028eedc9d456391248a7f1b6264105e86", func := "signalbroker/signalbrokertop.TopConfidential", spec := "topConfidential", inPlace := ["slices.overlaps[signalbroker/api.Request]"], unfollowed := true, recurses := true, plainKeys := false, apart := false, narrowed := true }
def TopConfidentialUptoSaid : Prop := topConfidentialUptoRow.holds Tryz.pinned (OpenSpec.upto topConfidentialSpec)

end Rows
end Go.Proofs.YteajjdidebfcjaaGreat
