/-
  No cell of these rows narrows 'for every input' (looked for: loops, veiled, ifaces, maps, wideKeys, modest, calm, conditions, laid).
  DERIVED. THE GIVEN ROWS OF THIS SEAT. 10 by the template 'for every input the law returns true; each argument reads behind the call as it read before'; 0 by the template 'total and deterministic' (their statements: YtkliodbbcblobaaTotals.lean).
  GIVEN WITH THE SEED: the statements are not yours to turn. If you find one false, say at which input.
  Laid BY PROGRAM, IN A SANDBOX (cutbox-rows.mjs): the forced cells as the released guide's own fill.sh prints them over the translation dd3f92d0a00ddfc4… (all of the seat's roots in one cut). By AI agents, Wed Nov 11 2026. No macro, syntax, notation, axiom, sorry.
-/
import Derived.Test.YtkliodbbcblobaaChecked
import GoSem.Claim
import GoSem.ClaimJoined
import GoSem.ClaimMapViews
import Derived.JoinedTies
import Derived.KernelRfl
namespace Go.Proofs.Ytkliodbbcblobaa
/- THE CELL 'sum', in the pinned program and in every row, IS THE sha256 OF THE DUMP (.gsa) THAT YtkliodbbcblobaaProg.lean LOADS. Nothing in Lean hashes anything: it is a label: what it is worth is what the hold of that sum in a sandbox is worth. -/
noncomputable def Try.pinned : Pinned := { name := "ytkliodbbcblobaa", sum := "dd3f92d0a00ddfc491a5c90c68262ba2e6756d199d3503293cd5f40db7f9cb6a", checked := Try.checked }
namespace Rows
def none {H : Type} : Left H := { results := [], args := [] }

/-- 'signalbrokerlaw11.JunctionSteps': WHATEVER THE INPUT: true; the input reads as it did. -/
def junctionStepsSpec : ChangeSpec := { name := "junctionSteps", fn := fun _ => fun
  | [d1, d2, d3, d4] => { results := [.lit (.bool true)], args := [d1, d2, d3, d4] }
  | _ => none }
def junctionStepsRow : OpenClaim := { program := "ytkliodbbcblobaa", sum := "dd3f92d0a00ddfc491a5c90c68262ba2e6756d199d3503293cd5f40db7f9cb6a", func := "signalbroker/signalbrokerlaw11.JunctionSteps", spec := "junctionSteps", unfollowed := true, recurses := true, apart := false }
def JunctionStepsSaid : Prop := junctionStepsRow.holds Try.pinned (OpenSpec.ofChange junctionStepsSpec)

/-- ITS FALSE NEIGHBOUR: 'it returns false'. Refute it at one input. -/
def junctionStepsWrong : ChangeSpec := { name := "junctionSteps", fn := fun _ => fun
  | [d1, d2, d3, d4] => { results := [.lit (.bool false)], args := [d1, d2, d3, d4] }
  | _ => none }
def JunctionStepsWrongFalsely : Prop := junctionStepsRow.holds Try.pinned (OpenSpec.ofChange junctionStepsWrong)

/-- 'signalbrokerlaw11.JunctionSafe': WHATEVER THE INPUT: true; the input reads as it did. -/
def junctionSafeSpec : ChangeSpec := { name := "junctionSafe", fn := fun _ => fun
  | [d1, d2] => { results := [.lit (.bool true)], args := [d1, d2] }
  | _ => none }
def junctionSafeRow : OpenClaim := { program := "ytkliodbbcblobaa", sum := "dd3f92d0a00ddfc491a5c90c68262ba2e6756d199d3503293cd5f40db7f9cb6a", func := "signalbroker/signalbrokerlaw11.JunctionSafe", spec := "junctionSafe", unfollowed := true, recurses := true, apart := false }
def JunctionSafeSaid : Prop := junctionSafeRow.holds Try.pinned (OpenSpec.ofChange junctionSafeSpec)

/-- ITS FALSE NEIGHBOUR: 'it returns false'. Refute it at one input. -/
def junctionSafeWrong : ChangeSpec := { name := "junctionSafe", fn := fun _ => fun
  | [d1, d2] => { results := [.lit (.bool false)], args := [d1, d2] }
  | _ => none }
def JunctionSafeWrongFalsely : Prop := junctionSafeRow.holds Try.pinned (OpenSpec.ofChange junctionSafeWrong)

/-- 'signalbrokerlaw11.JunctionCalm': WHATEVER THE INPUT: true; the input reads as it did. -/
def junctionCalmSpec : ChangeSpec := { name := "junctionCalm", fn := fun _ => fun
  | [d1, d2] => { results := [.lit (.bool true)], args := [d1, d2] }
  | _ => none }
def junctionCalmRow : OpenClaim := { program := "ytkliodbbcblobaa", sum := "dd3f92d0a00ddfc491a5c90c68262ba2e6756d199d3503293cd5f40db7f9cb6a", func := "signalbroker/signalbrokerlaw11.JunctionCalm", spec := "junctionCalm", unfollowed := true, recurses := true, apart := false }
def JunctionCalmSaid : Prop := junctionCalmRow.holds Try.pinned (OpenSpec.ofChange junctionCalmSpec)

/-- ITS FALSE NEIGHBOUR: 'it returns false'. Refute it at one input. -/
def junctionCalmWrong : ChangeSpec := { name := "junctionCalm", fn := fun _ => fun
  | [d1, d2] => { results := [.lit (.bool false)], args := [d1, d2] }
  | _ => none }
def JunctionCalmWrongFalsely : Prop := junctionCalmRow.holds Try.pinned (OpenSpec.ofChange junctionCalmWrong)

/-- 'signalbrokerlaw11.JunctionLatches': WHATEVER THE INPUT: true; the input reads as it did. -/
def junctionLatchesSpec : ChangeSpec := { name := "junctionLatches", fn := fun _ => fun
  | [d1, d2, d3, d4] => { results := [.lit (.bool true)], args := [d1, d2, d3, d4] }
  | _ => none }
def junctionLatchesRow : OpenClaim := { program := "ytkliodbbcblobaa", sum := "dd3f92d0a00ddfc491a5c90c68262ba2e6756d199d3503293cd5f40db7f9cb6a", func := "signalbroker/signalbrokerlaw11.JunctionLatches", spec := "junctionLatches", unfollowed := true, recurses := true, apart := false }
def JunctionLatchesSaid : Prop := junctionLatchesRow.holds Try.pinned (OpenSpec.ofChange junctionLatchesSpec)

/-- ITS FALSE NEIGHBOUR: 'it returns false'. Refute it at one input. -/
def junctionLatchesWrong : ChangeSpec := { name := "junctionLatches", fn := fun _ => fun
  | [d1, d2, d3, d4] => { results := [.lit (.bool false)], args := [d1, d2, d3, d4] }
  | _ => none }
def JunctionLatchesWrongFalsely : Prop := junctionLatchesRow.holds Try.pinned (OpenSpec.ofChange junctionLatchesWrong)

/-- 'signalbrokerlaw12.WorstCounts': WHATEVER THE INPUT: true; the input reads as it did. -/
def worstCountsSpec : ChangeSpec := { name := "worstCounts", fn := fun _ => fun
  | [d1, d2, d3] => { results := [.lit (.bool true)], args := [d1, d2, d3] }
  | _ => none }
def worstCountsRow : OpenClaim := { program := "ytkliodbbcblobaa", sum := "dd3f92d0a00ddfc491a5c90c68262ba2e6756d199d3503293cd5f40db7f9cb6a", func := "signalbroker/signalbrokerlaw12.WorstCounts", spec := "worstCounts", unfollowed := true, recurses := true, apart := false }
def WorstCountsSaid : Prop := worstCountsRow.holds Try.pinned (OpenSpec.ofChange worstCountsSpec)

/-- ITS FALSE NEIGHBOUR: 'it returns false'. Refute it at one input. -/
def worstCountsWrong : ChangeSpec := { name := "worstCounts", fn := fun _ => fun
  | [d1, d2, d3] => { results := [.lit (.bool false)], args := [d1, d2, d3] }
  | _ => none }
def WorstCountsWrongFalsely : Prop := worstCountsRow.holds Try.pinned (OpenSpec.ofChange worstCountsWrong)

/-- 'signalbrokerlaw12.WorstReaches': WHATEVER THE INPUT: true; the input reads as it did. -/
def worstReachesSpec : ChangeSpec := { name := "worstReaches", fn := fun _ => fun
  | [d1, d2, d3] => { results := [.lit (.bool true)], args := [d1, d2, d3] }
  | _ => none }
def worstReachesRow : OpenClaim := { program := "ytkliodbbcblobaa", sum := "dd3f92d0a00ddfc491a5c90c68262ba2e6756d199d3503293cd5f40db7f9cb6a", func := "signalbroker/signalbrokerlaw12.WorstReaches", spec := "worstReaches", unfollowed := true, recurses := true, apart := false }
def WorstReachesSaid : Prop := worstReachesRow.holds Try.pinned (OpenSpec.ofChange worstReachesSpec)

/-- ITS FALSE NEIGHBOUR: 'it returns false'. Refute it at one input. -/
def worstReachesWrong : ChangeSpec := { name := "worstReaches", fn := fun _ => fun
  | [d1, d2, d3] => { results := [.lit (.bool false)], args := [d1, d2, d3] }
  | _ => none }
def WorstReachesWrongFalsely : Prop := worstReachesRow.holds Try.pinned (OpenSpec.ofChange worstReachesWrong)

/-- 'signalbrokerlaw12.WorstCloser': WHATEVER THE INPUT: true; the input reads as it did. -/
def worstCloserSpec : ChangeSpec := { name := "worstCloser", fn := fun _ => fun
  | [d1, d2, d3] => { results := [.lit (.bool true)], args := [d1, d2, d3] }
  | _ => none }
def worstCloserRow : OpenClaim := { program := "ytkliodbbcblobaa", sum := "dd3f92d0a00ddfc491a5c90c68262ba2e6756d199d3503293cd5f40db7f9cb6a", func := "signalbroker/signalbrokerlaw12.WorstCloser", spec := "worstCloser", unfollowed := true, recurses := true, apart := false }
def WorstCloserSaid : Prop := worstCloserRow.holds Try.pinned (OpenSpec.ofChange worstCloserSpec)

/-- ITS FALSE NEIGHBOUR: 'it returns false'. Refute it at one input. -/
def worstCloserWrong : ChangeSpec := { name := "worstCloser", fn := fun _ => fun
  | [d1, d2, d3] => { results := [.lit (.bool false)], args := [d1, d2, d3] }
  | _ => none }
def WorstCloserWrongFalsely : Prop := worstCloserRow.holds Try.pinned (OpenSpec.ofChange worstCloserWrong)

/-- 'signalbrokerlaw22.DriveReaches': WHATEVER THE INPUT: true; the input reads as it did. -/
def driveReachesSpec : ChangeSpec := { name := "driveReaches", fn := fun _ => fun
  | [d] => { results := [.lit (.bool true)], args := [d] }
  | _ => none }
def driveReachesRow : OpenClaim := { program := "ytkliodbbcblobaa", sum := "dd3f92d0a00ddfc491a5c90c68262ba2e6756d199d3503293cd5f40db7f9cb6a", func := "signalbroker/signalbrokerlaw22.DriveReaches", spec := "driveReaches", unfollowed := true, recurses := true, apart := false }
def DriveReachesSaid : Prop := driveReachesRow.holds Try.pinned (OpenSpec.ofChange driveReachesSpec)

/-- ITS FALSE NEIGHBOUR: 'it returns false'. Refute it at one input. -/
def driveReachesWrong : ChangeSpec := { name := "driveReaches", fn := fun _ => fun
  | [d] => { results := [.lit (.bool false)], args := [d] }
  | _ => none }
def DriveReachesWrongFalsely : Prop := driveReachesRow.holds Try.pinned (OpenSpec.ofChange driveReachesWrong)

/-- 'signalbrokerlaw22.DriveSafe': WHATEVER THE INPUT: true; the input reads as it did. -/
def driveSafeSpec : ChangeSpec := { name := "driveSafe", fn := fun _ => fun
  | [d] => { results := [.lit (.bool true)], args := [d] }
  | _ => none }
def driveSafeRow : OpenClaim := { program := "ytkliodbbcblobaa", sum := "dd3f92d0a00ddfc491a5c90c68262ba2e6756d199d3503293cd5f40db7f9cb6a", func := "signalbroker/signalbrokerlaw22.DriveSafe", spec := "driveSafe", unfollowed := true, recurses := true, apart := false }
def DriveSafeSaid : Prop := driveSafeRow.holds Try.pinned (OpenSpec.ofChange driveSafeSpec)

/-- ITS FALSE NEIGHBOUR: 'it returns false'. Refute it at one input. -/
def driveSafeWrong : ChangeSpec := { name := "driveSafe", fn := fun _ => fun
  | [d] => { results := [.lit (.bool false)], args := [d] }
  | _ => none }
def DriveSafeWrongFalsely : Prop := driveSafeRow.holds Try.pinned (OpenSpec.ofChange driveSafeWrong)

/-- 'signalbrokerlaw22.DriveServes': WHATEVER THE INPUT: true; the input reads as it did. -/
def driveServesSpec : ChangeSpec := { name := "driveServes", fn := fun _ => fun
  | [d1, d2] => { results := [.lit (.bool true)], args := [d1, d2] }
  | _ => none }
def driveServesRow : OpenClaim := { program := "ytkliodbbcblobaa", sum := "dd3f92d0a00ddfc491a5c90c68262ba2e6756d199d3503293cd5f40db7f9cb6a", func := "signalbroker/signalbrokerlaw22.DriveServes", spec := "driveServes", unfollowed := true, recurses := true, apart := false }
def DriveServesSaid : Prop := driveServesRow.holds Try.pinned (OpenSpec.ofChange driveServesSpec)

/-- ITS FALSE NEIGHBOUR: 'it returns false'. Refute it at one input. -/
def driveServesWrong : ChangeSpec := { name := "driveServes", fn := fun _ => fun
  | [d1, d2] => { results := [.lit (.bool false)], args := [d1, d2] }
  | _ => none }
def DriveServesWrongFalsely : Prop := driveServesRow.holds Try.pinned (OpenSpec.ofChange driveServesWrong)

/- THE SECOND FORM. 'bulk': how many values and letters a reading holds, each counted each time it is reached (what is shared counts as often as it is met; a slice's spare places count too). A statement '..UptoSaid' is the law's where the arguments, and the package variables that the reading takes, are together of bulk at most 1048576: NARROWER than '..Said'. Prove '..Said' where nothing that the law and all that it calls make is longer than what came in: it says more and counts as full. Else prove '..UptoSaid'. A law counts once. -/
mutual
def uptoBulk {H : Type} : DataW H → Nat
  | .lit (.string bytes) => bytes.length + 1
  | .lit _ => 1
  | .nil => 1
  | .ptr d => uptoBulk d + 1
  | .slice elems spare => uptoBulkAll elems + uptoBulkAll spare + 1
  | .agg parts => uptoBulkAll parts + 1
  | .iface _ d => uptoBulk d + 1
  | .map entries => uptoBulkEntries entries + 1
  | .held _ => 1
def uptoBulkAll {H : Type} : List (DataW H) → Nat
  | [] => 0
  | d :: r => uptoBulk d + uptoBulkAll r
def uptoBulkEntries {H : Type} : List (Lit × DataW H) → Nat
  | [] => 0
  | x :: r => uptoBulkEntry x + uptoBulkEntries r
def uptoBulkEntry {H : Type} : Lit × DataW H → Nat
  | (.string bytes, d) => bytes.length + uptoBulk d + 1
  | (_, d) => uptoBulk d + 1
 end
def uptoSmall : (H : Type) → List (DataW H) → Bool := fun _ ds => decide (uptoBulkAll ds ≤ 1048576)
def OpenSpec.upto (s : _root_.Go.ChangeSpec) : _root_.Go.OpenSpec := { _root_.Go.OpenSpec.ofChange s with cond := some uptoSmall }

/-- 'signalbrokerlaw11.JunctionSteps', WHERE WHAT IT READS IS OF BULK AT MOST 1048576: true; the input reads as it did. -/
def junctionStepsUptoRow : OpenClaim := { program := "ytkliodbbcblobaa", sum := "dd3f92d0a00ddfc491a5c90c68262ba2e6756d199d3503293cd5f40db7f9cb6a", func := "signalbroker/signalbrokerlaw11.JunctionSteps", spec := "junctionSteps", unfollowed := true, recurses := true, apart := false, narrowed := true }
def JunctionStepsUptoSaid : Prop := junctionStepsUptoRow.holds Try.pinned (OpenSpec.upto junctionStepsSpec)

/-- 'signalbrokerlaw11.JunctionSafe', WHERE WHAT IT READS IS OF BULK AT MOST 1048576: true; the input reads as it did. -/
def junctionSafeUptoRow : OpenClaim := { program := "ytkliodbbcblobaa", sum := "dd3f92d0a00ddfc491a5c90c68262ba2e6756d199d3503293cd5f40db7f9cb6a", func := "signalbroker/signalbrokerlaw11.JunctionSafe", spec := "junctionSafe", unfollowed := true, recurses := true, apart := false, narrowed := true }
def JunctionSafeUptoSaid : Prop := junctionSafeUptoRow.holds Try.pinned (OpenSpec.upto junctionSafeSpec)

/-- 'signalbrokerlaw11.JunctionCalm', WHERE WHAT IT READS IS OF BULK AT MOST 1048576: true; the input reads as it did. -/
def junctionCalmUptoRow : OpenClaim := { program := "ytkliodbbcblobaa", sum := "dd3f92d0a00ddfc491a5c90c68262ba2e6756d199d3503293cd5f40db7f9cb6a", func := "signalbroker/signalbrokerlaw11.JunctionCalm", spec := "junctionCalm", unfollowed := true, recurses := true, apart := false, narrowed := true }
def JunctionCalmUptoSaid : Prop := junctionCalmUptoRow.holds Try.pinned (OpenSpec.upto junctionCalmSpec)

/-- 'signalbrokerlaw11.JunctionLatches', WHERE WHAT IT READS IS OF BULK AT MOST 1048576: true; the input reads as it did. -/
def junctionLatchesUptoRow : OpenClaim := { program := "ytkliodbbcblobaa", sum := "dd3f92d0a00ddfc491a5c90c68262ba2e6756d199d3503293cd5f40db7f9cb6a", func := "signalbroker/signalbrokerlaw11.JunctionLatches", spec := "junctionLatches", unfollowed := true, recurses := true, apart := false, narrowed := true }
def JunctionLatchesUptoSaid : Prop := junctionLatchesUptoRow.holds Try.pinned (OpenSpec.upto junctionLatchesSpec)

/-- 'signalbrokerlaw12.WorstCounts', WHERE WHAT IT READS IS OF BULK AT MOST 1048576: true; the input reads as it did. -/
def worstCountsUptoRow : OpenClaim := { program := "ytkliodbbcblobaa", sum := "dd3f92d0a00ddfc491a5c90c68262ba2e6756d199d3503293cd5f40db7f9cb6a", func := "signalbroker/signalbrokerlaw12.WorstCounts", spec := "worstCounts", unfollowed := true, recurses := true, apart := false, narrowed := true }
def WorstCountsUptoSaid : Prop := worstCountsUptoRow.holds Try.pinned (OpenSpec.upto worstCountsSpec)

/-- 'signalbrokerlaw12.WorstReaches', WHERE WHAT IT READS IS OF BULK AT MOST 1048576: true; the input reads as it did. -/
def worstReachesUptoRow : OpenClaim := { program := "ytkliodbbcblobaa", sum := "dd3f92d0a00ddfc491a5c90c68262ba2e6756d199d3503293cd5f40db7f9cb6a", func := "signalbroker/signalbrokerlaw12.WorstReaches", spec := "worstReaches", unfollowed := true, recurses := true, apart := false, narrowed := true }
def WorstReachesUptoSaid : Prop := worstReachesUptoRow.holds Try.pinned (OpenSpec.upto worstReachesSpec)

/-- 'signalbrokerlaw12.WorstCloser', WHERE WHAT IT READS IS OF BULK AT MOST 1048576: true; the input reads as it did. -/
def worstCloserUptoRow : OpenClaim := { program := "ytkliodbbcblobaa", sum := "dd3f92d0a00ddfc491a5c90c68262ba2e6756d199d3503293cd5f40db7f9cb6a", func := "signalbroker/signalbrokerlaw12.WorstCloser", spec := "worstCloser", unfollowed := true, recurses := true, apart := false, narrowed := true }
def WorstCloserUptoSaid : Prop := worstCloserUptoRow.holds Try.pinned (OpenSpec.upto worstCloserSpec)

/-- 'signalbrokerlaw22.DriveReaches', WHERE WHAT IT READS IS OF BULK AT MOST 1048576: true; the input reads as it did. -/
def driveReachesUptoRow : OpenClaim := { program := "ytkliodbbcblobaa", sum := "dd3f92d0a00ddfc491a5c90c68262ba2e6756d199d3503293cd5f40db7f9cb6a", func := "signalbroker/signalbrokerlaw22.DriveReaches", spec := "driveReaches", unfollowed := true, recurses := true, apart := false, narrowed := true }
def DriveReachesUptoSaid : Prop := driveReachesUptoRow.holds Try.pinned (OpenSpec.upto driveReachesSpec)

/-- 'signalbrokerlaw22.DriveSafe', WHERE WHAT IT READS IS OF BULK AT MOST 1048576: true; the input reads as it did. -/
def driveSafeUptoRow : OpenClaim := { program := "ytkliodbbcblobaa", sum := "dd3f92d0a00ddfc491a5c90c68262ba2e6756d199d3503293cd5f40db7f9cb6a", func := "signalbroker/signalbrokerlaw22.DriveSafe", spec := "driveSafe", unfollowed := true, recurses := true, apart := false, narrowed := true }
def DriveSafeUptoSaid : Prop := driveSafeUptoRow.holds Try.pinned (OpenSpec.upto driveSafeSpec)

/-- 'signalbrokerlaw22.DriveServes', WHERE WHAT IT READS IS OF BULK AT MOST 1048576: true; the input reads as it did. -/
def driveServesUptoRow : OpenClaim := { program := "ytkliodbbcblobaa", sum := "dd3f92d0a00ddfc491a5c90c68262ba2e6756d199d3503293cd5f40db7f9cb6a", func := "signalbroker/signalbrokerlaw22.DriveServes", spec := "driveServes", unfollowed := true, recurses := true, apart := false, narrowed := true }
def DriveServesUptoSaid : Prop := driveServesUptoRow.holds Try.pinned (OpenSpec.upto driveServesSpec)

end Rows
end Go.Proofs.Ytkliodbbcblobaa
