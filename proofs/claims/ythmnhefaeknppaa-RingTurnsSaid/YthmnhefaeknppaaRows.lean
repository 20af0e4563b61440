/-
  No cell of these rows narrows 'for every input' (looked for: loops, veiled, ifaces, maps, wideKeys, modest, calm, conditions, laid).
  DERIVED. THE GIVEN ROWS OF THIS SEAT. 8 by the template 'for every input the law returns true; each argument reads behind the call as it read before'; 0 by the template 'total and deterministic' (their statements: YthmnhefaeknppaaTotals.lean).
  GIVEN WITH THE SEED: the statements are not yours to turn. If you find one false, say at which input.
  Laid BY PROGRAM, IN A SANDBOX (cutbox-rows.mjs): the forced cells as the released guide's own fill.sh prints them over the translation fd3ff7bada68080c… (all of the seat's roots in one cut). By AI agents, Wed Nov 11 2026. No macro, syntax, notation, axiom, sorry.
-/
import Derived.Test.YthmnhefaeknppaaChecked
import GoSem.Claim
import GoSem.ClaimJoined
import GoSem.ClaimMapViews
import Derived.JoinedTies
import Derived.KernelRfl
namespace Go.Proofs.Ythmnhefaeknppaa
/- THE CELL 'sum', in the pinned program and in every row, IS THE sha256 OF THE DUMP (.gsa) THAT YthmnhefaeknppaaProg.lean LOADS. Nothing in Lean hashes anything: it is a label: what it is worth is what the hold of that sum in a sandbox is worth. -/
noncomputable def Try.pinned : Pinned := { name := "ythmnhefaeknppaa", sum := "fd3ff7bada68080c73fabf26a86a8d7e442f7518399ef42797db027f277f3d53", checked := Try.checked }
namespace Rows
def none {H : Type} : Left H := { results := [], args := [] }

/-- 'signalbrokerlaw09.RingValid': WHATEVER THE INPUT: true; the input reads as it did. -/
def ringValidSpec : ChangeSpec := { name := "ringValid", fn := fun _ => fun
  | [d1, d2, d3, d4, d5] => { results := [.lit (.bool true)], args := [d1, d2, d3, d4, d5] }
  | _ => none }
def ringValidRow : OpenClaim := { program := "ythmnhefaeknppaa", sum := "fd3ff7bada68080c73fabf26a86a8d7e442f7518399ef42797db027f277f3d53", func := "signalbroker/signalbrokerlaw09.RingValid", spec := "ringValid", unfollowed := true, recurses := true, apart := false }
def RingValidSaid : Prop := ringValidRow.holds Try.pinned (OpenSpec.ofChange ringValidSpec)

/-- ITS FALSE NEIGHBOUR: 'it returns false'. Refute it at one input. -/
def ringValidWrong : ChangeSpec := { name := "ringValid", fn := fun _ => fun
  | [d1, d2, d3, d4, d5] => { results := [.lit (.bool false)], args := [d1, d2, d3, d4, d5] }
  | _ => none }
def RingValidWrongFalsely : Prop := ringValidRow.holds Try.pinned (OpenSpec.ofChange ringValidWrong)

/-- 'signalbrokerlaw09.RingSteps': WHATEVER THE INPUT: true; the input reads as it did. -/
def ringStepsSpec : ChangeSpec := { name := "ringSteps", fn := fun _ => fun
  | [d1, d2, d3] => { results := [.lit (.bool true)], args := [d1, d2, d3] }
  | _ => none }
def ringStepsRow : OpenClaim := { program := "ythmnhefaeknppaa", sum := "fd3ff7bada68080c73fabf26a86a8d7e442f7518399ef42797db027f277f3d53", func := "signalbroker/signalbrokerlaw09.RingSteps", spec := "ringSteps", unfollowed := true, recurses := true, apart := false }
def RingStepsSaid : Prop := ringStepsRow.holds Try.pinned (OpenSpec.ofChange ringStepsSpec)

/-- ITS FALSE NEIGHBOUR: 'it returns false'. Refute it at one input. -/
def ringStepsWrong : ChangeSpec := { name := "ringSteps", fn := fun _ => fun
  | [d1, d2, d3] => { results := [.lit (.bool false)], args := [d1, d2, d3] }
  | _ => none }
def RingStepsWrongFalsely : Prop := ringStepsRow.holds Try.pinned (OpenSpec.ofChange ringStepsWrong)

/-- 'signalbrokerlaw09.RingLocks': WHATEVER THE INPUT: true; the input reads as it did. -/
def ringLocksSpec : ChangeSpec := { name := "ringLocks", fn := fun _ => fun
  | [d1, d2] => { results := [.lit (.bool true)], args := [d1, d2] }
  | _ => none }
def ringLocksRow : OpenClaim := { program := "ythmnhefaeknppaa", sum := "fd3ff7bada68080c73fabf26a86a8d7e442f7518399ef42797db027f277f3d53", func := "signalbroker/signalbrokerlaw09.RingLocks", spec := "ringLocks", unfollowed := true, recurses := true, apart := false }
def RingLocksSaid : Prop := ringLocksRow.holds Try.pinned (OpenSpec.ofChange ringLocksSpec)

/-- ITS FALSE NEIGHBOUR: 'it returns false'. Refute it at one input. -/
def ringLocksWrong : ChangeSpec := { name := "ringLocks", fn := fun _ => fun
  | [d1, d2] => { results := [.lit (.bool false)], args := [d1, d2] }
  | _ => none }
def RingLocksWrongFalsely : Prop := ringLocksRow.holds Try.pinned (OpenSpec.ofChange ringLocksWrong)

/-- 'signalbrokerlaw09.RingGreens': WHATEVER THE INPUT: true; the input reads as it did. -/
def ringGreensSpec : ChangeSpec := { name := "ringGreens", fn := fun _ => fun
  | [d1, d2] => { results := [.lit (.bool true)], args := [d1, d2] }
  | _ => none }
def ringGreensRow : OpenClaim := { program := "ythmnhefaeknppaa", sum := "fd3ff7bada68080c73fabf26a86a8d7e442f7518399ef42797db027f277f3d53", func := "signalbroker/signalbrokerlaw09.RingGreens", spec := "ringGreens", unfollowed := true, recurses := true, apart := false }
def RingGreensSaid : Prop := ringGreensRow.holds Try.pinned (OpenSpec.ofChange ringGreensSpec)

/-- ITS FALSE NEIGHBOUR: 'it returns false'. Refute it at one input. -/
def ringGreensWrong : ChangeSpec := { name := "ringGreens", fn := fun _ => fun
  | [d1, d2] => { results := [.lit (.bool false)], args := [d1, d2] }
  | _ => none }
def RingGreensWrongFalsely : Prop := ringGreensRow.holds Try.pinned (OpenSpec.ofChange ringGreensWrong)

/-- 'signalbrokerlaw09.RingHolds': WHATEVER THE INPUT: true; the input reads as it did. -/
def ringHoldsSpec : ChangeSpec := { name := "ringHolds", fn := fun _ => fun
  | [d1, d2, d3, d4] => { results := [.lit (.bool true)], args := [d1, d2, d3, d4] }
  | _ => none }
def ringHoldsRow : OpenClaim := { program := "ythmnhefaeknppaa", sum := "fd3ff7bada68080c73fabf26a86a8d7e442f7518399ef42797db027f277f3d53", func := "signalbroker/signalbrokerlaw09.RingHolds", spec := "ringHolds", unfollowed := true, recurses := true, apart := false }
def RingHoldsSaid : Prop := ringHoldsRow.holds Try.pinned (OpenSpec.ofChange ringHoldsSpec)

/-- ITS FALSE NEIGHBOUR: 'it returns false'. Refute it at one input. -/
def ringHoldsWrong : ChangeSpec := { name := "ringHolds", fn := fun _ => fun
  | [d1, d2, d3, d4] => { results := [.lit (.bool false)], args := [d1, d2, d3, d4] }
  | _ => none }
def RingHoldsWrongFalsely : Prop := ringHoldsRow.holds Try.pinned (OpenSpec.ofChange ringHoldsWrong)

/-- 'signalbrokerlaw09.RingTurns': WHATEVER THE INPUT: true; the input reads as it did. -/
def ringTurnsSpec : ChangeSpec := { name := "ringTurns", fn := fun _ => fun
  | [d1, d2] => { results := [.lit (.bool true)], args := [d1, d2] }
  | _ => none }
def ringTurnsRow : OpenClaim := { program := "ythmnhefaeknppaa", sum := "fd3ff7bada68080c73fabf26a86a8d7e442f7518399ef42797db027f277f3d53", func := "signalbroker/signalbrokerlaw09.RingTurns", spec := "ringTurns", unfollowed := true, recurses := true, apart := false }
def RingTurnsSaid : Prop := ringTurnsRow.holds Try.pinned (OpenSpec.ofChange ringTurnsSpec)

/-- ITS FALSE NEIGHBOUR: 'it returns false'. Refute it at one input. -/
def ringTurnsWrong : ChangeSpec := { name := "ringTurns", fn := fun _ => fun
  | [d1, d2] => { results := [.lit (.bool false)], args := [d1, d2] }
  | _ => none }
def RingTurnsWrongFalsely : Prop := ringTurnsRow.holds Try.pinned (OpenSpec.ofChange ringTurnsWrong)

/-- 'signalbrokerlaw09.RingBarrier': WHATEVER THE INPUT: true; the input reads as it did. -/
def ringBarrierSpec : ChangeSpec := { name := "ringBarrier", fn := fun _ => fun
  | [d1, d2] => { results := [.lit (.bool true)], args := [d1, d2] }
  | _ => none }
def ringBarrierRow : OpenClaim := { program := "ythmnhefaeknppaa", sum := "fd3ff7bada68080c73fabf26a86a8d7e442f7518399ef42797db027f277f3d53", func := "signalbroker/signalbrokerlaw09.RingBarrier", spec := "ringBarrier", unfollowed := true, recurses := true, apart := false }
def RingBarrierSaid : Prop := ringBarrierRow.holds Try.pinned (OpenSpec.ofChange ringBarrierSpec)

/-- ITS FALSE NEIGHBOUR: 'it returns false'. Refute it at one input. -/
def ringBarrierWrong : ChangeSpec := { name := "ringBarrier", fn := fun _ => fun
  | [d1, d2] => { results := [.lit (.bool false)], args := [d1, d2] }
  | _ => none }
def RingBarrierWrongFalsely : Prop := ringBarrierRow.holds Try.pinned (OpenSpec.ofChange ringBarrierWrong)

/-- 'signalbrokerlaw09.RingOrder': WHATEVER THE INPUT: true; the input reads as it did. -/
def ringOrderSpec : ChangeSpec := { name := "ringOrder", fn := fun _ => fun
  | [d1, d2] => { results := [.lit (.bool true)], args := [d1, d2] }
  | _ => none }
def ringOrderRow : OpenClaim := { program := "ythmnhefaeknppaa", sum := "fd3ff7bada68080c73fabf26a86a8d7e442f7518399ef42797db027f277f3d53", func := "signalbroker/signalbrokerlaw09.RingOrder", spec := "ringOrder", unfollowed := true, recurses := true, apart := false }
def RingOrderSaid : Prop := ringOrderRow.holds Try.pinned (OpenSpec.ofChange ringOrderSpec)

/-- ITS FALSE NEIGHBOUR: 'it returns false'. Refute it at one input. -/
def ringOrderWrong : ChangeSpec := { name := "ringOrder", fn := fun _ => fun
  | [d1, d2] => { results := [.lit (.bool false)], args := [d1, d2] }
  | _ => none }
def RingOrderWrongFalsely : Prop := ringOrderRow.holds Try.pinned (OpenSpec.ofChange ringOrderWrong)

/- THE SECOND FORM. 'bulk': how many values and letters a reading holds, each counted each time it is reached (what is shared counts as often as it is met; a slice's spare places count too). A statement '..UptoSaid' is the law's where the arguments, and the package variables that the reading takes, are together of bulk at most 1048576: NARROWER than '..Said'. Prove '..Said' where nothing that the law and all that it calls make is longer than what came in: it says more and counts as full. Else prove '..UptoSaid'. A law counts once. -/
mutual
def uptoBulk {H : Type} : DataW H → Nat
  | .lit (.string bytes) => bytes.length + 1
  | .lit _ => 1
  | .nil => 1
  | .ptr d => uptoBulk d + 1
  | .slice elems spare => uptoBulkAll elems + uptoBulkAll spare + 1
  | .agg parts => uptoBulkAll parts + 1
  | .iface _ d => uptoBulk d + 1
  | .map entries => uptoBulkEntries entries + 1
  | .held _ => 1
def uptoBulkAll {H : Type} : List (DataW H) → Nat
  | [] => 0
  | d :: r => uptoBulk d + uptoBulkAll r
def uptoBulkEntries {H : Type} : List (Lit × DataW H) → Nat
  | [] => 0
  | x :: r => uptoBulkEntry x + uptoBulkEntries r
def uptoBulkEntry {H : Type} : Lit × DataW H → Nat
  | (.string bytes, d) => bytes.length + uptoBulk d + 1
  | (_, d) => uptoBulk d + 1
 end
def uptoSmall : (H : Type) → List (DataW H) → Bool := fun _ ds => decide (uptoBulkAll ds ≤ 1048576)
def OpenSpec.upto (s : _root_.Go.ChangeSpec) : _root_.Go.OpenSpec := { _root_.Go.OpenSpec.ofChange s with cond := some uptoSmall }

/-- 'signalbrokerlaw09.RingValid', WHERE WHAT IT READS IS OF BULK AT MOST 1048576: true; the input reads as it did. -/
def ringValidUptoRow : OpenClaim := { program := "ythmnhefaeknppaa", sum := "fd3ff7bada68080c73fabf26a86a8d7e442f7518399ef42797db027f277f3d53", func := "signalbroker/signalbrokerlaw09.RingValid", spec := "ringValid", unfollowed := true, recurses := true, apart := false, narrowed := true }
def RingValidUptoSaid : Prop := ringValidUptoRow.holds Try.pinned (OpenSpec.upto ringValidSpec)

/-- 'signalbrokerlaw09.RingSteps', WHERE WHAT IT READS IS OF BULK AT MOST 1048576: true; the input reads as it did. -/
def ringStepsUptoRow : OpenClaim := { program := "ythmnhefaeknppaa", sum := "fd3ff7bada68080c73fabf26a86a8d7e442f7518399ef42797db027f277f3d53", func := "signalbroker/signalbrokerlaw09.RingSteps", spec := "ringSteps", unfollowed := true, recurses := true, apart := false, narrowed := true }
def RingStepsUptoSaid : Prop := ringStepsUptoRow.holds Try.pinned (OpenSpec.upto ringStepsSpec)

/-- 'signalbrokerlaw09.RingLocks', WHERE WHAT IT READS IS OF BULK AT MOST 1048576: true; the input reads as it did. -/
def ringLocksUptoRow : OpenClaim := { program := "ythmnhefaeknppaa", sum := "fd3ff7bada68080c73fabf26a86a8d7e442f7518399ef42797db027f277f3d53", func := "signalbroker/signalbrokerlaw09.RingLocks", spec := "ringLocks", unfollowed := true, recurses := true, apart := false, narrowed := true }
def RingLocksUptoSaid : Prop := ringLocksUptoRow.holds Try.pinned (OpenSpec.upto ringLocksSpec)

/-- 'signalbrokerlaw09.RingGreens', WHERE WHAT IT READS IS OF BULK AT MOST 1048576: true; the input reads as it did. -/
def ringGreensUptoRow : OpenClaim := { program := "ythmnhefaeknppaa", sum := "fd3ff7bada68080c73fabf26a86a8d7e442f7518399ef42797db027f277f3d53", func := "signalbroker/signalbrokerlaw09.RingGreens", spec := "ringGreens", unfollowed := true, recurses := true, apart := false, narrowed := true }
def RingGreensUptoSaid : Prop := ringGreensUptoRow.holds Try.pinned (OpenSpec.upto ringGreensSpec)

/-- 'signalbrokerlaw09.RingHolds', WHERE WHAT IT READS IS OF BULK AT MOST 1048576: true; the input reads as it did. -/
def ringHoldsUptoRow : OpenClaim := { program := "ythmnhefaeknppaa", sum := "fd3ff7bada68080c73fabf26a86a8d7e442f7518399ef42797db027f277f3d53", func := "signalbroker/signalbrokerlaw09.RingHolds", spec := "ringHolds", unfollowed := true, recurses := true, apart := false, narrowed := true }
def RingHoldsUptoSaid : Prop := ringHoldsUptoRow.holds Try.pinned (OpenSpec.upto ringHoldsSpec)

/-- 'signalbrokerlaw09.RingTurns', WHERE WHAT IT READS IS OF BULK AT MOST 1048576: true; the input reads as it did. -/
def ringTurnsUptoRow : OpenClaim := { program := "ythmnhefaeknppaa", sum := "fd3ff7bada68080c73fabf26a86a8d7e442f7518399ef42797db027f277f3d53", func := "signalbroker/signalbrokerlaw09.RingTurns", spec := "ringTurns", unfollowed := true, recurses := true, apart := false, narrowed := true }
def RingTurnsUptoSaid : Prop := ringTurnsUptoRow.holds Try.pinned (OpenSpec.upto ringTurnsSpec)

/-- 'signalbrokerlaw09.RingBarrier', WHERE WHAT IT READS IS OF BULK AT MOST 1048576: true; the input reads as it did. -/
def ringBarrierUptoRow : OpenClaim := { program := "ythmnhefaeknppaa", sum := "fd3ff7bada68080c73fabf26a86a8d7e442f7518399ef42797db027f277f3d53", func := "signalbroker/signalbrokerlaw09.RingBarrier", spec := "ringBarrier", unfollowed := true, recurses := true, apart := false, narrowed := true }
def RingBarrierUptoSaid : Prop := ringBarrierUptoRow.holds Try.pinned (OpenSpec.upto ringBarrierSpec)

/-- 'signalbrokerlaw09.RingOrder', WHERE WHAT IT READS IS OF BULK AT MOST 1048576: true; the input reads as it did. -/
def ringOrderUptoRow : OpenClaim := { program := "ythmnhefaeknppaa", sum := "fd3ff7bada68080c73fabf26a86a8d7e442f7518399ef42797db027f277f3d53", func := "signalbroker/signalbrokerlaw09.RingOrder", spec := "ringOrder", unfollowed := true, recurses := true, apart := false, narrowed := true }
def RingOrderUptoSaid : Prop := ringOrderUptoRow.holds Try.pinned (OpenSpec.upto ringOrderSpec)

end Rows
end Go.Proofs.Ythmnhefaeknppaa
