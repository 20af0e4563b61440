/-
  No cell of these rows narrows 'for every input' (looked for: loops, veiled, ifaces, maps, wideKeys, modest, calm, conditions, laid).
  DERIVED. THE GIVEN ROWS OF THIS SEAT. 2 by the template 'for every input the law returns true; each argument reads behind the call as it read before'; 0 by the template 'total and deterministic' (their statements: YtdjfiebpnmieoaaGreatTotals.lean).
  GIVEN WITH THE SEED: the statements are not yours to turn. If you find one false, say at which input.
  Laid BY PROGRAM, IN A SANDBOX (cutbox-rows.mjs): the forced cells as the released guide's own fill.sh prints them over the translation 2f16a5f0d3fddbe1… (all of the seat's roots in one cut). By AI agents, Wed Nov 11 2026. No macro, syntax, notation, axiom, sorry.
-/
import Derived.Test.YtdjfiebpnmieoaaGreatChecked
import GoSem.Claim
import GoSem.ClaimJoined
import GoSem.ClaimMapViews
import Derived.JoinedTies
import Derived.KernelRfl
namespace Go.Proofs.YtdjfiebpnmieoaaGreat
/- THE CELL 'sum', in the pinned program and in every row, IS THE sha256 OF THE DUMP (.gsa) THAT YtdjfiebpnmieoaaGreatProg.lean LOADS. Nothing in Lean hashes anything: it is a label: what it is worth is what the hold of that sum in a sandbox is worth. -/
noncomputable def Tryz.pinned : Pinned := { name := "ytdjfiebpnmieoaagreat", sum := "2f16a5f0d3fddbe19ba80c389648a6400df4b1e65bd4d2bdb9b840be29ea1a27", checked := Tryz.checked }
namespace Rows
def none {H : Type} : Left H := { results := [], args := [] }

/-- 'signalbrokerlaw27.ModelBegins': WHATEVER THE INPUT: true; the input reads as it did. -/
def modelBeginsSpec : ChangeSpec := { name := "modelBegins", fn := fun _ => fun
  | [d1, d2, d3, d4, d5] => { results := [.lit (.bool true)], args := [d1, d2, d3, d4, d5] }
  | _ => none }
def modelBeginsRow : OpenClaim := { program := "ytdjfiebpnmieoaagreat", sum := "2f16a5f0d3fddbe19ba80c389648a6400df4b1e65bd4d2bdb9b840be29ea1a27", func := "signalbroker/signalbrokerlaw27.ModelBegins", spec := "modelBegins", inPlace := ["slices.overlaps[signalbroker/api.Request]"], unfollowed := true, recurses := true, apart := false }
def ModelBeginsSaid : Prop := modelBeginsRow.holds Tryz.pinned (OpenSpec.ofChange modelBeginsSpec)

/-- ITS FALSE NEIGHBOUR: 'it returns false'. Refute it at one input. -/
def modelBeginsWrong : ChangeSpec := { name := "modelBegins", fn := fun _ => fun
  | [d1, d2, d3, d4, d5] => { results := [.lit (.bool false)], args := [d1, d2, d3, d4, d5] }
  | _ => none }
def ModelBeginsWrongFalsely : Prop := modelBeginsRow.holds Tryz.pinned (OpenSpec.ofChange modelBeginsWrong)

/-- 'signalbrokerlaw28.BrokerLong': WHATEVER THE INPUT: true; the input reads as it did. -/
def brokerLongSpec : ChangeSpec := { name := "brokerLong", fn := fun _ => fun
  | [d1, d2] => { results := [.lit (.bool true)], args := [d1, d2] }
  | _ => none }
def brokerLongRow : OpenClaim := { program := "ytdjfiebpnmieoaagreat", sum := "2f16a5f0d3fddbe19ba80c389648a6400df4b1e65bd4d2bdb9b840be29ea1a27", func := "signalbroker/signalbrokerlaw28.BrokerLong", spec := "brokerLong", inPlace := ["slices.overlaps[signalbroker/api.Request]"], unfollowed := true, recurses := true, apart := false }
def BrokerLongSaid : Prop := brokerLongRow.holds Tryz.pinned (OpenSpec.ofChange brokerLongSpec)

/-- ITS FALSE NEIGHBOUR: 'it returns false'. Refute it at one input. -/
def brokerLongWrong : ChangeSpec := { name := "brokerLong", fn := fun _ => fun
  | [d1, d2] => { results := [.lit (.bool false)], args := [d1, d2] }
  | _ => none }
def BrokerLongWrongFalsely : Prop := brokerLongRow.holds Tryz.pinned (OpenSpec.ofChange brokerLongWrong)

/- THE SECOND FORM. 'bulk': how many values and letters a reading holds, each counted each time it is reached (what is shared counts as often as it is met; a slice's spare places count too). A statement '..UptoSaid' is the law's where the arguments, and the package variables that the reading takes, are together of bulk at most 1048576: NARROWER than '..Said'. Prove '..Said' where nothing that the law and all that it calls make is longer than what came in: it says more and counts as full. Else prove '..UptoSaid'. A law counts once. -/
mutual
def uptoBulk {H : Type} : DataW H → Nat
  | .lit (.string bytes) => bytes.length + 1
  | .lit _ => 1
  | .nil => 1
  | .ptr d => uptoBulk d + 1
  | .slice elems spare => uptoBulkAll elems + uptoBulkAll spare + 1
  | .agg parts => uptoBulkAll parts + 1
  | .iface _ d => uptoBulk d + 1
  | .map entries => uptoBulkEntries entries + 1
  | .held _ => 1
def uptoBulkAll {H : Type} : List (DataW H) → Nat
  | [] => 0
  | d :: r => uptoBulk d + uptoBulkAll r
def uptoBulkEntries {H : Type} : List (Lit × DataW H) → Nat
  | [] => 0
  | x :: r => uptoBulkEntry x + uptoBulkEntries r
def uptoBulkEntry {H : Type} : Lit × DataW H → Nat
  | (.string bytes, d) => bytes.length + uptoBulk d + 1
  | (_, d) => uptoBulk d + 1
 end
def uptoSmall : (H : Type) → List (DataW H) → Bool := fun _ ds => decide (uptoBulkAll ds ≤ 1048576)
def OpenSpec.upto (s : _root_.Go.ChangeSpec) : _root_.Go.OpenSpec := { _root_.Go.OpenSpec.ofChange s with cond := some uptoSmall }

/-- 'signalbrokerlaw27.ModelBegins', WHERE WHAT IT READS IS OF BULK AT MOST 1048576: true; the input reads as it did. -/
def modelBeginsUptoRow : OpenClaim := { program := "ytdjfiebpnmieoaagreat", sum := "2f16a5f0d3fddbe19ba80c389648a6400df4b1e65bd4d2bdb9b840be29ea1a27", func := "signalbroker/signalbrokerlaw27.ModelBegins", spec := "modelBegins", inPlace := ["slices.overlaps[signalbroker/api.Request]"], unfollowed := true, recurses := true, apart := false, narrowed := true }
def ModelBeginsUptoSaid : Prop := modelBeginsUptoRow.holds Tryz.pinned (OpenSpec.upto modelBeginsSpec)

/-- 'signalbrokerlaw28.BrokerLong', WHERE WHAT IT READS IS OF BULK AT MOST 1048576: true; the input reads as it did. -/
def brokerLongUptoRow : OpenClaim := { program := "ytdjfiebpnmieoaagreat", sum := "2f16a5f0d3fddbe19ba80c389648a6400df4b1e65bd4d2bdb9b840be29ea1a27", func := "signalbroker/signalbrokerlaw28.BrokerLong", spec := "brokerLong", inPlace := ["slices.overlaps[signalbroker/api.Request]"], unfollowed := true, recurses := true, apart := false, narrowed := true }
def BrokerLongUptoSaid : Prop := brokerLongUptoRow.holds Tryz.pinned (OpenSpec.upto brokerLongSpec)

end Rows
end Go.Proofs.YtdjfiebpnmieoaaGreat
