/-
  No cell of these rows narrows 'for every input' (looked for: loops, veiled, ifaces, maps, wideKeys, modest, calm, conditions, laid).
  DERIVED. THE GIVEN ROWS OF THIS SEAT. 6 by the template 'for every input the law returns true; each argument reads behind the call as it read before'; 0 by the template 'total and deterministic' (their statements: YtaikgchmpieooaaGreatTotals.lean).
  GIVEN WITH THE SEED: the statements are not yours to turn. If you find one false, say at which input.
  Laid BY PROGRAM, IN A SANDBOX (cutbox-rows.mjs): the forced cells as the released guide's own fill.sh prints them over the translation 454aeaa5c62640cc… (all of the seat's roots in one cut). By AI agents, Wed Nov 11 2026. No macro, syntax, notation, axiom, sorry.
-/
import Derived.Test.YtaikgchmpieooaaGreatChecked
import GoSem.Claim
import GoSem.ClaimJoined
import GoSem.ClaimMapViews
import Derived.JoinedTies
import Derived.KernelRfl
namespace Go.Proofs.YtaikgchmpieooaaGreat
/- THE CELL 'sum', in the pinned program and in every row, IS THE sha256 OF THE DUMP (.gsa) THAT YtaikgchmpieooaaGreatProg.lean LOADS. Nothing in Lean hashes anything: it is a label: what it is worth is what the hold of that sum in a sandbox is worth. -/
noncomputable def Tryz.pinned : Pinned := { name := "ytaikgchmpieooaagreat", sum := "454aeaa5c62640cc20826070b8f427bf0b0b892a9943939cb07e7f56598c09cd", checked := Tryz.checked }
namespace Rows
def none {H : Type} : Left H := { results := [], args := [] }

/-- 'signalbrokerlaw26.DeskHandles': WHATEVER THE INPUT: true; the input reads as it did. -/
def deskHandlesSpec : ChangeSpec := { name := "deskHandles", fn := fun _ => fun
  | [d1, d2, d3, d4] => { results := [.lit (.bool true)], args := [d1, d2, d3, d4] }
  | _ => none }
def deskHandlesRow : OpenClaim := { program := "ytaikgchmpieooaagreat", sum := "454aeaa5c62640cc20826070b8f427bf0b0b892a9943939cb07e7f56598c09cd", func := "signalbroker/signalbrokerlaw26.DeskHandles", spec := "deskHandles", inPlace := ["slices.overlaps[signalbroker/api.Request]"], unfollowed := true, recurses := true, apart := false }
def DeskHandlesSaid : Prop := deskHandlesRow.holds Tryz.pinned (OpenSpec.ofChange deskHandlesSpec)

/-- ITS FALSE NEIGHBOUR: 'it returns false'. Refute it at one input. -/
def deskHandlesWrong : ChangeSpec := { name := "deskHandles", fn := fun _ => fun
  | [d1, d2, d3, d4] => { results := [.lit (.bool false)], args := [d1, d2, d3, d4] }
  | _ => none }
def DeskHandlesWrongFalsely : Prop := deskHandlesRow.holds Tryz.pinned (OpenSpec.ofChange deskHandlesWrong)

/-- 'signalbrokerlaw26.DeskRefuses': WHATEVER THE INPUT: true; the input reads as it did. -/
def deskRefusesSpec : ChangeSpec := { name := "deskRefuses", fn := fun _ => fun
  | [d1, d2] => { results := [.lit (.bool true)], args := [d1, d2] }
  | _ => none }
def deskRefusesRow : OpenClaim := { program := "ytaikgchmpieooaagreat", sum := "454aeaa5c62640cc20826070b8f427bf0b0b892a9943939cb07e7f56598c09cd", func := "signalbroker/signalbrokerlaw26.DeskRefuses", spec := "deskRefuses", inPlace := ["slices.overlaps[signalbroker/api.Request]"], unfollowed := true, recurses := true, apart := false }
def DeskRefusesSaid : Prop := deskRefusesRow.holds Tryz.pinned (OpenSpec.ofChange deskRefusesSpec)

/-- ITS FALSE NEIGHBOUR: 'it returns false'. Refute it at one input. -/
def deskRefusesWrong : ChangeSpec := { name := "deskRefuses", fn := fun _ => fun
  | [d1, d2] => { results := [.lit (.bool false)], args := [d1, d2] }
  | _ => none }
def DeskRefusesWrongFalsely : Prop := deskRefusesRow.holds Tryz.pinned (OpenSpec.ofChange deskRefusesWrong)

/-- 'signalbrokerlaw26.DeskAuthority': WHATEVER THE INPUT: true; the input reads as it did. -/
def deskAuthoritySpec : ChangeSpec := { name := "deskAuthority", fn := fun _ => fun
  | [d1, d2] => { results := [.lit (.bool true)], args := [d1, d2] }
  | _ => none }
def deskAuthorityRow : OpenClaim := { program := "ytaikgchmpieooaagreat", sum := "454aeaa5c62640cc20826070b8f427bf0b0b892a9943939cb07e7f56598c09cd", func := "signalbroker/signalbrokerlaw26.DeskAuthority", spec := "deskAuthority", inPlace := ["slices.overlaps[signalbroker/api.Request]"], unfollowed := true, recurses := true, apart := false }
def DeskAuthoritySaid : Prop := deskAuthorityRow.holds Tryz.pinned (OpenSpec.ofChange deskAuthoritySpec)

/-- ITS FALSE NEIGHBOUR: 'it returns false'. Refute it at one input. -/
def deskAuthorityWrong : ChangeSpec := { name := "deskAuthority", fn := fun _ => fun
  | [d1, d2] => { results := [.lit (.bool false)], args := [d1, d2] }
  | _ => none }
def DeskAuthorityWrongFalsely : Prop := deskAuthorityRow.holds Tryz.pinned (OpenSpec.ofChange deskAuthorityWrong)

/-- 'signalbrokerlaw26.DeskLeft': WHATEVER THE INPUT: true; the input reads as it did. -/
def deskLeftSpec : ChangeSpec := { name := "deskLeft", fn := fun _ => fun
  | [d1, d2] => { results := [.lit (.bool true)], args := [d1, d2] }
  | _ => none }
def deskLeftRow : OpenClaim := { program := "ytaikgchmpieooaagreat", sum := "454aeaa5c62640cc20826070b8f427bf0b0b892a9943939cb07e7f56598c09cd", func := "signalbroker/signalbrokerlaw26.DeskLeft", spec := "deskLeft", inPlace := ["slices.overlaps[signalbroker/api.Request]"], unfollowed := true, recurses := true, apart := false }
def DeskLeftSaid : Prop := deskLeftRow.holds Tryz.pinned (OpenSpec.ofChange deskLeftSpec)

/-- ITS FALSE NEIGHBOUR: 'it returns false'. Refute it at one input. -/
def deskLeftWrong : ChangeSpec := { name := "deskLeft", fn := fun _ => fun
  | [d1, d2] => { results := [.lit (.bool false)], args := [d1, d2] }
  | _ => none }
def DeskLeftWrongFalsely : Prop := deskLeftRow.holds Tryz.pinned (OpenSpec.ofChange deskLeftWrong)

/-- 'signalbrokerlaw26.DeskSubmits': WHATEVER THE INPUT: true; the input reads as it did. -/
def deskSubmitsSpec : ChangeSpec := { name := "deskSubmits", fn := fun _ => fun
  | [d1, d2, d3, d4] => { results := [.lit (.bool true)], args := [d1, d2, d3, d4] }
  | _ => none }
def deskSubmitsRow : OpenClaim := { program := "ytaikgchmpieooaagreat", sum := "454aeaa5c62640cc20826070b8f427bf0b0b892a9943939cb07e7f56598c09cd", func := "signalbroker/signalbrokerlaw26.DeskSubmits", spec := "deskSubmits", inPlace := ["slices.overlaps[signalbroker/api.Request]"], unfollowed := true, recurses := true, apart := false }
def DeskSubmitsSaid : Prop := deskSubmitsRow.holds Tryz.pinned (OpenSpec.ofChange deskSubmitsSpec)

/-- ITS FALSE NEIGHBOUR: 'it returns false'. Refute it at one input. -/
def deskSubmitsWrong : ChangeSpec := { name := "deskSubmits", fn := fun _ => fun
  | [d1, d2, d3, d4] => { results := [.lit (.bool false)], args := [d1, d2, d3, d4] }
  | _ => none }
def DeskSubmitsWrongFalsely : Prop := deskSubmitsRow.holds Tryz.pinned (OpenSpec.ofChange deskSubmitsWrong)

/-- 'signalbrokerlaw26.DeskTicks': WHATEVER THE INPUT: true; the input reads as it did. -/
def deskTicksSpec : ChangeSpec := { name := "deskTicks", fn := fun _ => fun
  | [d1, d2, d3] => { results := [.lit (.bool true)], args := [d1, d2, d3] }
  | _ => none }
def deskTicksRow : OpenClaim := { program := "ytaikgchmpieooaagreat", sum := "454aeaa5c62640cc20826070b8f427bf0b0b892a9943939cb07e7f56598c09cd", func := "signalbroker/signalbrokerlaw26.DeskTicks", spec := "deskTicks", inPlace := ["slices.overlaps[signalbroker/api.Request]"], unfollowed := true, recurses := true, apart := false }
def DeskTicksSaid : Prop := deskTicksRow.holds Tryz.pinned (OpenSpec.ofChange deskTicksSpec)

/-- ITS FALSE NEIGHBOUR: 'it returns false'. Refute it at one input. -/
def deskTicksWrong : ChangeSpec := { name := "deskTicks", fn := fun _ => fun
  | [d1, d2, d3] => { results := [.lit (.bool false)], args := [d1, d2, d3] }
  | _ => none }
def DeskTicksWrongFalsely : Prop := deskTicksRow.holds Tryz.pinned (OpenSpec.ofChange deskTicksWrong)

/- THE SECOND FORM. 'bulk': how many values and letters a reading holds, each counted each time it is reached (what is shared counts as often as it is met; a slice's spare places count too). A statement '..UptoSaid' is the law's where the arguments, and the package variables that the reading takes, are together of bulk at most 1048576: NARROWER than '..Said'. Prove '..Said' where nothing that the law and all that it calls make is longer than what came in: it says more and counts as full. Else prove '..UptoSaid'. A law counts once. -/
mutual
def uptoBulk {H : Type} : DataW H → Nat
  | .lit (.string bytes) => bytes.length + 1
  | .lit _ => 1
  | .nil => 1
  | .ptr d => uptoBulk d + 1
  | .slice elems spare => uptoBulkAll elems + uptoBulkAll spare + 1
  | .agg parts => uptoBulkAll parts + 1
  | .iface _ d => uptoBulk d + 1
  | .map entries => uptoBulkEntries entries + 1
  | .held _ => 1
def uptoBulkAll {H : Type} : List (DataW H) → Nat
  | [] => 0
  | d :: r => uptoBulk d + uptoBulkAll r
def uptoBulkEntries {H : Type} : List (Lit × DataW H) → Nat
  | [] => 0
  | x :: r => uptoBulkEntry x + uptoBulkEntries r
def uptoBulkEntry {H : Type} : Lit × DataW H → Nat
  | (.string bytes, d) => bytes.length + uptoBulk d + 1
  | (_, d) => uptoBulk d + 1
 end
def uptoSmall : (H : Type) → List (DataW H) → Bool := fun _ ds => decide (uptoBulkAll ds ≤ 1048576)
def OpenSpec.upto (s : _root_.Go.ChangeSpec) : _root_.Go.OpenSpec := { _root_.Go.OpenSpec.ofChange s with cond := some uptoSmall }

/-- 'signalbrokerlaw26.DeskHandles', WHERE WHAT IT READS IS OF BULK AT MOST 1048576: true; the input reads as it did. -/
def deskHandlesUptoRow : OpenClaim := { program := "ytaikgchmpieooaagreat", sum := "454aeaa5c62640cc20826070b8f427bf0b0b892a9943939cb07e7f56598c09cd", func := "signalbroker/signalbrokerlaw26.DeskHandles", spec := "deskHandles", inPlace := ["slices.overlaps[signalbroker/api.Request]"], unfollowed := true, recurses := true, apart := false, narrowed := true }
def DeskHandlesUptoSaid : Prop := deskHandlesUptoRow.holds Tryz.pinned (OpenSpec.upto deskHandlesSpec)

/-- 'signalbrokerlaw26.DeskRefuses', WHERE WHAT IT READS IS OF BULK AT MOST 1048576: true; the input reads as it did. -/
def deskRefusesUptoRow : OpenClaim := { program := "ytaikgchmpieooaagreat", sum := "454aeaa5c62640cc20826070b8f427bf0b0b892a9943939cb07e7f56598c09cd", func := "signalbroker/signalbrokerlaw26.DeskRefuses", spec := "deskRefuses", inPlace := ["slices.overlaps[signalbroker/api.Request]"], unfollowed := true, recurses := true, apart := false, narrowed := true }
def DeskRefusesUptoSaid : Prop := deskRefusesUptoRow.holds Tryz.pinned (OpenSpec.upto deskRefusesSpec)

/-- 'signalbrokerlaw26.DeskAuthority', WHERE WHAT IT READS IS OF BULK AT MOST 1048576: true; the input reads as it did. -/
def deskAuthorityUptoRow : OpenClaim := { program := "ytaikgchmpieooaagreat", sum := "454aeaa5c62640cc20826070b8f427bf0b0b892a9943939cb07e7f56598c09cd", func := "signalbroker/signalbrokerlaw26.DeskAuthority", spec := "deskAuthority", inPlace := ["slices.overlaps[signalbroker/api.Request]"], unfollowed := true, recurses := true, apart := false, narrowed := true }
def DeskAuthorityUptoSaid : Prop := deskAuthorityUptoRow.holds Tryz.pinned (OpenSpec.upto deskAuthoritySpec)

/-- 'signalbrokerlaw26.DeskLeft', WHERE WHAT IT READS IS OF BULK AT MOST 1048576: true; the input reads as it did. -/
def deskLeftUptoRow : OpenClaim := { program := "ytaikgchmpieooaagreat", sum := "454aeaa5c62640cc20826070b8f427bf0b0b892a9943939cb07e7f56598c09cd", func := "signalbroker/signalbrokerlaw26.DeskLeft", spec := "deskLeft", inPlace := ["slices.overlaps[signalbroker/api.Request]"], unfollowed := true, recurses := true, apart := false, narrowed := true }
def DeskLeftUptoSaid : Prop := deskLeftUptoRow.holds Tryz.pinned (OpenSpec.upto deskLeftSpec)

/-- 'signalbrokerlaw26.DeskSubmits', WHERE WHAT IT READS IS OF BULK AT MOST 1048576: true; the input reads as it did. -/
def deskSubmitsUptoRow : OpenClaim := { program := "ytaikgchmpieooaagreat", sum := "454aeaa5c62640cc20826070b8f427bf0b0b892a9943939cb07e7f56598c09cd", func := "signalbroker/signalbrokerlaw26.DeskSubmits", spec := "deskSubmits", inPlace := ["slices.overlaps[signalbroker/api.Request]"], unfollowed := true, recurses := true, apart := false, narrowed := true }
def DeskSubmitsUptoSaid : Prop := deskSubmitsUptoRow.holds Tryz.pinned (OpenSpec.upto deskSubmitsSpec)

/-- 'signalbrokerlaw26.DeskTicks', WHERE WHAT IT READS IS OF BULK AT MOST 1048576: true; the input reads as it did. -/
def deskTicksUptoRow : OpenClaim := { program := "ytaikgchmpieooaagreat", sum := "454aeaa5c62640cc20826070b8f427bf0b0b892a9943939cb07e7f56598c09cd", func := "signalbroker/signalbrokerlaw26.DeskTicks", spec := "deskTicks", inPlace := ["slices.overlaps[signalbroker/api.Request]"], unfollowed := true, recurses := true, apart := false, narrowed := true }
def DeskTicksUptoSaid : Prop := deskTicksUptoRow.holds Tryz.pinned (OpenSpec.upto deskTicksSpec)

end Rows
end Go.Proofs.YtaikgchmpieooaaGreat
